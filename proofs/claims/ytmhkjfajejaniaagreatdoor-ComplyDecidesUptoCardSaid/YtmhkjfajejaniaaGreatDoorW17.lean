/- A machine of abstract values for programs of the model, and its soundness, part 6. No condition. -/
import Derived.Test.YtmhkjfajejaniaaGreatDoorW03
import Derived.KernelRfl
import Derived.Test.YtmhkjfajejaniaaGreatDoorProg
set_option linter.all false
namespace Go.V
def onS (o:Option D) (k:D→Prop):Prop:=
 match o with
 |some d=>k d
 |none=>False
def onR (o:VR) (k:D→Heap→Prop):Prop:=
 match o with
 |some (d,h)=>k d h
 |none=>False
def onH (o:Option Heap) (k:Heap→Prop):Prop:=
 match o with
 |some h=>k h
 |none=>False
@[congr] theorem zcN {o o':Option D} {k:D→Prop} (h:o=o'):onS o k=onS o' k:=by rw[h]
@[congr] theorem zcO {o o':VR} {k:D→Heap→Prop} (h:o=o'):onR o k=onR o' k:=by rw[h]
@[congr] theorem zcP {o o':Option Heap} {k:Heap→Prop} (h:o=o'):onH o k=onH o' k:=by rw[h]
@[congr] theorem zYr {P:Program} {f:FuncId} {args args':List D} {h h':Heap} {K:D→Heap→Prop} (ha:args=args') (hh:h=h'):zA P f args h K=zA P f args' h' K:=by rw[ha,hh]
@[congr] theorem zXb {P:Program} {id:Nat} {args args':List D} {h h':Heap} {K:D→Heap→Prop} (ha:args=args') (hh:h=h'):yi P id args h K=yi P id args' h' K:=by rw[ha,hh]
@[congr] theorem zbK {P:Program} {f f':D} {args args':List D} {h h':Heap} {K:D→Heap→Prop} (hf:f=f') (ha:args=args') (hh:h=h'):zGV P f args h K=zGV P f' args' h' K:=by rw[hf,ha,hh]
@[go_sem ↓] theorem zff (d:D) (k:D→Prop):onS (some d) k=k d:=(rfl)
@[go_sem ↓] theorem zGs (d:D) (h:Heap) (k:D→Heap→Prop):onR (some (d,h)) k=k d h:=(rfl)
@[go_sem ↓] theorem zfg (h:Heap) (k:Heap→Prop):onH (some h) k=k h:=(rfl)
section rules
variable {P:Program} {g:Cfg} {n:Nat} {ro:Option Nat} {mu:Tmp→Bool} {ops:Array Oper} {rest:List Oper} {K:Frm→Heap→Prop} {fr:Frm} {h:Heap} {dst:Option Tmp} {ty:TypeId} {pos:String} {after:Array Edge} {gd:Option (Nat×Bool)} {Q:Exit→Frm→Heap→Prop}
 {m:Bool} {nid:Nat} {k:D→Heap→Prop}
@[go_sem ↓] theorem zKi (a b:Code):vwp P g n ro (.seq a b) Q fr h=vwp P g n ro a (zC2 (vwp P g n ro b Q) Q) fr h:=(rfl)
@[go_sem ↓] theorem zbL (id:Nat) (l:List Oper):vwp P g n ro (.region id l.toArray false) Q fr h=zIo P g.mu l.toArray l (Q .normal) fr h:=(rfl)
theorem zPL (id:Nat) (ops:Array Oper):vwp P g n ro (.region id ops true) Q fr h= ∃h0,HLe h0 h∧zDw P g.mu h0 (zVB P g.mu ops (g.dr id) (zGW ops.toList 0 [])) ops ((g.dr id).any (·.2.isSt)) (g.dr id) (Q .normal) fr h:=(rfl)
@[go_sem ↓] theorem zfh:vwp P g n ro .skip Q fr h=Q .normal fr h:=(rfl)
@[go_sem ↓] theorem zgi:vwp P g n ro .ret Q fr h=Q .ret fr h:=(rfl)
@[go_sem ↓] theorem zfi (i:Nat):vwp P g n ro (.exit i) Q fr h=Q (.exit i) fr h:=(rfl)
@[go_sem ↓] theorem zcQ (id:Nat) (c:Code):vwp P g n ro (.block id c) Q fr h=vwp P g n ro c (zEl id Q) fr h:=(rfl)
def onB (d:D) (x y:Prop):Prop:=
 match d with
 | .bool b=>match b with
  |true=>x
  |false=>y
 |_=>False
@[go_sem ↓] theorem zfj (c:Operand) (a b:Code):vwp P g n ro (.cond c a b) Q fr h=onB (zx fr c) (vwp P g n ro a Q fr h) (vwp P g n ro b Q fr h):=by
 simp only[vwp];rfl
@[congr] theorem zcR {d d':D} {x y:Prop} (h:d=d'):onB d x y=onB d' x y:=by rw[h]
@[go_sem ↓] theorem zfk (x y:Prop):onB (.bool true) x y=x:=(rfl)
@[go_sem ↓] theorem zcS (x y:Prop):onB (.bool false) x y=y:=(rfl)
@[go_sem ↓] theorem zXc (Kn:Frm→Heap→Prop):zC2 Kn Q .normal fr h=Kn fr h:=(rfl)
@[go_sem ↓] theorem zcT (Kn:Frm→Heap→Prop):zC2 Kn Q .ret fr h=Q .ret fr h:=(rfl)
@[go_sem ↓] theorem zbM (Kn:Frm→Heap→Prop) (i:Nat):zC2 Kn Q (.exit i) fr h=Q (.exit i) fr h:=(rfl)
@[go_sem ↓] theorem zVd (i:Nat):zEl i Q .normal fr h=Q .normal fr h:=(rfl)
@[go_sem ↓] theorem zbN (i:Nat):zEl i Q .ret fr h=Q .ret fr h:=(rfl)
@[go_sem ↓] theorem zYs (i j:Nat):zEl i Q (.exit j) fr h=if j=i then Q .normal fr h else Q (.exit j) fr h:=(rfl)
@[go_sem ↓] theorem zfl:zIo P mu ops [] K fr h=K fr h:=(rfl)
@[go_sem ↓] theorem zbO (op:Op):zIo P mu ops (⟨dst,op,ty,pos,after,none⟩ ::rest) K fr h=qv P (zGA mu dst) h.next op (zx fr) h fun d h'=>zIo P mu ops rest K (wu fr dst d) h':=(rfl)
def gif (g:Bool) (x y:Prop):Prop:=
 match g with
 |true=>x
 |false=>y
@[congr] theorem zcU {g g':Bool} {x y:Prop} (h:g=g'):gif g x y=gif g' x y:=by rw[h]
@[go_sem ↓] theorem zfm (x y:Prop):gif true x y=x:=(rfl)
@[go_sem ↓] theorem zcV (x y:Prop):gif false x y=y:=(rfl)
@[go_sem ↓] theorem zbP (op:Op) (j:Nat) (b:Bool):zIo P mu ops (⟨dst,op,ty,pos,after,some (j,b)⟩ ::rest) K fr h =
  gif (qF ops fr (some (j,b))) (qv P (zGA mu dst) h.next op (zx fr) h fun d h'=>zIo P mu ops rest K (wu fr dst d) h') (zIo P mu ops rest K (wu fr dst qz) h):=by
 simp only[zIo,gif];cases qF ops fr (some (j,b))<;>rfl
@[go_sem ↓] theorem zfn (t:Tmp):zx fr (.tmp t)=fr t:=(rfl)
@[go_sem ↓] theorem zfo (k:IntKind) (n:Int):zx fr (.const (.int k n))= .int k n:=(rfl)
@[go_sem ↓] theorem zcW (b:Bool):zx fr (.const (.bool b))= .bool b:=(rfl)
@[go_sem ↓] theorem zcX (f:Nat):zx fr (.func f)= .fn (.func f) [] []:=(rfl)
@[go_sem ↓] theorem zfp (s:ByteArray):zx fr (.const (.string s))= .str s.data.toList:=(rfl)
@[go_sem ↓] theorem zYt:zx fr (.const (.pointer none))= .nilptr:=(rfl)
@[go_sem ↓] theorem zbQ:zx fr (.const (.slice none 0 0))= .nilsl:=(rfl)
@[go_sem ↓] theorem zYu:zx fr (.const (.map none))= .nilmap:=(rfl)
@[go_sem ↓] theorem zbR:zx fr (.const .nilFunc)= .nilfn:=(rfl)
@[go_sem ↓] theorem zcY (t i:Tmp) (d:D):wu fr (some t) d i=if i=t then d else fr i:=(rfl)
@[go_sem ↓] theorem zcZ (d:D):wu fr none d=fr:=(rfl)
@[go_sem ↓] theorem zi3 (x:Operand):qv P m nid (.move x) (zx fr) h k=k (zx fr x) h:=(rfl)
@[go_sem ↓] theorem zfq (x:Operand):qv P m nid (.assign x) (zx fr) h k=k (zx fr x) h:=(rfl)
@[go_sem ↓] theorem zi4 (f:Operand) (args:List Operand) (ats:Array TypeId):qv P m nid (.call ⟨.value f,args.toArray,ats⟩) (zx fr) h k=zGV P (zx fr f) (args.map (zx fr)) h k:=(rfl)
@[go_sem ↓] theorem zYv (f:FuncId) (a c args:List D):zGV P (.fn (.func f) a c) args h k=zA P f (a++args++c) h k:=(rfl)
@[go_sem ↓] theorem zfr (id:Nat) (args:List D):zGV P (.yld id) args h k=yi P id args h k:=(rfl)
theorem zAs {op:Op} {ev:Operand→D} {o:Option D} (h1:qJ op=none) (h2:vop P m nid op ev h=o.map (·,h)):qv P m nid op ev h k=onS o (k · h):=by
 unfold qv;rw[h1,h2];cases o<;>rfl
theorem zSg {op:Op} {ev:Operand→D} {o:Option Heap} (h1:qJ op=none) (h2:vop P m nid op ev h=o.map (qz,·)):qv P m nid op ev h k=onH o (k qz ·):=by
 unfold qv;rw[h1,h2];cases o<;>rfl
theorem zHf {op:Op} {ev:Operand→D} {o:VR} (h1:qJ op=none) (h2:vop P m nid op ev h=o):qv P m nid op ev h k=onR o k:=by
 unfold qv;rw[h1,h2];cases o<;>rfl
@[go_sem ↓] theorem zkU (op:BinOp) (t u:TypeId) (x y:Operand):qv P m nid (.binOp op t x y u) (zx fr) h k=onS (zCl P op t (isC x||isC y) (zx fr x) (zx fr y)) (k · h):=zAs rfl rfl
@[go_sem ↓] theorem zlS (op:UnOp) (t:TypeId) (x:Operand):qv P m nid (.unOp op t x) (zx fr) h k=onS (vun op (zx fr x)) (k · h):=zAs rfl rfl
@[go_sem ↓] theorem zi5 (c x y:Operand):qv P m nid (.pick c x y) (zx fr) h k=onB (zx fr c) (k (zx fr x) h) (k (zx fr y) h):=by
 simp only[qv,qJ,vop,onB];cases zx fr c with
 |bool b=>cases b<;>rfl
 |_=>rfl
@[go_sem ↓] theorem zgj (t:TypeId):qv P m nid (.alloc t) (zx fr) h k=onR (vop P m nid (.alloc t) (zx fr) h) k:=zHf rfl rfl
@[go_sem ↓] theorem zkV (t:TypeId) (x:Operand):qv P m nid (.box t x) (zx fr) h k=onR (vop P m nid (.box t x) (zx fr) h) k:=zHf rfl rfl
@[go_sem ↓] theorem zgk (t:TypeId) (ps:List (Nat×Operand)):qv P m nid (.build t ps.toArray) (zx fr) h k=onS (yG P t (ps.map fun p=>(p.1,zx fr p.2))) (k · h):=zAs rfl rfl
@[go_sem ↓] theorem zXd (t:TypeId) (n:Nat) (ps:List (Nat×Operand)):qv P m nid (.buildSlice t n ps.toArray) (zx fr) h k=onR (zM P m nid t n (ps.map fun p=>(p.1,zx fr p.2)) h) k:=zHf rfl rfl
@[go_sem ↓] theorem zi6 (t:TypeId) (x:Operand):qv P m nid (.load t x) (zx fr) h k=onS (zAv P t (zx fr x) h) (k · h):=zAs rfl rfl
@[go_sem ↓] theorem zgl (t:TypeId) (x y:Operand):qv P m nid (.store t x y) (zx fr) h k=onH (zU P t (zx fr x) (zx fr y) h) (k qz ·):=zSg rfl rfl
@[go_sem ↓] theorem zbS (x:Operand):qv P m nid (.nilCheck x) (zx fr) h k=onS (zW (zx fr x)) (k · h):=zAs rfl rfl
@[go_sem ↓] theorem zca (s t:TypeId) (x:Operand):qv P m nid (.convert s t x) (zx fr) h k=onS (zEa P s t (zx fr x) h) (k · h):=zAs rfl rfl
@[go_sem ↓] theorem zbT (P:Program) (s t:TypeId) (k:IntKind) (n:Int) (h:Heap):zEa P s t (.int k n) h=wZ P s t (.int k n):=(rfl)
@[go_sem ↓] theorem zbU (P:Program) (s t:TypeId) (x:List UInt8) (h:Heap):zEa P s t (.str x) h=wZ P s t (.str x):=(rfl)
@[go_sem ↓] theorem zbV (f:FuncId) (a c:List Operand):qv P m nid (.makeFunc (.func f) a.toArray c.toArray) (zx fr) h k=k (.fn (.func f) (a.map (zx fr)) (c.map (zx fr))) h:=(rfl)
@[go_sem ↓] theorem zcb (t:TypeId):qv P m nid (.makeMap t none) (zx fr) h k=k (.map nid) (h.new nid (.map [])):=(rfl)
@[go_sem ↓] theorem zYw (t:TypeId) (x y:Operand):qv P m nid (.makeSlice t x y) (zx fr) h k=onR (qd P m nid t (zx fr x) (zx fr y) h) k:=zHf rfl rfl
@[go_sem ↓] theorem zgm (t:TypeId) (x:Operand) (lo hi mx:Option Operand):qv P m nid (.slice t x lo hi mx) (zx fr) h k=onS (yX P t (zx fr x) (lo.map (zx fr)) (hi.map (zx fr)) (mx.map (zx fr)) h) (k · h):=zAs rfl rfl
@[go_sem ↓] theorem zYx (t:TypeId) (x:Operand) (f:Nat):qv P m nid (.fieldAddr t x f) (zx fr) h k=onS (zA5 P t (zx fr x) f) (k · h):=zAs rfl rfl
@[go_sem ↓] theorem zYy (t:TypeId) (x i:Operand):qv P m nid (.indexAddr t x i) (zx fr) h k=onS (zS P t (zx fr x) (zx fr i)) (k · h):=zAs rfl rfl
@[go_sem ↓] theorem zgn (t:TypeId) (x i:Operand):qv P m nid (.index t x i) (zx fr) h k=onS (zBZ P t (zx fr x) (zx fr i)) (k · h):=zAs rfl rfl
@[go_sem ↓] theorem zfs (t:TypeId) (x y:Operand) (ok:Bool):qv P m nid (.lookup t x y ok) (zx fr) h k=onS (yS P t (zx fr x) (zx fr y) ok h) (k · h):=zAs rfl rfl
@[go_sem ↓] theorem zYz (t:TypeId) (x y z:Operand):qv P m nid (.mapUpdate t x y z) (zx fr) h k=onH (yM P t (zx fr x) (zx fr y) (zx fr z) h) (k qz ·):=zSg rfl rfl
@[go_sem ↓] theorem zgo (t:TypeId) (x:Operand):qv P m nid (.range t x) (zx fr) h k=onR (zF4 P nid t (zx fr x) h) k:=zHf rfl rfl
@[go_sem ↓] theorem zi7 (x:Operand) (b:Bool):qv P m nid (.next x b) (zx fr) h k=onR (zIq (zx fr x) b h) k:=zHf rfl rfl
@[go_sem ↓] theorem zcc (x:Operand) (i:Nat):qv P m nid (.extract x i) (zx fr) h k=onS (zBa (zx fr x) i) (k · h):=zAs rfl rfl
@[go_sem ↓] theorem zkW (t:TypeId) (x:Operand):qv P m nid (.call ⟨.builtin .len,#[x],#[t]⟩) (zx fr) h k=onS (zCF P t (zx fr x) h) (k · h):=zAs rfl rfl
@[go_sem ↓] theorem zft (t u:TypeId) (x y:Operand):qv P m nid (.call ⟨.builtin .append,#[x,y],#[t,u]⟩) (zx fr) h k=onR (if zAn P u then zAw P m nid t (zx fr x) (zx fr y) h else zAx P m nid t u (zx fr x) (zx fr y) h) k:=zHf rfl rfl
@[go_sem ↓] theorem zbW (t:TypeId) (s x:D):zAw P false nid t s x h=z6 P false nid t s x h:=(rfl)
@[go_sem ↓] theorem zbX (t:TypeId) (s x:D):zAw P true nid t s x h=z6 P true nid t s x (qR s x h):=(rfl)
@[go_sem ↓] theorem zbY (sz:Nat) (xs:List (List D)) (tk:Tk) (x:D):qR (.sl sz xs tk) x h=h:=(rfl)
@[go_sem ↓] theorem zkX (ats:Array TypeId) (x y:Operand):qv P m nid (.call ⟨.builtin .min,#[x,y],ats⟩) (zx fr) h k=onS (zRv (zx fr x) (zx fr y)) (k · h):=zAs rfl rfl
@[go_sem ↓] theorem zkY (x y:Operand) (ats:Array TypeId):qv P m nid (.call ⟨.builtin .max,#[x,y],ats⟩) (zx fr) h k=onS (zVK (zx fr x) (zx fr y)) (k · h):=by
 refine zAs rfl ?_;simp only[vop,zAy,zNe,List.map_cons,List.map_nil];cases zVK (zx fr x) (zx fr y)<;>rfl
@[go_sem ↓] theorem zbZ (d:D) (ds:List D):zKW (d::ds) 0=d:=(rfl)
@[go_sem ↓] theorem zba (d:D) (ds:List D) (i:Nat):zKW (d::ds) (i+1)=zKW ds i:=(rfl)
def onL (o:Option (List D)) (k:List D→Prop):Prop:=
 match o with
 |some ds=>k ds
 |none=>False
@[go_sem ↓] theorem zfu (rs:List ResultVar) (q:D→Heap→Prop):zVD P rs q .ret fr h=onL (zA1 P fr h rs) fun ds=>q (zEm ds) h:=by
 unfold zVD onL;cases zA1 P fr h rs<;>simp
@[go_sem ↓] theorem zY0 (rs:List ResultVar) (q:D→Heap→Prop):zVD P rs q .normal fr h=onL (zA1 P fr h rs) fun ds=>q (zEm ds) h:=by
 unfold zVD onL;cases zA1 P fr h rs<;>simp
@[go_sem ↓] theorem zcd (k:List D→Prop):onL (zA1 P fr h []) k=k []:=(rfl)
@[go_sem ↓] theorem zce (t:Tmp) (rs:List ResultVar) (k:List D→Prop):onL (zA1 P fr h (.tmp t::rs)) k=onL (zA1 P fr h rs) fun ds=>k (fr t::ds):=by
 simp only[zA1,zSS];cases zA1 P fr h rs<;>rfl
@[go_sem ↓] theorem zbb (a:Tmp) (t:TypeId) (rs:List ResultVar) (k:List D→Prop):onL (zA1 P fr h (.cell a t::rs)) k=onS (zAv P t (fr a) h) fun d=>onL (zA1 P fr h rs) fun ds=>k (d::ds):=by
 simp only[zA1,zSS];cases zAv P t (fr a) h with
 |none=>rfl
 |some d=>cases zA1 P fr h rs<;>rfl
@[go_sem ↓] theorem zcf (d:D):zEm [d]=d:=(rfl)
@[go_sem ↓] theorem zcg (d d':D) (ds:List D):zEm (d::d'::ds)= .tuple (d::d'::ds):=(rfl)
@[go_sem ↓] theorem zch:zEm []= .tuple []:=(rfl)
end rules
def zX (sz:Nat) (xs:List (List D)) (d:D):Prop:=(d= .nilsl∧xs= [])∨∃tk,d= .sl sz xs tk
section
variable {P:Program} {sz:Nat} {xs:List (List D)} {d:D} {t e:TypeId} {h:Heap}
theorem zX.mk (tk:Tk):zX sz xs (.sl sz xs tk):= .inr ⟨tk,rfl⟩
theorem zX.nil:zX sz [] .nilsl:= .inl ⟨rfl,rfl⟩
theorem yY (hd:zX sz xs d) (hu:P.underlying t=some (.slice e)):zCF P t d h=some (.int .i64 xs.length):=by
 rcases hd with⟨rfl,rfl⟩ | ⟨tk,rfl⟩ <;>simp[zCF,hu]
theorem zY (hd:zX sz xs d) (he:qE P t=some e) (hz:szT P e=sz) {k:IntKind} {i:Nat} {x:List D} (hx:xs[i]? =some x):zS P t d (.int k i)=some (.iptr x 0):=by
 rcases hd with⟨rfl,rfl⟩ | ⟨tk,rfl⟩
 ·simp at hx
 ·simp[zS,he,hz,hx]
end
@[go_sem ↓] theorem zfv (P:Program) (op:BinOp) (t:TypeId) (c:Bool) (k k':IntKind) (a b:Int):zCl P op t c (.int k a) (.int k' b)=wr op k k' a b:=(rfl)
@[go_sem ↓] theorem zfw (P:Program) (op:BinOp) (t:TypeId) (c:Bool) (a b:List UInt8):zCl P op t c (.str a) (.str b)=zVA op a b:=(rfl)
@[go_sem ↓] theorem zci (k:IntKind) (a b:Int):wr .add k k a b=some (.int k (k.wrap (a+b))):=by simp[wr,zLd]
@[go_sem ↓] theorem zcj (k:IntKind) (a b:Int):wr .sub k k a b=some (.int k (k.wrap (a-b))):=by simp[wr,zLd]
@[go_sem ↓] theorem zck (k:IntKind) (a b:Int):wr .mul k k a b=some (.int k (k.wrap (a*b))):=by simp[wr,zLd]
@[go_sem ↓] theorem zcl (k:IntKind) (a b:Int):wr .lss k k a b=some (.bool (decide (a<b))):=by simp[wr,zLd]
@[go_sem ↓] theorem zcm (k:IntKind) (a b:Int):wr .leq k k a b=some (.bool (decide (a≤b))):=by simp[wr,zLd]
@[go_sem ↓] theorem zcn (k:IntKind) (a b:Int):wr .gtr k k a b=some (.bool (decide (a>b))):=by simp[wr,zLd]
@[go_sem ↓] theorem zco (k:IntKind) (a b:Int):wr .geq k k a b=some (.bool (decide (a≥b))):=by simp[wr,zLd]
@[go_sem ↓] theorem zcp (k:IntKind) (a b:Int):wr .eql k k a b=some (.bool (a==b)):=by simp[wr,zLd]
@[go_sem ↓] theorem zcq (k:IntKind) (a b:Int):wr .neq k k a b=some (.bool (a !=b)):=by simp[wr,zLd]
@[go_sem ↓] theorem zfx (a b:List UInt8):zVA .eql a b=some (.bool (a==b)):=(rfl)
@[go_sem ↓] theorem zfy (a b:List UInt8):zVA .neq a b=some (.bool (!(a==b))):=(rfl)
@[go_sem ↓] theorem zfz (a b:List UInt8):zVA .lss a b=some (.bool (zIn a b)):=(rfl)
@[go_sem ↓] theorem zbc (P:Program) (t:TypeId) (cs:List D) (off:Nat) (h:Heap):zAv P t (.iptr cs off) h=(match agT P t with
 |none=>none
 |some ag=>zR ag (szT P t) cs off):=(rfl)
@[go_sem ↓] theorem zBN (n:Nat) (cs:List D) (off:Nat):zR false n cs off=cs[off]? :=(rfl)
theorem zPM {P:Program} {g:Cfg} {n:Nat} {ro:Option Nat} {c:Code} {Q:Exit→Frm→Heap→Prop} {fr:Frm} {h:Heap} (I:Nat→Frm→Heap→Prop) (k:Nat) (hI:I k fr h)
  (hr:∀k fr h,I k fr h→vwp P g n ro c (zC2 (fun fr h=>∃m,m<k∧I m fr h) Q) fr h):vwp P g n ro (.loop c) Q fr h:=⟨I,⟨k,hI⟩,hr⟩
open Go.Proofs
@[go_sem] theorem wL:szT Tryz.prog 3=1:=by kernel_rfl
@[go_sem] theorem zkZ:agT Tryz.prog 3=some false:=by kernel_rfl
@[go_sem] theorem zAQ:qQ Tryz.prog 3=some (.int .i64 0):=by kernel_rfl
@[go_sem] theorem zcr:zAn Tryz.prog 3=false:=by kernel_rfl
@[go_sem] theorem zSh:zHE Tryz.prog 3=true:=by kernel_rfl
@[go_sem] theorem zGt:yR Tryz.prog 3=8:=by kernel_rfl
@[go_sem] theorem zXe:zO1 Tryz.prog 3=some (false,[.i]):=by kernel_rfl
@[go_sem] theorem zcs:szT Tryz.prog 4=1:=by kernel_rfl
@[go_sem] theorem zka:agT Tryz.prog 4=some false:=by kernel_rfl
@[go_sem] theorem zgp:szT Tryz.prog 5=1:=by kernel_rfl
@[go_sem] theorem zkb:agT Tryz.prog 5=some false:=by kernel_rfl
@[go_sem] theorem zAh:szT Tryz.prog 9=1:=by kernel_rfl
@[go_sem] theorem zkc:agT Tryz.prog 9=some false:=by kernel_rfl
@[go_sem] theorem zFg:qQ Tryz.prog 9=some (.str []):=by kernel_rfl
@[go_sem] theorem zHg:zHE Tryz.prog 9=true:=by kernel_rfl
@[go_sem] theorem zBe:yR Tryz.prog 9=16:=by kernel_rfl
@[go_sem] theorem zPN:zI9 Tryz.prog 9=none:=by kernel_rfl
@[go_sem] theorem zMB:zO1 Tryz.prog 9=some (false,[.s]):=by kernel_rfl
@[go_sem] theorem zi8:szT Tryz.prog 22=1:=by kernel_rfl
@[go_sem] theorem zi9:agT Tryz.prog 22=some false:=by kernel_rfl
@[go_sem] theorem zEw:qE Tryz.prog 22=some 124:=by kernel_rfl
@[go_sem] theorem zbd:zAn Tryz.prog 22=true:=by kernel_rfl
@[go_sem] theorem zY1:zI9 Tryz.prog 22=none:=by kernel_rfl
@[go_sem] theorem zjA:szT Tryz.prog 23=1:=by kernel_rfl
@[go_sem] theorem zjB:agT Tryz.prog 23=some false:=by kernel_rfl
@[go_sem] theorem zVe:qE Tryz.prog 23=some 129:=by kernel_rfl
@[go_sem] theorem zjC:szT Tryz.prog 24=1:=by kernel_rfl
@[go_sem] theorem zjD:agT Tryz.prog 24=some false:=by kernel_rfl
@[go_sem] theorem zKj:qE Tryz.prog 24=some 92:=by kernel_rfl
@[go_sem] theorem zbe:zAn Tryz.prog 24=true:=by kernel_rfl
@[go_sem] theorem zjE:szT Tryz.prog 25=1:=by kernel_rfl
@[go_sem] theorem zjF:agT Tryz.prog 25=some false:=by kernel_rfl
@[go_sem] theorem zVf:qE Tryz.prog 25=some 135:=by kernel_rfl
@[go_sem] theorem zjG:szT Tryz.prog 27=4:=by kernel_rfl
@[go_sem] theorem zct:agT Tryz.prog 27=some true:=by kernel_rfl
@[go_sem] theorem zY2:zi Tryz.prog 27 0=some (0,22):=by kernel_rfl
@[go_sem] theorem zY3:zi Tryz.prog 27 1=some (1,23):=by kernel_rfl
@[go_sem] theorem zY4:zi Tryz.prog 27 2=some (2,24):=by kernel_rfl
@[go_sem] theorem zY5:zi Tryz.prog 27 3=some (3,25):=by kernel_rfl
@[go_sem] theorem zjH:szT Tryz.prog 29=1:=by kernel_rfl
@[go_sem] theorem zcu:agT Tryz.prog 29=some false:=by kernel_rfl
@[go_sem] theorem zVg:qE Tryz.prog 29=some 87:=by kernel_rfl
@[go_sem] theorem zcv:agT Tryz.prog 30=some false:=by kernel_rfl
@[go_sem] theorem zjI:szT Tryz.prog 31=1:=by kernel_rfl
@[go_sem] theorem zjJ:agT Tryz.prog 31=some false:=by kernel_rfl
@[go_sem] theorem yF:qE Tryz.prog 31=some 3:=by kernel_rfl
@[go_sem] theorem zbf:zAn Tryz.prog 31=true:=by kernel_rfl
@[go_sem] theorem zN1:zI9 Tryz.prog 31=none:=by kernel_rfl
@[go_sem] theorem zB6:szT Tryz.prog 33=2:=by kernel_rfl
@[go_sem] theorem zjK:agT Tryz.prog 33=some true:=by kernel_rfl
@[go_sem] theorem zKk:qQ Tryz.prog 33=some (.agg [(.int .i64 0), .nilsl]):=by kernel_rfl
@[go_sem] theorem zSi:zHE Tryz.prog 33=true:=by kernel_rfl
@[go_sem] theorem zMC:yR Tryz.prog 33=32:=by kernel_rfl
@[go_sem] theorem zQ5:zAm Tryz.prog 33=some [(0,1),(1,1)]:=by kernel_rfl
@[go_sem] theorem zY6:zi Tryz.prog 33 0=some (0,3):=by kernel_rfl
@[go_sem] theorem zY7:zi Tryz.prog 33 1=some (1,31):=by kernel_rfl
@[go_sem] theorem zJb:szT Tryz.prog 36=1:=by kernel_rfl
@[go_sem] theorem zjL:agT Tryz.prog 36=some false:=by kernel_rfl
@[go_sem] theorem zf0:qQ Tryz.prog 36=some (.int .i64 0):=by kernel_rfl
@[go_sem] theorem zMD:szT Tryz.prog 39=1:=by kernel_rfl
@[go_sem] theorem zjM:agT Tryz.prog 39=some false:=by kernel_rfl
@[go_sem] theorem zVh:qQ Tryz.prog 39=some .nilsl:=by kernel_rfl
@[go_sem] theorem qh:qE Tryz.prog 39=some 62:=by kernel_rfl
@[go_sem] theorem zbg:zAn Tryz.prog 39=true:=by kernel_rfl
@[go_sem] theorem zY8:zHE Tryz.prog 39=true:=by kernel_rfl
@[go_sem] theorem zSj:yR Tryz.prog 39=24:=by kernel_rfl
@[go_sem] theorem zXf:szT Tryz.prog 40=1:=by kernel_rfl
@[go_sem] theorem zjN:agT Tryz.prog 40=some false:=by kernel_rfl
@[go_sem] theorem yj:qE Tryz.prog 40=some 9:=by kernel_rfl
@[go_sem] theorem zbh:zAn Tryz.prog 40=true:=by kernel_rfl
@[go_sem] theorem zY9:zI9 Tryz.prog 40=none:=by kernel_rfl
@[go_sem] theorem zD0:szT Tryz.prog 42=2:=by kernel_rfl
@[go_sem] theorem zjO:agT Tryz.prog 42=some true:=by kernel_rfl
@[go_sem] theorem zPO:qQ Tryz.prog 42=some (.agg [.nilsl, .nilsl]):=by kernel_rfl
@[go_sem] theorem zJc:zAm Tryz.prog 42=some [(0,1),(1,1)]:=by kernel_rfl
@[go_sem] theorem zZA:zi Tryz.prog 42 0=some (0,39):=by kernel_rfl
@[go_sem] theorem zZB:zi Tryz.prog 42 1=some (1,40):=by kernel_rfl
@[go_sem] theorem zXg:szT Tryz.prog 45=1:=by kernel_rfl
@[go_sem] theorem zjP:agT Tryz.prog 45=some false:=by kernel_rfl
@[go_sem] theorem zf1:qQ Tryz.prog 45=some .nilsl:=by kernel_rfl
@[go_sem] theorem wM:qE Tryz.prog 45=some 33:=by kernel_rfl
@[go_sem] theorem zbi:zAn Tryz.prog 45=true:=by kernel_rfl
@[go_sem] theorem zN2:zI9 Tryz.prog 45=none:=by kernel_rfl
@[go_sem] theorem zcw:agT Tryz.prog 59=some false:=by kernel_rfl
@[go_sem] theorem zVi:qE Tryz.prog 59=some 4:=by kernel_rfl
@[go_sem] theorem zAF:szT Tryz.prog 62=1:=by kernel_rfl
@[go_sem] theorem zjQ:agT Tryz.prog 62=some false:=by kernel_rfl
@[go_sem] theorem zGu:qQ Tryz.prog 62=some .nilsl:=by kernel_rfl
@[go_sem] theorem yw:qE Tryz.prog 62=some 79:=by kernel_rfl
@[go_sem] theorem zbj:zAn Tryz.prog 62=true:=by kernel_rfl
@[go_sem] theorem zED:zHE Tryz.prog 62=true:=by kernel_rfl
@[go_sem] theorem zBO:yR Tryz.prog 62=24:=by kernel_rfl
@[go_sem] theorem zHh:zI9 Tryz.prog 62=none:=by kernel_rfl
@[go_sem] theorem zjR:szT Tryz.prog 65=1:=by kernel_rfl
@[go_sem] theorem zjS:agT Tryz.prog 65=some false:=by kernel_rfl
@[go_sem] theorem zKl:qE Tryz.prog 65=some 39:=by kernel_rfl
@[go_sem] theorem zbk:zAn Tryz.prog 65=true:=by kernel_rfl
@[go_sem] theorem wG:szT Tryz.prog 79=2:=by kernel_rfl
@[go_sem] theorem zjT:agT Tryz.prog 79=some true:=by kernel_rfl
@[go_sem] theorem zBf:qQ Tryz.prog 79=some (.agg [(.str []),(.str [])]):=by kernel_rfl
@[go_sem] theorem zN3:zHE Tryz.prog 79=true:=by kernel_rfl
@[go_sem] theorem zEy:yR Tryz.prog 79=32:=by kernel_rfl
@[go_sem] theorem zFh:zAm Tryz.prog 79=some [(0,1),(1,1)]:=by kernel_rfl
@[go_sem] theorem zZC:zi Tryz.prog 79 0=some (0,9):=by kernel_rfl
@[go_sem] theorem zZD:zi Tryz.prog 79 1=some (1,9):=by kernel_rfl
@[go_sem] theorem zjU:szT Tryz.prog 83=1:=by kernel_rfl
@[go_sem] theorem zjV:agT Tryz.prog 83=some false:=by kernel_rfl
@[go_sem] theorem zVj:qE Tryz.prog 83=some 85:=by kernel_rfl
@[go_sem] theorem zSk:szT Tryz.prog 85=4:=by kernel_rfl
@[go_sem] theorem zjW:agT Tryz.prog 85=some true:=by kernel_rfl
@[go_sem] theorem zf2:qQ Tryz.prog 85=some (.agg [(.int .i64 0),(.str []),(.str []), .nilsl]):=by kernel_rfl
@[go_sem] theorem zZE:zi Tryz.prog 85 0=some (0,3):=by kernel_rfl
@[go_sem] theorem zZF:zi Tryz.prog 85 1=some (1,9):=by kernel_rfl
@[go_sem] theorem zZG:zi Tryz.prog 85 2=some (2,9):=by kernel_rfl
@[go_sem] theorem zZH:zi Tryz.prog 85 3=some (3,83):=by kernel_rfl
@[go_sem] theorem zSl:szT Tryz.prog 87=12:=by kernel_rfl
@[go_sem] theorem zjX:agT Tryz.prog 87=some true:=by kernel_rfl
@[go_sem] theorem zf3:qQ Tryz.prog 87=some (.agg [(.int .i64 0),(.str []),(.str []),(.int .i64 0),(.int .i64 0),(.int .i64 0),(.bool false),(.int .i64 0),(.str []),(.str []), .nilsl, .nilsl]):=by kernel_rfl
@[go_sem] theorem zZI:zi Tryz.prog 87 0=some (0,3):=by kernel_rfl
@[go_sem] theorem zZJ:zi Tryz.prog 87 1=some (1,9):=by kernel_rfl
@[go_sem] theorem zZK:zi Tryz.prog 87 2=some (2,9):=by kernel_rfl
@[go_sem] theorem zZL:zi Tryz.prog 87 3=some (3,3):=by kernel_rfl
@[go_sem] theorem zZM:zi Tryz.prog 87 4=some (4,3):=by kernel_rfl
@[go_sem] theorem zZN:zi Tryz.prog 87 5=some (5,3):=by kernel_rfl
@[go_sem] theorem zZO:zi Tryz.prog 87 6=some (6,4):=by kernel_rfl
@[go_sem] theorem zZP:zi Tryz.prog 87 7=some (7,85):=by kernel_rfl
@[go_sem] theorem zZQ:zi Tryz.prog 87 8=some (11,40):=by kernel_rfl
@[go_sem] theorem zjY:agT Tryz.prog 88=some false:=by kernel_rfl
@[go_sem] theorem zGH:szT Tryz.prog 92=5:=by kernel_rfl
@[go_sem] theorem zjZ:agT Tryz.prog 92=some true:=by kernel_rfl
@[go_sem] theorem zVk:qQ Tryz.prog 92=some (.agg [(.str []),(.int .i64 0),(.int .i64 0),(.int .i64 0), .nilsl]):=by kernel_rfl
@[go_sem] theorem zZR:zHE Tryz.prog 92=true:=by kernel_rfl
@[go_sem] theorem zSm:yR Tryz.prog 92=64:=by kernel_rfl
@[go_sem] theorem zZS:zi Tryz.prog 92 0=some (0,9):=by kernel_rfl
@[go_sem] theorem zZT:zi Tryz.prog 92 1=some (1,3):=by kernel_rfl
@[go_sem] theorem zZU:zi Tryz.prog 92 2=some (2,3):=by kernel_rfl
@[go_sem] theorem zZV:zi Tryz.prog 92 3=some (3,3):=by kernel_rfl
@[go_sem] theorem zZW:zi Tryz.prog 92 4=some (4,40):=by kernel_rfl
@[go_sem] theorem zGI:szT Tryz.prog 95=6:=by kernel_rfl
@[go_sem] theorem zXh:agT Tryz.prog 95=some true:=by kernel_rfl
@[go_sem] theorem zPP:qQ Tryz.prog 95=some (.agg [.nilsl, .nilsl, .nilsl, .nilsl, .nilsl, .nilsl]):=by kernel_rfl
@[go_sem] theorem zJd:zAm Tryz.prog 95=some [(0,1),(1,1),(2,4)]:=by kernel_rfl
@[go_sem] theorem zZX:zi Tryz.prog 95 0=some (0,65):=by kernel_rfl
@[go_sem] theorem zZY:zi Tryz.prog 95 1=some (1,40):=by kernel_rfl
@[go_sem] theorem zZZ:zi Tryz.prog 95 2=some (2,27):=by kernel_rfl
@[go_sem] theorem zgq:agT Tryz.prog 101=some false:=by kernel_rfl
@[go_sem] theorem zCO:szT Tryz.prog 124=4:=by kernel_rfl
@[go_sem] theorem zgr:agT Tryz.prog 124=some true:=by kernel_rfl
@[go_sem] theorem zHi:qQ Tryz.prog 124=some (.agg [(.str []),(.str []),(.int .i64 0),(.str [])]):=by kernel_rfl
@[go_sem] theorem zVl:zHE Tryz.prog 124=true:=by kernel_rfl
@[go_sem] theorem zQ6:yR Tryz.prog 124=56:=by kernel_rfl
@[go_sem] theorem zHj:zAm Tryz.prog 124=some [(0,1),(1,1),(2,1),(3,1)]:=by kernel_rfl
@[go_sem] theorem zXi:zi Tryz.prog 124 0=some (0,9):=by kernel_rfl
@[go_sem] theorem zXj:zi Tryz.prog 124 1=some (1,9):=by kernel_rfl
@[go_sem] theorem zXk:zi Tryz.prog 124 2=some (2,3):=by kernel_rfl
@[go_sem] theorem zXl:zi Tryz.prog 124 3=some (3,9):=by kernel_rfl
@[go_sem] theorem zHk:szT Tryz.prog 129=3:=by kernel_rfl
@[go_sem] theorem zgs:agT Tryz.prog 129=some true:=by kernel_rfl
@[go_sem] theorem zcx:qQ Tryz.prog 129=some (.agg [(.str []),(.str []), .nilsl]):=by kernel_rfl
@[go_sem] theorem zXm:zi Tryz.prog 129 0=some (0,9):=by kernel_rfl
@[go_sem] theorem zXn:zi Tryz.prog 129 1=some (1,9):=by kernel_rfl
@[go_sem] theorem zXo:zi Tryz.prog 129 2=some (2,31):=by kernel_rfl
@[go_sem] theorem zKm:szT Tryz.prog 135=2:=by kernel_rfl
@[go_sem] theorem zgt:agT Tryz.prog 135=some true:=by kernel_rfl
@[go_sem] theorem zSn:qQ Tryz.prog 135=some (.agg [(.str []),(.str [])]):=by kernel_rfl
@[go_sem] theorem zN4:zAm Tryz.prog 135=some [(0,1),(1,1)]:=by kernel_rfl
@[go_sem] theorem zXp:zi Tryz.prog 135 0=some (0,9):=by kernel_rfl
@[go_sem] theorem zXq:zi Tryz.prog 135 1=some (1,9):=by kernel_rfl
@[go_sem] theorem zgu:szT Tryz.prog 148=1:=by kernel_rfl
@[go_sem] theorem zgv:agT Tryz.prog 148=some false:=by kernel_rfl
@[go_sem] theorem zPQ:zO0 Tryz.prog 148=some (3,62):=by kernel_rfl
@[go_sem] theorem zgw:szT Tryz.prog 149=1:=by kernel_rfl
@[go_sem] theorem zgx:agT Tryz.prog 149=some false:=by kernel_rfl
@[go_sem] theorem zPR:zO0 Tryz.prog 149=some (9,9):=by kernel_rfl
@[go_sem] theorem zSo:qQ Tryz.prog 151=some (.agg [.nilsl, .nilsl, .nilsl, .nilsl, .nilsl, .nilmap, .nilmap]):=by kernel_rfl
@[go_sem] theorem zN5:zAm Tryz.prog 151=some [(0,4),(4,1),(5,1),(6,1)]:=by kernel_rfl
@[go_sem] theorem zXr:zi Tryz.prog 151 0=some (0,27):=by kernel_rfl
@[go_sem] theorem zXs:zi Tryz.prog 151 1=some (4,29):=by kernel_rfl
@[go_sem] theorem zXt:zi Tryz.prog 151 2=some (5,148):=by kernel_rfl
@[go_sem] theorem zXu:zi Tryz.prog 151 3=some (6,149):=by kernel_rfl
@[go_sem] theorem zKn:zO0 Tryz.prog 175=some (9,3):=by kernel_rfl
@[go_sem] theorem zME:qE Tryz.prog 186=some 190:=by kernel_rfl
@[go_sem] theorem zgy:szT Tryz.prog 188=1:=by kernel_rfl
@[go_sem] theorem zgz:agT Tryz.prog 188=some false:=by kernel_rfl
@[go_sem] theorem zN6:szT Tryz.prog 190=2:=by kernel_rfl
@[go_sem] theorem zg0:agT Tryz.prog 190=some true:=by kernel_rfl
@[go_sem] theorem zMF:qQ Tryz.prog 190=some (.agg [(.int .i64 0), .nilfn]):=by kernel_rfl
@[go_sem] theorem zN7:zAm Tryz.prog 190=some [(0,1),(1,1)]:=by kernel_rfl
@[go_sem] theorem zXv:zi Tryz.prog 190 0=some (0,3):=by kernel_rfl
@[go_sem] theorem zXw:zi Tryz.prog 190 1=some (1,188):=by kernel_rfl
@[go_sem] theorem zg1:agT Tryz.prog 193=some false:=by kernel_rfl
@[go_sem] theorem zSp:szT Tryz.prog 197=8:=by kernel_rfl
@[go_sem] theorem zg2:agT Tryz.prog 197=some true:=by kernel_rfl
@[go_sem] theorem zB7:qQ Tryz.prog 197=some (.agg [(.bool false),(.bool false),(.bool false),(.bool false),(.bool false),(.bool false),(.bool false),(.bool false)]):=by kernel_rfl
@[go_sem] theorem zAR:zAm Tryz.prog 197=some [(0,1),(1,1),(2,1),(3,1),(4,1),(5,1),(6,1),(7,1)]:=by kernel_rfl
@[go_sem] theorem zXx:zi Tryz.prog 197 0=some (0,4):=by kernel_rfl
@[go_sem] theorem zXy:zi Tryz.prog 197 1=some (1,4):=by kernel_rfl
@[go_sem] theorem zXz:zi Tryz.prog 197 2=some (2,4):=by kernel_rfl
@[go_sem] theorem zX0:zi Tryz.prog 197 3=some (3,4):=by kernel_rfl
@[go_sem] theorem zX1:zi Tryz.prog 197 4=some (4,4):=by kernel_rfl
@[go_sem] theorem zX2:zi Tryz.prog 197 5=some (5,4):=by kernel_rfl
@[go_sem] theorem zX3:zi Tryz.prog 197 6=some (6,4):=by kernel_rfl
@[go_sem] theorem zX4:zi Tryz.prog 197 7=some (7,4):=by kernel_rfl
@[go_sem] theorem zSq:qE Tryz.prog 233=some 5:=by kernel_rfl
@[go_sem] theorem zZa:szT Tryz.prog 242=1:=by kernel_rfl
@[go_sem] theorem zg3:agT Tryz.prog 242=some false:=by kernel_rfl
@[go_sem] theorem zcy:qQ Tryz.prog 242=some .nilfn:=by kernel_rfl
@[go_sem] theorem zZb:szT Tryz.prog 270=3:=by kernel_rfl
@[go_sem] theorem zg4:agT Tryz.prog 270=some true:=by kernel_rfl
@[go_sem] theorem zSr:qQ Tryz.prog 270=some (.agg [(.int .i64 0),(.int .i64 0),(.int .i64 0)]):=by kernel_rfl
@[go_sem] theorem zN8:zAm Tryz.prog 270=some [(0,1),(1,1),(2,1)]:=by kernel_rfl
@[go_sem] theorem zX5:zi Tryz.prog 270 0=some (0,3):=by kernel_rfl
@[go_sem] theorem zX6:zi Tryz.prog 270 1=some (1,3):=by kernel_rfl
@[go_sem] theorem zX7:zi Tryz.prog 270 2=some (2,3):=by kernel_rfl
@[go_sem] theorem zg5:agT Tryz.prog 314=some false:=by kernel_rfl
end Go.V
