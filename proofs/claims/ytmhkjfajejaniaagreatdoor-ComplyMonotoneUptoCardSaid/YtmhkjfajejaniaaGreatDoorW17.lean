/- A machine of abstract values for programs of the model, and its soundness, part 6. No condition. -/
import Derived.Test.YtmhkjfajejaniaaGreatDoorW03
import Derived.KernelRfl
import Derived.Test.YtmhkjfajejaniaaGreatDoorProg
set_option linter.all false
namespace Go.V
def onS (o:Option D) (k:D→Prop):Prop:=
 match o with
 |some d=>k d
 |none=>False
def onR (o:VR) (k:D→Heap→Prop):Prop:=
 match o with
 |some (d,h)=>k d h
 |none=>False
def onH (o:Option Heap) (k:Heap→Prop):Prop:=
 match o with
 |some h=>k h
 |none=>False
@[congr] theorem zcU {o o':Option D} {k:D→Prop} (h:o=o'):onS o k=onS o' k:=by rw[h]
@[congr] theorem zcV {o o':VR} {k:D→Heap→Prop} (h:o=o'):onR o k=onR o' k:=by rw[h]
@[congr] theorem zcW {o o':Option Heap} {k:Heap→Prop} (h:o=o'):onH o k=onH o' k:=by rw[h]
@[congr] theorem zYt {P:Program} {f:FuncId} {args args':List D} {h h':Heap} {K:D→Heap→Prop} (ha:args=args') (hh:h=h'):zA P f args h K=zA P f args' h' K:=by rw[ha,hh]
@[congr] theorem zXZ {P:Program} {id:Nat} {args args':List D} {h h':Heap} {K:D→Heap→Prop} (ha:args=args') (hh:h=h'):yo P id args h K=yo P id args' h' K:=by rw[ha,hh]
@[congr] theorem zbQ {P:Program} {f f':D} {args args':List D} {h h':Heap} {K:D→Heap→Prop} (hf:f=f') (ha:args=args') (hh:h=h'):zGk P f args h K=zGk P f' args' h' K:=by rw[hf,ha,hh]
@[go_sem ↓] theorem zfr (d:D) (k:D→Prop):onS (some d) k=k d:=(rfl)
@[go_sem ↓] theorem zG7 (d:D) (h:Heap) (k:D→Heap→Prop):onR (some (d,h)) k=k d h:=(rfl)
@[go_sem ↓] theorem zfs (h:Heap) (k:Heap→Prop):onH (some h) k=k h:=(rfl)
section rules
variable {P:Program} {g:Cfg} {n:Nat} {ro:Option Nat} {mu:Tmp→Bool} {ops:Array Oper} {rest:List Oper} {K:Frm→Heap→Prop} {fr:Frm} {h:Heap} {dst:Option Tmp} {ty:TypeId} {pos:String} {after:Array Edge} {gd:Option (Nat×Bool)} {Q:Exit→Frm→Heap→Prop}
 {m:Bool} {nid:Nat} {k:D→Heap→Prop}
@[go_sem ↓] theorem zKq (a b:Code):vwp P g n ro (.seq a b) Q fr h=vwp P g n ro a (zEO (vwp P g n ro b Q) Q) fr h:=(rfl)
@[go_sem ↓] theorem zbR (id:Nat) (l:List Oper):vwp P g n ro (.region id l.toArray false) Q fr h=zIu P g.mu l.toArray l (Q .normal) fr h:=(rfl)
theorem zPQ (id:Nat) (ops:Array Oper):vwp P g n ro (.region id ops true) Q fr h= ∃h0,HLe h0 h∧zD9 P g.mu h0 (zVI P g.mu ops (g.dr id) (zGl ops.toList 0 [])) ops ((g.dr id).any (·.2.isSt)) (g.dr id) (Q .normal) fr h:=(rfl)
@[go_sem ↓] theorem zft:vwp P g n ro .skip Q fr h=Q .normal fr h:=(rfl)
@[go_sem ↓] theorem zgr:vwp P g n ro .ret Q fr h=Q .ret fr h:=(rfl)
@[go_sem ↓] theorem zfu (i:Nat):vwp P g n ro (.exit i) Q fr h=Q (.exit i) fr h:=(rfl)
@[go_sem ↓] theorem zcX (id:Nat) (c:Code):vwp P g n ro (.block id c) Q fr h=vwp P g n ro c (zEv id Q) fr h:=(rfl)
def onB (d:D) (x y:Prop):Prop:=
 match d with
 | .bool b=>match b with
  |true=>x
  |false=>y
 |_=>False
@[go_sem ↓] theorem zfv (c:Operand) (a b:Code):vwp P g n ro (.cond c a b) Q fr h=onB (yB fr c) (vwp P g n ro a Q fr h) (vwp P g n ro b Q fr h):=by
 simp only[vwp];rfl
@[congr] theorem zcY {d d':D} {x y:Prop} (h:d=d'):onB d x y=onB d' x y:=by rw[h]
@[go_sem ↓] theorem zfw (x y:Prop):onB (.bool true) x y=x:=(rfl)
@[go_sem ↓] theorem zcZ (x y:Prop):onB (.bool false) x y=y:=(rfl)
@[go_sem ↓] theorem zXa (Kn:Frm→Heap→Prop):zEO Kn Q .normal fr h=Kn fr h:=(rfl)
@[go_sem ↓] theorem zca (Kn:Frm→Heap→Prop):zEO Kn Q .ret fr h=Q .ret fr h:=(rfl)
@[go_sem ↓] theorem zbS (Kn:Frm→Heap→Prop) (i:Nat):zEO Kn Q (.exit i) fr h=Q (.exit i) fr h:=(rfl)
@[go_sem ↓] theorem zVi (i:Nat):zEv i Q .normal fr h=Q .normal fr h:=(rfl)
@[go_sem ↓] theorem zbT (i:Nat):zEv i Q .ret fr h=Q .ret fr h:=(rfl)
@[go_sem ↓] theorem zYu (i j:Nat):zEv i Q (.exit j) fr h=if j=i then Q .normal fr h else Q (.exit j) fr h:=(rfl)
@[go_sem ↓] theorem zfx:zIu P mu ops [] K fr h=K fr h:=(rfl)
@[go_sem ↓] theorem zbU (op:Op):zIu P mu ops (⟨dst,op,ty,pos,after,none⟩ ::rest) K fr h=wD P (zGK mu dst) h.next op (yB fr) h fun d h'=>zIu P mu ops rest K (zA2 fr dst d) h':=(rfl)
def gif (g:Bool) (x y:Prop):Prop:=
 match g with
 |true=>x
 |false=>y
@[congr] theorem zcb {g g':Bool} {x y:Prop} (h:g=g'):gif g x y=gif g' x y:=by rw[h]
@[go_sem ↓] theorem zfy (x y:Prop):gif true x y=x:=(rfl)
@[go_sem ↓] theorem zcc (x y:Prop):gif false x y=y:=(rfl)
@[go_sem ↓] theorem zbV (op:Op) (j:Nat) (b:Bool):zIu P mu ops (⟨dst,op,ty,pos,after,some (j,b)⟩ ::rest) K fr h =
  gif (qO ops fr (some (j,b))) (wD P (zGK mu dst) h.next op (yB fr) h fun d h'=>zIu P mu ops rest K (zA2 fr dst d) h') (zIu P mu ops rest K (zA2 fr dst wH) h):=by
 simp only[zIu,gif];cases qO ops fr (some (j,b))<;>rfl
@[go_sem ↓] theorem zfz (t:Tmp):yB fr (.tmp t)=fr t:=(rfl)
@[go_sem ↓] theorem zf0 (k:IntKind) (n:Int):yB fr (.const (.int k n))= .int k n:=(rfl)
@[go_sem ↓] theorem zcd (b:Bool):yB fr (.const (.bool b))= .bool b:=(rfl)
@[go_sem ↓] theorem zce (f:Nat):yB fr (.func f)= .fn (.func f) [] []:=(rfl)
@[go_sem ↓] theorem zf1 (s:ByteArray):yB fr (.const (.string s))= .str s.data.toList:=(rfl)
@[go_sem ↓] theorem zYv:yB fr (.const (.pointer none))= .nilptr:=(rfl)
@[go_sem ↓] theorem zbW:yB fr (.const (.slice none 0 0))= .nilsl:=(rfl)
@[go_sem ↓] theorem zYw:yB fr (.const (.map none))= .nilmap:=(rfl)
@[go_sem ↓] theorem zbX:yB fr (.const .nilFunc)= .nilfn:=(rfl)
@[go_sem ↓] theorem zcf (t i:Tmp) (d:D):zA2 fr (some t) d i=if i=t then d else fr i:=(rfl)
@[go_sem ↓] theorem zcg (d:D):zA2 fr none d=fr:=(rfl)
@[go_sem ↓] theorem zjE (x:Operand):wD P m nid (.move x) (yB fr) h k=k (yB fr x) h:=(rfl)
@[go_sem ↓] theorem zf2 (x:Operand):wD P m nid (.assign x) (yB fr) h k=k (yB fr x) h:=(rfl)
@[go_sem ↓] theorem zjF (f:Operand) (args:List Operand) (ats:Array TypeId):wD P m nid (.call ⟨.value f,args.toArray,ats⟩) (yB fr) h k=zGk P (yB fr f) (args.map (yB fr)) h k:=(rfl)
@[go_sem ↓] theorem zYx (f:FuncId) (a c args:List D):zGk P (.fn (.func f) a c) args h k=zA P f (a++args++c) h k:=(rfl)
@[go_sem ↓] theorem zf3 (id:Nat) (args:List D):zGk P (.yld id) args h k=yo P id args h k:=(rfl)
theorem zBA {op:Op} {ev:Operand→D} {o:Option D} (h1:qS op=none) (h2:vop P m nid op ev h=o.map (·,h)):wD P m nid op ev h k=onS o (k · h):=by
 unfold wD;rw[h1,h2];cases o<;>rfl
theorem zSh {op:Op} {ev:Operand→D} {o:Option Heap} (h1:qS op=none) (h2:vop P m nid op ev h=o.map (wH,·)):wD P m nid op ev h k=onH o (k wH ·):=by
 unfold wD;rw[h1,h2];cases o<;>rfl
theorem zHr {op:Op} {ev:Operand→D} {o:VR} (h1:qS op=none) (h2:vop P m nid op ev h=o):wD P m nid op ev h k=onR o k:=by
 unfold wD;rw[h1,h2];cases o<;>rfl
@[go_sem ↓] theorem zka (op:BinOp) (t u:TypeId) (x y:Operand):wD P m nid (.binOp op t x y u) (yB fr) h k=onS (zDv P op t (isC x||isC y) (yB fr x) (yB fr y)) (k · h):=zBA rfl rfl
@[go_sem ↓] theorem zlb (op:UnOp) (t:TypeId) (x:Operand):wD P m nid (.unOp op t x) (yB fr) h k=onS (vun op (yB fr x)) (k · h):=zBA rfl rfl
@[go_sem ↓] theorem zjG (c x y:Operand):wD P m nid (.pick c x y) (yB fr) h k=onB (yB fr c) (k (yB fr x) h) (k (yB fr y) h):=by
 simp only[wD,qS,vop,onB];cases yB fr c with
 |bool b=>cases b<;>rfl
 |_=>rfl
@[go_sem ↓] theorem zgs (t:TypeId):wD P m nid (.alloc t) (yB fr) h k=onR (vop P m nid (.alloc t) (yB fr) h) k:=zHr rfl rfl
@[go_sem ↓] theorem zkb (t:TypeId) (x:Operand):wD P m nid (.box t x) (yB fr) h k=onR (vop P m nid (.box t x) (yB fr) h) k:=zHr rfl rfl
@[go_sem ↓] theorem zgt (t:TypeId) (ps:List (Nat×Operand)):wD P m nid (.build t ps.toArray) (yB fr) h k=onS (yN P t (ps.map fun p=>(p.1,yB fr p.2))) (k · h):=zBA rfl rfl
@[go_sem ↓] theorem zXb (t:TypeId) (n:Nat) (ps:List (Nat×Operand)):wD P m nid (.buildSlice t n ps.toArray) (yB fr) h k=onR (zM P m nid t n (ps.map fun p=>(p.1,yB fr p.2)) h) k:=zHr rfl rfl
@[go_sem ↓] theorem zjH (t:TypeId) (x:Operand):wD P m nid (.load t x) (yB fr) h k=onS (zBD P t (yB fr x) h) (k · h):=zBA rfl rfl
@[go_sem ↓] theorem zgu (t:TypeId) (x y:Operand):wD P m nid (.store t x y) (yB fr) h k=onH (zW P t (yB fr x) (yB fr y) h) (k wH ·):=zSh rfl rfl
@[go_sem ↓] theorem zbY (x:Operand):wD P m nid (.nilCheck x) (yB fr) h k=onS (zY (yB fr x)) (k · h):=zBA rfl rfl
@[go_sem ↓] theorem zch (s t:TypeId) (x:Operand):wD P m nid (.convert s t x) (yB fr) h k=onS (zEk P s t (yB fr x) h) (k · h):=zBA rfl rfl
@[go_sem ↓] theorem zbZ (P:Program) (s t:TypeId) (k:IntKind) (n:Int) (h:Heap):zEk P s t (.int k n) h=wp P s t (.int k n):=(rfl)
@[go_sem ↓] theorem zba (P:Program) (s t:TypeId) (x:List UInt8) (h:Heap):zEk P s t (.str x) h=wp P s t (.str x):=(rfl)
@[go_sem ↓] theorem zbb (f:FuncId) (a c:List Operand):wD P m nid (.makeFunc (.func f) a.toArray c.toArray) (yB fr) h k=k (.fn (.func f) (a.map (yB fr)) (c.map (yB fr))) h:=(rfl)
@[go_sem ↓] theorem zci (t:TypeId):wD P m nid (.makeMap t none) (yB fr) h k=k (.map nid) (h.new nid (.map [])):=(rfl)
@[go_sem ↓] theorem zYy (t:TypeId) (x y:Operand):wD P m nid (.makeSlice t x y) (yB fr) h k=onR (qM P m nid t (yB fr x) (yB fr y) h) k:=zHr rfl rfl
@[go_sem ↓] theorem zgv (t:TypeId) (x:Operand) (lo hi mx:Option Operand):wD P m nid (.slice t x lo hi mx) (yB fr) h k=onS (yk P t (yB fr x) (lo.map (yB fr)) (hi.map (yB fr)) (mx.map (yB fr)) h) (k · h):=zBA rfl rfl
@[go_sem ↓] theorem zYz (t:TypeId) (x:Operand) (f:Nat):wD P m nid (.fieldAddr t x f) (yB fr) h k=onS (zBO P t (yB fr x) f) (k · h):=zBA rfl rfl
@[go_sem ↓] theorem zY0 (t:TypeId) (x i:Operand):wD P m nid (.indexAddr t x i) (yB fr) h k=onS (zX P t (yB fr x) (yB fr i)) (k · h):=zBA rfl rfl
@[go_sem ↓] theorem zgw (t:TypeId) (x i:Operand):wD P m nid (.index t x i) (yB fr) h k=onS (zBv P t (yB fr x) (yB fr i)) (k · h):=zBA rfl rfl
@[go_sem ↓] theorem zf4 (t:TypeId) (x y:Operand) (ok:Bool):wD P m nid (.lookup t x y ok) (yB fr) h k=onS (yY P t (yB fr x) (yB fr y) ok h) (k · h):=zBA rfl rfl
@[go_sem ↓] theorem zY1 (t:TypeId) (x y z:Operand):wD P m nid (.mapUpdate t x y z) (yB fr) h k=onH (yT P t (yB fr x) (yB fr y) (yB fr z) h) (k wH ·):=zSh rfl rfl
@[go_sem ↓] theorem zgx (t:TypeId) (x:Operand):wD P m nid (.range t x) (yB fr) h k=onR (zGE P nid t (yB fr x) h) k:=zHr rfl rfl
@[go_sem ↓] theorem zjI (x:Operand) (b:Bool):wD P m nid (.next x b) (yB fr) h k=onR (zIw (yB fr x) b h) k:=zHr rfl rfl
@[go_sem ↓] theorem zcj (x:Operand) (i:Nat):wD P m nid (.extract x i) (yB fr) h k=onS (zBw (yB fr x) i) (k · h):=zBA rfl rfl
@[go_sem ↓] theorem zkc (t:TypeId) (x:Operand):wD P m nid (.call ⟨.builtin .len,#[x],#[t]⟩) (yB fr) h k=onS (zC1 P t (yB fr x) h) (k · h):=zBA rfl rfl
@[go_sem ↓] theorem zf5 (t u:TypeId) (x y:Operand):wD P m nid (.call ⟨.builtin .append,#[x,y],#[t,u]⟩) (yB fr) h k=onR (if zAU P u then zBE P m nid t (yB fr x) (yB fr y) h else zBF P m nid t u (yB fr x) (yB fr y) h) k:=zHr rfl rfl
@[go_sem ↓] theorem zbc (t:TypeId) (s x:D):zBE P false nid t s x h=yD P false nid t s x h:=(rfl)
@[go_sem ↓] theorem zbd (t:TypeId) (s x:D):zBE P true nid t s x h=yD P true nid t s x (qr s x h):=(rfl)
@[go_sem ↓] theorem zbe (sz:Nat) (xs:List (List D)) (tk:Tk) (x:D):qr (.sl sz xs tk) x h=h:=(rfl)
@[go_sem ↓] theorem zkd (ats:Array TypeId) (x y:Operand):wD P m nid (.call ⟨.builtin .min,#[x,y],ats⟩) (yB fr) h k=onS (zRz (yB fr x) (yB fr y)) (k · h):=zBA rfl rfl
@[go_sem ↓] theorem zke (x y:Operand) (ats:Array TypeId):wD P m nid (.call ⟨.builtin .max,#[x,y],ats⟩) (yB fr) h k=onS (zVQ (yB fr x) (yB fr y)) (k · h):=by
 refine zBA rfl ?_;simp only[vop,zBG,zNj,List.map_cons,List.map_nil];cases zVQ (yB fr x) (yB fr y)<;>rfl
@[go_sem ↓] theorem zbf (d:D) (ds:List D):zKd (d::ds) 0=d:=(rfl)
@[go_sem ↓] theorem zbg (d:D) (ds:List D) (i:Nat):zKd (d::ds) (i+1)=zKd ds i:=(rfl)
def onL (o:Option (List D)) (k:List D→Prop):Prop:=
 match o with
 |some ds=>k ds
 |none=>False
@[go_sem ↓] theorem zf6 (rs:List ResultVar) (q:D→Heap→Prop):zXV P rs q .ret fr h=onL (zBd P fr h rs) fun ds=>q (zFm ds) h:=by
 unfold zXV onL;cases zBd P fr h rs<;>simp
@[go_sem ↓] theorem zY2 (rs:List ResultVar) (q:D→Heap→Prop):zXV P rs q .normal fr h=onL (zBd P fr h rs) fun ds=>q (zFm ds) h:=by
 unfold zXV onL;cases zBd P fr h rs<;>simp
@[go_sem ↓] theorem zck (k:List D→Prop):onL (zBd P fr h []) k=k []:=(rfl)
@[go_sem ↓] theorem zcl (t:Tmp) (rs:List ResultVar) (k:List D→Prop):onL (zBd P fr h (.tmp t::rs)) k=onL (zBd P fr h rs) fun ds=>k (fr t::ds):=by
 simp only[zBd,zST];cases zBd P fr h rs<;>rfl
@[go_sem ↓] theorem zbh (a:Tmp) (t:TypeId) (rs:List ResultVar) (k:List D→Prop):onL (zBd P fr h (.cell a t::rs)) k=onS (zBD P t (fr a) h) fun d=>onL (zBd P fr h rs) fun ds=>k (d::ds):=by
 simp only[zBd,zST];cases zBD P t (fr a) h with
 |none=>rfl
 |some d=>cases zBd P fr h rs<;>rfl
@[go_sem ↓] theorem zcm (d:D):zFm [d]=d:=(rfl)
@[go_sem ↓] theorem zcn (d d':D) (ds:List D):zFm (d::d'::ds)= .tuple (d::d'::ds):=(rfl)
@[go_sem ↓] theorem zco:zFm []= .tuple []:=(rfl)
end rules
def za (sz:Nat) (xs:List (List D)) (d:D):Prop:=(d= .nilsl∧xs= [])∨∃tk,d= .sl sz xs tk
section
variable {P:Program} {sz:Nat} {xs:List (List D)} {d:D} {t e:TypeId} {h:Heap}
theorem za.mk (tk:Tk):za sz xs (.sl sz xs tk):= .inr ⟨tk,rfl⟩
theorem za.nil:za sz [] .nilsl:= .inl ⟨rfl,rfl⟩
theorem qC (hd:za sz xs d) (hu:P.underlying t=some (.slice e)):zC1 P t d h=some (.int .i64 xs.length):=by
 rcases hd with⟨rfl,rfl⟩ | ⟨tk,rfl⟩ <;>simp[zC1,hu]
theorem zd (hd:za sz xs d) (he:qL P t=some e) (hz:szT P e=sz) {k:IntKind} {i:Nat} {x:List D} (hx:xs[i]? =some x):zX P t d (.int k i)=some (.iptr x 0):=by
 rcases hd with⟨rfl,rfl⟩ | ⟨tk,rfl⟩
 ·simp at hx
 ·simp[zX,he,hz,hx]
end
@[go_sem ↓] theorem zf7 (P:Program) (op:BinOp) (t:TypeId) (c:Bool) (k k':IntKind) (a b:Int):zDv P op t c (.int k a) (.int k' b)=wZ op k k' a b:=(rfl)
@[go_sem ↓] theorem zf8 (P:Program) (op:BinOp) (t:TypeId) (c:Bool) (a b:List UInt8):zDv P op t c (.str a) (.str b)=zVH op a b:=(rfl)
@[go_sem ↓] theorem zcp (k:IntKind) (a b:Int):wZ .add k k a b=some (.int k (k.wrap (a+b))):=by simp[wZ,zLn]
@[go_sem ↓] theorem zcq (k:IntKind) (a b:Int):wZ .sub k k a b=some (.int k (k.wrap (a-b))):=by simp[wZ,zLn]
@[go_sem ↓] theorem zcr (k:IntKind) (a b:Int):wZ .mul k k a b=some (.int k (k.wrap (a*b))):=by simp[wZ,zLn]
@[go_sem ↓] theorem zcs (k:IntKind) (a b:Int):wZ .lss k k a b=some (.bool (decide (a<b))):=by simp[wZ,zLn]
@[go_sem ↓] theorem zct (k:IntKind) (a b:Int):wZ .leq k k a b=some (.bool (decide (a≤b))):=by simp[wZ,zLn]
@[go_sem ↓] theorem zcu (k:IntKind) (a b:Int):wZ .gtr k k a b=some (.bool (decide (a>b))):=by simp[wZ,zLn]
@[go_sem ↓] theorem zcv (k:IntKind) (a b:Int):wZ .geq k k a b=some (.bool (decide (a≥b))):=by simp[wZ,zLn]
@[go_sem ↓] theorem zcw (k:IntKind) (a b:Int):wZ .eql k k a b=some (.bool (a==b)):=by simp[wZ,zLn]
@[go_sem ↓] theorem zcx (k:IntKind) (a b:Int):wZ .neq k k a b=some (.bool (a !=b)):=by simp[wZ,zLn]
@[go_sem ↓] theorem zf9 (a b:List UInt8):zVH .eql a b=some (.bool (a==b)):=(rfl)
@[go_sem ↓] theorem zgA (a b:List UInt8):zVH .neq a b=some (.bool (!(a==b))):=(rfl)
@[go_sem ↓] theorem zgB (a b:List UInt8):zVH .lss a b=some (.bool (zIt a b)):=(rfl)
@[go_sem ↓] theorem zbi (P:Program) (t:TypeId) (cs:List D) (off:Nat) (h:Heap):zBD P t (.iptr cs off) h=(match agT P t with
 |none=>none
 |some ag=>zS ag (szT P t) cs off):=(rfl)
@[go_sem ↓] theorem zBi (n:Nat) (cs:List D) (off:Nat):zS false n cs off=cs[off]? :=(rfl)
theorem zPR {P:Program} {g:Cfg} {n:Nat} {ro:Option Nat} {c:Code} {Q:Exit→Frm→Heap→Prop} {fr:Frm} {h:Heap} (I:Nat→Frm→Heap→Prop) (k:Nat) (hI:I k fr h)
  (hr:∀k fr h,I k fr h→vwp P g n ro c (zEO (fun fr h=>∃m,m<k∧I m fr h) Q) fr h):vwp P g n ro (.loop c) Q fr h:=⟨I,⟨k,hI⟩,hr⟩
open Go.Proofs
@[go_sem] theorem wV:szT Tryz.prog 3=1:=by kernel_rfl
@[go_sem] theorem zkf:agT Tryz.prog 3=some false:=by kernel_rfl
@[go_sem] theorem zAd:qV Tryz.prog 3=some (.int .i64 0):=by kernel_rfl
@[go_sem] theorem zcy:zAU Tryz.prog 3=false:=by kernel_rfl
@[go_sem] theorem zSi:zGi Tryz.prog 3=true:=by kernel_rfl
@[go_sem] theorem zG8:yR Tryz.prog 3=8:=by kernel_rfl
@[go_sem] theorem zXc:zO6 Tryz.prog 3=some (false,[.i]):=by kernel_rfl
@[go_sem] theorem zcz:szT Tryz.prog 4=1:=by kernel_rfl
@[go_sem] theorem zkg:agT Tryz.prog 4=some false:=by kernel_rfl
@[go_sem] theorem zgy:qV Tryz.prog 4=some (.bool false):=by kernel_rfl
@[go_sem] theorem zgz:szT Tryz.prog 5=1:=by kernel_rfl
@[go_sem] theorem zkh:agT Tryz.prog 5=some false:=by kernel_rfl
@[go_sem] theorem zAe:szT Tryz.prog 9=1:=by kernel_rfl
@[go_sem] theorem zki:agT Tryz.prog 9=some false:=by kernel_rfl
@[go_sem] theorem zFv:qV Tryz.prog 9=some (.str []):=by kernel_rfl
@[go_sem] theorem zGS:zGi Tryz.prog 9=true:=by kernel_rfl
@[go_sem] theorem zAo:yR Tryz.prog 9=16:=by kernel_rfl
@[go_sem] theorem zPS:zJH Tryz.prog 9=none:=by kernel_rfl
@[go_sem] theorem zMN:zO6 Tryz.prog 9=some (false,[.s]):=by kernel_rfl
@[go_sem] theorem zjJ:szT Tryz.prog 22=1:=by kernel_rfl
@[go_sem] theorem zjK:agT Tryz.prog 22=some false:=by kernel_rfl
@[go_sem] theorem zE5:qL Tryz.prog 22=some 124:=by kernel_rfl
@[go_sem] theorem zbj:zAU Tryz.prog 22=true:=by kernel_rfl
@[go_sem] theorem zY3:zJH Tryz.prog 22=none:=by kernel_rfl
@[go_sem] theorem zjL:szT Tryz.prog 23=1:=by kernel_rfl
@[go_sem] theorem zjM:agT Tryz.prog 23=some false:=by kernel_rfl
@[go_sem] theorem zVj:qL Tryz.prog 23=some 129:=by kernel_rfl
@[go_sem] theorem zjN:szT Tryz.prog 24=1:=by kernel_rfl
@[go_sem] theorem zjO:agT Tryz.prog 24=some false:=by kernel_rfl
@[go_sem] theorem zKr:qL Tryz.prog 24=some 92:=by kernel_rfl
@[go_sem] theorem zbk:zAU Tryz.prog 24=true:=by kernel_rfl
@[go_sem] theorem zjP:szT Tryz.prog 25=1:=by kernel_rfl
@[go_sem] theorem zjQ:agT Tryz.prog 25=some false:=by kernel_rfl
@[go_sem] theorem zVk:qL Tryz.prog 25=some 135:=by kernel_rfl
@[go_sem] theorem zjR:szT Tryz.prog 27=4:=by kernel_rfl
@[go_sem] theorem zc0:agT Tryz.prog 27=some true:=by kernel_rfl
@[go_sem] theorem zY4:zm Tryz.prog 27 0=some (0,22):=by kernel_rfl
@[go_sem] theorem zY5:zm Tryz.prog 27 1=some (1,23):=by kernel_rfl
@[go_sem] theorem zY6:zm Tryz.prog 27 2=some (2,24):=by kernel_rfl
@[go_sem] theorem zY7:zm Tryz.prog 27 3=some (3,25):=by kernel_rfl
@[go_sem] theorem zjS:szT Tryz.prog 29=1:=by kernel_rfl
@[go_sem] theorem zc1:agT Tryz.prog 29=some false:=by kernel_rfl
@[go_sem] theorem zDn:qL Tryz.prog 29=some 87:=by kernel_rfl
@[go_sem] theorem zbl:zAU Tryz.prog 29=true:=by kernel_rfl
@[go_sem] theorem zc2:agT Tryz.prog 30=some false:=by kernel_rfl
@[go_sem] theorem zjT:szT Tryz.prog 31=1:=by kernel_rfl
@[go_sem] theorem zjU:agT Tryz.prog 31=some false:=by kernel_rfl
@[go_sem] theorem yM:qL Tryz.prog 31=some 3:=by kernel_rfl
@[go_sem] theorem zbm:zAU Tryz.prog 31=true:=by kernel_rfl
@[go_sem] theorem zN7:zJH Tryz.prog 31=none:=by kernel_rfl
@[go_sem] theorem zBj:szT Tryz.prog 33=2:=by kernel_rfl
@[go_sem] theorem zjV:agT Tryz.prog 33=some true:=by kernel_rfl
@[go_sem] theorem zG9:qV Tryz.prog 33=some (.agg [(.int .i64 0), .nilsl]):=by kernel_rfl
@[go_sem] theorem zY8:zGi Tryz.prog 33=true:=by kernel_rfl
@[go_sem] theorem zSj:yR Tryz.prog 33=32:=by kernel_rfl
@[go_sem] theorem zJi:zA3 Tryz.prog 33=some [(0,1),(1,1)]:=by kernel_rfl
@[go_sem] theorem zY9:zm Tryz.prog 33 0=some (0,3):=by kernel_rfl
@[go_sem] theorem zZA:zm Tryz.prog 33 1=some (1,31):=by kernel_rfl
@[go_sem] theorem zJj:szT Tryz.prog 36=1:=by kernel_rfl
@[go_sem] theorem zjW:agT Tryz.prog 36=some false:=by kernel_rfl
@[go_sem] theorem zgC:qV Tryz.prog 36=some (.int .i64 0):=by kernel_rfl
@[go_sem] theorem zJk:szT Tryz.prog 39=1:=by kernel_rfl
@[go_sem] theorem zjX:agT Tryz.prog 39=some false:=by kernel_rfl
@[go_sem] theorem zVl:qV Tryz.prog 39=some .nilsl:=by kernel_rfl
@[go_sem] theorem wW:qL Tryz.prog 39=some 62:=by kernel_rfl
@[go_sem] theorem zbn:zAU Tryz.prog 39=true:=by kernel_rfl
@[go_sem] theorem zZB:zGi Tryz.prog 39=true:=by kernel_rfl
@[go_sem] theorem zSk:yR Tryz.prog 39=24:=by kernel_rfl
@[go_sem] theorem zPT:szT Tryz.prog 40=1:=by kernel_rfl
@[go_sem] theorem zjY:agT Tryz.prog 40=some false:=by kernel_rfl
@[go_sem] theorem yq:qL Tryz.prog 40=some 9:=by kernel_rfl
@[go_sem] theorem zbo:zAU Tryz.prog 40=true:=by kernel_rfl
@[go_sem] theorem zZC:zJH Tryz.prog 40=none:=by kernel_rfl
@[go_sem] theorem zJl:szT Tryz.prog 42=2:=by kernel_rfl
@[go_sem] theorem zjZ:agT Tryz.prog 42=some true:=by kernel_rfl
@[go_sem] theorem zVm:qV Tryz.prog 42=some (.agg [.nilsl, .nilsl]):=by kernel_rfl
@[go_sem] theorem zQ9:zA3 Tryz.prog 42=some [(0,1),(1,1)]:=by kernel_rfl
@[go_sem] theorem zZD:zm Tryz.prog 42 0=some (0,39):=by kernel_rfl
@[go_sem] theorem zZE:zm Tryz.prog 42 1=some (1,40):=by kernel_rfl
@[go_sem] theorem zc3:szT Tryz.prog 45=1:=by kernel_rfl
@[go_sem] theorem zja:agT Tryz.prog 45=some false:=by kernel_rfl
@[go_sem] theorem zgD:qV Tryz.prog 45=some .nilsl:=by kernel_rfl
@[go_sem] theorem wt:qL Tryz.prog 45=some 33:=by kernel_rfl
@[go_sem] theorem zbp:zAU Tryz.prog 45=true:=by kernel_rfl
@[go_sem] theorem zN8:zJH Tryz.prog 45=none:=by kernel_rfl
@[go_sem] theorem zBk:szT Tryz.prog 62=1:=by kernel_rfl
@[go_sem] theorem zjb:agT Tryz.prog 62=some false:=by kernel_rfl
@[go_sem] theorem zKs:qV Tryz.prog 62=some .nilsl:=by kernel_rfl
@[go_sem] theorem qD:qL Tryz.prog 62=some 79:=by kernel_rfl
@[go_sem] theorem zbq:zAU Tryz.prog 62=true:=by kernel_rfl
@[go_sem] theorem zER:zGi Tryz.prog 62=true:=by kernel_rfl
@[go_sem] theorem zBl:yR Tryz.prog 62=24:=by kernel_rfl
@[go_sem] theorem zHs:zJH Tryz.prog 62=none:=by kernel_rfl
@[go_sem] theorem zjc:szT Tryz.prog 65=1:=by kernel_rfl
@[go_sem] theorem zjd:agT Tryz.prog 65=some false:=by kernel_rfl
@[go_sem] theorem zKt:qL Tryz.prog 65=some 39:=by kernel_rfl
@[go_sem] theorem zbr:zAU Tryz.prog 65=true:=by kernel_rfl
@[go_sem] theorem wP:szT Tryz.prog 79=2:=by kernel_rfl
@[go_sem] theorem zje:agT Tryz.prog 79=some true:=by kernel_rfl
@[go_sem] theorem zB0:qV Tryz.prog 79=some (.agg [(.str []),(.str [])]):=by kernel_rfl
@[go_sem] theorem zN9:zGi Tryz.prog 79=true:=by kernel_rfl
@[go_sem] theorem zE6:yR Tryz.prog 79=32:=by kernel_rfl
@[go_sem] theorem zFw:zA3 Tryz.prog 79=some [(0,1),(1,1)]:=by kernel_rfl
@[go_sem] theorem zZF:zm Tryz.prog 79 0=some (0,9):=by kernel_rfl
@[go_sem] theorem zZG:zm Tryz.prog 79 1=some (1,9):=by kernel_rfl
@[go_sem] theorem zjf:szT Tryz.prog 83=1:=by kernel_rfl
@[go_sem] theorem zjg:agT Tryz.prog 83=some false:=by kernel_rfl
@[go_sem] theorem zVn:qL Tryz.prog 83=some 85:=by kernel_rfl
@[go_sem] theorem zSl:szT Tryz.prog 85=4:=by kernel_rfl
@[go_sem] theorem zjh:agT Tryz.prog 85=some true:=by kernel_rfl
@[go_sem] theorem zgE:qV Tryz.prog 85=some (.agg [(.int .i64 0),(.str []),(.str []), .nilsl]):=by kernel_rfl
@[go_sem] theorem zZH:zm Tryz.prog 85 0=some (0,3):=by kernel_rfl
@[go_sem] theorem zZI:zm Tryz.prog 85 1=some (1,9):=by kernel_rfl
@[go_sem] theorem zZJ:zm Tryz.prog 85 2=some (2,9):=by kernel_rfl
@[go_sem] theorem zZK:zm Tryz.prog 85 3=some (3,83):=by kernel_rfl
@[go_sem] theorem zGT:szT Tryz.prog 87=12:=by kernel_rfl
@[go_sem] theorem zji:agT Tryz.prog 87=some true:=by kernel_rfl
@[go_sem] theorem zVo:qV Tryz.prog 87=some (.agg [(.int .i64 0),(.str []),(.str []),(.int .i64 0),(.int .i64 0),(.int .i64 0),(.bool false),(.int .i64 0),(.str []),(.str []), .nilsl, .nilsl]):=by kernel_rfl
@[go_sem] theorem zKu:zGi Tryz.prog 87=true:=by kernel_rfl
@[go_sem] theorem zE7:yR Tryz.prog 87=160:=by kernel_rfl
@[go_sem] theorem zZL:zm Tryz.prog 87 0=some (0,3):=by kernel_rfl
@[go_sem] theorem zZM:zm Tryz.prog 87 1=some (1,9):=by kernel_rfl
@[go_sem] theorem zZN:zm Tryz.prog 87 2=some (2,9):=by kernel_rfl
@[go_sem] theorem zZO:zm Tryz.prog 87 3=some (3,3):=by kernel_rfl
@[go_sem] theorem zZP:zm Tryz.prog 87 4=some (4,3):=by kernel_rfl
@[go_sem] theorem zZQ:zm Tryz.prog 87 5=some (5,3):=by kernel_rfl
@[go_sem] theorem zZR:zm Tryz.prog 87 6=some (6,4):=by kernel_rfl
@[go_sem] theorem zZS:zm Tryz.prog 87 7=some (7,85):=by kernel_rfl
@[go_sem] theorem zZT:zm Tryz.prog 87 8=some (11,40):=by kernel_rfl
@[go_sem] theorem zjj:agT Tryz.prog 88=some false:=by kernel_rfl
@[go_sem] theorem zGU:szT Tryz.prog 92=5:=by kernel_rfl
@[go_sem] theorem zjk:agT Tryz.prog 92=some true:=by kernel_rfl
@[go_sem] theorem zVp:qV Tryz.prog 92=some (.agg [(.str []),(.int .i64 0),(.int .i64 0),(.int .i64 0), .nilsl]):=by kernel_rfl
@[go_sem] theorem zZU:zGi Tryz.prog 92=true:=by kernel_rfl
@[go_sem] theorem zSm:yR Tryz.prog 92=64:=by kernel_rfl
@[go_sem] theorem zZV:zm Tryz.prog 92 0=some (0,9):=by kernel_rfl
@[go_sem] theorem zZW:zm Tryz.prog 92 1=some (1,3):=by kernel_rfl
@[go_sem] theorem zZX:zm Tryz.prog 92 2=some (2,3):=by kernel_rfl
@[go_sem] theorem zZY:zm Tryz.prog 92 3=some (3,3):=by kernel_rfl
@[go_sem] theorem zZZ:zm Tryz.prog 92 4=some (4,40):=by kernel_rfl
@[go_sem] theorem zGV:szT Tryz.prog 95=6:=by kernel_rfl
@[go_sem] theorem zXd:agT Tryz.prog 95=some true:=by kernel_rfl
@[go_sem] theorem zPU:qV Tryz.prog 95=some (.agg [.nilsl, .nilsl, .nilsl, .nilsl, .nilsl, .nilsl]):=by kernel_rfl
@[go_sem] theorem zJm:zA3 Tryz.prog 95=some [(0,1),(1,1),(2,4)]:=by kernel_rfl
@[go_sem] theorem zZa:zm Tryz.prog 95 0=some (0,65):=by kernel_rfl
@[go_sem] theorem zZb:zm Tryz.prog 95 1=some (1,40):=by kernel_rfl
@[go_sem] theorem zZc:zm Tryz.prog 95 2=some (2,27):=by kernel_rfl
@[go_sem] theorem zg0:agT Tryz.prog 101=some false:=by kernel_rfl
@[go_sem] theorem zCc:szT Tryz.prog 124=4:=by kernel_rfl
@[go_sem] theorem zg1:agT Tryz.prog 124=some true:=by kernel_rfl
@[go_sem] theorem zHt:qV Tryz.prog 124=some (.agg [(.str []),(.str []),(.int .i64 0),(.str [])]):=by kernel_rfl
@[go_sem] theorem zVq:zGi Tryz.prog 124=true:=by kernel_rfl
@[go_sem] theorem zRA:yR Tryz.prog 124=56:=by kernel_rfl
@[go_sem] theorem zHu:zA3 Tryz.prog 124=some [(0,1),(1,1),(2,1),(3,1)]:=by kernel_rfl
@[go_sem] theorem zXe:zm Tryz.prog 124 0=some (0,9):=by kernel_rfl
@[go_sem] theorem zXf:zm Tryz.prog 124 1=some (1,9):=by kernel_rfl
@[go_sem] theorem zXg:zm Tryz.prog 124 2=some (2,3):=by kernel_rfl
@[go_sem] theorem zXh:zm Tryz.prog 124 3=some (3,9):=by kernel_rfl
@[go_sem] theorem zHv:szT Tryz.prog 129=3:=by kernel_rfl
@[go_sem] theorem zg2:agT Tryz.prog 129=some true:=by kernel_rfl
@[go_sem] theorem zc4:qV Tryz.prog 129=some (.agg [(.str []),(.str []), .nilsl]):=by kernel_rfl
@[go_sem] theorem zXi:zm Tryz.prog 129 0=some (0,9):=by kernel_rfl
@[go_sem] theorem zXj:zm Tryz.prog 129 1=some (1,9):=by kernel_rfl
@[go_sem] theorem zXk:zm Tryz.prog 129 2=some (2,31):=by kernel_rfl
@[go_sem] theorem zKv:szT Tryz.prog 135=2:=by kernel_rfl
@[go_sem] theorem zg3:agT Tryz.prog 135=some true:=by kernel_rfl
@[go_sem] theorem zSn:qV Tryz.prog 135=some (.agg [(.str []),(.str [])]):=by kernel_rfl
@[go_sem] theorem zOA:zA3 Tryz.prog 135=some [(0,1),(1,1)]:=by kernel_rfl
@[go_sem] theorem zXl:zm Tryz.prog 135 0=some (0,9):=by kernel_rfl
@[go_sem] theorem zXm:zm Tryz.prog 135 1=some (1,9):=by kernel_rfl
@[go_sem] theorem zg4:szT Tryz.prog 148=1:=by kernel_rfl
@[go_sem] theorem zg5:agT Tryz.prog 148=some false:=by kernel_rfl
@[go_sem] theorem zPV:zO5 Tryz.prog 148=some (3,62):=by kernel_rfl
@[go_sem] theorem zg6:szT Tryz.prog 149=1:=by kernel_rfl
@[go_sem] theorem zg7:agT Tryz.prog 149=some false:=by kernel_rfl
@[go_sem] theorem zPW:zO5 Tryz.prog 149=some (9,9):=by kernel_rfl
@[go_sem] theorem zSo:qV Tryz.prog 151=some (.agg [.nilsl, .nilsl, .nilsl, .nilsl, .nilsl, .nilmap, .nilmap]):=by kernel_rfl
@[go_sem] theorem zOB:zA3 Tryz.prog 151=some [(0,4),(4,1),(5,1),(6,1)]:=by kernel_rfl
@[go_sem] theorem zXn:zm Tryz.prog 151 0=some (0,27):=by kernel_rfl
@[go_sem] theorem zXo:zm Tryz.prog 151 1=some (4,29):=by kernel_rfl
@[go_sem] theorem zXp:zm Tryz.prog 151 2=some (5,148):=by kernel_rfl
@[go_sem] theorem zXq:zm Tryz.prog 151 3=some (6,149):=by kernel_rfl
@[go_sem] theorem zKw:zO5 Tryz.prog 175=some (9,3):=by kernel_rfl
@[go_sem] theorem zMO:qL Tryz.prog 186=some 190:=by kernel_rfl
@[go_sem] theorem zg8:szT Tryz.prog 188=1:=by kernel_rfl
@[go_sem] theorem zg9:agT Tryz.prog 188=some false:=by kernel_rfl
@[go_sem] theorem zOC:szT Tryz.prog 190=2:=by kernel_rfl
@[go_sem] theorem zhA:agT Tryz.prog 190=some true:=by kernel_rfl
@[go_sem] theorem zMP:qV Tryz.prog 190=some (.agg [(.int .i64 0), .nilfn]):=by kernel_rfl
@[go_sem] theorem zOD:zA3 Tryz.prog 190=some [(0,1),(1,1)]:=by kernel_rfl
@[go_sem] theorem zXr:zm Tryz.prog 190 0=some (0,3):=by kernel_rfl
@[go_sem] theorem zXs:zm Tryz.prog 190 1=some (1,188):=by kernel_rfl
@[go_sem] theorem zhB:agT Tryz.prog 193=some false:=by kernel_rfl
@[go_sem] theorem zSp:szT Tryz.prog 197=8:=by kernel_rfl
@[go_sem] theorem zhC:agT Tryz.prog 197=some true:=by kernel_rfl
@[go_sem] theorem zCK:qV Tryz.prog 197=some (.agg [(.bool false),(.bool false),(.bool false),(.bool false),(.bool false),(.bool false),(.bool false),(.bool false)]):=by kernel_rfl
@[go_sem] theorem zAf:zA3 Tryz.prog 197=some [(0,1),(1,1),(2,1),(3,1),(4,1),(5,1),(6,1),(7,1)]:=by kernel_rfl
@[go_sem] theorem zXt:zm Tryz.prog 197 0=some (0,4):=by kernel_rfl
@[go_sem] theorem zXu:zm Tryz.prog 197 1=some (1,4):=by kernel_rfl
@[go_sem] theorem zXv:zm Tryz.prog 197 2=some (2,4):=by kernel_rfl
@[go_sem] theorem zXw:zm Tryz.prog 197 3=some (3,4):=by kernel_rfl
@[go_sem] theorem zXx:zm Tryz.prog 197 4=some (4,4):=by kernel_rfl
@[go_sem] theorem zXy:zm Tryz.prog 197 5=some (5,4):=by kernel_rfl
@[go_sem] theorem zXz:zm Tryz.prog 197 6=some (6,4):=by kernel_rfl
@[go_sem] theorem zX0:zm Tryz.prog 197 7=some (7,4):=by kernel_rfl
@[go_sem] theorem zSq:qL Tryz.prog 233=some 5:=by kernel_rfl
@[go_sem] theorem zZd:szT Tryz.prog 242=1:=by kernel_rfl
@[go_sem] theorem zhD:agT Tryz.prog 242=some false:=by kernel_rfl
@[go_sem] theorem zc5:qV Tryz.prog 242=some .nilfn:=by kernel_rfl
@[go_sem] theorem zZe:szT Tryz.prog 270=3:=by kernel_rfl
@[go_sem] theorem zhE:agT Tryz.prog 270=some true:=by kernel_rfl
@[go_sem] theorem zSr:qV Tryz.prog 270=some (.agg [(.int .i64 0),(.int .i64 0),(.int .i64 0)]):=by kernel_rfl
@[go_sem] theorem zOE:zA3 Tryz.prog 270=some [(0,1),(1,1),(2,1)]:=by kernel_rfl
@[go_sem] theorem zX1:zm Tryz.prog 270 0=some (0,3):=by kernel_rfl
@[go_sem] theorem zX2:zm Tryz.prog 270 1=some (1,3):=by kernel_rfl
@[go_sem] theorem zX3:zm Tryz.prog 270 2=some (2,3):=by kernel_rfl
@[go_sem] theorem zhF:agT Tryz.prog 314=some false:=by kernel_rfl
end Go.V
