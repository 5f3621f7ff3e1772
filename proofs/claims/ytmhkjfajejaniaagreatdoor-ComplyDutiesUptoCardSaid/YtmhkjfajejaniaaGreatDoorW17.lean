/- A machine of abstract values for programs of the model, and its soundness, part 6. No condition. -/
import Derived.Test.YtmhkjfajejaniaaGreatDoorW03
import Derived.KernelRfl
import Derived.Test.YtmhkjfajejaniaaGreatDoorProg
set_option linter.all false
namespace Go.V
def onS (o:Option D) (k:D→Prop):Prop:=
 match o with
 |some d=>k d
 |none=>False
def onR (o:VR) (k:D→Heap→Prop):Prop:=
 match o with
 |some (d,h)=>k d h
 |none=>False
def onH (o:Option Heap) (k:Heap→Prop):Prop:=
 match o with
 |some h=>k h
 |none=>False
@[congr] theorem zcu {o o':Option D} {k:D→Prop} (h:o=o'):onS o k=onS o' k:=by rw[h]
@[congr] theorem zcv {o o':VR} {k:D→Heap→Prop} (h:o=o'):onR o k=onR o' k:=by rw[h]
@[congr] theorem zcw {o o':Option Heap} {k:Heap→Prop} (h:o=o'):onH o k=onH o' k:=by rw[h]
@[congr] theorem zZD {P:Program} {f:FuncId} {args args':List D} {h h':Heap} {K:D→Heap→Prop} (ha:args=args') (hh:h=h'):zA P f args h K=zA P f args' h' K:=by rw[ha,hh]
@[congr] theorem zXv {P:Program} {id:Nat} {args args':List D} {h h':Heap} {K:D→Heap→Prop} (ha:args=args') (hh:h=h'):yT P id args h K=yT P id args' h' K:=by rw[ha,hh]
@[congr] theorem zbp {P:Program} {f f':D} {args args':List D} {h h':Heap} {K:D→Heap→Prop} (hf:f=f') (ha:args=args') (hh:h=h'):zGU P f args h K=zGU P f' args' h' K:=by rw[hf,ha,hh]
@[go_sem ↓] theorem zf9 (d:D) (k:D→Prop):onS (some d) k=k d:=(rfl)
@[go_sem ↓] theorem zGu (d:D) (h:Heap) (k:D→Heap→Prop):onR (some (d,h)) k=k d h:=(rfl)
@[go_sem ↓] theorem zgA (h:Heap) (k:Heap→Prop):onH (some h) k=k h:=(rfl)
section rules
variable {P:Program} {g:Cfg} {n:Nat} {ro:Option Nat} {mu:Tmp→Bool} {ops:Array Oper} {rest:List Oper} {K:Frm→Heap→Prop} {fr:Frm} {h:Heap} {dst:Option Tmp} {ty:TypeId} {pos:String} {after:Array Edge} {gd:Option (Nat×Bool)} {Q:Exit→Frm→Heap→Prop}
 {m:Bool} {nid:Nat} {k:D→Heap→Prop}
@[go_sem ↓] theorem zKc (a b:Code):vwp P g n ro (.seq a b) Q fr h=vwp P g n ro a (zEF (vwp P g n ro b Q) Q) fr h:=(rfl)
@[go_sem ↓] theorem zbq (id:Nat) (l:List Oper):vwp P g n ro (.region id l.toArray false) Q fr h=zIj P g.mu l.toArray l (Q .normal) fr h:=(rfl)
theorem zPS (id:Nat) (ops:Array Oper):vwp P g n ro (.region id ops true) Q fr h= ∃h0,HLe h0 h∧zD0 P g.mu h0 (zVa P g.mu ops (g.dr id) (zGV ops.toList 0 [])) ops ((g.dr id).any (·.2.isSt)) (g.dr id) (Q .normal) fr h:=(rfl)
@[go_sem ↓] theorem zgB:vwp P g n ro .skip Q fr h=Q .normal fr h:=(rfl)
@[go_sem ↓] theorem zhD:vwp P g n ro .ret Q fr h=Q .ret fr h:=(rfl)
@[go_sem ↓] theorem zgC (i:Nat):vwp P g n ro (.exit i) Q fr h=Q (.exit i) fr h:=(rfl)
@[go_sem ↓] theorem zcx (id:Nat) (c:Code):vwp P g n ro (.block id c) Q fr h=vwp P g n ro c (zEh id Q) fr h:=(rfl)
def onB (d:D) (x y:Prop):Prop:=
 match d with
 | .bool b=>match b with
  |true=>x
  |false=>y
 |_=>False
@[go_sem ↓] theorem zgD (c:Operand) (a b:Code):vwp P g n ro (.cond c a b) Q fr h=onB (zw fr c) (vwp P g n ro a Q fr h) (vwp P g n ro b Q fr h):=by
 simp only[vwp];rfl
@[congr] theorem zcy {d d':D} {x y:Prop} (h:d=d'):onB d x y=onB d' x y:=by rw[h]
@[go_sem ↓] theorem zgE (x y:Prop):onB (.bool true) x y=x:=(rfl)
@[go_sem ↓] theorem zcz (x y:Prop):onB (.bool false) x y=y:=(rfl)
@[go_sem ↓] theorem zXw (Kn:Frm→Heap→Prop):zEF Kn Q .normal fr h=Kn fr h:=(rfl)
@[go_sem ↓] theorem zc0 (Kn:Frm→Heap→Prop):zEF Kn Q .ret fr h=Q .ret fr h:=(rfl)
@[go_sem ↓] theorem zbr (Kn:Frm→Heap→Prop) (i:Nat):zEF Kn Q (.exit i) fr h=Q (.exit i) fr h:=(rfl)
@[go_sem ↓] theorem zV0 (i:Nat):zEh i Q .normal fr h=Q .normal fr h:=(rfl)
@[go_sem ↓] theorem zbs (i:Nat):zEh i Q .ret fr h=Q .ret fr h:=(rfl)
@[go_sem ↓] theorem zZE (i j:Nat):zEh i Q (.exit j) fr h=if j=i then Q .normal fr h else Q (.exit j) fr h:=(rfl)
@[go_sem ↓] theorem zgF:zIj P mu ops [] K fr h=K fr h:=(rfl)
@[go_sem ↓] theorem zbt (op:Op):zIj P mu ops (⟨dst,op,ty,pos,after,none⟩ ::rest) K fr h=qy P (zF8 mu dst) h.next op (zw fr) h fun d h'=>zIj P mu ops rest K (zAr fr dst d) h':=(rfl)
def gif (g:Bool) (x y:Prop):Prop:=
 match g with
 |true=>x
 |false=>y
@[congr] theorem zc1 {g g':Bool} {x y:Prop} (h:g=g'):gif g x y=gif g' x y:=by rw[h]
@[go_sem ↓] theorem zgG (x y:Prop):gif true x y=x:=(rfl)
@[go_sem ↓] theorem zc2 (x y:Prop):gif false x y=y:=(rfl)
@[go_sem ↓] theorem zbu (op:Op) (j:Nat) (b:Bool):zIj P mu ops (⟨dst,op,ty,pos,after,some (j,b)⟩ ::rest) K fr h =
  gif (qE ops fr (some (j,b))) (qy P (zF8 mu dst) h.next op (zw fr) h fun d h'=>zIj P mu ops rest K (zAr fr dst d) h') (zIj P mu ops rest K (zAr fr dst wE) h):=by
 simp only[zIj,gif];cases qE ops fr (some (j,b))<;>rfl
@[go_sem ↓] theorem zgH (t:Tmp):zw fr (.tmp t)=fr t:=(rfl)
@[go_sem ↓] theorem zgI (k:IntKind) (n:Int):zw fr (.const (.int k n))= .int k n:=(rfl)
@[go_sem ↓] theorem zc3 (b:Bool):zw fr (.const (.bool b))= .bool b:=(rfl)
@[go_sem ↓] theorem zc4 (f:Nat):zw fr (.func f)= .fn (.func f) [] []:=(rfl)
@[go_sem ↓] theorem zgJ (s:ByteArray):zw fr (.const (.string s))= .str s.data.toList:=(rfl)
@[go_sem ↓] theorem zZF:zw fr (.const (.pointer none))= .nilptr:=(rfl)
@[go_sem ↓] theorem zbv:zw fr (.const (.slice none 0 0))= .nilsl:=(rfl)
@[go_sem ↓] theorem zZG:zw fr (.const (.map none))= .nilmap:=(rfl)
@[go_sem ↓] theorem zbw:zw fr (.const .nilFunc)= .nilfn:=(rfl)
@[go_sem ↓] theorem zc5 (t i:Tmp) (d:D):zAr fr (some t) d i=if i=t then d else fr i:=(rfl)
@[go_sem ↓] theorem zc6 (d:D):zAr fr none d=fr:=(rfl)
@[go_sem ↓] theorem zja (x:Operand):qy P m nid (.move x) (zw fr) h k=k (zw fr x) h:=(rfl)
@[go_sem ↓] theorem zgK (x:Operand):qy P m nid (.assign x) (zw fr) h k=k (zw fr x) h:=(rfl)
@[go_sem ↓] theorem zjb (f:Operand) (args:List Operand) (ats:Array TypeId):qy P m nid (.call ⟨.value f,args.toArray,ats⟩) (zw fr) h k=zGU P (zw fr f) (args.map (zw fr)) h k:=(rfl)
@[go_sem ↓] theorem zZH (f:FuncId) (a c args:List D):zGU P (.fn (.func f) a c) args h k=zA P f (a++args++c) h k:=(rfl)
@[go_sem ↓] theorem zgL (id:Nat) (args:List D):zGU P (.yld id) args h k=yT P id args h k:=(rfl)
theorem zAx {op:Op} {ev:Operand→D} {o:Option D} (h1:qM op=none) (h2:vop P m nid op ev h=o.map (·,h)):qy P m nid op ev h k=onS o (k · h):=by
 unfold qy;rw[h1,h2];cases o<;>rfl
theorem zSy {op:Op} {ev:Operand→D} {o:Option Heap} (h1:qM op=none) (h2:vop P m nid op ev h=o.map (wE,·)):qy P m nid op ev h k=onH o (k wE ·):=by
 unfold qy;rw[h1,h2];cases o<;>rfl
theorem zHf {op:Op} {ev:Operand→D} {o:VR} (h1:qM op=none) (h2:vop P m nid op ev h=o):qy P m nid op ev h k=onR o k:=by
 unfold qy;rw[h1,h2];cases o<;>rfl
@[go_sem ↓] theorem zk3 (op:BinOp) (t u:TypeId) (x y:Operand):qy P m nid (.binOp op t x y u) (zw fr) h k=onS (zCz P op t (isC x||isC y) (zw fr x) (zw fr y)) (k · h):=zAx rfl rfl
@[go_sem ↓] theorem zl7 (op:UnOp) (t:TypeId) (x:Operand):qy P m nid (.unOp op t x) (zw fr) h k=onS (vun op (zw fr x)) (k · h):=zAx rfl rfl
@[go_sem ↓] theorem zjc (c x y:Operand):qy P m nid (.pick c x y) (zw fr) h k=onB (zw fr c) (k (zw fr x) h) (k (zw fr y) h):=by
 simp only[qy,qM,vop,onB];cases zw fr c with
 |bool b=>cases b<;>rfl
 |_=>rfl
@[go_sem ↓] theorem zhE (t:TypeId):qy P m nid (.alloc t) (zw fr) h k=onR (vop P m nid (.alloc t) (zw fr) h) k:=zHf rfl rfl
@[go_sem ↓] theorem zk4 (t:TypeId) (x:Operand):qy P m nid (.box t x) (zw fr) h k=onR (vop P m nid (.box t x) (zw fr) h) k:=zHf rfl rfl
@[go_sem ↓] theorem zhF (t:TypeId) (ps:List (Nat×Operand)):qy P m nid (.build t ps.toArray) (zw fr) h k=onS (yC P t (ps.map fun p=>(p.1,zw fr p.2))) (k · h):=zAx rfl rfl
@[go_sem ↓] theorem zXx (t:TypeId) (n:Nat) (ps:List (Nat×Operand)):qy P m nid (.buildSlice t n ps.toArray) (zw fr) h k=onR (zK P m nid t n (ps.map fun p=>(p.1,zw fr p.2)) h) k:=zHf rfl rfl
@[go_sem ↓] theorem zjd (t:TypeId) (x:Operand):qy P m nid (.load t x) (zw fr) h k=onS (zA0 P t (zw fr x) h) (k · h):=zAx rfl rfl
@[go_sem ↓] theorem zhG (t:TypeId) (x y:Operand):qy P m nid (.store t x y) (zw fr) h k=onH (zQ P t (zw fr x) (zw fr y) h) (k wE ·):=zSy rfl rfl
@[go_sem ↓] theorem zbx (x:Operand):qy P m nid (.nilCheck x) (zw fr) h k=onS (zX (zw fr x)) (k · h):=zAx rfl rfl
@[go_sem ↓] theorem zc7 (s t:TypeId) (x:Operand):qy P m nid (.convert s t x) (zw fr) h k=onS (zEW P s t (zw fr x) h) (k · h):=zAx rfl rfl
@[go_sem ↓] theorem zby (P:Program) (s t:TypeId) (k:IntKind) (n:Int) (h:Heap):zEW P s t (.int k n) h=we P s t (.int k n):=(rfl)
@[go_sem ↓] theorem zbz (P:Program) (s t:TypeId) (x:List UInt8) (h:Heap):zEW P s t (.str x) h=we P s t (.str x):=(rfl)
@[go_sem ↓] theorem zb0 (f:FuncId) (a c:List Operand):qy P m nid (.makeFunc (.func f) a.toArray c.toArray) (zw fr) h k=k (.fn (.func f) (a.map (zw fr)) (c.map (zw fr))) h:=(rfl)
@[go_sem ↓] theorem zc8 (t:TypeId):qy P m nid (.makeMap t none) (zw fr) h k=k (.map nid) (h.new nid (.map [])):=(rfl)
@[go_sem ↓] theorem zZI (t:TypeId) (x y:Operand):qy P m nid (.makeSlice t x y) (zw fr) h k=onR (qZ P m nid t (zw fr x) (zw fr y) h) k:=zHf rfl rfl
@[go_sem ↓] theorem zhH (t:TypeId) (x:Operand) (lo hi mx:Option Operand):qy P m nid (.slice t x lo hi mx) (zw fr) h k=onS (yY P t (zw fr x) (lo.map (zw fr)) (hi.map (zw fr)) (mx.map (zw fr)) h) (k · h):=zAx rfl rfl
@[go_sem ↓] theorem zZJ (t:TypeId) (x:Operand) (f:Nat):qy P m nid (.fieldAddr t x f) (zw fr) h k=onS (zBB P t (zw fr x) f) (k · h):=zAx rfl rfl
@[go_sem ↓] theorem zZK (t:TypeId) (x i:Operand):qy P m nid (.indexAddr t x i) (zw fr) h k=onS (zT P t (zw fr x) (zw fr i)) (k · h):=zAx rfl rfl
@[go_sem ↓] theorem zhI (t:TypeId) (x i:Operand):qy P m nid (.index t x i) (zw fr) h k=onS (zBi P t (zw fr x) (zw fr i)) (k · h):=zAx rfl rfl
@[go_sem ↓] theorem zgM (t:TypeId) (x y:Operand) (ok:Bool):qy P m nid (.lookup t x y ok) (zw fr) h k=onS (yQ P t (zw fr x) (zw fr y) ok h) (k · h):=zAx rfl rfl
@[go_sem ↓] theorem zZL (t:TypeId) (x y z:Operand):qy P m nid (.mapUpdate t x y z) (zw fr) h k=onH (yJ P t (zw fr x) (zw fr y) (zw fr z) h) (k wE ·):=zSy rfl rfl
@[go_sem ↓] theorem zhJ (t:TypeId) (x:Operand):qy P m nid (.range t x) (zw fr) h k=onR (zF2 P nid t (zw fr x) h) k:=zHf rfl rfl
@[go_sem ↓] theorem zje (x:Operand) (b:Bool):qy P m nid (.next x b) (zw fr) h k=onR (zIm (zw fr x) b h) k:=zHf rfl rfl
@[go_sem ↓] theorem zc9 (x:Operand) (i:Nat):qy P m nid (.extract x i) (zw fr) h k=onS (zBj (zw fr x) i) (k · h):=zAx rfl rfl
@[go_sem ↓] theorem zk5 (t:TypeId) (x:Operand):qy P m nid (.call ⟨.builtin .len,#[x],#[t]⟩) (zw fr) h k=onS (zCr P t (zw fr x) h) (k · h):=zAx rfl rfl
@[go_sem ↓] theorem zgN (t u:TypeId) (x y:Operand):qy P m nid (.call ⟨.builtin .append,#[x,y],#[t,u]⟩) (zw fr) h k=onR (if zAN P u then zA1 P m nid t (zw fr x) (zw fr y) h else zA2 P m nid t u (zw fr x) (zw fr y) h) k:=zHf rfl rfl
@[go_sem ↓] theorem zb1 (t:TypeId) (s x:D):zA1 P false nid t s x h=z8 P false nid t s x h:=(rfl)
@[go_sem ↓] theorem zb2 (t:TypeId) (s x:D):zA1 P true nid t s x h=z8 P true nid t s x (qi s x h):=(rfl)
@[go_sem ↓] theorem zb3 (sz:Nat) (xs:List (List D)) (tk:Tk) (x:D):qi (.sl sz xs tk) x h=h:=(rfl)
@[go_sem ↓] theorem zk6 (ats:Array TypeId) (x y:Operand):qy P m nid (.call ⟨.builtin .min,#[x,y],ats⟩) (zw fr) h k=onS (zSG (zw fr x) (zw fr y)) (k · h):=zAx rfl rfl
@[go_sem ↓] theorem zk7 (x y:Operand) (ats:Array TypeId):qy P m nid (.call ⟨.builtin .max,#[x,y],ats⟩) (zw fr) h k=onS (zVj (zw fr x) (zw fr y)) (k · h):=by
 refine zAx rfl ?_;simp only[vop,zA3,zNi,List.map_cons,List.map_nil];cases zVj (zw fr x) (zw fr y)<;>rfl
@[go_sem ↓] theorem zb4 (d:D) (ds:List D):zKP (d::ds) 0=d:=(rfl)
@[go_sem ↓] theorem zb5 (d:D) (ds:List D) (i:Nat):zKP (d::ds) (i+1)=zKP ds i:=(rfl)
def onL (o:Option (List D)) (k:List D→Prop):Prop:=
 match o with
 |some ds=>k ds
 |none=>False
@[go_sem ↓] theorem zgO (rs:List ResultVar) (q:D→Heap→Prop):zXr P rs q .ret fr h=onL (zBP P fr h rs) fun ds=>q (zFY ds) h:=by
 unfold zXr onL;cases zBP P fr h rs<;>simp
@[go_sem ↓] theorem zZM (rs:List ResultVar) (q:D→Heap→Prop):zXr P rs q .normal fr h=onL (zBP P fr h rs) fun ds=>q (zFY ds) h:=by
 unfold zXr onL;cases zBP P fr h rs<;>simp
@[go_sem ↓] theorem zdA (k:List D→Prop):onL (zBP P fr h []) k=k []:=(rfl)
@[go_sem ↓] theorem zdB (t:Tmp) (rs:List ResultVar) (k:List D→Prop):onL (zBP P fr h (.tmp t::rs)) k=onL (zBP P fr h rs) fun ds=>k (fr t::ds):=by
 simp only[zBP,zSk];cases zBP P fr h rs<;>rfl
@[go_sem ↓] theorem zb6 (a:Tmp) (t:TypeId) (rs:List ResultVar) (k:List D→Prop):onL (zBP P fr h (.cell a t::rs)) k=onS (zA0 P t (fr a) h) fun d=>onL (zBP P fr h rs) fun ds=>k (d::ds):=by
 simp only[zBP,zSk];cases zA0 P t (fr a) h with
 |none=>rfl
 |some d=>cases zBP P fr h rs<;>rfl
@[go_sem ↓] theorem zdC (d:D):zFY [d]=d:=(rfl)
@[go_sem ↓] theorem zdD (d d':D) (ds:List D):zFY (d::d'::ds)= .tuple (d::d'::ds):=(rfl)
@[go_sem ↓] theorem zdE:zFY []= .tuple []:=(rfl)
end rules
def zf (sz:Nat) (xs:List (List D)) (d:D):Prop:=(d= .nilsl∧xs= [])∨∃tk,d= .sl sz xs tk
section
variable {P:Program} {sz:Nat} {xs:List (List D)} {d:D} {t e:TypeId} {h:Heap}
theorem zf.mk (tk:Tk):zf sz xs (.sl sz xs tk):= .inr ⟨tk,rfl⟩
theorem zf.nil:zf sz [] .nilsl:= .inl ⟨rfl,rfl⟩
theorem yo (hd:zf sz xs d) (hu:P.underlying t=some (.slice e)):zCr P t d h=some (.int .i64 xs.length):=by
 rcases hd with⟨rfl,rfl⟩ | ⟨tk,rfl⟩ <;>simp[zCr,hu]
theorem zY (hd:zf sz xs d) (he:qC P t=some e) (hz:szT P e=sz) {k:IntKind} {i:Nat} {x:List D} (hx:xs[i]? =some x):zT P t d (.int k i)=some (.iptr x 0):=by
 rcases hd with⟨rfl,rfl⟩ | ⟨tk,rfl⟩
 ·simp at hx
 ·simp[zT,he,hz,hx]
end
@[go_sem ↓] theorem zgP (P:Program) (op:BinOp) (t:TypeId) (c:Bool) (k k':IntKind) (a b:Int):zCz P op t c (.int k a) (.int k' b)=wx op k k' a b:=(rfl)
@[go_sem ↓] theorem zgQ (P:Program) (op:BinOp) (t:TypeId) (c:Bool) (a b:List UInt8):zCz P op t c (.str a) (.str b)=zVZ op a b:=(rfl)
@[go_sem ↓] theorem zdF (k:IntKind) (a b:Int):wx .add k k a b=some (.int k (k.wrap (a+b))):=by simp[wx,zLm]
@[go_sem ↓] theorem zdG (k:IntKind) (a b:Int):wx .sub k k a b=some (.int k (k.wrap (a-b))):=by simp[wx,zLm]
@[go_sem ↓] theorem zdH (k:IntKind) (a b:Int):wx .mul k k a b=some (.int k (k.wrap (a*b))):=by simp[wx,zLm]
@[go_sem ↓] theorem zdI (k:IntKind) (a b:Int):wx .lss k k a b=some (.bool (decide (a<b))):=by simp[wx,zLm]
@[go_sem ↓] theorem zdJ (k:IntKind) (a b:Int):wx .leq k k a b=some (.bool (decide (a≤b))):=by simp[wx,zLm]
@[go_sem ↓] theorem zdK (k:IntKind) (a b:Int):wx .gtr k k a b=some (.bool (decide (a>b))):=by simp[wx,zLm]
@[go_sem ↓] theorem zdL (k:IntKind) (a b:Int):wx .geq k k a b=some (.bool (decide (a≥b))):=by simp[wx,zLm]
@[go_sem ↓] theorem zdM (k:IntKind) (a b:Int):wx .eql k k a b=some (.bool (a==b)):=by simp[wx,zLm]
@[go_sem ↓] theorem zdN (k:IntKind) (a b:Int):wx .neq k k a b=some (.bool (a !=b)):=by simp[wx,zLm]
@[go_sem ↓] theorem zgR (a b:List UInt8):zVZ .eql a b=some (.bool (a==b)):=(rfl)
@[go_sem ↓] theorem zgS (a b:List UInt8):zVZ .neq a b=some (.bool (!(a==b))):=(rfl)
@[go_sem ↓] theorem zgT (a b:List UInt8):zVZ .lss a b=some (.bool (zIi a b)):=(rfl)
@[go_sem ↓] theorem zb7 (P:Program) (t:TypeId) (cs:List D) (off:Nat) (h:Heap):zA0 P t (.iptr cs off) h=(match agT P t with
 |none=>none
 |some ag=>zO ag (szT P t) cs off):=(rfl)
@[go_sem ↓] theorem zBU (n:Nat) (cs:List D) (off:Nat):zO false n cs off=cs[off]? :=(rfl)
theorem zPT {P:Program} {g:Cfg} {n:Nat} {ro:Option Nat} {c:Code} {Q:Exit→Frm→Heap→Prop} {fr:Frm} {h:Heap} (I:Nat→Frm→Heap→Prop) (k:Nat) (hI:I k fr h)
  (hr:∀k fr h,I k fr h→vwp P g n ro c (zEF (fun fr h=>∃m,m<k∧I m fr h) Q) fr h):vwp P g n ro (.loop c) Q fr h:=⟨I,⟨k,hI⟩,hr⟩
open Go.Proofs
@[go_sem] theorem wP:szT Tryz.prog 3=1:=by kernel_rfl
@[go_sem] theorem zk8:agT Tryz.prog 3=some false:=by kernel_rfl
@[go_sem] theorem zAW:qD Tryz.prog 3=some (.int .i64 0):=by kernel_rfl
@[go_sem] theorem zdO:zAN Tryz.prog 3=false:=by kernel_rfl
@[go_sem] theorem zSz:zGk Tryz.prog 3=true:=by kernel_rfl
@[go_sem] theorem zGv:yL Tryz.prog 3=8:=by kernel_rfl
@[go_sem] theorem zXy:zNh Tryz.prog 3=some (false,[.i]):=by kernel_rfl
@[go_sem] theorem zdP:szT Tryz.prog 4=1:=by kernel_rfl
@[go_sem] theorem zk9:agT Tryz.prog 4=some false:=by kernel_rfl
@[go_sem] theorem zZN:qD Tryz.prog 4=some (.bool false):=by kernel_rfl
@[go_sem] theorem zhK:szT Tryz.prog 5=1:=by kernel_rfl
@[go_sem] theorem zlA:agT Tryz.prog 5=some false:=by kernel_rfl
@[go_sem] theorem zBg:szT Tryz.prog 9=1:=by kernel_rfl
@[go_sem] theorem zlB:agT Tryz.prog 9=some false:=by kernel_rfl
@[go_sem] theorem zHg:qD Tryz.prog 9=some (.str []):=by kernel_rfl
@[go_sem] theorem zJV:zGk Tryz.prog 9=true:=by kernel_rfl
@[go_sem] theorem zCR:yL Tryz.prog 9=16:=by kernel_rfl
@[go_sem] theorem zPU:zI5 Tryz.prog 9=none:=by kernel_rfl
@[go_sem] theorem zMI:zNh Tryz.prog 9=some (false,[.s]):=by kernel_rfl
@[go_sem] theorem zjf:szT Tryz.prog 22=1:=by kernel_rfl
@[go_sem] theorem zjg:agT Tryz.prog 22=some false:=by kernel_rfl
@[go_sem] theorem zEr:qC Tryz.prog 22=some 124:=by kernel_rfl
@[go_sem] theorem zb8:zAN Tryz.prog 22=true:=by kernel_rfl
@[go_sem] theorem zZO:zI5 Tryz.prog 22=none:=by kernel_rfl
@[go_sem] theorem zjh:szT Tryz.prog 23=1:=by kernel_rfl
@[go_sem] theorem zji:agT Tryz.prog 23=some false:=by kernel_rfl
@[go_sem] theorem zV1:qC Tryz.prog 23=some 129:=by kernel_rfl
@[go_sem] theorem zjj:szT Tryz.prog 24=1:=by kernel_rfl
@[go_sem] theorem zjk:agT Tryz.prog 24=some false:=by kernel_rfl
@[go_sem] theorem zKd:qC Tryz.prog 24=some 92:=by kernel_rfl
@[go_sem] theorem zb9:zAN Tryz.prog 24=true:=by kernel_rfl
@[go_sem] theorem zjl:szT Tryz.prog 25=1:=by kernel_rfl
@[go_sem] theorem zjm:agT Tryz.prog 25=some false:=by kernel_rfl
@[go_sem] theorem zV2:qC Tryz.prog 25=some 135:=by kernel_rfl
@[go_sem] theorem zjn:szT Tryz.prog 27=4:=by kernel_rfl
@[go_sem] theorem zdQ:agT Tryz.prog 27=some true:=by kernel_rfl
@[go_sem] theorem zZP:zl Tryz.prog 27 0=some (0,22):=by kernel_rfl
@[go_sem] theorem zZQ:zl Tryz.prog 27 1=some (1,23):=by kernel_rfl
@[go_sem] theorem zZR:zl Tryz.prog 27 2=some (2,24):=by kernel_rfl
@[go_sem] theorem zZS:zl Tryz.prog 27 3=some (3,25):=by kernel_rfl
@[go_sem] theorem zjo:szT Tryz.prog 29=1:=by kernel_rfl
@[go_sem] theorem zdR:agT Tryz.prog 29=some false:=by kernel_rfl
@[go_sem] theorem zV3:qC Tryz.prog 29=some 87:=by kernel_rfl
@[go_sem] theorem zdS:agT Tryz.prog 30=some false:=by kernel_rfl
@[go_sem] theorem zjp:szT Tryz.prog 31=1:=by kernel_rfl
@[go_sem] theorem zjq:agT Tryz.prog 31=some false:=by kernel_rfl
@[go_sem] theorem yG:qC Tryz.prog 31=some 3:=by kernel_rfl
@[go_sem] theorem zcA:zAN Tryz.prog 31=true:=by kernel_rfl
@[go_sem] theorem zN6:zI5 Tryz.prog 31=none:=by kernel_rfl
@[go_sem] theorem zAB:szT Tryz.prog 33=2:=by kernel_rfl
@[go_sem] theorem zjr:agT Tryz.prog 33=some true:=by kernel_rfl
@[go_sem] theorem zEs:qD Tryz.prog 33=some (.agg [(.int .i64 0), .nilsl]):=by kernel_rfl
@[go_sem] theorem zZT:zGk Tryz.prog 33=true:=by kernel_rfl
@[go_sem] theorem zS0:yL Tryz.prog 33=32:=by kernel_rfl
@[go_sem] theorem zFh:zAL Tryz.prog 33=some [(0,1),(1,1)]:=by kernel_rfl
@[go_sem] theorem zZU:zl Tryz.prog 33 0=some (0,3):=by kernel_rfl
@[go_sem] theorem zZV:zl Tryz.prog 33 1=some (1,31):=by kernel_rfl
@[go_sem] theorem zJW:szT Tryz.prog 36=1:=by kernel_rfl
@[go_sem] theorem zjs:agT Tryz.prog 36=some false:=by kernel_rfl
@[go_sem] theorem zgU:qD Tryz.prog 36=some (.int .i64 0):=by kernel_rfl
@[go_sem] theorem zMJ:szT Tryz.prog 39=1:=by kernel_rfl
@[go_sem] theorem zjt:agT Tryz.prog 39=some false:=by kernel_rfl
@[go_sem] theorem zV4:qD Tryz.prog 39=some .nilsl:=by kernel_rfl
@[go_sem] theorem wi:qC Tryz.prog 39=some 62:=by kernel_rfl
@[go_sem] theorem zcB:zAN Tryz.prog 39=true:=by kernel_rfl
@[go_sem] theorem zZW:zGk Tryz.prog 39=true:=by kernel_rfl
@[go_sem] theorem zS1:yL Tryz.prog 39=24:=by kernel_rfl
@[go_sem] theorem zXz:szT Tryz.prog 40=1:=by kernel_rfl
@[go_sem] theorem zju:agT Tryz.prog 40=some false:=by kernel_rfl
@[go_sem] theorem qQ:qC Tryz.prog 40=some 9:=by kernel_rfl
@[go_sem] theorem zcC:zAN Tryz.prog 40=true:=by kernel_rfl
@[go_sem] theorem zZX:zI5 Tryz.prog 40=none:=by kernel_rfl
@[go_sem] theorem zPV:szT Tryz.prog 42=2:=by kernel_rfl
@[go_sem] theorem zjv:agT Tryz.prog 42=some true:=by kernel_rfl
@[go_sem] theorem zV5:qD Tryz.prog 42=some (.agg [.nilsl, .nilsl]):=by kernel_rfl
@[go_sem] theorem zRK:zAL Tryz.prog 42=some [(0,1),(1,1)]:=by kernel_rfl
@[go_sem] theorem zZY:zl Tryz.prog 42 0=some (0,39):=by kernel_rfl
@[go_sem] theorem zZZ:zl Tryz.prog 42 1=some (1,40):=by kernel_rfl
@[go_sem] theorem zdT:szT Tryz.prog 45=1:=by kernel_rfl
@[go_sem] theorem zjw:agT Tryz.prog 45=some false:=by kernel_rfl
@[go_sem] theorem zgV:qD Tryz.prog 45=some .nilsl:=by kernel_rfl
@[go_sem] theorem wj:qC Tryz.prog 45=some 33:=by kernel_rfl
@[go_sem] theorem zcD:zAN Tryz.prog 45=true:=by kernel_rfl
@[go_sem] theorem zN7:zI5 Tryz.prog 45=none:=by kernel_rfl
@[go_sem] theorem zBV:szT Tryz.prog 62=1:=by kernel_rfl
@[go_sem] theorem zjx:agT Tryz.prog 62=some false:=by kernel_rfl
@[go_sem] theorem zKe:qD Tryz.prog 62=some .nilsl:=by kernel_rfl
@[go_sem] theorem yu:qC Tryz.prog 62=some 79:=by kernel_rfl
@[go_sem] theorem zcE:zAN Tryz.prog 62=true:=by kernel_rfl
@[go_sem] theorem zFi:zGk Tryz.prog 62=true:=by kernel_rfl
@[go_sem] theorem zB7:yL Tryz.prog 62=24:=by kernel_rfl
@[go_sem] theorem zHh:zI5 Tryz.prog 62=none:=by kernel_rfl
@[go_sem] theorem zjy:szT Tryz.prog 65=1:=by kernel_rfl
@[go_sem] theorem zjz:agT Tryz.prog 65=some false:=by kernel_rfl
@[go_sem] theorem zKf:qC Tryz.prog 65=some 39:=by kernel_rfl
@[go_sem] theorem zcF:zAN Tryz.prog 65=true:=by kernel_rfl
@[go_sem] theorem zdU:szT Tryz.prog 75=1:=by kernel_rfl
@[go_sem] theorem zj0:agT Tryz.prog 75=some false:=by kernel_rfl
@[go_sem] theorem zgW:qD Tryz.prog 75=some .nilsl:=by kernel_rfl
@[go_sem] theorem zKg:qC Tryz.prog 75=some 81:=by kernel_rfl
@[go_sem] theorem zcG:zAN Tryz.prog 75=true:=by kernel_rfl
@[go_sem] theorem qz:szT Tryz.prog 79=2:=by kernel_rfl
@[go_sem] theorem zj1:agT Tryz.prog 79=some true:=by kernel_rfl
@[go_sem] theorem zBm:qD Tryz.prog 79=some (.agg [(.str []),(.str [])]):=by kernel_rfl
@[go_sem] theorem zN8:zGk Tryz.prog 79=true:=by kernel_rfl
@[go_sem] theorem zEt:yL Tryz.prog 79=32:=by kernel_rfl
@[go_sem] theorem zFj:zAL Tryz.prog 79=some [(0,1),(1,1)]:=by kernel_rfl
@[go_sem] theorem zZa:zl Tryz.prog 79 0=some (0,9):=by kernel_rfl
@[go_sem] theorem zZb:zl Tryz.prog 79 1=some (1,9):=by kernel_rfl
@[go_sem] theorem zJX:szT Tryz.prog 81=7:=by kernel_rfl
@[go_sem] theorem zj2:agT Tryz.prog 81=some true:=by kernel_rfl
@[go_sem] theorem zPW:qD Tryz.prog 81=some (.agg [(.str []),(.str []),(.str []),(.str []),(.int .i64 0),(.int .i64 0),(.int .i64 0)]):=by kernel_rfl
@[go_sem] theorem zZc:zGk Tryz.prog 81=true:=by kernel_rfl
@[go_sem] theorem zS2:yL Tryz.prog 81=88:=by kernel_rfl
@[go_sem] theorem zS3:zNh Tryz.prog 81=some (true,[.s, .s, .s, .s, .i, .i, .i]):=by kernel_rfl
@[go_sem] theorem zRL:zAL Tryz.prog 81=some [(0,1),(1,1),(2,2),(4,1),(5,1),(6,1)]:=by kernel_rfl
@[go_sem] theorem zZd:zl Tryz.prog 81 1=some (1,9):=by kernel_rfl
@[go_sem] theorem zZe:zl Tryz.prog 81 5=some (6,3):=by kernel_rfl
@[go_sem] theorem zj3:szT Tryz.prog 83=1:=by kernel_rfl
@[go_sem] theorem zj4:agT Tryz.prog 83=some false:=by kernel_rfl
@[go_sem] theorem zV6:qC Tryz.prog 83=some 85:=by kernel_rfl
@[go_sem] theorem zS4:szT Tryz.prog 85=4:=by kernel_rfl
@[go_sem] theorem zj5:agT Tryz.prog 85=some true:=by kernel_rfl
@[go_sem] theorem zgX:qD Tryz.prog 85=some (.agg [(.int .i64 0),(.str []),(.str []), .nilsl]):=by kernel_rfl
@[go_sem] theorem zZf:zl Tryz.prog 85 0=some (0,3):=by kernel_rfl
@[go_sem] theorem zZg:zl Tryz.prog 85 1=some (1,9):=by kernel_rfl
@[go_sem] theorem zZh:zl Tryz.prog 85 2=some (2,9):=by kernel_rfl
@[go_sem] theorem zZi:zl Tryz.prog 85 3=some (3,83):=by kernel_rfl
@[go_sem] theorem zS5:szT Tryz.prog 87=12:=by kernel_rfl
@[go_sem] theorem zj6:agT Tryz.prog 87=some true:=by kernel_rfl
@[go_sem] theorem zgY:qD Tryz.prog 87=some (.agg [(.int .i64 0),(.str []),(.str []),(.int .i64 0),(.int .i64 0),(.int .i64 0),(.bool false),(.int .i64 0),(.str []),(.str []), .nilsl, .nilsl]):=by kernel_rfl
@[go_sem] theorem zZj:zl Tryz.prog 87 0=some (0,3):=by kernel_rfl
@[go_sem] theorem zZk:zl Tryz.prog 87 1=some (1,9):=by kernel_rfl
@[go_sem] theorem zZl:zl Tryz.prog 87 2=some (2,9):=by kernel_rfl
@[go_sem] theorem zZm:zl Tryz.prog 87 3=some (3,3):=by kernel_rfl
@[go_sem] theorem zZn:zl Tryz.prog 87 4=some (4,3):=by kernel_rfl
@[go_sem] theorem zZo:zl Tryz.prog 87 5=some (5,3):=by kernel_rfl
@[go_sem] theorem zZp:zl Tryz.prog 87 6=some (6,4):=by kernel_rfl
@[go_sem] theorem zZq:zl Tryz.prog 87 7=some (7,85):=by kernel_rfl
@[go_sem] theorem zZr:zl Tryz.prog 87 8=some (11,40):=by kernel_rfl
@[go_sem] theorem zj7:agT Tryz.prog 88=some false:=by kernel_rfl
@[go_sem] theorem zEu:szT Tryz.prog 92=5:=by kernel_rfl
@[go_sem] theorem zj8:agT Tryz.prog 92=some true:=by kernel_rfl
@[go_sem] theorem zV7:qD Tryz.prog 92=some (.agg [(.str []),(.int .i64 0),(.int .i64 0),(.int .i64 0), .nilsl]):=by kernel_rfl
@[go_sem] theorem zZs:zGk Tryz.prog 92=true:=by kernel_rfl
@[go_sem] theorem zS6:yL Tryz.prog 92=64:=by kernel_rfl
@[go_sem] theorem zZt:zl Tryz.prog 92 0=some (0,9):=by kernel_rfl
@[go_sem] theorem zZu:zl Tryz.prog 92 1=some (1,3):=by kernel_rfl
@[go_sem] theorem zZv:zl Tryz.prog 92 2=some (2,3):=by kernel_rfl
@[go_sem] theorem zZw:zl Tryz.prog 92 3=some (3,3):=by kernel_rfl
@[go_sem] theorem zZx:zl Tryz.prog 92 4=some (4,40):=by kernel_rfl
@[go_sem] theorem zGF:szT Tryz.prog 95=6:=by kernel_rfl
@[go_sem] theorem zX0:agT Tryz.prog 95=some true:=by kernel_rfl
@[go_sem] theorem zPX:qD Tryz.prog 95=some (.agg [.nilsl, .nilsl, .nilsl, .nilsl, .nilsl, .nilsl]):=by kernel_rfl
@[go_sem] theorem zJY:zAL Tryz.prog 95=some [(0,1),(1,1),(2,4)]:=by kernel_rfl
@[go_sem] theorem zZy:zl Tryz.prog 95 0=some (0,65):=by kernel_rfl
@[go_sem] theorem zZz:zl Tryz.prog 95 1=some (1,40):=by kernel_rfl
@[go_sem] theorem zZ0:zl Tryz.prog 95 2=some (2,27):=by kernel_rfl
@[go_sem] theorem zhL:agT Tryz.prog 101=some false:=by kernel_rfl
@[go_sem] theorem zZ1:szT Tryz.prog 112=1:=by kernel_rfl
@[go_sem] theorem zhM:agT Tryz.prog 112=some false:=by kernel_rfl
@[go_sem] theorem zdV:qD Tryz.prog 112=some .nilmap:=by kernel_rfl
@[go_sem] theorem zPY:zNg Tryz.prog 112=some (81,4):=by kernel_rfl
@[go_sem] theorem zCS:szT Tryz.prog 124=4:=by kernel_rfl
@[go_sem] theorem zhN:agT Tryz.prog 124=some true:=by kernel_rfl
@[go_sem] theorem zHi:qD Tryz.prog 124=some (.agg [(.str []),(.str []),(.int .i64 0),(.str [])]):=by kernel_rfl
@[go_sem] theorem zV8:zGk Tryz.prog 124=true:=by kernel_rfl
@[go_sem] theorem zRM:yL Tryz.prog 124=56:=by kernel_rfl
@[go_sem] theorem zHj:zAL Tryz.prog 124=some [(0,1),(1,1),(2,1),(3,1)]:=by kernel_rfl
@[go_sem] theorem zX1:zl Tryz.prog 124 0=some (0,9):=by kernel_rfl
@[go_sem] theorem zX2:zl Tryz.prog 124 1=some (1,9):=by kernel_rfl
@[go_sem] theorem zX3:zl Tryz.prog 124 2=some (2,3):=by kernel_rfl
@[go_sem] theorem zX4:zl Tryz.prog 124 3=some (3,9):=by kernel_rfl
@[go_sem] theorem zHk:szT Tryz.prog 129=3:=by kernel_rfl
@[go_sem] theorem zhO:agT Tryz.prog 129=some true:=by kernel_rfl
@[go_sem] theorem zdW:qD Tryz.prog 129=some (.agg [(.str []),(.str []), .nilsl]):=by kernel_rfl
@[go_sem] theorem zX5:zl Tryz.prog 129 0=some (0,9):=by kernel_rfl
@[go_sem] theorem zX6:zl Tryz.prog 129 1=some (1,9):=by kernel_rfl
@[go_sem] theorem zX7:zl Tryz.prog 129 2=some (2,31):=by kernel_rfl
@[go_sem] theorem zKh:szT Tryz.prog 135=2:=by kernel_rfl
@[go_sem] theorem zhP:agT Tryz.prog 135=some true:=by kernel_rfl
@[go_sem] theorem zS7:qD Tryz.prog 135=some (.agg [(.str []),(.str [])]):=by kernel_rfl
@[go_sem] theorem zN9:zAL Tryz.prog 135=some [(0,1),(1,1)]:=by kernel_rfl
@[go_sem] theorem zX8:zl Tryz.prog 135 0=some (0,9):=by kernel_rfl
@[go_sem] theorem zX9:zl Tryz.prog 135 1=some (1,9):=by kernel_rfl
@[go_sem] theorem zhQ:szT Tryz.prog 148=1:=by kernel_rfl
@[go_sem] theorem zhR:agT Tryz.prog 148=some false:=by kernel_rfl
@[go_sem] theorem zPZ:zNg Tryz.prog 148=some (3,62):=by kernel_rfl
@[go_sem] theorem zhS:szT Tryz.prog 149=1:=by kernel_rfl
@[go_sem] theorem zhT:agT Tryz.prog 149=some false:=by kernel_rfl
@[go_sem] theorem zPa:zNg Tryz.prog 149=some (9,9):=by kernel_rfl
@[go_sem] theorem zS8:qD Tryz.prog 151=some (.agg [.nilsl, .nilsl, .nilsl, .nilsl, .nilsl, .nilmap, .nilmap]):=by kernel_rfl
@[go_sem] theorem zOA:zAL Tryz.prog 151=some [(0,4),(4,1),(5,1),(6,1)]:=by kernel_rfl
@[go_sem] theorem zYA:zl Tryz.prog 151 0=some (0,27):=by kernel_rfl
@[go_sem] theorem zYB:zl Tryz.prog 151 1=some (4,29):=by kernel_rfl
@[go_sem] theorem zYC:zl Tryz.prog 151 2=some (5,148):=by kernel_rfl
@[go_sem] theorem zYD:zl Tryz.prog 151 3=some (6,149):=by kernel_rfl
@[go_sem] theorem zhU:agT Tryz.prog 158=some false:=by kernel_rfl
@[go_sem] theorem zKi:zNg Tryz.prog 175=some (9,3):=by kernel_rfl
@[go_sem] theorem zMK:qC Tryz.prog 186=some 190:=by kernel_rfl
@[go_sem] theorem zhV:szT Tryz.prog 188=1:=by kernel_rfl
@[go_sem] theorem zhW:agT Tryz.prog 188=some false:=by kernel_rfl
@[go_sem] theorem zOB:szT Tryz.prog 190=2:=by kernel_rfl
@[go_sem] theorem zhX:agT Tryz.prog 190=some true:=by kernel_rfl
@[go_sem] theorem zML:qD Tryz.prog 190=some (.agg [(.int .i64 0), .nilfn]):=by kernel_rfl
@[go_sem] theorem zOC:zAL Tryz.prog 190=some [(0,1),(1,1)]:=by kernel_rfl
@[go_sem] theorem zYE:zl Tryz.prog 190 0=some (0,3):=by kernel_rfl
@[go_sem] theorem zYF:zl Tryz.prog 190 1=some (1,188):=by kernel_rfl
@[go_sem] theorem zhY:agT Tryz.prog 193=some false:=by kernel_rfl
@[go_sem] theorem zS9:szT Tryz.prog 197=8:=by kernel_rfl
@[go_sem] theorem zhZ:agT Tryz.prog 197=some true:=by kernel_rfl
@[go_sem] theorem zB8:qD Tryz.prog 197=some (.agg [(.bool false),(.bool false),(.bool false),(.bool false),(.bool false),(.bool false),(.bool false),(.bool false)]):=by kernel_rfl
@[go_sem] theorem zAX:zAL Tryz.prog 197=some [(0,1),(1,1),(2,1),(3,1),(4,1),(5,1),(6,1),(7,1)]:=by kernel_rfl
@[go_sem] theorem zYG:zl Tryz.prog 197 0=some (0,4):=by kernel_rfl
@[go_sem] theorem zYH:zl Tryz.prog 197 1=some (1,4):=by kernel_rfl
@[go_sem] theorem zYI:zl Tryz.prog 197 2=some (2,4):=by kernel_rfl
@[go_sem] theorem zYJ:zl Tryz.prog 197 3=some (3,4):=by kernel_rfl
@[go_sem] theorem zYK:zl Tryz.prog 197 4=some (4,4):=by kernel_rfl
@[go_sem] theorem zYL:zl Tryz.prog 197 5=some (5,4):=by kernel_rfl
@[go_sem] theorem zYM:zl Tryz.prog 197 6=some (6,4):=by kernel_rfl
@[go_sem] theorem zYN:zl Tryz.prog 197 7=some (7,4):=by kernel_rfl
@[go_sem] theorem zTA:qC Tryz.prog 233=some 5:=by kernel_rfl
@[go_sem] theorem zZ2:szT Tryz.prog 242=1:=by kernel_rfl
@[go_sem] theorem zha:agT Tryz.prog 242=some false:=by kernel_rfl
@[go_sem] theorem zdX:qD Tryz.prog 242=some .nilfn:=by kernel_rfl
@[go_sem] theorem zZ3:szT Tryz.prog 270=3:=by kernel_rfl
@[go_sem] theorem zhb:agT Tryz.prog 270=some true:=by kernel_rfl
@[go_sem] theorem zTB:qD Tryz.prog 270=some (.agg [(.int .i64 0),(.int .i64 0),(.int .i64 0)]):=by kernel_rfl
@[go_sem] theorem zOD:zAL Tryz.prog 270=some [(0,1),(1,1),(2,1)]:=by kernel_rfl
@[go_sem] theorem zYO:zl Tryz.prog 270 0=some (0,3):=by kernel_rfl
@[go_sem] theorem zYP:zl Tryz.prog 270 1=some (1,3):=by kernel_rfl
@[go_sem] theorem zYQ:zl Tryz.prog 270 2=some (2,3):=by kernel_rfl
@[go_sem] theorem zhc:agT Tryz.prog 314=some false:=by kernel_rfl
end Go.V
