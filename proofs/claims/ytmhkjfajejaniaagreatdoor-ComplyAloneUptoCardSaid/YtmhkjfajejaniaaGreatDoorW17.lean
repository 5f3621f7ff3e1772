/- A machine of abstract values for programs of the model, and its soundness, part 6. No condition. -/
import Derived.Test.YtmhkjfajejaniaaGreatDoorW03
import Derived.KernelRfl
import Derived.Test.YtmhkjfajejaniaaGreatDoorProg
set_option linter.all false
namespace Go.V
def onS (o:Option D) (k:D→Prop):Prop:=
 match o with
 |some d=>k d
 |none=>False
def onR (o:VR) (k:D→Heap→Prop):Prop:=
 match o with
 |some (d,h)=>k d h
 |none=>False
def onH (o:Option Heap) (k:Heap→Prop):Prop:=
 match o with
 |some h=>k h
 |none=>False
@[congr] theorem zcn {o o':Option D} {k:D→Prop} (h:o=o'):onS o k=onS o' k:=by rw[h]
@[congr] theorem zco {o o':VR} {k:D→Heap→Prop} (h:o=o'):onR o k=onR o' k:=by rw[h]
@[congr] theorem zcp {o o':Option Heap} {k:Heap→Prop} (h:o=o'):onH o k=onH o' k:=by rw[h]
@[congr] theorem zZI {P:Program} {f:FuncId} {args args':List D} {h h':Heap} {K:D→Heap→Prop} (ha:args=args') (hh:h=h'):zA P f args h K=zA P f args' h' K:=by rw[ha,hh]
@[congr] theorem zXy {P:Program} {id:Nat} {args args':List D} {h h':Heap} {K:D→Heap→Prop} (ha:args=args') (hh:h=h'):yp P id args h K=yp P id args' h' K:=by rw[ha,hh]
@[congr] theorem zbl {P:Program} {f f':D} {args args':List D} {h h':Heap} {K:D→Heap→Prop} (hf:f=f') (ha:args=args') (hh:h=h'):zGp P f args h K=zGp P f' args' h' K:=by rw[hf,ha,hh]
@[go_sem ↓] theorem zgA (d:D) (k:D→Prop):onS (some d) k=k d:=(rfl)
@[go_sem ↓] theorem zHC (d:D) (h:Heap) (k:D→Heap→Prop):onR (some (d,h)) k=k d h:=(rfl)
@[go_sem ↓] theorem zgB (h:Heap) (k:Heap→Prop):onH (some h) k=k h:=(rfl)
section rules
variable {P:Program} {g:Cfg} {n:Nat} {ro:Option Nat} {mu:Tmp→Bool} {ops:Array Oper} {rest:List Oper} {K:Frm→Heap→Prop} {fr:Frm} {h:Heap} {dst:Option Tmp} {ty:TypeId} {pos:String} {after:Array Edge} {gd:Option (Nat×Bool)} {Q:Exit→Frm→Heap→Prop}
 {m:Bool} {nid:Nat} {k:D→Heap→Prop}
@[go_sem ↓] theorem zKq (a b:Code):vwp P g n ro (.seq a b) Q fr h=vwp P g n ro a (zEP (vwp P g n ro b Q) Q) fr h:=(rfl)
@[go_sem ↓] theorem zbm (id:Nat) (l:List Oper):vwp P g n ro (.region id l.toArray false) Q fr h=zIz P g.mu l.toArray l (Q .normal) fr h:=(rfl)
theorem zPa (id:Nat) (ops:Array Oper):vwp P g n ro (.region id ops true) Q fr h= ∃h0,HLe h0 h∧zD9 P g.mu h0 (zVa P g.mu ops (g.dr id) (zGq ops.toList 0 [])) ops ((g.dr id).any (·.2.isSt)) (g.dr id) (Q .normal) fr h:=(rfl)
@[go_sem ↓] theorem zgC:vwp P g n ro .skip Q fr h=Q .normal fr h:=(rfl)
@[go_sem ↓] theorem zhA:vwp P g n ro .ret Q fr h=Q .ret fr h:=(rfl)
@[go_sem ↓] theorem zgD (i:Nat):vwp P g n ro (.exit i) Q fr h=Q (.exit i) fr h:=(rfl)
@[go_sem ↓] theorem zcq (id:Nat) (c:Code):vwp P g n ro (.block id c) Q fr h=vwp P g n ro c (zE0 id Q) fr h:=(rfl)
def onB (d:D) (x y:Prop):Prop:=
 match d with
 | .bool b=>match b with
  |true=>x
  |false=>y
 |_=>False
@[go_sem ↓] theorem zgE (c:Operand) (a b:Code):vwp P g n ro (.cond c a b) Q fr h=onB (yA fr c) (vwp P g n ro a Q fr h) (vwp P g n ro b Q fr h):=by
 simp only[vwp];rfl
@[congr] theorem zcr {d d':D} {x y:Prop} (h:d=d'):onB d x y=onB d' x y:=by rw[h]
@[go_sem ↓] theorem zgF (x y:Prop):onB (.bool true) x y=x:=(rfl)
@[go_sem ↓] theorem zcs (x y:Prop):onB (.bool false) x y=y:=(rfl)
@[go_sem ↓] theorem zXz (Kn:Frm→Heap→Prop):zEP Kn Q .normal fr h=Kn fr h:=(rfl)
@[go_sem ↓] theorem zct (Kn:Frm→Heap→Prop):zEP Kn Q .ret fr h=Q .ret fr h:=(rfl)
@[go_sem ↓] theorem zbn (Kn:Frm→Heap→Prop) (i:Nat):zEP Kn Q (.exit i) fr h=Q (.exit i) fr h:=(rfl)
@[go_sem ↓] theorem zVz (i:Nat):zE0 i Q .normal fr h=Q .normal fr h:=(rfl)
@[go_sem ↓] theorem zbo (i:Nat):zE0 i Q .ret fr h=Q .ret fr h:=(rfl)
@[go_sem ↓] theorem zZJ (i j:Nat):zE0 i Q (.exit j) fr h=if j=i then Q .normal fr h else Q (.exit j) fr h:=(rfl)
@[go_sem ↓] theorem zgG:zIz P mu ops [] K fr h=K fr h:=(rfl)
@[go_sem ↓] theorem zbp (op:Op):zIz P mu ops (⟨dst,op,ty,pos,after,none⟩ ::rest) K fr h=wE P (zGQ mu dst) h.next op (yA fr) h fun d h'=>zIz P mu ops rest K (zAx fr dst d) h':=(rfl)
def gif (g:Bool) (x y:Prop):Prop:=
 match g with
 |true=>x
 |false=>y
@[congr] theorem zcu {g g':Bool} {x y:Prop} (h:g=g'):gif g x y=gif g' x y:=by rw[h]
@[go_sem ↓] theorem zgH (x y:Prop):gif true x y=x:=(rfl)
@[go_sem ↓] theorem zcv (x y:Prop):gif false x y=y:=(rfl)
@[go_sem ↓] theorem zbq (op:Op) (j:Nat) (b:Bool):zIz P mu ops (⟨dst,op,ty,pos,after,some (j,b)⟩ ::rest) K fr h =
  gif (qM ops fr (some (j,b))) (wE P (zGQ mu dst) h.next op (yA fr) h fun d h'=>zIz P mu ops rest K (zAx fr dst d) h') (zIz P mu ops rest K (zAx fr dst wK) h):=by
 simp only[zIz,gif];cases qM ops fr (some (j,b))<;>rfl
@[go_sem ↓] theorem zgI (t:Tmp):yA fr (.tmp t)=fr t:=(rfl)
@[go_sem ↓] theorem zgJ (k:IntKind) (n:Int):yA fr (.const (.int k n))= .int k n:=(rfl)
@[go_sem ↓] theorem zcw (b:Bool):yA fr (.const (.bool b))= .bool b:=(rfl)
@[go_sem ↓] theorem zcx (f:Nat):yA fr (.func f)= .fn (.func f) [] []:=(rfl)
@[go_sem ↓] theorem zgK (s:ByteArray):yA fr (.const (.string s))= .str s.data.toList:=(rfl)
@[go_sem ↓] theorem zZK:yA fr (.const (.pointer none))= .nilptr:=(rfl)
@[go_sem ↓] theorem zbr:yA fr (.const (.slice none 0 0))= .nilsl:=(rfl)
@[go_sem ↓] theorem zZL:yA fr (.const (.map none))= .nilmap:=(rfl)
@[go_sem ↓] theorem zbs:yA fr (.const .nilFunc)= .nilfn:=(rfl)
@[go_sem ↓] theorem zcy (t i:Tmp) (d:D):zAx fr (some t) d i=if i=t then d else fr i:=(rfl)
@[go_sem ↓] theorem zcz (d:D):zAx fr none d=fr:=(rfl)
@[go_sem ↓] theorem zjW (x:Operand):wE P m nid (.move x) (yA fr) h k=k (yA fr x) h:=(rfl)
@[go_sem ↓] theorem zgL (x:Operand):wE P m nid (.assign x) (yA fr) h k=k (yA fr x) h:=(rfl)
@[go_sem ↓] theorem zjX (f:Operand) (args:List Operand) (ats:Array TypeId):wE P m nid (.call ⟨.value f,args.toArray,ats⟩) (yA fr) h k=zGp P (yA fr f) (args.map (yA fr)) h k:=(rfl)
@[go_sem ↓] theorem zZM (f:FuncId) (a c args:List D):zGp P (.fn (.func f) a c) args h k=zA P f (a++args++c) h k:=(rfl)
@[go_sem ↓] theorem zgM (id:Nat) (args:List D):zGp P (.yld id) args h k=yp P id args h k:=(rfl)
theorem zA3 {op:Op} {ev:Operand→D} {o:Option D} (h1:qS op=none) (h2:vop P m nid op ev h=o.map (·,h)):wE P m nid op ev h k=onS o (k · h):=by
 unfold wE;rw[h1,h2];cases o<;>rfl
theorem zSz {op:Op} {ev:Operand→D} {o:Option Heap} (h1:qS op=none) (h2:vop P m nid op ev h=o.map (wK,·)):wE P m nid op ev h k=onH o (k wK ·):=by
 unfold wE;rw[h1,h2];cases o<;>rfl
theorem zHw {op:Op} {ev:Operand→D} {o:VR} (h1:qS op=none) (h2:vop P m nid op ev h=o):wE P m nid op ev h k=onR o k:=by
 unfold wE;rw[h1,h2];cases o<;>rfl
@[go_sem ↓] theorem zkw (op:BinOp) (t u:TypeId) (x y:Operand):wE P m nid (.binOp op t x y u) (yA fr) h k=onS (zDz P op t (isC x||isC y) (yA fr x) (yA fr y)) (k · h):=zA3 rfl rfl
@[go_sem ↓] theorem zlw (op:UnOp) (t:TypeId) (x:Operand):wE P m nid (.unOp op t x) (yA fr) h k=onS (vun op (yA fr x)) (k · h):=zA3 rfl rfl
@[go_sem ↓] theorem zjY (c x y:Operand):wE P m nid (.pick c x y) (yA fr) h k=onB (yA fr c) (k (yA fr x) h) (k (yA fr y) h):=by
 simp only[wE,qS,vop,onB];cases yA fr c with
 |bool b=>cases b<;>rfl
 |_=>rfl
@[go_sem ↓] theorem zhB (t:TypeId):wE P m nid (.alloc t) (yA fr) h k=onR (vop P m nid (.alloc t) (yA fr) h) k:=zHw rfl rfl
@[go_sem ↓] theorem zkx (t:TypeId) (x:Operand):wE P m nid (.box t x) (yA fr) h k=onR (vop P m nid (.box t x) (yA fr) h) k:=zHw rfl rfl
@[go_sem ↓] theorem zhC (t:TypeId) (ps:List (Nat×Operand)):wE P m nid (.build t ps.toArray) (yA fr) h k=onS (yN P t (ps.map fun p=>(p.1,yA fr p.2))) (k · h):=zA3 rfl rfl
@[go_sem ↓] theorem zX0 (t:TypeId) (n:Nat) (ps:List (Nat×Operand)):wE P m nid (.buildSlice t n ps.toArray) (yA fr) h k=onR (zK P m nid t n (ps.map fun p=>(p.1,yA fr p.2)) h) k:=zHw rfl rfl
@[go_sem ↓] theorem zjZ (t:TypeId) (x:Operand):wE P m nid (.load t x) (yA fr) h k=onS (zA6 P t (yA fr x) h) (k · h):=zA3 rfl rfl
@[go_sem ↓] theorem zhD (t:TypeId) (x y:Operand):wE P m nid (.store t x y) (yA fr) h k=onH (zV P t (yA fr x) (yA fr y) h) (k wK ·):=zSz rfl rfl
@[go_sem ↓] theorem zbt (x:Operand):wE P m nid (.nilCheck x) (yA fr) h k=onS (zW (yA fr x)) (k · h):=zA3 rfl rfl
@[go_sem ↓] theorem zc0 (s t:TypeId) (x:Operand):wE P m nid (.convert s t x) (yA fr) h k=onS (zEo P s t (yA fr x) h) (k · h):=zA3 rfl rfl
@[go_sem ↓] theorem zbu (P:Program) (s t:TypeId) (k:IntKind) (n:Int) (h:Heap):zEo P s t (.int k n) h=wk P s t (.int k n):=(rfl)
@[go_sem ↓] theorem zbv (P:Program) (s t:TypeId) (x:List UInt8) (h:Heap):zEo P s t (.str x) h=wk P s t (.str x):=(rfl)
@[go_sem ↓] theorem zbw (f:FuncId) (a c:List Operand):wE P m nid (.makeFunc (.func f) a.toArray c.toArray) (yA fr) h k=k (.fn (.func f) (a.map (yA fr)) (c.map (yA fr))) h:=(rfl)
@[go_sem ↓] theorem zc1 (t:TypeId):wE P m nid (.makeMap t none) (yA fr) h k=k (.map nid) (h.new nid (.map [])):=(rfl)
@[go_sem ↓] theorem zZN (t:TypeId) (x y:Operand):wE P m nid (.makeSlice t x y) (yA fr) h k=onR (qj P m nid t (yA fr x) (yA fr y) h) k:=zHw rfl rfl
@[go_sem ↓] theorem zhE (t:TypeId) (x:Operand) (lo hi mx:Option Operand):wE P m nid (.slice t x lo hi mx) (yA fr) h k=onS (ye P t (yA fr x) (lo.map (yA fr)) (hi.map (yA fr)) (mx.map (yA fr)) h) (k · h):=zA3 rfl rfl
@[go_sem ↓] theorem zZO (t:TypeId) (x:Operand) (f:Nat):wE P m nid (.fieldAddr t x f) (yA fr) h k=onS (zBJ P t (yA fr x) f) (k · h):=zA3 rfl rfl
@[go_sem ↓] theorem zZP (t:TypeId) (x i:Operand):wE P m nid (.indexAddr t x i) (yA fr) h k=onS (zU P t (yA fr x) (yA fr i)) (k · h):=zA3 rfl rfl
@[go_sem ↓] theorem zhF (t:TypeId) (x i:Operand):wE P m nid (.index t x i) (yA fr) h k=onS (zBp P t (yA fr x) (yA fr i)) (k · h):=zA3 rfl rfl
@[go_sem ↓] theorem zgN (t:TypeId) (x y:Operand) (ok:Bool):wE P m nid (.lookup t x y ok) (yA fr) h k=onS (yW P t (yA fr x) (yA fr y) ok h) (k · h):=zA3 rfl rfl
@[go_sem ↓] theorem zZQ (t:TypeId) (x y z:Operand):wE P m nid (.mapUpdate t x y z) (yA fr) h k=onH (yS P t (yA fr x) (yA fr y) (yA fr z) h) (k wK ·):=zSz rfl rfl
@[go_sem ↓] theorem zhG (t:TypeId) (x:Operand):wE P m nid (.range t x) (yA fr) h k=onR (zGK P nid t (yA fr x) h) k:=zHw rfl rfl
@[go_sem ↓] theorem zja (x:Operand) (b:Bool):wE P m nid (.next x b) (yA fr) h k=onR (zI1 (yA fr x) b h) k:=zHw rfl rfl
@[go_sem ↓] theorem zc2 (x:Operand) (i:Nat):wE P m nid (.extract x i) (yA fr) h k=onS (zBq (yA fr x) i) (k · h):=zA3 rfl rfl
@[go_sem ↓] theorem zky (t:TypeId) (x:Operand):wE P m nid (.call ⟨.builtin .len,#[x],#[t]⟩) (yA fr) h k=onS (zC1 P t (yA fr x) h) (k · h):=zA3 rfl rfl
@[go_sem ↓] theorem zgO (t u:TypeId) (x y:Operand):wE P m nid (.call ⟨.builtin .append,#[x,y],#[t,u]⟩) (yA fr) h k=onR (if zAW P u then zA7 P m nid t (yA fr x) (yA fr y) h else zA8 P m nid t u (yA fr x) (yA fr y) h) k:=zHw rfl rfl
@[go_sem ↓] theorem zbx (t:TypeId) (s x:D):zA7 P false nid t s x h=yD P false nid t s x h:=(rfl)
@[go_sem ↓] theorem zby (t:TypeId) (s x:D):zA7 P true nid t s x h=yD P true nid t s x (qt s x h):=(rfl)
@[go_sem ↓] theorem zbz (sz:Nat) (xs:List (List D)) (tk:Tk) (x:D):qt (.sl sz xs tk) x h=h:=(rfl)
@[go_sem ↓] theorem zkz (ats:Array TypeId) (x y:Operand):wE P m nid (.call ⟨.builtin .min,#[x,y],ats⟩) (yA fr) h k=onS (zSG (yA fr x) (yA fr y)) (k · h):=zA3 rfl rfl
@[go_sem ↓] theorem zk0 (x y:Operand) (ats:Array TypeId):wE P m nid (.call ⟨.builtin .max,#[x,y],ats⟩) (yA fr) h k=onS (zVi (yA fr x) (yA fr y)) (k · h):=by
 refine zA3 rfl ?_;simp only[vop,zA9,zNs,List.map_cons,List.map_nil];cases zVi (yA fr x) (yA fr y)<;>rfl
@[go_sem ↓] theorem zb0 (d:D) (ds:List D):zKd (d::ds) 0=d:=(rfl)
@[go_sem ↓] theorem zb1 (d:D) (ds:List D) (i:Nat):zKd (d::ds) (i+1)=zKd ds i:=(rfl)
def onL (o:Option (List D)) (k:List D→Prop):Prop:=
 match o with
 |some ds=>k ds
 |none=>False
@[go_sem ↓] theorem zgP (rs:List ResultVar) (q:D→Heap→Prop):zXu P rs q .ret fr h=onL (zBV P fr h rs) fun ds=>q (zFq ds) h:=by
 unfold zXu onL;cases zBV P fr h rs<;>simp
@[go_sem ↓] theorem zZR (rs:List ResultVar) (q:D→Heap→Prop):zXu P rs q .normal fr h=onL (zBV P fr h rs) fun ds=>q (zFq ds) h:=by
 unfold zXu onL;cases zBV P fr h rs<;>simp
@[go_sem ↓] theorem zc3 (k:List D→Prop):onL (zBV P fr h []) k=k []:=(rfl)
@[go_sem ↓] theorem zc4 (t:Tmp) (rs:List ResultVar) (k:List D→Prop):onL (zBV P fr h (.tmp t::rs)) k=onL (zBV P fr h rs) fun ds=>k (fr t::ds):=by
 simp only[zBV,zSl];cases zBV P fr h rs<;>rfl
@[go_sem ↓] theorem zb2 (a:Tmp) (t:TypeId) (rs:List ResultVar) (k:List D→Prop):onL (zBV P fr h (.cell a t::rs)) k=onS (zA6 P t (fr a) h) fun d=>onL (zBV P fr h rs) fun ds=>k (d::ds):=by
 simp only[zBV,zSl];cases zA6 P t (fr a) h with
 |none=>rfl
 |some d=>cases zBV P fr h rs<;>rfl
@[go_sem ↓] theorem zc5 (d:D):zFq [d]=d:=(rfl)
@[go_sem ↓] theorem zc6 (d d':D) (ds:List D):zFq (d::d'::ds)= .tuple (d::d'::ds):=(rfl)
@[go_sem ↓] theorem zc7:zFq []= .tuple []:=(rfl)
end rules
def zb (sz:Nat) (xs:List (List D)) (d:D):Prop:=(d= .nilsl∧xs= [])∨∃tk,d= .sl sz xs tk
section
variable {P:Program} {sz:Nat} {xs:List (List D)} {d:D} {t e:TypeId} {h:Heap}
theorem zb.mk (tk:Tk):zb sz xs (.sl sz xs tk):= .inr ⟨tk,rfl⟩
theorem zb.nil:zb sz [] .nilsl:= .inl ⟨rfl,rfl⟩
theorem qA (hd:zb sz xs d) (hu:P.underlying t=some (.slice e)):zC1 P t d h=some (.int .i64 xs.length):=by
 rcases hd with⟨rfl,rfl⟩ | ⟨tk,rfl⟩ <;>simp[zC1,hu]
theorem zd (hd:zb sz xs d) (he:qK P t=some e) (hz:szT P e=sz) {k:IntKind} {i:Nat} {x:List D} (hx:xs[i]? =some x):zU P t d (.int k i)=some (.iptr x 0):=by
 rcases hd with⟨rfl,rfl⟩ | ⟨tk,rfl⟩
 ·simp at hx
 ·simp[zU,he,hz,hx]
end
@[go_sem ↓] theorem zgQ (P:Program) (op:BinOp) (t:TypeId) (c:Bool) (k k':IntKind) (a b:Int):zDz P op t c (.int k a) (.int k' b)=zAI op k k' a b:=(rfl)
@[go_sem ↓] theorem zgR (P:Program) (op:BinOp) (t:TypeId) (c:Bool) (a b:List UInt8):zDz P op t c (.str a) (.str b)=zVZ op a b:=(rfl)
@[go_sem ↓] theorem zc8 (k:IntKind) (a b:Int):zAI .add k k a b=some (.int k (k.wrap (a+b))):=by simp[zAI,zLt]
@[go_sem ↓] theorem zc9 (k:IntKind) (a b:Int):zAI .sub k k a b=some (.int k (k.wrap (a-b))):=by simp[zAI,zLt]
@[go_sem ↓] theorem zdA (k:IntKind) (a b:Int):zAI .mul k k a b=some (.int k (k.wrap (a*b))):=by simp[zAI,zLt]
@[go_sem ↓] theorem zdB (k:IntKind) (a b:Int):zAI .lss k k a b=some (.bool (decide (a<b))):=by simp[zAI,zLt]
@[go_sem ↓] theorem zdC (k:IntKind) (a b:Int):zAI .leq k k a b=some (.bool (decide (a≤b))):=by simp[zAI,zLt]
@[go_sem ↓] theorem zdD (k:IntKind) (a b:Int):zAI .gtr k k a b=some (.bool (decide (a>b))):=by simp[zAI,zLt]
@[go_sem ↓] theorem zdE (k:IntKind) (a b:Int):zAI .geq k k a b=some (.bool (decide (a≥b))):=by simp[zAI,zLt]
@[go_sem ↓] theorem zdF (k:IntKind) (a b:Int):zAI .eql k k a b=some (.bool (a==b)):=by simp[zAI,zLt]
@[go_sem ↓] theorem zdG (k:IntKind) (a b:Int):zAI .neq k k a b=some (.bool (a !=b)):=by simp[zAI,zLt]
@[go_sem ↓] theorem zgS (a b:List UInt8):zVZ .eql a b=some (.bool (a==b)):=(rfl)
@[go_sem ↓] theorem zgT (a b:List UInt8):zVZ .neq a b=some (.bool (!(a==b))):=(rfl)
@[go_sem ↓] theorem zgU (a b:List UInt8):zVZ .lss a b=some (.bool (zIy a b)):=(rfl)
@[go_sem ↓] theorem zb3 (P:Program) (t:TypeId) (cs:List D) (off:Nat) (h:Heap):zA6 P t (.iptr cs off) h=(match agT P t with
 |none=>none
 |some ag=>zS ag (szT P t) cs off):=(rfl)
@[go_sem ↓] theorem zBa (n:Nat) (cs:List D) (off:Nat):zS false n cs off=cs[off]? :=(rfl)
theorem zPb {P:Program} {g:Cfg} {n:Nat} {ro:Option Nat} {c:Code} {Q:Exit→Frm→Heap→Prop} {fr:Frm} {h:Heap} (I:Nat→Frm→Heap→Prop) (k:Nat) (hI:I k fr h)
  (hr:∀k fr h,I k fr h→vwp P g n ro c (zEP (fun fr h=>∃m,m<k∧I m fr h) Q) fr h):vwp P g n ro (.loop c) Q fr h:=⟨I,⟨k,hI⟩,hr⟩
open Go.Proofs
@[go_sem] theorem wI:szT Tryz.prog 3=1:=by kernel_rfl
@[go_sem] theorem zk1:agT Tryz.prog 3=some false:=by kernel_rfl
@[go_sem] theorem zAK:qZ Tryz.prog 3=some (.int .i64 0):=by kernel_rfl
@[go_sem] theorem zdH:zAW Tryz.prog 3=false:=by kernel_rfl
@[go_sem] theorem zPc:zGn Tryz.prog 3=true:=by kernel_rfl
@[go_sem] theorem zFA:yR Tryz.prog 3=8:=by kernel_rfl
@[go_sem] theorem zX1:zPG Tryz.prog 3=some (false,[.i]):=by kernel_rfl
@[go_sem] theorem zk2:szT Tryz.prog 4=1:=by kernel_rfl
@[go_sem] theorem zk3:agT Tryz.prog 4=some false:=by kernel_rfl
@[go_sem] theorem zhH:szT Tryz.prog 5=1:=by kernel_rfl
@[go_sem] theorem zk4:agT Tryz.prog 5=some false:=by kernel_rfl
@[go_sem] theorem zBC:szT Tryz.prog 9=1:=by kernel_rfl
@[go_sem] theorem zk5:agT Tryz.prog 9=some false:=by kernel_rfl
@[go_sem] theorem zHx:qZ Tryz.prog 9=some (.str []):=by kernel_rfl
@[go_sem] theorem zGX:zGn Tryz.prog 9=true:=by kernel_rfl
@[go_sem] theorem zBD:yR Tryz.prog 9=16:=by kernel_rfl
@[go_sem] theorem zPd:zJK Tryz.prog 9=none:=by kernel_rfl
@[go_sem] theorem zMQ:zPG Tryz.prog 9=some (false,[.s]):=by kernel_rfl
@[go_sem] theorem zjb:szT Tryz.prog 22=1:=by kernel_rfl
@[go_sem] theorem zjc:agT Tryz.prog 22=some false:=by kernel_rfl
@[go_sem] theorem zFB:qK Tryz.prog 22=some 124:=by kernel_rfl
@[go_sem] theorem zb4:zAW Tryz.prog 22=true:=by kernel_rfl
@[go_sem] theorem zZS:zJK Tryz.prog 22=none:=by kernel_rfl
@[go_sem] theorem zjd:szT Tryz.prog 23=1:=by kernel_rfl
@[go_sem] theorem zje:agT Tryz.prog 23=some false:=by kernel_rfl
@[go_sem] theorem zV0:qK Tryz.prog 23=some 129:=by kernel_rfl
@[go_sem] theorem zjf:szT Tryz.prog 24=1:=by kernel_rfl
@[go_sem] theorem zjg:agT Tryz.prog 24=some false:=by kernel_rfl
@[go_sem] theorem zKr:qK Tryz.prog 24=some 92:=by kernel_rfl
@[go_sem] theorem zb5:zAW Tryz.prog 24=true:=by kernel_rfl
@[go_sem] theorem zjh:szT Tryz.prog 25=1:=by kernel_rfl
@[go_sem] theorem zji:agT Tryz.prog 25=some false:=by kernel_rfl
@[go_sem] theorem zV1:qK Tryz.prog 25=some 135:=by kernel_rfl
@[go_sem] theorem zjj:szT Tryz.prog 27=4:=by kernel_rfl
@[go_sem] theorem zdI:agT Tryz.prog 27=some true:=by kernel_rfl
@[go_sem] theorem zZT:zl Tryz.prog 27 0=some (0,22):=by kernel_rfl
@[go_sem] theorem zZU:zl Tryz.prog 27 1=some (1,23):=by kernel_rfl
@[go_sem] theorem zZV:zl Tryz.prog 27 2=some (2,24):=by kernel_rfl
@[go_sem] theorem zZW:zl Tryz.prog 27 3=some (3,25):=by kernel_rfl
@[go_sem] theorem zjk:szT Tryz.prog 29=1:=by kernel_rfl
@[go_sem] theorem zdJ:agT Tryz.prog 29=some false:=by kernel_rfl
@[go_sem] theorem zDo:qK Tryz.prog 29=some 87:=by kernel_rfl
@[go_sem] theorem zb6:zAW Tryz.prog 29=true:=by kernel_rfl
@[go_sem] theorem zdK:agT Tryz.prog 30=some false:=by kernel_rfl
@[go_sem] theorem zjl:szT Tryz.prog 31=1:=by kernel_rfl
@[go_sem] theorem zjm:agT Tryz.prog 31=some false:=by kernel_rfl
@[go_sem] theorem yH:qK Tryz.prog 31=some 3:=by kernel_rfl
@[go_sem] theorem zb7:zAW Tryz.prog 31=true:=by kernel_rfl
@[go_sem] theorem zOG:zJK Tryz.prog 31=none:=by kernel_rfl
@[go_sem] theorem zBt:szT Tryz.prog 33=2:=by kernel_rfl
@[go_sem] theorem zjn:agT Tryz.prog 33=some true:=by kernel_rfl
@[go_sem] theorem zHD:qZ Tryz.prog 33=some (.agg [(.int .i64 0), .nilsl]):=by kernel_rfl
@[go_sem] theorem zS0:zGn Tryz.prog 33=true:=by kernel_rfl
@[go_sem] theorem zMR:yR Tryz.prog 33=32:=by kernel_rfl
@[go_sem] theorem zJk:zAy Tryz.prog 33=some [(0,1),(1,1)]:=by kernel_rfl
@[go_sem] theorem zZX:zl Tryz.prog 33 0=some (0,3):=by kernel_rfl
@[go_sem] theorem zZY:zl Tryz.prog 33 1=some (1,31):=by kernel_rfl
@[go_sem] theorem zJl:szT Tryz.prog 36=1:=by kernel_rfl
@[go_sem] theorem zjo:agT Tryz.prog 36=some false:=by kernel_rfl
@[go_sem] theorem zgV:qZ Tryz.prog 36=some (.int .i64 0):=by kernel_rfl
@[go_sem] theorem zJm:szT Tryz.prog 39=1:=by kernel_rfl
@[go_sem] theorem zjp:agT Tryz.prog 39=some false:=by kernel_rfl
@[go_sem] theorem zV2:qZ Tryz.prog 39=some .nilsl:=by kernel_rfl
@[go_sem] theorem wW:qK Tryz.prog 39=some 62:=by kernel_rfl
@[go_sem] theorem zb8:zAW Tryz.prog 39=true:=by kernel_rfl
@[go_sem] theorem zZZ:zGn Tryz.prog 39=true:=by kernel_rfl
@[go_sem] theorem zS1:yR Tryz.prog 39=24:=by kernel_rfl
@[go_sem] theorem zS2:szT Tryz.prog 40=1:=by kernel_rfl
@[go_sem] theorem zjq:agT Tryz.prog 40=some false:=by kernel_rfl
@[go_sem] theorem qB:qK Tryz.prog 40=some 9:=by kernel_rfl
@[go_sem] theorem zb9:zAW Tryz.prog 40=true:=by kernel_rfl
@[go_sem] theorem zZa:zJK Tryz.prog 40=none:=by kernel_rfl
@[go_sem] theorem zJn:szT Tryz.prog 42=2:=by kernel_rfl
@[go_sem] theorem zjr:agT Tryz.prog 42=some true:=by kernel_rfl
@[go_sem] theorem zV3:qZ Tryz.prog 42=some (.agg [.nilsl, .nilsl]):=by kernel_rfl
@[go_sem] theorem zRO:zAy Tryz.prog 42=some [(0,1),(1,1)]:=by kernel_rfl
@[go_sem] theorem zZb:zl Tryz.prog 42 0=some (0,39):=by kernel_rfl
@[go_sem] theorem zZc:zl Tryz.prog 42 1=some (1,40):=by kernel_rfl
@[go_sem] theorem zX2:szT Tryz.prog 45=1:=by kernel_rfl
@[go_sem] theorem zjs:agT Tryz.prog 45=some false:=by kernel_rfl
@[go_sem] theorem zgW:qZ Tryz.prog 45=some .nilsl:=by kernel_rfl
@[go_sem] theorem wX:qK Tryz.prog 45=some 33:=by kernel_rfl
@[go_sem] theorem zcA:zAW Tryz.prog 45=true:=by kernel_rfl
@[go_sem] theorem zOH:zJK Tryz.prog 45=none:=by kernel_rfl
@[go_sem] theorem zBb:szT Tryz.prog 62=1:=by kernel_rfl
@[go_sem] theorem zjt:agT Tryz.prog 62=some false:=by kernel_rfl
@[go_sem] theorem zKs:qZ Tryz.prog 62=some .nilsl:=by kernel_rfl
@[go_sem] theorem qC:qK Tryz.prog 62=some 79:=by kernel_rfl
@[go_sem] theorem zcB:zAW Tryz.prog 62=true:=by kernel_rfl
@[go_sem] theorem zES:zGn Tryz.prog 62=true:=by kernel_rfl
@[go_sem] theorem zBc:yR Tryz.prog 62=24:=by kernel_rfl
@[go_sem] theorem zHy:zJK Tryz.prog 62=none:=by kernel_rfl
@[go_sem] theorem zju:szT Tryz.prog 65=1:=by kernel_rfl
@[go_sem] theorem zjv:agT Tryz.prog 65=some false:=by kernel_rfl
@[go_sem] theorem zKt:qK Tryz.prog 65=some 39:=by kernel_rfl
@[go_sem] theorem zcC:zAW Tryz.prog 65=true:=by kernel_rfl
@[go_sem] theorem wR:szT Tryz.prog 79=2:=by kernel_rfl
@[go_sem] theorem zjw:agT Tryz.prog 79=some true:=by kernel_rfl
@[go_sem] theorem zBu:qZ Tryz.prog 79=some (.agg [(.str []),(.str [])]):=by kernel_rfl
@[go_sem] theorem zOI:zGn Tryz.prog 79=true:=by kernel_rfl
@[go_sem] theorem zFC:yR Tryz.prog 79=32:=by kernel_rfl
@[go_sem] theorem zFz:zAy Tryz.prog 79=some [(0,1),(1,1)]:=by kernel_rfl
@[go_sem] theorem zZd:zl Tryz.prog 79 0=some (0,9):=by kernel_rfl
@[go_sem] theorem zZe:zl Tryz.prog 79 1=some (1,9):=by kernel_rfl
@[go_sem] theorem zjx:szT Tryz.prog 83=1:=by kernel_rfl
@[go_sem] theorem zjy:agT Tryz.prog 83=some false:=by kernel_rfl
@[go_sem] theorem zV4:qK Tryz.prog 83=some 85:=by kernel_rfl
@[go_sem] theorem zS3:szT Tryz.prog 85=4:=by kernel_rfl
@[go_sem] theorem zjz:agT Tryz.prog 85=some true:=by kernel_rfl
@[go_sem] theorem zgX:qZ Tryz.prog 85=some (.agg [(.int .i64 0),(.str []),(.str []), .nilsl]):=by kernel_rfl
@[go_sem] theorem zZf:zl Tryz.prog 85 0=some (0,3):=by kernel_rfl
@[go_sem] theorem zZg:zl Tryz.prog 85 1=some (1,9):=by kernel_rfl
@[go_sem] theorem zZh:zl Tryz.prog 85 2=some (2,9):=by kernel_rfl
@[go_sem] theorem zZi:zl Tryz.prog 85 3=some (3,83):=by kernel_rfl
@[go_sem] theorem zGY:szT Tryz.prog 87=12:=by kernel_rfl
@[go_sem] theorem zj0:agT Tryz.prog 87=some true:=by kernel_rfl
@[go_sem] theorem zV5:qZ Tryz.prog 87=some (.agg [(.int .i64 0),(.str []),(.str []),(.int .i64 0),(.int .i64 0),(.int .i64 0),(.bool false),(.int .i64 0),(.str []),(.str []), .nilsl, .nilsl]):=by kernel_rfl
@[go_sem] theorem zKu:zGn Tryz.prog 87=true:=by kernel_rfl
@[go_sem] theorem zFD:yR Tryz.prog 87=160:=by kernel_rfl
@[go_sem] theorem zZj:zl Tryz.prog 87 0=some (0,3):=by kernel_rfl
@[go_sem] theorem zZk:zl Tryz.prog 87 1=some (1,9):=by kernel_rfl
@[go_sem] theorem zZl:zl Tryz.prog 87 2=some (2,9):=by kernel_rfl
@[go_sem] theorem zZm:zl Tryz.prog 87 3=some (3,3):=by kernel_rfl
@[go_sem] theorem zZn:zl Tryz.prog 87 4=some (4,3):=by kernel_rfl
@[go_sem] theorem zZo:zl Tryz.prog 87 5=some (5,3):=by kernel_rfl
@[go_sem] theorem zZp:zl Tryz.prog 87 6=some (6,4):=by kernel_rfl
@[go_sem] theorem zZq:zl Tryz.prog 87 7=some (7,85):=by kernel_rfl
@[go_sem] theorem zZr:zl Tryz.prog 87 8=some (11,40):=by kernel_rfl
@[go_sem] theorem zj1:agT Tryz.prog 88=some false:=by kernel_rfl
@[go_sem] theorem zGZ:szT Tryz.prog 92=5:=by kernel_rfl
@[go_sem] theorem zj2:agT Tryz.prog 92=some true:=by kernel_rfl
@[go_sem] theorem zV6:qZ Tryz.prog 92=some (.agg [(.str []),(.int .i64 0),(.int .i64 0),(.int .i64 0), .nilsl]):=by kernel_rfl
@[go_sem] theorem zZs:zGn Tryz.prog 92=true:=by kernel_rfl
@[go_sem] theorem zS4:yR Tryz.prog 92=64:=by kernel_rfl
@[go_sem] theorem zZt:zl Tryz.prog 92 0=some (0,9):=by kernel_rfl
@[go_sem] theorem zZu:zl Tryz.prog 92 1=some (1,3):=by kernel_rfl
@[go_sem] theorem zZv:zl Tryz.prog 92 2=some (2,3):=by kernel_rfl
@[go_sem] theorem zZw:zl Tryz.prog 92 3=some (3,3):=by kernel_rfl
@[go_sem] theorem zZx:zl Tryz.prog 92 4=some (4,40):=by kernel_rfl
@[go_sem] theorem zGa:szT Tryz.prog 95=6:=by kernel_rfl
@[go_sem] theorem zX3:agT Tryz.prog 95=some true:=by kernel_rfl
@[go_sem] theorem zPe:qZ Tryz.prog 95=some (.agg [.nilsl, .nilsl, .nilsl, .nilsl, .nilsl, .nilsl]):=by kernel_rfl
@[go_sem] theorem zJo:zAy Tryz.prog 95=some [(0,1),(1,1),(2,4)]:=by kernel_rfl
@[go_sem] theorem zZy:zl Tryz.prog 95 0=some (0,65):=by kernel_rfl
@[go_sem] theorem zZz:zl Tryz.prog 95 1=some (1,40):=by kernel_rfl
@[go_sem] theorem zZ0:zl Tryz.prog 95 2=some (2,27):=by kernel_rfl
@[go_sem] theorem zhI:agT Tryz.prog 101=some false:=by kernel_rfl
@[go_sem] theorem zCZ:szT Tryz.prog 124=4:=by kernel_rfl
@[go_sem] theorem zhJ:agT Tryz.prog 124=some true:=by kernel_rfl
@[go_sem] theorem zHz:qZ Tryz.prog 124=some (.agg [(.str []),(.str []),(.int .i64 0),(.str [])]):=by kernel_rfl
@[go_sem] theorem zV7:zGn Tryz.prog 124=true:=by kernel_rfl
@[go_sem] theorem zRP:yR Tryz.prog 124=56:=by kernel_rfl
@[go_sem] theorem zH0:zAy Tryz.prog 124=some [(0,1),(1,1),(2,1),(3,1)]:=by kernel_rfl
@[go_sem] theorem zX4:zl Tryz.prog 124 0=some (0,9):=by kernel_rfl
@[go_sem] theorem zX5:zl Tryz.prog 124 1=some (1,9):=by kernel_rfl
@[go_sem] theorem zX6:zl Tryz.prog 124 2=some (2,3):=by kernel_rfl
@[go_sem] theorem zX7:zl Tryz.prog 124 3=some (3,9):=by kernel_rfl
@[go_sem] theorem zH1:szT Tryz.prog 129=3:=by kernel_rfl
@[go_sem] theorem zhK:agT Tryz.prog 129=some true:=by kernel_rfl
@[go_sem] theorem zdL:qZ Tryz.prog 129=some (.agg [(.str []),(.str []), .nilsl]):=by kernel_rfl
@[go_sem] theorem zX8:zl Tryz.prog 129 0=some (0,9):=by kernel_rfl
@[go_sem] theorem zX9:zl Tryz.prog 129 1=some (1,9):=by kernel_rfl
@[go_sem] theorem zYA:zl Tryz.prog 129 2=some (2,31):=by kernel_rfl
@[go_sem] theorem zKv:szT Tryz.prog 135=2:=by kernel_rfl
@[go_sem] theorem zhL:agT Tryz.prog 135=some true:=by kernel_rfl
@[go_sem] theorem zS5:qZ Tryz.prog 135=some (.agg [(.str []),(.str [])]):=by kernel_rfl
@[go_sem] theorem zOJ:zAy Tryz.prog 135=some [(0,1),(1,1)]:=by kernel_rfl
@[go_sem] theorem zYB:zl Tryz.prog 135 0=some (0,9):=by kernel_rfl
@[go_sem] theorem zYC:zl Tryz.prog 135 1=some (1,9):=by kernel_rfl
@[go_sem] theorem zhM:szT Tryz.prog 148=1:=by kernel_rfl
@[go_sem] theorem zhN:agT Tryz.prog 148=some false:=by kernel_rfl
@[go_sem] theorem zPf:zPF Tryz.prog 148=some (3,62):=by kernel_rfl
@[go_sem] theorem zhO:szT Tryz.prog 149=1:=by kernel_rfl
@[go_sem] theorem zhP:agT Tryz.prog 149=some false:=by kernel_rfl
@[go_sem] theorem zPg:zPF Tryz.prog 149=some (9,9):=by kernel_rfl
@[go_sem] theorem zS6:qZ Tryz.prog 151=some (.agg [.nilsl, .nilsl, .nilsl, .nilsl, .nilsl, .nilmap, .nilmap]):=by kernel_rfl
@[go_sem] theorem zOK:zAy Tryz.prog 151=some [(0,4),(4,1),(5,1),(6,1)]:=by kernel_rfl
@[go_sem] theorem zYD:zl Tryz.prog 151 0=some (0,27):=by kernel_rfl
@[go_sem] theorem zYE:zl Tryz.prog 151 1=some (4,29):=by kernel_rfl
@[go_sem] theorem zYF:zl Tryz.prog 151 2=some (5,148):=by kernel_rfl
@[go_sem] theorem zYG:zl Tryz.prog 151 3=some (6,149):=by kernel_rfl
@[go_sem] theorem zKw:zPF Tryz.prog 175=some (9,3):=by kernel_rfl
@[go_sem] theorem zMS:qK Tryz.prog 186=some 190:=by kernel_rfl
@[go_sem] theorem zhQ:szT Tryz.prog 188=1:=by kernel_rfl
@[go_sem] theorem zhR:agT Tryz.prog 188=some false:=by kernel_rfl
@[go_sem] theorem zOL:szT Tryz.prog 190=2:=by kernel_rfl
@[go_sem] theorem zhS:agT Tryz.prog 190=some true:=by kernel_rfl
@[go_sem] theorem zMT:qZ Tryz.prog 190=some (.agg [(.int .i64 0), .nilfn]):=by kernel_rfl
@[go_sem] theorem zOM:zAy Tryz.prog 190=some [(0,1),(1,1)]:=by kernel_rfl
@[go_sem] theorem zYH:zl Tryz.prog 190 0=some (0,3):=by kernel_rfl
@[go_sem] theorem zYI:zl Tryz.prog 190 1=some (1,188):=by kernel_rfl
@[go_sem] theorem zhT:agT Tryz.prog 193=some false:=by kernel_rfl
@[go_sem] theorem zS7:szT Tryz.prog 197=8:=by kernel_rfl
@[go_sem] theorem zhU:agT Tryz.prog 197=some true:=by kernel_rfl
@[go_sem] theorem zCH:qZ Tryz.prog 197=some (.agg [(.bool false),(.bool false),(.bool false),(.bool false),(.bool false),(.bool false),(.bool false),(.bool false)]):=by kernel_rfl
@[go_sem] theorem zAf:zAy Tryz.prog 197=some [(0,1),(1,1),(2,1),(3,1),(4,1),(5,1),(6,1),(7,1)]:=by kernel_rfl
@[go_sem] theorem zYJ:zl Tryz.prog 197 0=some (0,4):=by kernel_rfl
@[go_sem] theorem zYK:zl Tryz.prog 197 1=some (1,4):=by kernel_rfl
@[go_sem] theorem zYL:zl Tryz.prog 197 2=some (2,4):=by kernel_rfl
@[go_sem] theorem zYM:zl Tryz.prog 197 3=some (3,4):=by kernel_rfl
@[go_sem] theorem zYN:zl Tryz.prog 197 4=some (4,4):=by kernel_rfl
@[go_sem] theorem zYO:zl Tryz.prog 197 5=some (5,4):=by kernel_rfl
@[go_sem] theorem zYP:zl Tryz.prog 197 6=some (6,4):=by kernel_rfl
@[go_sem] theorem zYQ:zl Tryz.prog 197 7=some (7,4):=by kernel_rfl
@[go_sem] theorem zS8:qK Tryz.prog 233=some 5:=by kernel_rfl
@[go_sem] theorem zZ1:szT Tryz.prog 242=1:=by kernel_rfl
@[go_sem] theorem zhV:agT Tryz.prog 242=some false:=by kernel_rfl
@[go_sem] theorem zdM:qZ Tryz.prog 242=some .nilfn:=by kernel_rfl
@[go_sem] theorem zZ2:szT Tryz.prog 270=3:=by kernel_rfl
@[go_sem] theorem zhW:agT Tryz.prog 270=some true:=by kernel_rfl
@[go_sem] theorem zS9:qZ Tryz.prog 270=some (.agg [(.int .i64 0),(.int .i64 0),(.int .i64 0)]):=by kernel_rfl
@[go_sem] theorem zON:zAy Tryz.prog 270=some [(0,1),(1,1),(2,1)]:=by kernel_rfl
@[go_sem] theorem zYR:zl Tryz.prog 270 0=some (0,3):=by kernel_rfl
@[go_sem] theorem zYS:zl Tryz.prog 270 1=some (1,3):=by kernel_rfl
@[go_sem] theorem zYT:zl Tryz.prog 270 2=some (2,3):=by kernel_rfl
@[go_sem] theorem zhX:agT Tryz.prog 314=some false:=by kernel_rfl
end Go.V
