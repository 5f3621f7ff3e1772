/- A machine of abstract values for programs of the model, and its soundness, part 5. No condition. -/
import Derived.Test.YthcjhnmnhfgdiaaGreatDoorW02
import Derived.KernelRfl
import Derived.Test.YthcjhnmnhfgdiaaGreatDoorProg
set_option linter.all false
set_option maxHeartbeats 8000000
namespace Go.V
def onS (o:Option D) (k:D->Prop):Prop:=
 match o with
 |some d=>k d
 |none=>False
def onR (o:VR) (k:D->Heap->Prop):Prop:=
 match o with
 |some (d,h)=>k d h
 |none=>False
def onH (o:Option Heap) (k:Heap->Prop):Prop:=
 match o with
 |some h=>k h
 |none=>False
@[congr] theorem Ck {o o':Option D} {k:D->Prop} (h:o=o'):onS o k=onS o' k:=by rw[h]
@[congr] theorem Cl {o o':VR} {k:D->Heap->Prop} (h:o=o'):onR o k=onR o' k:=by rw[h]
@[congr] theorem Cm {o o':Option Heap} {k:Heap->Prop} (h:o=o'):onH o k=onH o' k:=by rw[h]
variable {P:Program}{f:FuncId}{h h':Heap}{K:D->Heap->Prop}{id i n:Nat}{op:Op}{ev:Operand->D}{fr:Frm}
@[congr] theorem GZ {args args':List D} (ha:args=args') (hh:h=h'):zA P f args h K=zA P f args' h' K:=by rw[ha,hh]
@[congr] theorem In {args args':List D} (ha:args=args') (hh:h=h'):yo P id args h K=yo P id args' h' K:=by rw[ha,hh]
@[congr] theorem Dc {f f':D} {args args':List D} (hf:f=f') (ha:args=args') (hh:h=h'):kX P f args h K=kX P f' args' h' K:=by rw[hf,ha,hh]
@[go_sem ↓] theorem zBU (d:D) (k:D->Prop):onS (some d) k=k d:=(rfl)
@[go_sem ↓] theorem jk (d:D) (h:Heap) (k:D->Heap->Prop):onR (some (d,h)) k=k d h:=(rfl)
@[go_sem ↓] theorem zBV (h:Heap) (k:Heap->Prop):onH (some h) k=k h:=(rfl)
section rules
variable {P:Program} {g:Cfg} {n:Nat} {ro:Option Nat} {mu:Tmp->Bool} {ops:Array Oper} {rest:List Oper} {K:Frm->Heap->Prop} {fr:Frm} {h:Heap} {dst:Option Tmp} {ty:TypeId} {pos:String} {after:Array Edge} {gd:Option (Nat×Bool)} {Q:Exit->Frm->Heap->Prop}
 {m:Bool} {nid:Nat} {k:D->Heap->Prop}
@[go_sem ↓] theorem ac (a b:Code):vwp P g n ro (.seq a b) Q fr h=vwp P g n ro a (nO (vwp P g n ro b Q) Q) fr h:=(rfl)
@[go_sem ↓] theorem Dd (id:Nat) (l:List Oper):vwp P g n ro (.region id l.toArray false) Q fr h=dY P g.mu l.toArray l (Q .normal) fr h:=(rfl)
def Vz (id:Nat) (ops:Array Oper):vwp P g n ro (.region id ops true) Q fr h= ∃h0,HLe h0 h/\o8 P g.mu h0 (Lq P g.mu ops (g.dr id) (jK ops.toList 0 [])) ops ((g.dr id).any (·.2.isSt)) (g.dr id) (Q .normal) fr h:=(rfl)
@[go_sem ↓] theorem zBW:vwp P g n ro .skip Q fr h=Q .normal fr h:=(rfl)
@[go_sem ↓] theorem zCV:vwp P g n ro .ret Q fr h=Q .ret fr h:=(rfl)
@[go_sem ↓] theorem zBX (i:Nat):vwp P g n ro (.exit i) Q fr h=Q (.exit i) fr h:=(rfl)
@[go_sem ↓] theorem Cn (id:Nat) (c:Code):vwp P g n ro (.block id c) Q fr h=vwp P g n ro c (mD id Q) fr h:=(rfl)
def onB (d:D) (x y:Prop):Prop:=
 match d with
 | .bool b=>match b with
  |true=>x
  |false=>y
 |_=>False
@[go_sem ↓] theorem zBY (c:Operand) (a b:Code):vwp P g n ro (.cond c a b) Q fr h=onB (yC fr c) (vwp P g n ro a Q fr h) (vwp P g n ro b Q fr h):=by
 simp only[vwp];rfl
@[congr] theorem Co {d d':D} {x y:Prop} (h:d=d'):onB d x y=onB d' x y:=by rw[h]
@[go_sem ↓] theorem zBZ (x y:Prop):onB (.bool true) x y=x:=(rfl)
@[go_sem ↓] theorem Cp (x y:Prop):onB (.bool false) x y=y:=(rfl)
@[go_sem ↓] theorem Io (Kn:Frm->Heap->Prop):nO Kn Q .normal fr h=Kn fr h:=(rfl)
@[go_sem ↓] theorem Cq (Kn:Frm->Heap->Prop):nO Kn Q .ret fr h=Q .ret fr h:=(rfl)
@[go_sem ↓] theorem De (Kn:Frm->Heap->Prop) (i:Nat):nO Kn Q (.exit i) fr h=Q (.exit i) fr h:=(rfl)
@[go_sem ↓] theorem KU (i:Nat):mD i Q .normal fr h=Q .normal fr h:=(rfl)
@[go_sem ↓] theorem Df (i:Nat):mD i Q .ret fr h=Q .ret fr h:=(rfl)
@[go_sem ↓] theorem Ga (i j:Nat):mD i Q (.exit j) fr h=if j=i then Q .normal fr h else Q (.exit j) fr h:=(rfl)
@[go_sem ↓] theorem zBa:dY P mu ops [] K fr h=K fr h:=(rfl)
@[go_sem ↓] theorem Dg (op:Op):dY P mu ops (⟨dst,op,ty,pos,after,none⟩ ::rest) K fr h=wE P (lR mu dst) h.next op (yC fr) h λd h'=>dY P mu ops rest K (tP fr dst d) h':=(rfl)
def gif (g:Bool) (x y:Prop):Prop:=
 match g with
 |true=>x
 |false=>y
@[congr] theorem Cr {g g':Bool} {x y:Prop} (h:g=g'):gif g x y=gif g' x y:=by rw[h]
@[go_sem ↓] theorem zBb (x y:Prop):gif true x y=x:=(rfl)
@[go_sem ↓] theorem Cs (x y:Prop):gif false x y=y:=(rfl)
@[go_sem ↓] theorem Dh (op:Op) (j:Nat) (b:Bool):dY P mu ops (⟨dst,op,ty,pos,after,some (j,b)⟩ ::rest) K fr h =
  gif (qA ops fr (some (j,b))) (wE P (lR mu dst) h.next op (yC fr) h λd h'=>dY P mu ops rest K (tP fr dst d) h') (dY P mu ops rest K (tP fr dst wO) h):=by
 simp only[dY,gif];cases qA ops fr (some (j,b))<;>rfl
@[go_sem ↓] theorem zBc (t:Tmp):yC fr (.tmp t)=fr t:=(rfl)
@[go_sem ↓] theorem zBd (k:IntKind) (n:Int):yC fr (.const (.int k n))= .int k n:=(rfl)
@[go_sem ↓] theorem Ct (b:Bool):yC fr (.const (.bool b))= .bool b:=(rfl)
@[go_sem ↓] theorem Cu (f:Nat):yC fr (.func f)= .fn (.func f) [] []:=(rfl)
@[go_sem ↓] theorem zBe (s:ByteArray):yC fr (.const (.string s))= .str s.data.toList:=(rfl)
@[go_sem ↓] theorem Gb:yC fr (.const (.pointer none))= .nilptr:=(rfl)
@[go_sem ↓] theorem Di:yC fr (.const (.slice none 0 0))= .nilsl:=(rfl)
@[go_sem ↓] theorem Gc:yC fr (.const (.map none))= .nilmap:=(rfl)
@[go_sem ↓] theorem Dj:yC fr (.const .nilFunc)= .nilfn:=(rfl)
@[go_sem ↓] theorem Cv (t i:Tmp) (d:D):tP fr (some t) d i=if i=t then d else fr i:=(rfl)
@[go_sem ↓] theorem Cw (d:D):tP fr none d=fr:=(rfl)
@[go_sem ↓] theorem zFl (x:Operand):wE P m nid (.move x) (yC fr) h k=k (yC fr x) h:=(rfl)
@[go_sem ↓] theorem zBf (x:Operand):wE P m nid (.assign x) (yC fr) h k=k (yC fr x) h:=(rfl)
@[go_sem ↓] theorem zFm (f:Operand) (args:List Operand) (ats:Array TypeId):wE P m nid (.call ⟨.value f,args.toArray,ats⟩) (yC fr) h k=kX P (yC fr f) (args.map (yC fr)) h k:=(rfl)
@[go_sem ↓] theorem Qt (f:FuncId) (a c args:List D):kX P (.fn (.func f) a c) args h k=zA P f (a++args++c) h k:=(rfl)
@[go_sem ↓] theorem zBg (id:Nat) (args:List D):kX P (.yld id) args h k=yo P id args h k:=(rfl)
def tZ {o:Option D} (h1:yz op=none) (a:vop P m nid op ev h=o.map (·,h)):wE P m nid op ev h k=onS o (k · h):=by
 unfold wE;rw[h1,a];cases o<;>rfl
def Qu {o:Option Heap} (h1:yz op=none) (a:vop P m nid op ev h=o.map (wO,·)):wE P m nid op ev h k=onH o (k wO ·):=by
 unfold wE;rw[h1,a];cases o<;>rfl
def gj {o:VR} (h1:yz op=none) (a:vop P m nid op ev h=o):wE P m nid op ev h k=onR o k:=by
 unfold wE;rw[h1,a];cases o<;>rfl
@[go_sem ↓] theorem zG5 (op:BinOp) (t u:TypeId) (x y:Operand):wE P m nid (.binOp op t x y u) (yC fr) h k=onS (pb P op t (isC x||isC y) (yC fr x) (yC fr y)) (k · h):=tZ rfl rfl
@[go_sem ↓] theorem zH3 (op:UnOp) (t:TypeId) (x:Operand):wE P m nid (.unOp op t x) (yC fr) h k=onS (vun op (yC fr x)) (k · h):=tZ rfl rfl
@[go_sem ↓] theorem zFn (c x y:Operand):wE P m nid (.pick c x y) (yC fr) h k=onB (yC fr c) (k (yC fr x) h) (k (yC fr y) h):=by
 simp only[wE,yz,vop,onB];cases yC fr c with
 |bool b=>cases b<;>rfl
 |_=>rfl
@[go_sem ↓] theorem zCW (t:TypeId):wE P m nid (.alloc t) (yC fr) h k=onR (vop P m nid (.alloc t) (yC fr) h) k:=gj rfl rfl
@[go_sem ↓] theorem zG6 (t:TypeId) (x:Operand):wE P m nid (.box t x) (yC fr) h k=onR (vop P m nid (.box t x) (yC fr) h) k:=gj rfl rfl
@[go_sem ↓] theorem zCX (t:TypeId) (ps:List (Nat×Operand)):wE P m nid (.build t ps.toArray) (yC fr) h k=onS (zt P t (ps.map λp=>(p.1,yC fr p.2))) (k · h):=tZ rfl rfl
@[go_sem ↓] theorem Ip (t:TypeId) (n:Nat) (ps:List (Nat×Operand)):wE P m nid (.buildSlice t n ps.toArray) (yC fr) h k=onR (zI P m nid t n (ps.map λp=>(p.1,yC fr p.2)) h) k:=gj rfl rfl
@[go_sem ↓] theorem zFo (t:TypeId) (x:Operand):wE P m nid (.load t x) (yC fr) h k=onS (sH P t (yC fr x) h) (k · h):=tZ rfl rfl
@[go_sem ↓] theorem zCY (t:TypeId) (x y:Operand):wE P m nid (.store t x y) (yC fr) h k=onH (zP P t (yC fr x) (yC fr y) h) (k wO ·):=Qu rfl rfl
@[go_sem ↓] theorem Dk (x:Operand):wE P m nid (.nilCheck x) (yC fr) h k=onS (ze (yC fr x)) (k · h):=tZ rfl rfl
@[go_sem ↓] theorem Cx (s t:TypeId) (x:Operand):wE P m nid (.convert s t x) (yC fr) h k=onS (np P s t (yC fr x) h) (k · h):=tZ rfl rfl
@[go_sem ↓] theorem Dl (P:Program) (s t:TypeId) (k:IntKind) (n:Int) (h:Heap):np P s t (.int k n) h=u9 P s t (.int k n):=(rfl)
@[go_sem ↓] theorem Dm (P:Program) (s t:TypeId) (x:List UInt8) (h:Heap):np P s t (.str x) h=u9 P s t (.str x):=(rfl)
@[go_sem ↓] theorem Dn (f:FuncId) (a c:List Operand):wE P m nid (.makeFunc (.func f) a.toArray c.toArray) (yC fr) h k=k (.fn (.func f) (a.map (yC fr)) (c.map (yC fr))) h:=(rfl)
@[go_sem ↓] theorem Cy (t:TypeId):wE P m nid (.makeMap t none) (yC fr) h k=k (.map nid) (h.new nid (.map [])):=(rfl)
@[go_sem ↓] theorem Gd (t:TypeId) (x y:Operand):wE P m nid (.makeSlice t x y) (yC fr) h k=onR (qP P m nid t (yC fr x) (yC fr y) h) k:=gj rfl rfl
@[go_sem ↓] theorem zCZ (t:TypeId) (x:Operand) (lo hi mx:Option Operand):wE P m nid (.slice t x lo hi mx) (yC fr) h k=onS (yh P t (yC fr x) (lo.map (yC fr)) (hi.map (yC fr)) (mx.map (yC fr)) h) (k · h):=tZ rfl rfl
@[go_sem ↓] theorem Ge (t:TypeId) (x:Operand) (f:Nat):wE P m nid (.fieldAddr t x f) (yC fr) h k=onS (t7 P t (yC fr x) f) (k · h):=tZ rfl rfl
@[go_sem ↓] theorem Gf (t:TypeId) (x i:Operand):wE P m nid (.indexAddr t x i) (yC fr) h k=onS (zQ P t (yC fr x) (yC fr i)) (k · h):=tZ rfl rfl
@[go_sem ↓] theorem zCa (t:TypeId) (x i:Operand):wE P m nid (.index t x i) (yC fr) h k=onS (tF P t (yC fr x) (yC fr i)) (k · h):=tZ rfl rfl
@[go_sem ↓] theorem zBh (t:TypeId) (x y:Operand) (ok:Bool):wE P m nid (.lookup t x y ok) (yC fr) h k=onS (yi P t (yC fr x) (yC fr y) ok h) (k · h):=tZ rfl rfl
@[go_sem ↓] theorem Gg (t:TypeId) (x y z:Operand):wE P m nid (.mapUpdate t x y z) (yC fr) h k=onH (yV P t (yC fr x) (yC fr y) (yC fr z) h) (k wO ·):=Qu rfl rfl
@[go_sem ↓] theorem zCb (t:TypeId) (x:Operand):wE P m nid (.range t x) (yC fr) h k=onR (kR P nid t (yC fr x) h) k:=gj rfl rfl
@[go_sem ↓] theorem zFp (x:Operand) (b:Bool):wE P m nid (.next x b) (yC fr) h k=onR (df (yC fr x) b h) k:=gj rfl rfl
@[go_sem ↓] theorem Cz (x:Operand) (i:Nat):wE P m nid (.extract x i) (yC fr) h k=onS (so (yC fr x) i) (k · h):=tZ rfl rfl
@[go_sem ↓] theorem zG7 (t:TypeId) (x:Operand):wE P m nid (.call ⟨.builtin .len,#[x],#[t]⟩) (yC fr) h k=onS (tU P t (yC fr x) h) (k · h):=tZ rfl rfl
@[go_sem ↓] theorem zBi (t u:TypeId) (x y:Operand):wE P m nid (.call ⟨.builtin .append,#[x,y],#[t,u]⟩) (yC fr) h k=onR (if uJ P u then tj P m nid t (yC fr x) (yC fr y) h else tm P m nid t u (yC fr x) (yC fr y) h) k:=gj rfl rfl
@[go_sem ↓] theorem Do (t:TypeId) (s x:D):tj P false nid t s x h=zu P false nid t s x h:=(rfl)
@[go_sem ↓] theorem Dp (t:TypeId) (s x:D):tj P true nid t s x h=zu P true nid t s x (qY s x h):=(rfl)
@[go_sem ↓] theorem Dq (sz:Nat) (xs:List (List D)) (tk:Tk) (x:D):qY (.sl sz xs tk) x h=h:=(rfl)
@[go_sem ↓] theorem zG8 (ats:Array TypeId) (x y:Operand):wE P m nid (.call ⟨.builtin .min,#[x,y],ats⟩) (yC fr) h k=onS (R8 (yC fr x) (yC fr y)) (k · h):=tZ rfl rfl
@[go_sem ↓] theorem zG9 (x y:Operand) (ats:Array TypeId):wE P m nid (.call ⟨.builtin .max,#[x,y],ats⟩) (yC fr) h k=onS (L9 (yC fr x) (yC fr y)) (k · h):=by
 refine tZ rfl ?_;simp only[vop,tn,X4,List.map_cons,List.map_nil];cases L9 (yC fr x) (yC fr y)<;>rfl
@[go_sem ↓] theorem Dr (d:D) (ds:List D):aQ (d::ds) 0=d:=(rfl)
@[go_sem ↓] theorem Ds (d:D) (ds:List D) (i:Nat):aQ (d::ds) (i+1)=aQ ds i:=(rfl)
def onL (o:Option (List D)) (k:List D->Prop):Prop:=
 match o with
 |some ds=>k ds
 |none=>False
@[go_sem ↓] theorem zBj (rs:List ResultVar) (q:D->Heap->Prop):Ii P rs q .ret fr h=onL (sO P fr h rs) λds=>q (lV ds) h:=by
 unfold Ii onL;cases sO P fr h rs<;>simp
@[go_sem ↓] theorem Gh (rs:List ResultVar) (q:D->Heap->Prop):Ii P rs q .normal fr h=onL (sO P fr h rs) λds=>q (lV ds) h:=by
 unfold Ii onL;cases sO P fr h rs<;>simp
@[go_sem ↓] theorem C0 (k:List D->Prop):onL (sO P fr h []) k=k []:=(rfl)
@[go_sem ↓] theorem C1 (t:Tmp) (rs:List ResultVar) (k:List D->Prop):onL (sO P fr h (.tmp t::rs)) k=onL (sO P fr h rs) λds=>k (fr t::ds):=by
 simp only[sO,Qf];cases sO P fr h rs<;>rfl
@[go_sem ↓] theorem Dt (a:Tmp) (t:TypeId) (rs:List ResultVar) (k:List D->Prop):onL (sO P fr h (.cell a t::rs)) k=onS (sH P t (fr a) h) λd=>onL (sO P fr h rs) λds=>k (d::ds):=by
 simp only[sO,Qf];cases sH P t (fr a) h with
 |none=>rfl
 |some d=>cases sO P fr h rs<;>rfl
@[go_sem ↓] theorem C2 (d:D):lV [d]=d:=(rfl)
@[go_sem ↓] theorem C3 (d d':D) (ds:List D):lV (d::d'::ds)= .tuple (d::d'::ds):=(rfl)
@[go_sem ↓] theorem C4:lV []= .tuple []:=(rfl)
end rules
def zZ (sz:Nat) (xs:List (List D)) (d:D):Prop:=(d= .nilsl/\xs= [])\/∃tk,d= .sl sz xs tk
section
variable {P:Program} {sz:Nat} {xs:List (List D)} {d:D} {t e:TypeId} {h:Heap}
def zZ.mk (tk:Tk):zZ sz xs (.sl sz xs tk):= .inr ⟨tk,rfl⟩
def zZ.nil:zZ sz [] .nilsl:= .inl ⟨rfl,rfl⟩
def yc (a:zZ sz xs d) (b:P.underlying t=some (.slice e)):tU P t d h=some (.int .i64 xs.length):=by
 rcases a with⟨rfl,rfl⟩ | ⟨tk,rfl⟩ <;>simp[tU,b]
def zb (b:zZ sz xs d) (c:qO P t=some e) (f:szT P e=sz) {k:IntKind} {x:List D} (a:xs[i]? =some x):zQ P t d (.int k i)=some (.iptr x 0):=by
 rcases b with⟨rfl,rfl⟩ | ⟨tk,rfl⟩
 ·simp at a
 ·simp[zQ,c,f,a]
end
@[go_sem ↓] theorem zBk (P:Program) (op:BinOp) (t:TypeId) (c:Bool) (k k':IntKind) (a b:Int):pb P op t c (.int k a) (.int k' b)=sG op k k' a b:=(rfl)
@[go_sem ↓] theorem zBl (P:Program) (op:BinOp) (t:TypeId) (c:Bool) (a b:List UInt8):pb P op t c (.str a) (.str b)=Lo op a b:=(rfl)
@[go_sem ↓] theorem C5 (k:IntKind) (a b:Int):sG .add k k a b=some (.int k (k.wrap (a+b))):=by simp[sG,VZ]
@[go_sem ↓] theorem C6 (k:IntKind) (a b:Int):sG .sub k k a b=some (.int k (k.wrap (a-b))):=by simp[sG,VZ]
@[go_sem ↓] theorem C7 (k:IntKind) (a b:Int):sG .mul k k a b=some (.int k (k.wrap (a*b))):=by simp[sG,VZ]
@[go_sem ↓] theorem C8 (k:IntKind) (a b:Int):sG .lss k k a b=some (.bool (decide (a<b))):=by simp[sG,VZ]
@[go_sem ↓] theorem C9 (k:IntKind) (a b:Int):sG .leq k k a b=some (.bool (decide (a<=b))):=by simp[sG,VZ]
@[go_sem ↓] theorem BA (k:IntKind) (a b:Int):sG .gtr k k a b=some (.bool (decide (a>b))):=by simp[sG,VZ]
@[go_sem ↓] theorem BB (k:IntKind) (a b:Int):sG .geq k k a b=some (.bool (decide (a>=b))):=by simp[sG,VZ]
@[go_sem ↓] theorem BC (k:IntKind) (a b:Int):sG .eql k k a b=some (.bool (a==b)):=by simp[sG,VZ]
@[go_sem ↓] theorem BD (k:IntKind) (a b:Int):sG .neq k k a b=some (.bool (a !=b)):=by simp[sG,VZ]
@[go_sem ↓] theorem zBm (a b:List UInt8):Lo .eql a b=some (.bool (a==b)):=(rfl)
@[go_sem ↓] theorem zBn (a b:List UInt8):Lo .neq a b=some (.bool (!(a==b))):=(rfl)
@[go_sem ↓] theorem zBo (a b:List UInt8):Lo .lss a b=some (.bool (dX a b)):=(rfl)
@[go_sem ↓] theorem Du (P:Program) (t:TypeId) (cs:List D) (off:Nat) (h:Heap):sH P t (.iptr cs off) h=(match agT P t with
 |none=>none
 |some ag=>zM ag (szT P t) cs off):=(rfl)
@[go_sem ↓] theorem sT (n:Nat) (cs:List D) (off:Nat):zM false n cs off=cs[off]? :=(rfl)
variable {P:Program}{n:Nat}{fr:Frm}{h:Heap}{K:D->Heap->Prop}
def V1 {g:Cfg} {ro:Option Nat} {c:Code} {Q:Exit->Frm->Heap->Prop} (I:Nat->Frm->Heap->Prop) (k:Nat) (a:I k fr h)
  (hr:∀k fr h,I k fr h->vwp P g n ro c (nO (λfr h=>∃m,m<k/\I m fr h) Q) fr h):vwp P g n ro (.loop c) Q fr h:=⟨I,⟨k,a⟩,hr⟩
open Go.Proofs.Tryz
open Go.Proofs
@[go_sem] theorem wc:szT prog 3=1:=by kernel_rfl
@[go_sem] theorem zHA:agT prog 3=some false:=by kernel_rfl
@[go_sem] theorem uN:qK prog 3=some (.int .i64 0):=by kernel_rfl
@[go_sem] theorem BE:uJ prog 3=false:=by kernel_rfl
@[go_sem] theorem YP:gB prog 3=true:=by kernel_rfl
@[go_sem] theorem mO:ye prog 3=8:=by kernel_rfl
@[go_sem] theorem Iq:Vc prog 3=some (false,[.i]):=by kernel_rfl
@[go_sem] theorem BF:szT prog 4=1:=by kernel_rfl
@[go_sem] theorem zHB:agT prog 4=some false:=by kernel_rfl
@[go_sem] theorem zCc:qK prog 4=some (.bool false):=by kernel_rfl
@[go_sem] theorem zCd:szT prog 5=1:=by kernel_rfl
@[go_sem] theorem zHC:agT prog 5=some false:=by kernel_rfl
@[go_sem] theorem uY:szT prog 9=1:=by kernel_rfl
@[go_sem] theorem zHD:agT prog 9=some false:=by kernel_rfl
@[go_sem] theorem nR:qK prog 9=some (.str []):=by kernel_rfl
@[go_sem] theorem km:gB prog 9=true:=by kernel_rfl
@[go_sem] theorem tB:ye prog 9=16:=by kernel_rfl
@[go_sem] theorem V2:cJ prog 9=none:=by kernel_rfl
@[go_sem] theorem YQ:Vc prog 9=some (false,[.s]):=by kernel_rfl
@[go_sem] theorem zFq:szT prog 22=1:=by kernel_rfl
@[go_sem] theorem zFr:agT prog 22=some false:=by kernel_rfl
@[go_sem] theorem mP:qO prog 22=some 108:=by kernel_rfl
@[go_sem] theorem Dv:uJ prog 22=true:=by kernel_rfl
@[go_sem] theorem Gi:cJ prog 22=none:=by kernel_rfl
@[go_sem] theorem zFs:szT prog 23=1:=by kernel_rfl
@[go_sem] theorem zFt:agT prog 23=some false:=by kernel_rfl
@[go_sem] theorem KW:qO prog 23=some 113:=by kernel_rfl
@[go_sem] theorem zFu:szT prog 24=1:=by kernel_rfl
@[go_sem] theorem zFv:agT prog 24=some false:=by kernel_rfl
@[go_sem] theorem ae:qO prog 24=some 117:=by kernel_rfl
@[go_sem] theorem Dw:uJ prog 24=true:=by kernel_rfl
@[go_sem] theorem zFw:szT prog 25=1:=by kernel_rfl
@[go_sem] theorem zFx:agT prog 25=some false:=by kernel_rfl
@[go_sem] theorem KX:qO prog 25=some 121:=by kernel_rfl
@[go_sem] theorem zFy:szT prog 27=4:=by kernel_rfl
@[go_sem] theorem BG:agT prog 27=some true:=by kernel_rfl
@[go_sem] theorem Gj:zl prog 27 0=some (0,22):=by kernel_rfl
@[go_sem] theorem Gk:zl prog 27 1=some (1,23):=by kernel_rfl
@[go_sem] theorem Gl:zl prog 27 2=some (2,24):=by kernel_rfl
@[go_sem] theorem Gm:zl prog 27 3=some (3,25):=by kernel_rfl
@[go_sem] theorem zFz:szT prog 29=1:=by kernel_rfl
@[go_sem] theorem BH:agT prog 29=some false:=by kernel_rfl
@[go_sem] theorem KY:qO prog 29=some 58:=by kernel_rfl
@[go_sem] theorem mQ:szT prog 30=1:=by kernel_rfl
@[go_sem] theorem zF0:agT prog 30=some false:=by kernel_rfl
@[go_sem] theorem V3:qK prog 30=some .nilsl:=by kernel_rfl
@[go_sem] theorem ym:qO prog 30=some 128:=by kernel_rfl
@[go_sem] theorem Dx:uJ prog 30=true:=by kernel_rfl
@[go_sem] theorem Qv:gB prog 30=true:=by kernel_rfl
@[go_sem] theorem YR:ye prog 30=24:=by kernel_rfl
@[go_sem] theorem Qw:szT prog 31=1:=by kernel_rfl
@[go_sem] theorem zF1:agT prog 31=some false:=by kernel_rfl
@[go_sem] theorem yq:qO prog 31=some 9:=by kernel_rfl
@[go_sem] theorem Dy:uJ prog 31=true:=by kernel_rfl
@[go_sem] theorem Gn:cJ prog 31=none:=by kernel_rfl
@[go_sem] theorem Qx:szT prog 33=2:=by kernel_rfl
@[go_sem] theorem zF2:agT prog 33=some true:=by kernel_rfl
@[go_sem] theorem KZ:qK prog 33=some (.agg [.nilsl, .nilsl]):=by kernel_rfl
@[go_sem] theorem RE:wi prog 33=some [(0,1),(1,1)]:=by kernel_rfl
@[go_sem] theorem Gp:zl prog 33 0=some (0,30):=by kernel_rfl
@[go_sem] theorem Gq:zl prog 33 1=some (1,31):=by kernel_rfl
@[go_sem] theorem BI:szT prog 35=1:=by kernel_rfl
@[go_sem] theorem zF3:agT prog 35=some false:=by kernel_rfl
@[go_sem] theorem zBp:qK prog 35=some .nilsl:=by kernel_rfl
@[go_sem] theorem mR:qO prog 35=some 67:=by kernel_rfl
@[go_sem] theorem Dz:uJ prog 35=true:=by kernel_rfl
@[go_sem] theorem V4:szT prog 37=4:=by kernel_rfl
@[go_sem] theorem zF4:agT prog 37=some true:=by kernel_rfl
@[go_sem] theorem af:qK prog 37=some (.agg [(.bool false), .nilsl, .nilsl, .nilsl]):=by kernel_rfl
@[go_sem] theorem lq:wi prog 37=some [(0,1),(1,2),(3,1)]:=by kernel_rfl
@[go_sem] theorem Gr:zl prog 37 0=some (0,4):=by kernel_rfl
@[go_sem] theorem Gs:zl prog 37 2=some (3,35):=by kernel_rfl
@[go_sem] theorem BJ:szT prog 41=1:=by kernel_rfl
@[go_sem] theorem zF5:agT prog 41=some false:=by kernel_rfl
@[go_sem] theorem zBq:qK prog 41=some .nilfn:=by kernel_rfl
@[go_sem] theorem mS:szT prog 42=1:=by kernel_rfl
@[go_sem] theorem zF6:agT prog 42=some false:=by kernel_rfl
@[go_sem] theorem zBr:qK prog 42=some (.int .i64 0):=by kernel_rfl
@[go_sem] theorem BK:szT prog 45=1:=by kernel_rfl
@[go_sem] theorem zF7:agT prog 45=some false:=by kernel_rfl
@[go_sem] theorem yJ:qO prog 45=some 3:=by kernel_rfl
@[go_sem] theorem D5:uJ prog 45=true:=by kernel_rfl
@[go_sem] theorem WU:cJ prog 45=none:=by kernel_rfl
@[go_sem] theorem zF8:szT prog 54=1:=by kernel_rfl
@[go_sem] theorem zF9:agT prog 54=some false:=by kernel_rfl
@[go_sem] theorem Ka:qO prog 54=some 56:=by kernel_rfl
@[go_sem] theorem Qy:szT prog 56=4:=by kernel_rfl
@[go_sem] theorem zGA:agT prog 56=some true:=by kernel_rfl
@[go_sem] theorem Kb:qK prog 56=some (.agg [(.int .i64 0),(.str []),(.str []), .nilsl]):=by kernel_rfl
@[go_sem] theorem RF:wi prog 56=some [(0,1),(1,1),(2,1),(3,1)]:=by kernel_rfl
@[go_sem] theorem Gt:zl prog 56 0=some (0,3):=by kernel_rfl
@[go_sem] theorem Gu:zl prog 56 1=some (1,9):=by kernel_rfl
@[go_sem] theorem Gv:zl prog 56 2=some (2,9):=by kernel_rfl
@[go_sem] theorem Gw:zl prog 56 3=some (3,54):=by kernel_rfl
@[go_sem] theorem Qz:szT prog 58=12:=by kernel_rfl
@[go_sem] theorem zGB:agT prog 58=some true:=by kernel_rfl
@[go_sem] theorem zBs:qK prog 58=some (.agg [(.int .i64 0),(.str []),(.str []),(.int .i64 0),(.int .i64 0),(.int .i64 0),(.bool false),(.int .i64 0),(.str []),(.str []), .nilsl, .nilsl]):=by kernel_rfl
@[go_sem] theorem Gx:zl prog 58 0=some (0,3):=by kernel_rfl
@[go_sem] theorem Gy:zl prog 58 1=some (1,9):=by kernel_rfl
@[go_sem] theorem Gz:zl prog 58 2=some (2,9):=by kernel_rfl
@[go_sem] theorem G5:zl prog 58 3=some (3,3):=by kernel_rfl
@[go_sem] theorem G6:zl prog 58 4=some (4,3):=by kernel_rfl
@[go_sem] theorem G7:zl prog 58 5=some (5,3):=by kernel_rfl
@[go_sem] theorem G8:zl prog 58 6=some (6,4):=by kernel_rfl
@[go_sem] theorem G9:zl prog 58 7=some (7,56):=by kernel_rfl
@[go_sem] theorem FA:zl prog 58 8=some (11,31):=by kernel_rfl
@[go_sem] theorem zGC:szT prog 61=1:=by kernel_rfl
@[go_sem] theorem zGD:agT prog 61=some false:=by kernel_rfl
@[go_sem] theorem oU:qO prog 61=some 30:=by kernel_rfl
@[go_sem] theorem D6:uJ prog 61=true:=by kernel_rfl
@[go_sem] theorem uO:szT prog 65=2:=by kernel_rfl
@[go_sem] theorem zGE:agT prog 65=some true:=by kernel_rfl
@[go_sem] theorem mT:qK prog 65=some (.agg [(.int .i64 0), .nilsl]):=by kernel_rfl
@[go_sem] theorem FB:gB prog 65=true:=by kernel_rfl
@[go_sem] theorem Q0:ye prog 65=32:=by kernel_rfl
@[go_sem] theorem lr:wi prog 65=some [(0,1),(1,1)]:=by kernel_rfl
@[go_sem] theorem FC:zl prog 65 0=some (0,3):=by kernel_rfl
@[go_sem] theorem FD:zl prog 65 1=some (1,45):=by kernel_rfl
@[go_sem] theorem cz:szT prog 67=4:=by kernel_rfl
@[go_sem] theorem zGF:agT prog 67=some true:=by kernel_rfl
@[go_sem] theorem jl:qK prog 67=some (.agg [(.int .i64 0), .nilsl,(.int .i64 0), .nilsl]):=by kernel_rfl
@[go_sem] theorem FE:gB prog 67=true:=by kernel_rfl
@[go_sem] theorem Q1:ye prog 67=64:=by kernel_rfl
@[go_sem] theorem bA:wi prog 67=some [(0,1),(1,1),(2,2)]:=by kernel_rfl
@[go_sem] theorem FF:zl prog 67 0=some (0,3):=by kernel_rfl
@[go_sem] theorem FH:zl prog 67 1=some (1,45):=by kernel_rfl
@[go_sem] theorem FI:zl prog 67 2=some (2,65):=by kernel_rfl
@[go_sem] theorem zGG:agT prog 75=some false:=by kernel_rfl
@[go_sem] theorem zGH:agT prog 89=some false:=by kernel_rfl
@[go_sem] theorem zGI:agT prog 95=some false:=by kernel_rfl
@[go_sem] theorem rz:szT prog 108=4:=by kernel_rfl
@[go_sem] theorem zCe:agT prog 108=some true:=by kernel_rfl
@[go_sem] theorem gk:qK prog 108=some (.agg [(.str []),(.str []),(.int .i64 0),(.str [])]):=by kernel_rfl
@[go_sem] theorem Kc:gB prog 108=true:=by kernel_rfl
@[go_sem] theorem RG:ye prog 108=56:=by kernel_rfl
@[go_sem] theorem gm:wi prog 108=some [(0,1),(1,1),(2,1),(3,1)]:=by kernel_rfl
@[go_sem] theorem Ir:zl prog 108 0=some (0,9):=by kernel_rfl
@[go_sem] theorem It:zl prog 108 1=some (1,9):=by kernel_rfl
@[go_sem] theorem Iu:zl prog 108 2=some (2,3):=by kernel_rfl
@[go_sem] theorem Iv:zl prog 108 3=some (3,9):=by kernel_rfl
@[go_sem] theorem gp:szT prog 113=3:=by kernel_rfl
@[go_sem] theorem zCf:agT prog 113=some true:=by kernel_rfl
@[go_sem] theorem BL:qK prog 113=some (.agg [(.str []),(.str []), .nilsl]):=by kernel_rfl
@[go_sem] theorem Iw:zl prog 113 0=some (0,9):=by kernel_rfl
@[go_sem] theorem Ix:zl prog 113 1=some (1,9):=by kernel_rfl
@[go_sem] theorem Iy:zl prog 113 2=some (2,45):=by kernel_rfl
@[go_sem] theorem pu:szT prog 117=5:=by kernel_rfl
@[go_sem] theorem zCg:agT prog 117=some true:=by kernel_rfl
@[go_sem] theorem Q2:qK prog 117=some (.agg [(.str []),(.int .i64 0),(.int .i64 0),(.int .i64 0), .nilsl]):=by kernel_rfl
@[go_sem] theorem Ke:gB prog 117=true:=by kernel_rfl
@[go_sem] theorem RH:ye prog 117=64:=by kernel_rfl
@[go_sem] theorem Iz:zl prog 117 0=some (0,9):=by kernel_rfl
@[go_sem] theorem I0:zl prog 117 1=some (1,3):=by kernel_rfl
@[go_sem] theorem I1:zl prog 117 2=some (2,3):=by kernel_rfl
@[go_sem] theorem I2:zl prog 117 3=some (3,3):=by kernel_rfl
@[go_sem] theorem I3:zl prog 117 4=some (4,31):=by kernel_rfl
@[go_sem] theorem ah:szT prog 121=2:=by kernel_rfl
@[go_sem] theorem zCh:agT prog 121=some true:=by kernel_rfl
@[go_sem] theorem Q3:qK prog 121=some (.agg [(.str []),(.str [])]):=by kernel_rfl
@[go_sem] theorem WV:wi prog 121=some [(0,1),(1,1)]:=by kernel_rfl
@[go_sem] theorem I4:zl prog 121 0=some (0,9):=by kernel_rfl
@[go_sem] theorem I5:zl prog 121 1=some (1,9):=by kernel_rfl
@[go_sem] theorem gq:qO prog 127=some 130:=by kernel_rfl
@[go_sem] theorem FJ:uJ prog 127=true:=by kernel_rfl
@[go_sem] theorem yp:szT prog 128=1:=by kernel_rfl
@[go_sem] theorem zCi:agT prog 128=some false:=by kernel_rfl
@[go_sem] theorem pv:qK prog 128=some .nilsl:=by kernel_rfl
@[go_sem] theorem yX:qO prog 128=some 130:=by kernel_rfl
@[go_sem] theorem FK:uJ prog 128=true:=by kernel_rfl
@[go_sem] theorem wq:gB prog 128=true:=by kernel_rfl
@[go_sem] theorem qQ:ye prog 128=24:=by kernel_rfl
@[go_sem] theorem mU:cJ prog 128=none:=by kernel_rfl
@[go_sem] theorem yv:szT prog 130=2:=by kernel_rfl
@[go_sem] theorem zCj:agT prog 130=some true:=by kernel_rfl
@[go_sem] theorem qt:qK prog 130=some (.agg [(.str []),(.str [])]):=by kernel_rfl
@[go_sem] theorem jm:gB prog 130=true:=by kernel_rfl
@[go_sem] theorem rV:ye prog 130=32:=by kernel_rfl
@[go_sem] theorem uo:wi prog 130=some [(0,1),(1,1)]:=by kernel_rfl
@[go_sem] theorem I6:zl prog 130 0=some (0,9):=by kernel_rfl
@[go_sem] theorem I7:zl prog 130 1=some (1,9):=by kernel_rfl
@[go_sem] theorem Q4:qK prog 132=some (.agg [.nilsl, .nilsl, .nilsl, .nilsl, .nilsl, .nilsl, .nilsl]):=by kernel_rfl
@[go_sem] theorem WW:wi prog 132=some [(0,4),(4,1),(5,1),(6,1)]:=by kernel_rfl
@[go_sem] theorem I8:zl prog 132 0=some (0,27):=by kernel_rfl
@[go_sem] theorem I9:zl prog 132 1=some (4,29):=by kernel_rfl
@[go_sem] theorem HA:zl prog 132 2=some (5,61):=by kernel_rfl
@[go_sem] theorem HB:zl prog 132 3=some (6,31):=by kernel_rfl
@[go_sem] theorem FL:szT prog 138=1:=by kernel_rfl
@[go_sem] theorem zCk:agT prog 138=some false:=by kernel_rfl
@[go_sem] theorem BM:qK prog 138=some .nilsl:=by kernel_rfl
@[go_sem] theorem wG:qO prog 138=some 65:=by kernel_rfl
@[go_sem] theorem FM:uJ prog 138=true:=by kernel_rfl
@[go_sem] theorem aj:cJ prog 138=none:=by kernel_rfl
@[go_sem] theorem zCl:szT prog 151=1:=by kernel_rfl
@[go_sem] theorem zCm:agT prog 151=some false:=by kernel_rfl
@[go_sem] theorem V5:Vb prog 151=some (3,128):=by kernel_rfl
@[go_sem] theorem zCn:szT prog 152=1:=by kernel_rfl
@[go_sem] theorem zCo:agT prog 152=some false:=by kernel_rfl
@[go_sem] theorem V6:Vb prog 152=some (9,9):=by kernel_rfl
@[go_sem] theorem Q5:qK prog 154=some (.agg [.nilsl, .nilsl, .nilsl, .nilsl, .nilsl, .nilmap, .nilmap]):=by kernel_rfl
@[go_sem] theorem WX:wi prog 154=some [(0,4),(4,1),(5,1),(6,1)]:=by kernel_rfl
@[go_sem] theorem HC:zl prog 154 0=some (0,27):=by kernel_rfl
@[go_sem] theorem HD:zl prog 154 1=some (4,29):=by kernel_rfl
@[go_sem] theorem HE:zl prog 154 2=some (5,151):=by kernel_rfl
@[go_sem] theorem HF:zl prog 154 3=some (6,152):=by kernel_rfl
@[go_sem] theorem an:Vb prog 180=some (9,3):=by kernel_rfl
@[go_sem] theorem lu:szT prog 189=6:=by kernel_rfl
@[go_sem] theorem FN:agT prog 189=some true:=by kernel_rfl
@[go_sem] theorem YS:qK prog 189=some (.agg [.nilsl, .nilsl, .nilsl, .nilsl, .nilsl, .nilsl]):=by kernel_rfl
@[go_sem] theorem gu:wi prog 189=some [(0,1),(1,1),(2,4)]:=by kernel_rfl
@[go_sem] theorem HG:zl prog 189 0=some (0,61):=by kernel_rfl
@[go_sem] theorem HH:zl prog 189 1=some (1,31):=by kernel_rfl
@[go_sem] theorem HI:zl prog 189 2=some (2,27):=by kernel_rfl
@[go_sem] theorem YT:qO prog 225=some 229:=by kernel_rfl
@[go_sem] theorem zCp:szT prog 227=1:=by kernel_rfl
@[go_sem] theorem zCq:agT prog 227=some false:=by kernel_rfl
@[go_sem] theorem WY:szT prog 229=2:=by kernel_rfl
@[go_sem] theorem zCr:agT prog 229=some true:=by kernel_rfl
@[go_sem] theorem YU:qK prog 229=some (.agg [(.int .i64 0), .nilfn]):=by kernel_rfl
@[go_sem] theorem WZ:wi prog 229=some [(0,1),(1,1)]:=by kernel_rfl
@[go_sem] theorem HJ:zl prog 229 0=some (0,3):=by kernel_rfl
@[go_sem] theorem HK:zl prog 229 1=some (1,227):=by kernel_rfl
@[go_sem] theorem zCs:agT prog 230=some false:=by kernel_rfl
@[go_sem] theorem Q6:szT prog 238=8:=by kernel_rfl
@[go_sem] theorem zCt:agT prog 238=some true:=by kernel_rfl
@[go_sem] theorem rW:qK prog 238=some (.agg [(.bool false),(.bool false),(.bool false),(.bool false),(.bool false),(.bool false),(.bool false),(.bool false)]):=by kernel_rfl
@[go_sem] theorem uq:wi prog 238=some [(0,1),(1,1),(2,1),(3,1),(4,1),(5,1),(6,1),(7,1)]:=by kernel_rfl
@[go_sem] theorem HL:zl prog 238 0=some (0,4):=by kernel_rfl
@[go_sem] theorem HM:zl prog 238 1=some (1,4):=by kernel_rfl
@[go_sem] theorem HN:zl prog 238 2=some (2,4):=by kernel_rfl
@[go_sem] theorem HO:zl prog 238 3=some (3,4):=by kernel_rfl
@[go_sem] theorem HP:zl prog 238 4=some (4,4):=by kernel_rfl
@[go_sem] theorem HQ:zl prog 238 5=some (5,4):=by kernel_rfl
@[go_sem] theorem HR:zl prog 238 6=some (6,4):=by kernel_rfl
@[go_sem] theorem HS:zl prog 238 7=some (7,4):=by kernel_rfl
@[go_sem] theorem Q7:qO prog 268=some 5:=by kernel_rfl
@[go_sem] theorem FO:szT prog 290=1:=by kernel_rfl
@[go_sem] theorem zCu:agT prog 290=some false:=by kernel_rfl
@[go_sem] theorem BN:qK prog 290=some .nilfn:=by kernel_rfl
@[go_sem] theorem zCv:agT prog 319=some false:=by kernel_rfl
@[go_sem] theorem FP:szT prog 328=3:=by kernel_rfl
@[go_sem] theorem zCw:agT prog 328=some true:=by kernel_rfl
@[go_sem] theorem Q8:qK prog 328=some (.agg [(.int .i64 0),(.int .i64 0),(.int .i64 0)]):=by kernel_rfl
@[go_sem] theorem Wa:wi prog 328=some [(0,1),(1,1),(2,1)]:=by kernel_rfl
@[go_sem] theorem HU:zl prog 328 0=some (0,3):=by kernel_rfl
@[go_sem] theorem HV:zl prog 328 1=some (1,3):=by kernel_rfl
@[go_sem] theorem HW:zl prog 328 2=some (2,3):=by kernel_rfl
@[go_sem] theorem zCx:agT prog 363=some false:=by kernel_rfl
end Go.V
