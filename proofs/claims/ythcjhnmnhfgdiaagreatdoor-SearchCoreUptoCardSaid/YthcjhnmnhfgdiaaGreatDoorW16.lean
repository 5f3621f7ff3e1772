/- A machine of abstract values for programs of the model, and its soundness, part 5. No condition. -/
import Derived.Test.YthcjhnmnhfgdiaaGreatDoorW02
import Derived.KernelRfl
import Derived.Test.YthcjhnmnhfgdiaaGreatDoorProg
set_option linter.all false
set_option maxHeartbeats 8000000
namespace Go.V
def onS (o:Option D) (k:D->Prop):Prop:=
 match o with
 |some d=>k d
 |none=>False
def onR (o:VR) (k:D->Heap->Prop):Prop:=
 match o with
 |some (d,h)=>k d h
 |none=>False
def onH (o:Option Heap) (k:Heap->Prop):Prop:=
 match o with
 |some h=>k h
 |none=>False
@[congr] theorem Bp {o o':Option D} {k:D->Prop} (h:o=o'):onS o k=onS o' k:=by rw[h]
@[congr] theorem Bq {o o':VR} {k:D->Heap->Prop} (h:o=o'):onR o k=onR o' k:=by rw[h]
@[congr] theorem Br {o o':Option Heap} {k:Heap->Prop} (h:o=o'):onH o k=onH o' k:=by rw[h]
variable {P:Program}{f:FuncId}{h h':Heap}{K:D->Heap->Prop}{id i n:Nat}{op:Op}{ev:Operand->D}{fr:Frm}
@[congr] theorem Fg {args args':List D} (ha:args=args') (hh:h=h'):zA P f args h K=zA P f args' h' K:=by rw[ha,hh]
@[congr] theorem Hm {args args':List D} (ha:args=args') (hh:h=h'):yt P id args h K=yt P id args' h' K:=by rw[ha,hh]
@[congr] theorem Cl {f f':D} {args args':List D} (hf:f=f') (ha:args=args') (hh:h=h'):jY P f args h K=jY P f' args' h' K:=by rw[hf,ha,hh]
@[go_sem ↓] theorem zCd (d:D) (k:D->Prop):onS (some d) k=k d:=(rfl)
@[go_sem ↓] theorem gS (d:D) (h:Heap) (k:D->Heap->Prop):onR (some (d,h)) k=k d h:=(rfl)
@[go_sem ↓] theorem zCe (h:Heap) (k:Heap->Prop):onH (some h) k=k h:=(rfl)
section rules
variable {P:Program} {g:Cfg} {n:Nat} {ro:Option Nat} {mu:Tmp->Bool} {ops:Array Oper} {rest:List Oper} {K:Frm->Heap->Prop} {fr:Frm} {h:Heap} {dst:Option Tmp} {ty:TypeId} {pos:String} {after:Array Edge} {gd:Option (Nat×Bool)} {Q:Exit->Frm->Heap->Prop}
 {m:Bool} {nid:Nat} {k:D->Heap->Prop}
@[go_sem ↓] theorem ZU (a b:Code):vwp P g n ro (.seq a b) Q fr h=vwp P g n ro a (mI (vwp P g n ro b Q) Q) fr h:=(rfl)
@[go_sem ↓] theorem Cm (id:Nat) (l:List Oper):vwp P g n ro (.region id l.toArray false) Q fr h=cS P g.mu l.toArray l (Q .normal) fr h:=(rfl)
def Us (id:Nat) (ops:Array Oper):vwp P g n ro (.region id ops true) Q fr h= ∃h0,HLe h0 h/\np P g.mu h0 (K2 P g.mu ops (g.dr id) (j6 ops.toList 0 [])) ops ((g.dr id).any (·.2.isSt)) (g.dr id) (Q .normal) fr h:=(rfl)
@[go_sem ↓] theorem zCf:vwp P g n ro .skip Q fr h=Q .normal fr h:=(rfl)
@[go_sem ↓] theorem zDe:vwp P g n ro .ret Q fr h=Q .ret fr h:=(rfl)
@[go_sem ↓] theorem zCg (i:Nat):vwp P g n ro (.exit i) Q fr h=Q (.exit i) fr h:=(rfl)
@[go_sem ↓] theorem Bs (id:Nat) (c:Code):vwp P g n ro (.block id c) Q fr h=vwp P g n ro c (mz id Q) fr h:=(rfl)
def onB (d:D) (x y:Prop):Prop:=
 match d with
 | .bool b=>match b with
  |true=>x
  |false=>y
 |_=>False
@[go_sem ↓] theorem zCh (c:Operand) (a b:Code):vwp P g n ro (.cond c a b) Q fr h=onB (yE fr c) (vwp P g n ro a Q fr h) (vwp P g n ro b Q fr h):=by
 simp only[vwp];rfl
@[congr] theorem Bt {d d':D} {x y:Prop} (h:d=d'):onB d x y=onB d' x y:=by rw[h]
@[go_sem ↓] theorem zCi (x y:Prop):onB (.bool true) x y=x:=(rfl)
@[go_sem ↓] theorem Bu (x y:Prop):onB (.bool false) x y=y:=(rfl)
@[go_sem ↓] theorem Hn (Kn:Frm->Heap->Prop):mI Kn Q .normal fr h=Kn fr h:=(rfl)
@[go_sem ↓] theorem Bv (Kn:Frm->Heap->Prop):mI Kn Q .ret fr h=Q .ret fr h:=(rfl)
@[go_sem ↓] theorem Cn (Kn:Frm->Heap->Prop) (i:Nat):mI Kn Q (.exit i) fr h=Q (.exit i) fr h:=(rfl)
@[go_sem ↓] theorem JV (i:Nat):mz i Q .normal fr h=Q .normal fr h:=(rfl)
@[go_sem ↓] theorem Co (i:Nat):mz i Q .ret fr h=Q .ret fr h:=(rfl)
@[go_sem ↓] theorem Fh (i j:Nat):mz i Q (.exit j) fr h=if j=i then Q .normal fr h else Q (.exit j) fr h:=(rfl)
@[go_sem ↓] theorem zCj:cS P mu ops [] K fr h=K fr h:=(rfl)
@[go_sem ↓] theorem Cp (op:Op):cS P mu ops (⟨dst,op,ty,pos,after,none⟩ ::rest) K fr h=wL P (kP mu dst) h.next op (yE fr) h λd h'=>cS P mu ops rest K (tt fr dst d) h':=(rfl)
def gif (g:Bool) (x y:Prop):Prop:=
 match g with
 |true=>x
 |false=>y
@[congr] theorem Bw {g g':Bool} {x y:Prop} (h:g=g'):gif g x y=gif g' x y:=by rw[h]
@[go_sem ↓] theorem zCk (x y:Prop):gif true x y=x:=(rfl)
@[go_sem ↓] theorem Bx (x y:Prop):gif false x y=y:=(rfl)
@[go_sem ↓] theorem Cq (op:Op) (j:Nat) (b:Bool):cS P mu ops (⟨dst,op,ty,pos,after,some (j,b)⟩ ::rest) K fr h =
  gif (qI ops fr (some (j,b))) (wL P (kP mu dst) h.next op (yE fr) h λd h'=>cS P mu ops rest K (tt fr dst d) h') (cS P mu ops rest K (tt fr dst wV) h):=by
 simp only[cS,gif];cases qI ops fr (some (j,b))<;>rfl
@[go_sem ↓] theorem zCl (t:Tmp):yE fr (.tmp t)=fr t:=(rfl)
@[go_sem ↓] theorem zCm (k:IntKind) (n:Int):yE fr (.const (.int k n))= .int k n:=(rfl)
@[go_sem ↓] theorem By (b:Bool):yE fr (.const (.bool b))= .bool b:=(rfl)
@[go_sem ↓] theorem Bz (f:Nat):yE fr (.func f)= .fn (.func f) [] []:=(rfl)
@[go_sem ↓] theorem zCn (s:ByteArray):yE fr (.const (.string s))= .str s.data.toList:=(rfl)
@[go_sem ↓] theorem Fi:yE fr (.const (.pointer none))= .nilptr:=(rfl)
@[go_sem ↓] theorem Cr:yE fr (.const (.slice none 0 0))= .nilsl:=(rfl)
@[go_sem ↓] theorem Fj:yE fr (.const (.map none))= .nilmap:=(rfl)
@[go_sem ↓] theorem Cs:yE fr (.const .nilFunc)= .nilfn:=(rfl)
@[go_sem ↓] theorem B0 (t i:Tmp) (d:D):tt fr (some t) d i=if i=t then d else fr i:=(rfl)
@[go_sem ↓] theorem B1 (d:D):tt fr none d=fr:=(rfl)
@[go_sem ↓] theorem zGr (x:Operand):wL P m nid (.move x) (yE fr) h k=k (yE fr x) h:=(rfl)
@[go_sem ↓] theorem zCo (x:Operand):wL P m nid (.assign x) (yE fr) h k=k (yE fr x) h:=(rfl)
@[go_sem ↓] theorem zGs (f:Operand) (args:List Operand) (ats:Array TypeId):wL P m nid (.call ⟨.value f,args.toArray,ats⟩) (yE fr) h k=jY P (yE fr f) (args.map (yE fr)) h k:=(rfl)
@[go_sem ↓] theorem Pq (f:FuncId) (a c args:List D):jY P (.fn (.func f) a c) args h k=zA P f (a++args++c) h k:=(rfl)
@[go_sem ↓] theorem zCp (id:Nat) (args:List D):jY P (.yld id) args h k=yt P id args h k:=(rfl)
def sE {o:Option D} (h1:qH op=none) (a:vop P m nid op ev h=o.map (·,h)):wL P m nid op ev h k=onS o (k · h):=by
 unfold wL;rw[h1,a];cases o<;>rfl
def Pr {o:Option Heap} (h1:qH op=none) (a:vop P m nid op ev h=o.map (wV,·)):wL P m nid op ev h k=onH o (k wV ·):=by
 unfold wL;rw[h1,a];cases o<;>rfl
def fe {o:VR} (h1:qH op=none) (a:vop P m nid op ev h=o):wL P m nid op ev h k=onR o k:=by
 unfold wL;rw[h1,a];cases o<;>rfl
@[go_sem ↓] theorem zH8 (op:BinOp) (t u:TypeId) (x y:Operand):wL P m nid (.binOp op t x y u) (yE fr) h k=onS (oG P op t (isC x||isC y) (yE fr x) (yE fr y)) (k · h):=sE rfl rfl
@[go_sem ↓] theorem zI5 (op:UnOp) (t:TypeId) (x:Operand):wL P m nid (.unOp op t x) (yE fr) h k=onS (vun op (yE fr x)) (k · h):=sE rfl rfl
@[go_sem ↓] theorem zGt (c x y:Operand):wL P m nid (.pick c x y) (yE fr) h k=onB (yE fr c) (k (yE fr x) h) (k (yE fr y) h):=by
 simp only[wL,qH,vop,onB];cases yE fr c with
 |bool b=>cases b<;>rfl
 |_=>rfl
@[go_sem ↓] theorem zDf (t:TypeId):wL P m nid (.alloc t) (yE fr) h k=onR (vop P m nid (.alloc t) (yE fr) h) k:=fe rfl rfl
@[go_sem ↓] theorem zH9 (t:TypeId) (x:Operand):wL P m nid (.box t x) (yE fr) h k=onR (vop P m nid (.box t x) (yE fr) h) k:=fe rfl rfl
@[go_sem ↓] theorem zDg (t:TypeId) (ps:List (Nat×Operand)):wL P m nid (.build t ps.toArray) (yE fr) h k=onS (zx P t (ps.map λp=>(p.1,yE fr p.2))) (k · h):=sE rfl rfl
@[go_sem ↓] theorem Ho (t:TypeId) (n:Nat) (ps:List (Nat×Operand)):wL P m nid (.buildSlice t n ps.toArray) (yE fr) h k=onR (zI P m nid t n (ps.map λp=>(p.1,yE fr p.2)) h) k:=fe rfl rfl
@[go_sem ↓] theorem zGu (t:TypeId) (x:Operand):wL P m nid (.load t x) (yE fr) h k=onS (sh P t (yE fr x) h) (k · h):=sE rfl rfl
@[go_sem ↓] theorem zDh (t:TypeId) (x y:Operand):wL P m nid (.store t x y) (yE fr) h k=onH (zQ P t (yE fr x) (yE fr y) h) (k wV ·):=Pr rfl rfl
@[go_sem ↓] theorem Ct (x:Operand):wL P m nid (.nilCheck x) (yE fr) h k=onS (ze (yE fr x)) (k · h):=sE rfl rfl
@[go_sem ↓] theorem B3 (s t:TypeId) (x:Operand):wL P m nid (.convert s t x) (yE fr) h k=onS (mg P s t (yE fr x) h) (k · h):=sE rfl rfl
@[go_sem ↓] theorem Cu (P:Program) (s t:TypeId) (k:IntKind) (n:Int) (h:Heap):mg P s t (.int k n) h=tQ P s t (.int k n):=(rfl)
@[go_sem ↓] theorem Cv (P:Program) (s t:TypeId) (x:List UInt8) (h:Heap):mg P s t (.str x) h=tQ P s t (.str x):=(rfl)
@[go_sem ↓] theorem Cw (f:FuncId) (a c:List Operand):wL P m nid (.makeFunc (.func f) a.toArray c.toArray) (yE fr) h k=k (.fn (.func f) (a.map (yE fr)) (c.map (yE fr))) h:=(rfl)
@[go_sem ↓] theorem B4 (t:TypeId):wL P m nid (.makeMap t none) (yE fr) h k=k (.map nid) (h.new nid (.map [])):=(rfl)
@[go_sem ↓] theorem Fk (t:TypeId) (x y:Operand):wL P m nid (.makeSlice t x y) (yE fr) h k=onR (qV P m nid t (yE fr x) (yE fr y) h) k:=fe rfl rfl
@[go_sem ↓] theorem zDi (t:TypeId) (x:Operand) (lo hi mx:Option Operand):wL P m nid (.slice t x lo hi mx) (yE fr) h k=onS (yk P t (yE fr x) (lo.map (yE fr)) (hi.map (yE fr)) (mx.map (yE fr)) h) (k · h):=sE rfl rfl
@[go_sem ↓] theorem Fm (t:TypeId) (x:Operand) (f:Nat):wL P m nid (.fieldAddr t x f) (yE fr) h k=onS (sV P t (yE fr x) f) (k · h):=sE rfl rfl
@[go_sem ↓] theorem Fo (t:TypeId) (x i:Operand):wL P m nid (.indexAddr t x i) (yE fr) h k=onS (zR P t (yE fr x) (yE fr i)) (k · h):=sE rfl rfl
@[go_sem ↓] theorem zDj (t:TypeId) (x i:Operand):wL P m nid (.index t x i) (yE fr) h k=onS (tY P t (yE fr x) (yE fr i)) (k · h):=sE rfl rfl
@[go_sem ↓] theorem zCq (t:TypeId) (x y:Operand) (ok:Bool):wL P m nid (.lookup t x y ok) (yE fr) h k=onS (ym P t (yE fr x) (yE fr y) ok h) (k · h):=sE rfl rfl
@[go_sem ↓] theorem Fp (t:TypeId) (x y z:Operand):wL P m nid (.mapUpdate t x y z) (yE fr) h k=onH (ye P t (yE fr x) (yE fr y) (yE fr z) h) (k wV ·):=Pr rfl rfl
@[go_sem ↓] theorem zDk (t:TypeId) (x:Operand):wL P m nid (.range t x) (yE fr) h k=onR (jS P nid t (yE fr x) h) k:=fe rfl rfl
@[go_sem ↓] theorem zGv (x:Operand) (b:Bool):wL P m nid (.next x b) (yE fr) h k=onR (cV (yE fr x) b h) k:=fe rfl rfl
@[go_sem ↓] theorem B5 (x:Operand) (i:Nat):wL P m nid (.extract x i) (yE fr) h k=onS (rU (yE fr x) i) (k · h):=sE rfl rfl
@[go_sem ↓] theorem zIA (t:TypeId) (x:Operand):wL P m nid (.call ⟨.builtin .len,#[x],#[t]⟩) (yE fr) h k=onS (tu P t (yE fr x) h) (k · h):=sE rfl rfl
@[go_sem ↓] theorem zCr (t u:TypeId) (x y:Operand):wL P m nid (.call ⟨.builtin .append,#[x,y],#[t,u]⟩) (yE fr) h k=onR (if uK P u then sI P m nid t (yE fr x) (yE fr y) h else sJ P m nid t u (yE fr x) (yE fr y) h) k:=fe rfl rfl
@[go_sem ↓] theorem Cx (t:TypeId) (s x:D):sI P false nid t s x h=zg P false nid t s x h:=(rfl)
@[go_sem ↓] theorem Cy (t:TypeId) (s x:D):sI P true nid t s x h=zg P true nid t s x (qn s x h):=(rfl)
@[go_sem ↓] theorem Cz (sz:Nat) (xs:List (List D)) (tk:Tk) (x:D):qn (.sl sz xs tk) x h=h:=(rfl)
@[go_sem ↓] theorem zIB (ats:Array TypeId) (x y:Operand):wL P m nid (.call ⟨.builtin .min,#[x,y],ats⟩) (yE fr) h k=onS (Q4 (yE fr x) (yE fr y)) (k · h):=sE rfl rfl
@[go_sem ↓] theorem zIC (x y:Operand) (ats:Array TypeId):wL P m nid (.call ⟨.builtin .max,#[x,y],ats⟩) (yE fr) h k=onS (JD (yE fr x) (yE fr y)) (k · h):=by
 refine sE rfl ?_;simp only[vop,sK,Wt,List.map_cons,List.map_nil];cases JD (yE fr x) (yE fr y)<;>rfl
@[go_sem ↓] theorem C0 (d:D) (ds:List D):ZI (d::ds) 0=d:=(rfl)
@[go_sem ↓] theorem C1 (d:D) (ds:List D) (i:Nat):ZI (d::ds) (i+1)=ZI ds i:=(rfl)
def onL (o:Option (List D)) (k:List D->Prop):Prop:=
 match o with
 |some ds=>k ds
 |none=>False
@[go_sem ↓] theorem zCs (rs:List ResultVar) (q:D->Heap->Prop):Hi P rs q .ret fr h=onL (su P fr h rs) λds=>q (kT ds) h:=by
 unfold Hi onL;cases su P fr h rs<;>simp
@[go_sem ↓] theorem Fq (rs:List ResultVar) (q:D->Heap->Prop):Hi P rs q .normal fr h=onL (su P fr h rs) λds=>q (kT ds) h:=by
 unfold Hi onL;cases su P fr h rs<;>simp
@[go_sem ↓] theorem B6 (k:List D->Prop):onL (su P fr h []) k=k []:=(rfl)
@[go_sem ↓] theorem B7 (t:Tmp) (rs:List ResultVar) (k:List D->Prop):onL (su P fr h (.tmp t::rs)) k=onL (su P fr h rs) λds=>k (fr t::ds):=by
 simp only[su,Pb];cases su P fr h rs<;>rfl
@[go_sem ↓] theorem C2 (a:Tmp) (t:TypeId) (rs:List ResultVar) (k:List D->Prop):onL (su P fr h (.cell a t::rs)) k=onS (sh P t (fr a) h) λd=>onL (su P fr h rs) λds=>k (d::ds):=by
 simp only[su,Pb];cases sh P t (fr a) h with
 |none=>rfl
 |some d=>cases su P fr h rs<;>rfl
@[go_sem ↓] theorem B8 (d:D):kT [d]=d:=(rfl)
@[go_sem ↓] theorem B9 (d d':D) (ds:List D):kT (d::d'::ds)= .tuple (d::d'::ds):=(rfl)
@[go_sem ↓] theorem AA:kT []= .tuple []:=(rfl)
end rules
def zZ (sz:Nat) (xs:List (List D)) (d:D):Prop:=(d= .nilsl/\xs= [])\/∃tk,d= .sl sz xs tk
section
variable {P:Program} {sz:Nat} {xs:List (List D)} {d:D} {t e:TypeId} {h:Heap}
def zZ.mk (tk:Tk):zZ sz xs (.sl sz xs tk):= .inr ⟨tk,rfl⟩
def zZ.nil:zZ sz [] .nilsl:= .inl ⟨rfl,rfl⟩
def yc (a:zZ sz xs d) (b:P.underlying t=some (.slice e)):tu P t d h=some (.int .i64 xs.length):=by
 rcases a with⟨rfl,rfl⟩ | ⟨tk,rfl⟩ <;>simp[tu,b]
def za (b:zZ sz xs d) (c:qR P t=some e) (f:szT P e=sz) {k:IntKind} {x:List D} (a:xs[i]? =some x):zR P t d (.int k i)=some (.iptr x 0):=by
 rcases b with⟨rfl,rfl⟩ | ⟨tk,rfl⟩
 ·simp at a
 ·simp[zR,c,f,a]
end
@[go_sem ↓] theorem zCt (P:Program) (op:BinOp) (t:TypeId) (c:Bool) (k k':IntKind) (a b:Int):oG P op t c (.int k a) (.int k' b)=sg op k k' a b:=(rfl)
@[go_sem ↓] theorem zCu (P:Program) (op:BinOp) (t:TypeId) (c:Bool) (a b:List UInt8):oG P op t c (.str a) (.str b)=K1 op a b:=(rfl)
@[go_sem ↓] theorem AB (k:IntKind) (a b:Int):sg .add k k a b=some (.int k (k.wrap (a+b))):=by simp[sg,UU]
@[go_sem ↓] theorem AC (k:IntKind) (a b:Int):sg .sub k k a b=some (.int k (k.wrap (a-b))):=by simp[sg,UU]
@[go_sem ↓] theorem AD (k:IntKind) (a b:Int):sg .mul k k a b=some (.int k (k.wrap (a*b))):=by simp[sg,UU]
@[go_sem ↓] theorem AE (k:IntKind) (a b:Int):sg .lss k k a b=some (.bool (decide (a<b))):=by simp[sg,UU]
@[go_sem ↓] theorem AF (k:IntKind) (a b:Int):sg .leq k k a b=some (.bool (decide (a<=b))):=by simp[sg,UU]
@[go_sem ↓] theorem AG (k:IntKind) (a b:Int):sg .gtr k k a b=some (.bool (decide (a>b))):=by simp[sg,UU]
@[go_sem ↓] theorem AH (k:IntKind) (a b:Int):sg .geq k k a b=some (.bool (decide (a>=b))):=by simp[sg,UU]
@[go_sem ↓] theorem AI (k:IntKind) (a b:Int):sg .eql k k a b=some (.bool (a==b)):=by simp[sg,UU]
@[go_sem ↓] theorem AJ (k:IntKind) (a b:Int):sg .neq k k a b=some (.bool (a !=b)):=by simp[sg,UU]
@[go_sem ↓] theorem zCv (a b:List UInt8):K1 .eql a b=some (.bool (a==b)):=(rfl)
@[go_sem ↓] theorem zCw (a b:List UInt8):K1 .neq a b=some (.bool (!(a==b))):=(rfl)
@[go_sem ↓] theorem zCx (a b:List UInt8):K1 .lss a b=some (.bool (cR a b)):=(rfl)
@[go_sem ↓] theorem C3 (P:Program) (t:TypeId) (cs:List D) (off:Nat) (h:Heap):sh P t (.iptr cs off) h=(match agT P t with
 |none=>none
 |some ag=>zN ag (szT P t) cs off):=(rfl)
@[go_sem ↓] theorem s8 (n:Nat) (cs:List D) (off:Nat):zN false n cs off=cs[off]? :=(rfl)
variable {P:Program}{n:Nat}{fr:Frm}{h:Heap}{K:D->Heap->Prop}
def Ut {g:Cfg} {ro:Option Nat} {c:Code} {Q:Exit->Frm->Heap->Prop} (I:Nat->Frm->Heap->Prop) (k:Nat) (a:I k fr h)
  (hr:∀k fr h,I k fr h->vwp P g n ro c (mI (λfr h=>∃m,m<k/\I m fr h) Q) fr h):vwp P g n ro (.loop c) Q fr h:=⟨I,⟨k,a⟩,hr⟩
open Go.Proofs.Tryz
open Go.Proofs
@[go_sem] theorem wY:szT prog 3=1:=by kernel_rfl
@[go_sem] theorem zID:agT prog 3=some false:=by kernel_rfl
@[go_sem] theorem uf:qQ prog 3=some (.int .i64 0):=by kernel_rfl
@[go_sem] theorem AK:uK prog 3=false:=by kernel_rfl
@[go_sem] theorem bj:j0 prog 3=true:=by kernel_rfl
@[go_sem] theorem nM:yZ prog 3=8:=by kernel_rfl
@[go_sem] theorem Hp:UX prog 3=some (false,[.i]):=by kernel_rfl
@[go_sem] theorem AL:szT prog 4=1:=by kernel_rfl
@[go_sem] theorem zIE:agT prog 4=some false:=by kernel_rfl
@[go_sem] theorem zDl:qQ prog 4=some (.bool false):=by kernel_rfl
@[go_sem] theorem zDm:szT prog 5=1:=by kernel_rfl
@[go_sem] theorem zIF:agT prog 5=some false:=by kernel_rfl
@[go_sem] theorem uu:szT prog 9=1:=by kernel_rfl
@[go_sem] theorem zIG:agT prog 9=some false:=by kernel_rfl
@[go_sem] theorem mM:qQ prog 9=some (.str []):=by kernel_rfl
@[go_sem] theorem jh:j0 prog 9=true:=by kernel_rfl
@[go_sem] theorem tS:yZ prog 9=16:=by kernel_rfl
@[go_sem] theorem Uu:bF prog 9=none:=by kernel_rfl
@[go_sem] theorem Y8:UX prog 9=some (false,[.s]):=by kernel_rfl
@[go_sem] theorem zGw:szT prog 22=1:=by kernel_rfl
@[go_sem] theorem zGx:agT prog 22=some false:=by kernel_rfl
@[go_sem] theorem lL:qR prog 22=some 108:=by kernel_rfl
@[go_sem] theorem C4:uK prog 22=true:=by kernel_rfl
@[go_sem] theorem Fs:bF prog 22=none:=by kernel_rfl
@[go_sem] theorem zGy:szT prog 23=1:=by kernel_rfl
@[go_sem] theorem zGz:agT prog 23=some false:=by kernel_rfl
@[go_sem] theorem JW:qR prog 23=some 113:=by kernel_rfl
@[go_sem] theorem zG0:szT prog 24=1:=by kernel_rfl
@[go_sem] theorem zG1:agT prog 24=some false:=by kernel_rfl
@[go_sem] theorem ZV:qR prog 24=some 117:=by kernel_rfl
@[go_sem] theorem C5:uK prog 24=true:=by kernel_rfl
@[go_sem] theorem zG2:szT prog 25=1:=by kernel_rfl
@[go_sem] theorem zG3:agT prog 25=some false:=by kernel_rfl
@[go_sem] theorem JX:qR prog 25=some 121:=by kernel_rfl
@[go_sem] theorem zG4:szT prog 27=4:=by kernel_rfl
@[go_sem] theorem AM:agT prog 27=some true:=by kernel_rfl
@[go_sem] theorem Ft:zm prog 27 0=some (0,22):=by kernel_rfl
@[go_sem] theorem Fu:zm prog 27 1=some (1,23):=by kernel_rfl
@[go_sem] theorem Fv:zm prog 27 2=some (2,24):=by kernel_rfl
@[go_sem] theorem Fw:zm prog 27 3=some (3,25):=by kernel_rfl
@[go_sem] theorem zG5:szT prog 29=1:=by kernel_rfl
@[go_sem] theorem AN:agT prog 29=some false:=by kernel_rfl
@[go_sem] theorem ZW:qR prog 29=some 58:=by kernel_rfl
@[go_sem] theorem C6:uK prog 29=true:=by kernel_rfl
@[go_sem] theorem lM:szT prog 30=1:=by kernel_rfl
@[go_sem] theorem zG6:agT prog 30=some false:=by kernel_rfl
@[go_sem] theorem Uv:qQ prog 30=some .nilsl:=by kernel_rfl
@[go_sem] theorem yp:qR prog 30=some 128:=by kernel_rfl
@[go_sem] theorem C7:uK prog 30=true:=by kernel_rfl
@[go_sem] theorem Ps:j0 prog 30=true:=by kernel_rfl
@[go_sem] theorem Y9:yZ prog 30=24:=by kernel_rfl
@[go_sem] theorem Pt:szT prog 31=1:=by kernel_rfl
@[go_sem] theorem zG7:agT prog 31=some false:=by kernel_rfl
@[go_sem] theorem yv:qR prog 31=some 9:=by kernel_rfl
@[go_sem] theorem C8:uK prog 31=true:=by kernel_rfl
@[go_sem] theorem Fx:bF prog 31=none:=by kernel_rfl
@[go_sem] theorem Pu:szT prog 33=2:=by kernel_rfl
@[go_sem] theorem zG8:agT prog 33=some true:=by kernel_rfl
@[go_sem] theorem JY:qQ prog 33=some (.agg [.nilsl, .nilsl]):=by kernel_rfl
@[go_sem] theorem R8:wq prog 33=some [(0,1),(1,1)]:=by kernel_rfl
@[go_sem] theorem Fy:zm prog 33 0=some (0,30):=by kernel_rfl
@[go_sem] theorem Fz:zm prog 33 1=some (1,31):=by kernel_rfl
@[go_sem] theorem AO:szT prog 35=1:=by kernel_rfl
@[go_sem] theorem zG9:agT prog 35=some false:=by kernel_rfl
@[go_sem] theorem zCy:qQ prog 35=some .nilsl:=by kernel_rfl
@[go_sem] theorem lN:qR prog 35=some 67:=by kernel_rfl
@[go_sem] theorem C9:uK prog 35=true:=by kernel_rfl
@[go_sem] theorem Uw:szT prog 37=4:=by kernel_rfl
@[go_sem] theorem zHA:agT prog 37=some true:=by kernel_rfl
@[go_sem] theorem ZX:qQ prog 37=some (.agg [(.bool false), .nilsl, .nilsl, .nilsl]):=by kernel_rfl
@[go_sem] theorem ke:wq prog 37=some [(0,1),(1,2),(3,1)]:=by kernel_rfl
@[go_sem] theorem F0:zm prog 37 0=some (0,4):=by kernel_rfl
@[go_sem] theorem F5:zm prog 37 2=some (3,35):=by kernel_rfl
@[go_sem] theorem AP:szT prog 41=1:=by kernel_rfl
@[go_sem] theorem zHB:agT prog 41=some false:=by kernel_rfl
@[go_sem] theorem zCz:qQ prog 41=some .nilfn:=by kernel_rfl
@[go_sem] theorem lO:szT prog 42=1:=by kernel_rfl
@[go_sem] theorem zHC:agT prog 42=some false:=by kernel_rfl
@[go_sem] theorem zC0:qQ prog 42=some (.int .i64 0):=by kernel_rfl
@[go_sem] theorem AQ:szT prog 45=1:=by kernel_rfl
@[go_sem] theorem zHD:agT prog 45=some false:=by kernel_rfl
@[go_sem] theorem yI:qR prog 45=some 3:=by kernel_rfl
@[go_sem] theorem BA:uK prog 45=true:=by kernel_rfl
@[go_sem] theorem VH:bF prog 45=none:=by kernel_rfl
@[go_sem] theorem zHE:szT prog 54=1:=by kernel_rfl
@[go_sem] theorem zHF:agT prog 54=some false:=by kernel_rfl
@[go_sem] theorem JZ:qR prog 54=some 56:=by kernel_rfl
@[go_sem] theorem Pv:szT prog 56=4:=by kernel_rfl
@[go_sem] theorem zHG:agT prog 56=some true:=by kernel_rfl
@[go_sem] theorem Ja:qQ prog 56=some (.agg [(.int .i64 0),(.str []),(.str []), .nilsl]):=by kernel_rfl
@[go_sem] theorem R9:wq prog 56=some [(0,1),(1,1),(2,1),(3,1)]:=by kernel_rfl
@[go_sem] theorem F6:zm prog 56 0=some (0,3):=by kernel_rfl
@[go_sem] theorem F7:zm prog 56 1=some (1,9):=by kernel_rfl
@[go_sem] theorem F8:zm prog 56 2=some (2,9):=by kernel_rfl
@[go_sem] theorem F9:zm prog 56 3=some (3,54):=by kernel_rfl
@[go_sem] theorem XA:szT prog 58=12:=by kernel_rfl
@[go_sem] theorem zHH:agT prog 58=some true:=by kernel_rfl
@[go_sem] theorem Jb:qQ prog 58=some (.agg [(.int .i64 0),(.str []),(.str []),(.int .i64 0),(.int .i64 0),(.int .i64 0),(.bool false),(.int .i64 0),(.str []),(.str []), .nilsl, .nilsl]):=by kernel_rfl
@[go_sem] theorem EA:j0 prog 58=true:=by kernel_rfl
@[go_sem] theorem Pw:yZ prog 58=160:=by kernel_rfl
@[go_sem] theorem EB:zm prog 58 0=some (0,3):=by kernel_rfl
@[go_sem] theorem EC:zm prog 58 1=some (1,9):=by kernel_rfl
@[go_sem] theorem ED:zm prog 58 2=some (2,9):=by kernel_rfl
@[go_sem] theorem EE:zm prog 58 3=some (3,3):=by kernel_rfl
@[go_sem] theorem EF:zm prog 58 4=some (4,3):=by kernel_rfl
@[go_sem] theorem EG:zm prog 58 5=some (5,3):=by kernel_rfl
@[go_sem] theorem EI:zm prog 58 6=some (6,4):=by kernel_rfl
@[go_sem] theorem EJ:zm prog 58 7=some (7,56):=by kernel_rfl
@[go_sem] theorem EK:zm prog 58 8=some (11,31):=by kernel_rfl
@[go_sem] theorem zHI:szT prog 61=1:=by kernel_rfl
@[go_sem] theorem zHJ:agT prog 61=some false:=by kernel_rfl
@[go_sem] theorem nN:qR prog 61=some 30:=by kernel_rfl
@[go_sem] theorem BB:uK prog 61=true:=by kernel_rfl
@[go_sem] theorem ug:szT prog 65=2:=by kernel_rfl
@[go_sem] theorem zHK:agT prog 65=some true:=by kernel_rfl
@[go_sem] theorem lP:qQ prog 65=some (.agg [(.int .i64 0), .nilsl]):=by kernel_rfl
@[go_sem] theorem EL:j0 prog 65=true:=by kernel_rfl
@[go_sem] theorem Px:yZ prog 65=32:=by kernel_rfl
@[go_sem] theorem kg:wq prog 65=some [(0,1),(1,1)]:=by kernel_rfl
@[go_sem] theorem EM:zm prog 65 0=some (0,3):=by kernel_rfl
@[go_sem] theorem EN:zm prog 65 1=some (1,45):=by kernel_rfl
@[go_sem] theorem bl:szT prog 67=4:=by kernel_rfl
@[go_sem] theorem zHL:agT prog 67=some true:=by kernel_rfl
@[go_sem] theorem gT:qQ prog 67=some (.agg [(.int .i64 0), .nilsl,(.int .i64 0), .nilsl]):=by kernel_rfl
@[go_sem] theorem EO:j0 prog 67=true:=by kernel_rfl
@[go_sem] theorem Py:yZ prog 67=64:=by kernel_rfl
@[go_sem] theorem bm:wq prog 67=some [(0,1),(1,1),(2,2)]:=by kernel_rfl
@[go_sem] theorem EP:zm prog 67 0=some (0,3):=by kernel_rfl
@[go_sem] theorem EQ:zm prog 67 1=some (1,45):=by kernel_rfl
@[go_sem] theorem ER:zm prog 67 2=some (2,65):=by kernel_rfl
@[go_sem] theorem zHM:agT prog 75=some false:=by kernel_rfl
@[go_sem] theorem zHN:agT prog 89=some false:=by kernel_rfl
@[go_sem] theorem zHO:agT prog 95=some false:=by kernel_rfl
@[go_sem] theorem pd:szT prog 108=4:=by kernel_rfl
@[go_sem] theorem zDn:agT prog 108=some true:=by kernel_rfl
@[go_sem] theorem fg:qQ prog 108=some (.agg [(.str []),(.str []),(.int .i64 0),(.str [])]):=by kernel_rfl
@[go_sem] theorem Jc:j0 prog 108=true:=by kernel_rfl
@[go_sem] theorem QA:yZ prog 108=56:=by kernel_rfl
@[go_sem] theorem fh:wq prog 108=some [(0,1),(1,1),(2,1),(3,1)]:=by kernel_rfl
@[go_sem] theorem Hq:zm prog 108 0=some (0,9):=by kernel_rfl
@[go_sem] theorem Hr:zm prog 108 1=some (1,9):=by kernel_rfl
@[go_sem] theorem Hs:zm prog 108 2=some (2,3):=by kernel_rfl
@[go_sem] theorem Ht:zm prog 108 3=some (3,9):=by kernel_rfl
@[go_sem] theorem fi:szT prog 113=3:=by kernel_rfl
@[go_sem] theorem zDo:agT prog 113=some true:=by kernel_rfl
@[go_sem] theorem AR:qQ prog 113=some (.agg [(.str []),(.str []), .nilsl]):=by kernel_rfl
@[go_sem] theorem Hu:zm prog 113 0=some (0,9):=by kernel_rfl
@[go_sem] theorem Hv:zm prog 113 1=some (1,9):=by kernel_rfl
@[go_sem] theorem Hw:zm prog 113 2=some (2,45):=by kernel_rfl
@[go_sem] theorem oS:szT prog 117=5:=by kernel_rfl
@[go_sem] theorem zDp:agT prog 117=some true:=by kernel_rfl
@[go_sem] theorem Pz:qQ prog 117=some (.agg [(.str []),(.int .i64 0),(.int .i64 0),(.int .i64 0), .nilsl]):=by kernel_rfl
@[go_sem] theorem Jd:j0 prog 117=true:=by kernel_rfl
@[go_sem] theorem QB:yZ prog 117=64:=by kernel_rfl
@[go_sem] theorem Hx:zm prog 117 0=some (0,9):=by kernel_rfl
@[go_sem] theorem Hy:zm prog 117 1=some (1,3):=by kernel_rfl
@[go_sem] theorem Hz:zm prog 117 2=some (2,3):=by kernel_rfl
@[go_sem] theorem H0:zm prog 117 3=some (3,3):=by kernel_rfl
@[go_sem] theorem H6:zm prog 117 4=some (4,31):=by kernel_rfl
@[go_sem] theorem ZY:szT prog 121=2:=by kernel_rfl
@[go_sem] theorem zDq:agT prog 121=some true:=by kernel_rfl
@[go_sem] theorem P0:qQ prog 121=some (.agg [(.str []),(.str [])]):=by kernel_rfl
@[go_sem] theorem VI:wq prog 121=some [(0,1),(1,1)]:=by kernel_rfl
@[go_sem] theorem H7:zm prog 121 0=some (0,9):=by kernel_rfl
@[go_sem] theorem H8:zm prog 121 1=some (1,9):=by kernel_rfl
@[go_sem] theorem fj:qR prog 127=some 130:=by kernel_rfl
@[go_sem] theorem ES:uK prog 127=true:=by kernel_rfl
@[go_sem] theorem yu:szT prog 128=1:=by kernel_rfl
@[go_sem] theorem zDr:agT prog 128=some false:=by kernel_rfl
@[go_sem] theorem oT:qQ prog 128=some .nilsl:=by kernel_rfl
@[go_sem] theorem yg:qR prog 128=some 130:=by kernel_rfl
@[go_sem] theorem ET:uK prog 128=true:=by kernel_rfl
@[go_sem] theorem uH:j0 prog 128=true:=by kernel_rfl
@[go_sem] theorem qW:yZ prog 128=24:=by kernel_rfl
@[go_sem] theorem lQ:bF prog 128=none:=by kernel_rfl
@[go_sem] theorem qB:szT prog 130=2:=by kernel_rfl
@[go_sem] theorem zDs:agT prog 130=some true:=by kernel_rfl
@[go_sem] theorem wA:qQ prog 130=some (.agg [(.str []),(.str [])]):=by kernel_rfl
@[go_sem] theorem gU:j0 prog 130=true:=by kernel_rfl
@[go_sem] theorem pK:yZ prog 130=32:=by kernel_rfl
@[go_sem] theorem tE:wq prog 130=some [(0,1),(1,1)]:=by kernel_rfl
@[go_sem] theorem H9:zm prog 130 0=some (0,9):=by kernel_rfl
@[go_sem] theorem GA:zm prog 130 1=some (1,9):=by kernel_rfl
@[go_sem] theorem P1:qQ prog 132=some (.agg [.nilsl, .nilsl, .nilsl, .nilsl, .nilsl, .nilsl, .nilsl]):=by kernel_rfl
@[go_sem] theorem VK:wq prog 132=some [(0,4),(4,1),(5,1),(6,1)]:=by kernel_rfl
@[go_sem] theorem GB:zm prog 132 0=some (0,27):=by kernel_rfl
@[go_sem] theorem GC:zm prog 132 1=some (4,29):=by kernel_rfl
@[go_sem] theorem GD:zm prog 132 2=some (5,61):=by kernel_rfl
@[go_sem] theorem GE:zm prog 132 3=some (6,31):=by kernel_rfl
@[go_sem] theorem EU:szT prog 138=1:=by kernel_rfl
@[go_sem] theorem zDt:agT prog 138=some false:=by kernel_rfl
@[go_sem] theorem AS:qQ prog 138=some .nilsl:=by kernel_rfl
@[go_sem] theorem wN:qR prog 138=some 65:=by kernel_rfl
@[go_sem] theorem EV:uK prog 138=true:=by kernel_rfl
@[go_sem] theorem ZZ:bF prog 138=none:=by kernel_rfl
@[go_sem] theorem zDu:szT prog 151=1:=by kernel_rfl
@[go_sem] theorem zDv:agT prog 151=some false:=by kernel_rfl
@[go_sem] theorem Ux:UW prog 151=some (3,128):=by kernel_rfl
@[go_sem] theorem zDw:szT prog 152=1:=by kernel_rfl
@[go_sem] theorem zDx:agT prog 152=some false:=by kernel_rfl
@[go_sem] theorem Uy:UW prog 152=some (9,9):=by kernel_rfl
@[go_sem] theorem P2:qQ prog 154=some (.agg [.nilsl, .nilsl, .nilsl, .nilsl, .nilsl, .nilmap, .nilmap]):=by kernel_rfl
@[go_sem] theorem VL:wq prog 154=some [(0,4),(4,1),(5,1),(6,1)]:=by kernel_rfl
@[go_sem] theorem GF:zm prog 154 0=some (0,27):=by kernel_rfl
@[go_sem] theorem GG:zm prog 154 1=some (4,29):=by kernel_rfl
@[go_sem] theorem GH:zm prog 154 2=some (5,151):=by kernel_rfl
@[go_sem] theorem GI:zm prog 154 3=some (6,152):=by kernel_rfl
@[go_sem] theorem Za:UW prog 180=some (9,3):=by kernel_rfl
@[go_sem] theorem km:szT prog 189=6:=by kernel_rfl
@[go_sem] theorem EW:agT prog 189=some true:=by kernel_rfl
@[go_sem] theorem XB:qQ prog 189=some (.agg [.nilsl, .nilsl, .nilsl, .nilsl, .nilsl, .nilsl]):=by kernel_rfl
@[go_sem] theorem fo:wq prog 189=some [(0,1),(1,1),(2,4)]:=by kernel_rfl
@[go_sem] theorem GJ:zm prog 189 0=some (0,61):=by kernel_rfl
@[go_sem] theorem GK:zm prog 189 1=some (1,31):=by kernel_rfl
@[go_sem] theorem GL:zm prog 189 2=some (2,27):=by kernel_rfl
@[go_sem] theorem XC:qR prog 225=some 229:=by kernel_rfl
@[go_sem] theorem zDy:szT prog 227=1:=by kernel_rfl
@[go_sem] theorem zDz:agT prog 227=some false:=by kernel_rfl
@[go_sem] theorem VM:szT prog 229=2:=by kernel_rfl
@[go_sem] theorem zD0:agT prog 229=some true:=by kernel_rfl
@[go_sem] theorem XD:qQ prog 229=some (.agg [(.int .i64 0), .nilfn]):=by kernel_rfl
@[go_sem] theorem VN:wq prog 229=some [(0,1),(1,1)]:=by kernel_rfl
@[go_sem] theorem GM:zm prog 229 0=some (0,3):=by kernel_rfl
@[go_sem] theorem GN:zm prog 229 1=some (1,227):=by kernel_rfl
@[go_sem] theorem zD1:agT prog 230=some false:=by kernel_rfl
@[go_sem] theorem P3:szT prog 238=8:=by kernel_rfl
@[go_sem] theorem zD2:agT prog 238=some true:=by kernel_rfl
@[go_sem] theorem pL:qQ prog 238=some (.agg [(.bool false),(.bool false),(.bool false),(.bool false),(.bool false),(.bool false),(.bool false),(.bool false)]):=by kernel_rfl
@[go_sem] theorem tF:wq prog 238=some [(0,1),(1,1),(2,1),(3,1),(4,1),(5,1),(6,1),(7,1)]:=by kernel_rfl
@[go_sem] theorem GO:zm prog 238 0=some (0,4):=by kernel_rfl
@[go_sem] theorem GP:zm prog 238 1=some (1,4):=by kernel_rfl
@[go_sem] theorem GQ:zm prog 238 2=some (2,4):=by kernel_rfl
@[go_sem] theorem GR:zm prog 238 3=some (3,4):=by kernel_rfl
@[go_sem] theorem GS:zm prog 238 4=some (4,4):=by kernel_rfl
@[go_sem] theorem GT:zm prog 238 5=some (5,4):=by kernel_rfl
@[go_sem] theorem GU:zm prog 238 6=some (6,4):=by kernel_rfl
@[go_sem] theorem GV:zm prog 238 7=some (7,4):=by kernel_rfl
@[go_sem] theorem P4:qR prog 268=some 5:=by kernel_rfl
@[go_sem] theorem EX:szT prog 290=1:=by kernel_rfl
@[go_sem] theorem zD3:agT prog 290=some false:=by kernel_rfl
@[go_sem] theorem AT:qQ prog 290=some .nilfn:=by kernel_rfl
@[go_sem] theorem zD4:agT prog 319=some false:=by kernel_rfl
@[go_sem] theorem EY:szT prog 328=3:=by kernel_rfl
@[go_sem] theorem zD5:agT prog 328=some true:=by kernel_rfl
@[go_sem] theorem P5:qQ prog 328=some (.agg [(.int .i64 0),(.int .i64 0),(.int .i64 0)]):=by kernel_rfl
@[go_sem] theorem VO:wq prog 328=some [(0,1),(1,1),(2,1)]:=by kernel_rfl
@[go_sem] theorem GW:zm prog 328 0=some (0,3):=by kernel_rfl
@[go_sem] theorem GX:zm prog 328 1=some (1,3):=by kernel_rfl
@[go_sem] theorem GY:zm prog 328 2=some (2,3):=by kernel_rfl
@[go_sem] theorem zD6:agT prog 363=some false:=by kernel_rfl
end Go.V
