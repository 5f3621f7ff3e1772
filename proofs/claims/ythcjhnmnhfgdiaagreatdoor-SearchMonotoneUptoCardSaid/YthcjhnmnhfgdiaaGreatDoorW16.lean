/- A machine of abstract values for programs of the model, and its soundness, part 5. No condition. -/
import Derived.Test.YthcjhnmnhfgdiaaGreatDoorW02
import Derived.KernelRfl
import Derived.Test.YthcjhnmnhfgdiaaGreatDoorProg
set_option linter.all false
set_option maxHeartbeats 8000000
namespace Go.V
def onS (o:Option D) (k:D->Prop):Prop:=
 match o with
 |some d=>k d
 |none=>False
def onR (o:VR) (k:D->Heap->Prop):Prop:=
 match o with
 |some (d,h)=>k d h
 |none=>False
def onH (o:Option Heap) (k:Heap->Prop):Prop:=
 match o with
 |some h=>k h
 |none=>False
@[congr] theorem BJ {o o':Option D} {k:D->Prop} (h:o=o'):onS o k=onS o' k:=by rw[h]
@[congr] theorem BK {o o':VR} {k:D->Heap->Prop} (h:o=o'):onR o k=onR o' k:=by rw[h]
@[congr] theorem BL {o o':Option Heap} {k:Heap->Prop} (h:o=o'):onH o k=onH o' k:=by rw[h]
variable {P:Program}{f:FuncId}{h h':Heap}{K:D->Heap->Prop}{id i n:Nat}{op:Op}{ev:Operand->D}{fr:Frm}
@[congr] theorem FD {args args':List D} (ha:args=args') (hh:h=h'):zA P f args h K=zA P f args' h' K:=by rw[ha,hh]
@[congr] theorem HJ {args args':List D} (ha:args=args') (hh:h=h'):yr P id args h K=yr P id args' h' K:=by rw[ha,hh]
@[congr] theorem CF {f f':D} {args args':List D} (hf:f=f') (ha:args=args') (hh:h=h'):jO P f args h K=jO P f' args' h' K:=by rw[hf,ha,hh]
@[go_sem ↓] theorem zCA (d:D) (k:D->Prop):onS (some d) k=k d:=(rfl)
@[go_sem ↓] theorem gH (d:D) (h:Heap) (k:D->Heap->Prop):onR (some (d,h)) k=k d h:=(rfl)
@[go_sem ↓] theorem zCB (h:Heap) (k:Heap->Prop):onH (some h) k=k h:=(rfl)
section rules
variable {P:Program} {g:Cfg} {n:Nat} {ro:Option Nat} {mu:Tmp->Bool} {ops:Array Oper} {rest:List Oper} {K:Frm->Heap->Prop} {fr:Frm} {h:Heap} {dst:Option Tmp} {ty:TypeId} {pos:String} {after:Array Edge} {gd:Option (Nat×Bool)} {Q:Exit->Frm->Heap->Prop}
 {m:Bool} {nid:Nat} {k:D->Heap->Prop}
@[go_sem ↓] theorem ZG (a b:Code):vwp P g n ro (.seq a b) Q fr h=vwp P g n ro a (nv (vwp P g n ro b Q) Q) fr h:=(rfl)
@[go_sem ↓] theorem CG (id:Nat) (l:List Oper):vwp P g n ro (.region id l.toArray false) Q fr h=cF P g.mu l.toArray l (Q .normal) fr h:=(rfl)
def UX (id:Nat) (ops:Array Oper):vwp P g n ro (.region id ops true) Q fr h= ∃h0,HLe h0 h/\nW P g.mu h0 (Kf P g.mu ops (g.dr id) (jq ops.toList 0 [])) ops ((g.dr id).any (·.2.isSt)) (g.dr id) (Q .normal) fr h:=(rfl)
@[go_sem ↓] theorem zCC:vwp P g n ro .skip Q fr h=Q .normal fr h:=(rfl)
@[go_sem ↓] theorem zDB:vwp P g n ro .ret Q fr h=Q .ret fr h:=(rfl)
@[go_sem ↓] theorem zCD (i:Nat):vwp P g n ro (.exit i) Q fr h=Q (.exit i) fr h:=(rfl)
@[go_sem ↓] theorem BM (id:Nat) (c:Code):vwp P g n ro (.block id c) Q fr h=vwp P g n ro c (md id Q) fr h:=(rfl)
def onB (d:D) (x y:Prop):Prop:=
 match d with
 | .bool b=>match b with
  |true=>x
  |false=>y
 |_=>False
@[go_sem ↓] theorem zCE (c:Operand) (a b:Code):vwp P g n ro (.cond c a b) Q fr h=onB (yD fr c) (vwp P g n ro a Q fr h) (vwp P g n ro b Q fr h):=by
 simp only[vwp];rfl
@[congr] theorem BN {d d':D} {x y:Prop} (h:d=d'):onB d x y=onB d' x y:=by rw[h]
@[go_sem ↓] theorem zCF (x y:Prop):onB (.bool true) x y=x:=(rfl)
@[go_sem ↓] theorem BO (x y:Prop):onB (.bool false) x y=y:=(rfl)
@[go_sem ↓] theorem HK (Kn:Frm->Heap->Prop):nv Kn Q .normal fr h=Kn fr h:=(rfl)
@[go_sem ↓] theorem BP (Kn:Frm->Heap->Prop):nv Kn Q .ret fr h=Q .ret fr h:=(rfl)
@[go_sem ↓] theorem CH (Kn:Frm->Heap->Prop) (i:Nat):nv Kn Q (.exit i) fr h=Q (.exit i) fr h:=(rfl)
@[go_sem ↓] theorem K9 (i:Nat):md i Q .normal fr h=Q .normal fr h:=(rfl)
@[go_sem ↓] theorem CI (i:Nat):md i Q .ret fr h=Q .ret fr h:=(rfl)
@[go_sem ↓] theorem FE (i j:Nat):md i Q (.exit j) fr h=if j=i then Q .normal fr h else Q (.exit j) fr h:=(rfl)
@[go_sem ↓] theorem zCG:cF P mu ops [] K fr h=K fr h:=(rfl)
@[go_sem ↓] theorem CJ (op:Op):cF P mu ops (⟨dst,op,ty,pos,after,none⟩ ::rest) K fr h=wI P (kD mu dst) h.next op (yD fr) h λd h'=>cF P mu ops rest K (th fr dst d) h':=(rfl)
def gif (g:Bool) (x y:Prop):Prop:=
 match g with
 |true=>x
 |false=>y
@[congr] theorem BQ {g g':Bool} {x y:Prop} (h:g=g'):gif g x y=gif g' x y:=by rw[h]
@[go_sem ↓] theorem zCH (x y:Prop):gif true x y=x:=(rfl)
@[go_sem ↓] theorem BR (x y:Prop):gif false x y=y:=(rfl)
@[go_sem ↓] theorem CK (op:Op) (j:Nat) (b:Bool):cF P mu ops (⟨dst,op,ty,pos,after,some (j,b)⟩ ::rest) K fr h =
  gif (qD ops fr (some (j,b))) (wI P (kD mu dst) h.next op (yD fr) h λd h'=>cF P mu ops rest K (th fr dst d) h') (cF P mu ops rest K (th fr dst wS) h):=by
 simp only[cF,gif];cases qD ops fr (some (j,b))<;>rfl
@[go_sem ↓] theorem zCI (t:Tmp):yD fr (.tmp t)=fr t:=(rfl)
@[go_sem ↓] theorem zCJ (k:IntKind) (n:Int):yD fr (.const (.int k n))= .int k n:=(rfl)
@[go_sem ↓] theorem BS (b:Bool):yD fr (.const (.bool b))= .bool b:=(rfl)
@[go_sem ↓] theorem BT (f:Nat):yD fr (.func f)= .fn (.func f) [] []:=(rfl)
@[go_sem ↓] theorem zCK (s:ByteArray):yD fr (.const (.string s))= .str s.data.toList:=(rfl)
@[go_sem ↓] theorem FF:yD fr (.const (.pointer none))= .nilptr:=(rfl)
@[go_sem ↓] theorem CL:yD fr (.const (.slice none 0 0))= .nilsl:=(rfl)
@[go_sem ↓] theorem FH:yD fr (.const (.map none))= .nilmap:=(rfl)
@[go_sem ↓] theorem CM:yD fr (.const .nilFunc)= .nilfn:=(rfl)
@[go_sem ↓] theorem BU (t i:Tmp) (d:D):th fr (some t) d i=if i=t then d else fr i:=(rfl)
@[go_sem ↓] theorem BV (d:D):th fr none d=fr:=(rfl)
@[go_sem ↓] theorem zGO (x:Operand):wI P m nid (.move x) (yD fr) h k=k (yD fr x) h:=(rfl)
@[go_sem ↓] theorem zCL (x:Operand):wI P m nid (.assign x) (yD fr) h k=k (yD fr x) h:=(rfl)
@[go_sem ↓] theorem zGP (f:Operand) (args:List Operand) (ats:Array TypeId):wI P m nid (.call ⟨.value f,args.toArray,ats⟩) (yD fr) h k=jO P (yD fr f) (args.map (yD fr)) h k:=(rfl)
@[go_sem ↓] theorem PU (f:FuncId) (a c args:List D):jO P (.fn (.func f) a c) args h k=zA P f (a++args++c) h k:=(rfl)
@[go_sem ↓] theorem zCM (id:Nat) (args:List D):jO P (.yld id) args h k=yr P id args h k:=(rfl)
def tt {o:Option D} (h1:qC op=none) (a:vop P m nid op ev h=o.map (·,h)):wI P m nid op ev h k=onS o (k · h):=by
 unfold wI;rw[h1,a];cases o<;>rfl
def PV {o:Option Heap} (h1:qC op=none) (a:vop P m nid op ev h=o.map (wS,·)):wI P m nid op ev h k=onH o (k wS ·):=by
 unfold wI;rw[h1,a];cases o<;>rfl
def fR {o:VR} (h1:qC op=none) (a:vop P m nid op ev h=o):wI P m nid op ev h k=onR o k:=by
 unfold wI;rw[h1,a];cases o<;>rfl
@[go_sem ↓] theorem zHe (op:BinOp) (t u:TypeId) (x y:Operand):wI P m nid (.binOp op t x y u) (yD fr) h k=onS (p4 P op t (isC x||isC y) (yD fr x) (yD fr y)) (k · h):=tt rfl rfl
@[go_sem ↓] theorem zId (op:UnOp) (t:TypeId) (x:Operand):wI P m nid (.unOp op t x) (yD fr) h k=onS (vun op (yD fr x)) (k · h):=tt rfl rfl
@[go_sem ↓] theorem zGQ (c x y:Operand):wI P m nid (.pick c x y) (yD fr) h k=onB (yD fr c) (k (yD fr x) h) (k (yD fr y) h):=by
 simp only[wI,qC,vop,onB];cases yD fr c with
 |bool b=>cases b<;>rfl
 |_=>rfl
@[go_sem ↓] theorem zDC (t:TypeId):wI P m nid (.alloc t) (yD fr) h k=onR (vop P m nid (.alloc t) (yD fr) h) k:=fR rfl rfl
@[go_sem ↓] theorem zHf (t:TypeId) (x:Operand):wI P m nid (.box t x) (yD fr) h k=onR (vop P m nid (.box t x) (yD fr) h) k:=fR rfl rfl
@[go_sem ↓] theorem zDD (t:TypeId) (ps:List (Nat×Operand)):wI P m nid (.build t ps.toArray) (yD fr) h k=onS (zu P t (ps.map λp=>(p.1,yD fr p.2))) (k · h):=tt rfl rfl
@[go_sem ↓] theorem HL (t:TypeId) (n:Nat) (ps:List (Nat×Operand)):wI P m nid (.buildSlice t n ps.toArray) (yD fr) h k=onR (zI P m nid t n (ps.map λp=>(p.1,yD fr p.2)) h) k:=fR rfl rfl
@[go_sem ↓] theorem zGR (t:TypeId) (x:Operand):wI P m nid (.load t x) (yD fr) h k=onS (sU P t (yD fr x) h) (k · h):=tt rfl rfl
@[go_sem ↓] theorem zDE (t:TypeId) (x y:Operand):wI P m nid (.store t x y) (yD fr) h k=onH (zQ P t (yD fr x) (yD fr y) h) (k wS ·):=PV rfl rfl
@[go_sem ↓] theorem CO (x:Operand):wI P m nid (.nilCheck x) (yD fr) h k=onS (ze (yD fr x)) (k · h):=tt rfl rfl
@[go_sem ↓] theorem BW (s t:TypeId) (x:Operand):wI P m nid (.convert s t x) (yD fr) h k=onS (mS P s t (yD fr x) h) (k · h):=tt rfl rfl
@[go_sem ↓] theorem CP (P:Program) (s t:TypeId) (k:IntKind) (n:Int) (h:Heap):mS P s t (.int k n) h=tK P s t (.int k n):=(rfl)
@[go_sem ↓] theorem CQ (P:Program) (s t:TypeId) (x:List UInt8) (h:Heap):mS P s t (.str x) h=tK P s t (.str x):=(rfl)
@[go_sem ↓] theorem CR (f:FuncId) (a c:List Operand):wI P m nid (.makeFunc (.func f) a.toArray c.toArray) (yD fr) h k=k (.fn (.func f) (a.map (yD fr)) (c.map (yD fr))) h:=(rfl)
@[go_sem ↓] theorem BX (t:TypeId):wI P m nid (.makeMap t none) (yD fr) h k=k (.map nid) (h.new nid (.map [])):=(rfl)
@[go_sem ↓] theorem FI (t:TypeId) (x y:Operand):wI P m nid (.makeSlice t x y) (yD fr) h k=onR (qT P m nid t (yD fr x) (yD fr y) h) k:=fR rfl rfl
@[go_sem ↓] theorem zDF (t:TypeId) (x:Operand) (lo hi mx:Option Operand):wI P m nid (.slice t x lo hi mx) (yD fr) h k=onS (yj P t (yD fr x) (lo.map (yD fr)) (hi.map (yD fr)) (mx.map (yD fr)) h) (k · h):=tt rfl rfl
@[go_sem ↓] theorem FJ (t:TypeId) (x:Operand) (f:Nat):wI P m nid (.fieldAddr t x f) (yD fr) h k=onS (sO P t (yD fr x) f) (k · h):=tt rfl rfl
@[go_sem ↓] theorem FK (t:TypeId) (x i:Operand):wI P m nid (.indexAddr t x i) (yD fr) h k=onS (zT P t (yD fr x) (yD fr i)) (k · h):=tt rfl rfl
@[go_sem ↓] theorem zDG (t:TypeId) (x i:Operand):wI P m nid (.index t x i) (yD fr) h k=onS (tR P t (yD fr x) (yD fr i)) (k · h):=tt rfl rfl
@[go_sem ↓] theorem zCN (t:TypeId) (x y:Operand) (ok:Bool):wI P m nid (.lookup t x y ok) (yD fr) h k=onS (yk P t (yD fr x) (yD fr y) ok h) (k · h):=tt rfl rfl
@[go_sem ↓] theorem FL (t:TypeId) (x y z:Operand):wI P m nid (.mapUpdate t x y z) (yD fr) h k=onH (yc P t (yD fr x) (yD fr y) (yD fr z) h) (k wS ·):=PV rfl rfl
@[go_sem ↓] theorem zDH (t:TypeId) (x:Operand):wI P m nid (.range t x) (yD fr) h k=onR (jI P nid t (yD fr x) h) k:=fR rfl rfl
@[go_sem ↓] theorem zGS (x:Operand) (b:Bool):wI P m nid (.next x b) (yD fr) h k=onR (cI (yD fr x) b h) k:=fR rfl rfl
@[go_sem ↓] theorem BY (x:Operand) (i:Nat):wI P m nid (.extract x i) (yD fr) h k=onS (rH (yD fr x) i) (k · h):=tt rfl rfl
@[go_sem ↓] theorem zHg (t:TypeId) (x:Operand):wI P m nid (.call ⟨.builtin .len,#[x],#[t]⟩) (yD fr) h k=onS (sD P t (yD fr x) h) (k · h):=tt rfl rfl
@[go_sem ↓] theorem zCO (t u:TypeId) (x y:Operand):wI P m nid (.call ⟨.builtin .append,#[x,y],#[t,u]⟩) (yD fr) h k=onR (if uF P u then t8 P m nid t (yD fr x) (yD fr y) h else sC P m nid t u (yD fr x) (yD fr y) h) k:=fR rfl rfl
@[go_sem ↓] theorem CS (t:TypeId) (s x:D):t8 P false nid t s x h=zw P false nid t s x h:=(rfl)
@[go_sem ↓] theorem CT (t:TypeId) (s x:D):t8 P true nid t s x h=zw P true nid t s x (qi s x h):=(rfl)
@[go_sem ↓] theorem CU (sz:Nat) (xs:List (List D)) (tk:Tk) (x:D):qi (.sl sz xs tk) x h=h:=(rfl)
@[go_sem ↓] theorem zHh (ats:Array TypeId) (x y:Operand):wI P m nid (.call ⟨.builtin .min,#[x,y],ats⟩) (yD fr) h k=onS (Qj (yD fr x) (yD fr y)) (k · h):=tt rfl rfl
@[go_sem ↓] theorem zHi (x y:Operand) (ats:Array TypeId):wI P m nid (.call ⟨.builtin .max,#[x,y],ats⟩) (yD fr) h k=onS (Kr (yD fr x) (yD fr y)) (k · h):=by
 refine tt rfl ?_;simp only[vop,sE,Wa,List.map_cons,List.map_nil];cases Kr (yD fr x) (yD fr y)<;>rfl
@[go_sem ↓] theorem CV (d:D) (ds:List D):ar (d::ds) 0=d:=(rfl)
@[go_sem ↓] theorem CW (d:D) (ds:List D) (i:Nat):ar (d::ds) (i+1)=ar ds i:=(rfl)
def onL (o:Option (List D)) (k:List D->Prop):Prop:=
 match o with
 |some ds=>k ds
 |none=>False
@[go_sem ↓] theorem zCP (rs:List ResultVar) (q:D->Heap->Prop):HF P rs q .ret fr h=onL (se P fr h rs) λds=>q (kH ds) h:=by
 unfold HF onL;cases se P fr h rs<;>simp
@[go_sem ↓] theorem FM (rs:List ResultVar) (q:D->Heap->Prop):HF P rs q .normal fr h=onL (se P fr h rs) λds=>q (kH ds) h:=by
 unfold HF onL;cases se P fr h rs<;>simp
@[go_sem ↓] theorem BZ (k:List D->Prop):onL (se P fr h []) k=k []:=(rfl)
@[go_sem ↓] theorem Ba (t:Tmp) (rs:List ResultVar) (k:List D->Prop):onL (se P fr h (.tmp t::rs)) k=onL (se P fr h rs) λds=>k (fr t::ds):=by
 simp only[se,PG];cases se P fr h rs<;>rfl
@[go_sem ↓] theorem CX (a:Tmp) (t:TypeId) (rs:List ResultVar) (k:List D->Prop):onL (se P fr h (.cell a t::rs)) k=onS (sU P t (fr a) h) λd=>onL (se P fr h rs) λds=>k (d::ds):=by
 simp only[se,PG];cases sU P t (fr a) h with
 |none=>rfl
 |some d=>cases se P fr h rs<;>rfl
@[go_sem ↓] theorem Bb (d:D):kH [d]=d:=(rfl)
@[go_sem ↓] theorem Bc (d d':D) (ds:List D):kH (d::d'::ds)= .tuple (d::d'::ds):=(rfl)
@[go_sem ↓] theorem Bd:kH []= .tuple []:=(rfl)
end rules
def za (sz:Nat) (xs:List (List D)) (d:D):Prop:=(d= .nilsl/\xs= [])\/∃tk,d= .sl sz xs tk
section
variable {P:Program} {sz:Nat} {xs:List (List D)} {d:D} {t e:TypeId} {h:Heap}
def za.mk (tk:Tk):za sz xs (.sl sz xs tk):= .inr ⟨tk,rfl⟩
def za.nil:za sz [] .nilsl:= .inl ⟨rfl,rfl⟩
def yo (a:za sz xs d) (b:P.underlying t=some (.slice e)):sD P t d h=some (.int .i64 xs.length):=by
 rcases a with⟨rfl,rfl⟩ | ⟨tk,rfl⟩ <;>simp[sD,b]
def zd (b:za sz xs d) (c:qS P t=some e) (f:szT P e=sz) {k:IntKind} {x:List D} (a:xs[i]? =some x):zT P t d (.int k i)=some (.iptr x 0):=by
 rcases b with⟨rfl,rfl⟩ | ⟨tk,rfl⟩
 ·simp at a
 ·simp[zT,c,f,a]
end
@[go_sem ↓] theorem zCQ (P:Program) (op:BinOp) (t:TypeId) (c:Bool) (k k':IntKind) (a b:Int):p4 P op t c (.int k a) (.int k' b)=um op k k' a b:=(rfl)
@[go_sem ↓] theorem zCR (P:Program) (op:BinOp) (t:TypeId) (c:Bool) (a b:List UInt8):p4 P op t c (.str a) (.str b)=Ke op a b:=(rfl)
@[go_sem ↓] theorem Be (k:IntKind) (a b:Int):um .add k k a b=some (.int k (k.wrap (a+b))):=by simp[um,WX]
@[go_sem ↓] theorem Bf (k:IntKind) (a b:Int):um .sub k k a b=some (.int k (k.wrap (a-b))):=by simp[um,WX]
@[go_sem ↓] theorem Bg (k:IntKind) (a b:Int):um .mul k k a b=some (.int k (k.wrap (a*b))):=by simp[um,WX]
@[go_sem ↓] theorem Bh (k:IntKind) (a b:Int):um .lss k k a b=some (.bool (decide (a<b))):=by simp[um,WX]
@[go_sem ↓] theorem Bi (k:IntKind) (a b:Int):um .leq k k a b=some (.bool (decide (a<=b))):=by simp[um,WX]
@[go_sem ↓] theorem Bj (k:IntKind) (a b:Int):um .gtr k k a b=some (.bool (decide (a>b))):=by simp[um,WX]
@[go_sem ↓] theorem Bk (k:IntKind) (a b:Int):um .geq k k a b=some (.bool (decide (a>=b))):=by simp[um,WX]
@[go_sem ↓] theorem Bl (k:IntKind) (a b:Int):um .eql k k a b=some (.bool (a==b)):=by simp[um,WX]
@[go_sem ↓] theorem Bm (k:IntKind) (a b:Int):um .neq k k a b=some (.bool (a !=b)):=by simp[um,WX]
@[go_sem ↓] theorem zCS (a b:List UInt8):Ke .eql a b=some (.bool (a==b)):=(rfl)
@[go_sem ↓] theorem zCT (a b:List UInt8):Ke .neq a b=some (.bool (!(a==b))):=(rfl)
@[go_sem ↓] theorem zCU (a b:List UInt8):Ke .lss a b=some (.bool (cE a b)):=(rfl)
@[go_sem ↓] theorem CY (P:Program) (t:TypeId) (cs:List D) (off:Nat) (h:Heap):sU P t (.iptr cs off) h=(match agT P t with
 |none=>none
 |some ag=>zN ag (szT P t) cs off):=(rfl)
@[go_sem ↓] theorem sj (n:Nat) (cs:List D) (off:Nat):zN false n cs off=cs[off]? :=(rfl)
variable {P:Program}{n:Nat}{fr:Frm}{h:Heap}{K:D->Heap->Prop}
def UY {g:Cfg} {ro:Option Nat} {c:Code} {Q:Exit->Frm->Heap->Prop} (I:Nat->Frm->Heap->Prop) (k:Nat) (a:I k fr h)
  (hr:∀k fr h,I k fr h->vwp P g n ro c (nv (λfr h=>∃m,m<k/\I m fr h) Q) fr h):vwp P g n ro (.loop c) Q fr h:=⟨I,⟨k,a⟩,hr⟩
open Go.Proofs.Tryz
open Go.Proofs
@[go_sem] theorem wj:szT prog 3=1:=by kernel_rfl
@[go_sem] theorem zHj:agT prog 3=some false:=by kernel_rfl
@[go_sem] theorem uV:qO prog 3=some (.int .i64 0):=by kernel_rfl
@[go_sem] theorem Bn:uF prog 3=false:=by kernel_rfl
@[go_sem] theorem Yo:j9 prog 3=true:=by kernel_rfl
@[go_sem] theorem mr:yZ prog 3=8:=by kernel_rfl
@[go_sem] theorem HM:UC prog 3=some (false,[.i]):=by kernel_rfl
@[go_sem] theorem Bo:szT prog 4=1:=by kernel_rfl
@[go_sem] theorem zHk:agT prog 4=some false:=by kernel_rfl
@[go_sem] theorem zDI:qO prog 4=some (.bool false):=by kernel_rfl
@[go_sem] theorem zDJ:szT prog 5=1:=by kernel_rfl
@[go_sem] theorem zHl:agT prog 5=some false:=by kernel_rfl
@[go_sem] theorem ui:szT prog 9=1:=by kernel_rfl
@[go_sem] theorem zHm:agT prog 9=some false:=by kernel_rfl
@[go_sem] theorem nz:qO prog 9=some (.str []):=by kernel_rfl
@[go_sem] theorem jV:j9 prog 9=true:=by kernel_rfl
@[go_sem] theorem tM:yZ prog 9=16:=by kernel_rfl
@[go_sem] theorem UZ:cn prog 9=none:=by kernel_rfl
@[go_sem] theorem Yp:UC prog 9=some (false,[.s]):=by kernel_rfl
@[go_sem] theorem zGT:szT prog 22=1:=by kernel_rfl
@[go_sem] theorem zGU:agT prog 22=some false:=by kernel_rfl
@[go_sem] theorem mv:qS prog 22=some 108:=by kernel_rfl
@[go_sem] theorem CZ:uF prog 22=true:=by kernel_rfl
@[go_sem] theorem FN:cn prog 22=none:=by kernel_rfl
@[go_sem] theorem zGV:szT prog 23=1:=by kernel_rfl
@[go_sem] theorem zGW:agT prog 23=some false:=by kernel_rfl
@[go_sem] theorem JA:qS prog 23=some 113:=by kernel_rfl
@[go_sem] theorem zGX:szT prog 24=1:=by kernel_rfl
@[go_sem] theorem zGY:agT prog 24=some false:=by kernel_rfl
@[go_sem] theorem ZH:qS prog 24=some 117:=by kernel_rfl
@[go_sem] theorem Ca:uF prog 24=true:=by kernel_rfl
@[go_sem] theorem zGZ:szT prog 25=1:=by kernel_rfl
@[go_sem] theorem zGa:agT prog 25=some false:=by kernel_rfl
@[go_sem] theorem JB:qS prog 25=some 121:=by kernel_rfl
@[go_sem] theorem zGb:szT prog 27=4:=by kernel_rfl
@[go_sem] theorem Bp:agT prog 27=some true:=by kernel_rfl
@[go_sem] theorem FO:zq prog 27 0=some (0,22):=by kernel_rfl
@[go_sem] theorem FP:zq prog 27 1=some (1,23):=by kernel_rfl
@[go_sem] theorem FQ:zq prog 27 2=some (2,24):=by kernel_rfl
@[go_sem] theorem FR:zq prog 27 3=some (3,25):=by kernel_rfl
@[go_sem] theorem zGc:szT prog 29=1:=by kernel_rfl
@[go_sem] theorem Bq:agT prog 29=some false:=by kernel_rfl
@[go_sem] theorem ZI:qS prog 29=some 58:=by kernel_rfl
@[go_sem] theorem Cb:uF prog 29=true:=by kernel_rfl
@[go_sem] theorem mw:szT prog 30=1:=by kernel_rfl
@[go_sem] theorem zGd:agT prog 30=some false:=by kernel_rfl
@[go_sem] theorem Ua:qO prog 30=some .nilsl:=by kernel_rfl
@[go_sem] theorem yp:qS prog 30=some 128:=by kernel_rfl
@[go_sem] theorem Cc:uF prog 30=true:=by kernel_rfl
@[go_sem] theorem PW:j9 prog 30=true:=by kernel_rfl
@[go_sem] theorem Yq:yZ prog 30=24:=by kernel_rfl
@[go_sem] theorem PX:szT prog 31=1:=by kernel_rfl
@[go_sem] theorem zGe:agT prog 31=some false:=by kernel_rfl
@[go_sem] theorem yu:qS prog 31=some 9:=by kernel_rfl
@[go_sem] theorem Cd:uF prog 31=true:=by kernel_rfl
@[go_sem] theorem FS:cn prog 31=none:=by kernel_rfl
@[go_sem] theorem PY:szT prog 33=2:=by kernel_rfl
@[go_sem] theorem zGf:agT prog 33=some true:=by kernel_rfl
@[go_sem] theorem JC:qO prog 33=some (.agg [.nilsl, .nilsl]):=by kernel_rfl
@[go_sem] theorem Rk:wo prog 33=some [(0,1),(1,1)]:=by kernel_rfl
@[go_sem] theorem FT:zq prog 33 0=some (0,30):=by kernel_rfl
@[go_sem] theorem FU:zq prog 33 1=some (1,31):=by kernel_rfl
@[go_sem] theorem Br:szT prog 35=1:=by kernel_rfl
@[go_sem] theorem zGg:agT prog 35=some false:=by kernel_rfl
@[go_sem] theorem zCV:qO prog 35=some .nilsl:=by kernel_rfl
@[go_sem] theorem gI:qS prog 35=some 67:=by kernel_rfl
@[go_sem] theorem Ce:uF prog 35=true:=by kernel_rfl
@[go_sem] theorem Ub:szT prog 37=4:=by kernel_rfl
@[go_sem] theorem zGh:agT prog 37=some true:=by kernel_rfl
@[go_sem] theorem ZJ:qO prog 37=some (.agg [(.bool false), .nilsl, .nilsl, .nilsl]):=by kernel_rfl
@[go_sem] theorem kQ:wo prog 37=some [(0,1),(1,2),(3,1)]:=by kernel_rfl
@[go_sem] theorem FV:zq prog 37 0=some (0,4):=by kernel_rfl
@[go_sem] theorem Bs:szT prog 41=1:=by kernel_rfl
@[go_sem] theorem zGi:agT prog 41=some false:=by kernel_rfl
@[go_sem] theorem zCW:qO prog 41=some .nilfn:=by kernel_rfl
@[go_sem] theorem my:szT prog 42=1:=by kernel_rfl
@[go_sem] theorem zGj:agT prog 42=some false:=by kernel_rfl
@[go_sem] theorem zCX:qO prog 42=some (.int .i64 0):=by kernel_rfl
@[go_sem] theorem Bt:szT prog 45=1:=by kernel_rfl
@[go_sem] theorem zGk:agT prog 45=some false:=by kernel_rfl
@[go_sem] theorem yK:qS prog 45=some 3:=by kernel_rfl
@[go_sem] theorem Cf:uF prog 45=true:=by kernel_rfl
@[go_sem] theorem Wy:cn prog 45=none:=by kernel_rfl
@[go_sem] theorem zGl:szT prog 54=1:=by kernel_rfl
@[go_sem] theorem zGm:agT prog 54=some false:=by kernel_rfl
@[go_sem] theorem JD:qS prog 54=some 56:=by kernel_rfl
@[go_sem] theorem PZ:szT prog 56=4:=by kernel_rfl
@[go_sem] theorem zGn:agT prog 56=some true:=by kernel_rfl
@[go_sem] theorem JE:qO prog 56=some (.agg [(.int .i64 0),(.str []),(.str []), .nilsl]):=by kernel_rfl
@[go_sem] theorem Rl:wo prog 56=some [(0,1),(1,1),(2,1),(3,1)]:=by kernel_rfl
@[go_sem] theorem FW:zq prog 56 0=some (0,3):=by kernel_rfl
@[go_sem] theorem FX:zq prog 56 1=some (1,9):=by kernel_rfl
@[go_sem] theorem FY:zq prog 56 2=some (2,9):=by kernel_rfl
@[go_sem] theorem FZ:zq prog 56 3=some (3,54):=by kernel_rfl
@[go_sem] theorem Yr:szT prog 58=12:=by kernel_rfl
@[go_sem] theorem zGo:agT prog 58=some true:=by kernel_rfl
@[go_sem] theorem JF:qO prog 58=some (.agg [(.int .i64 0),(.str []),(.str []),(.int .i64 0),(.int .i64 0),(.int .i64 0),(.bool false),(.int .i64 0),(.str []),(.str []), .nilsl, .nilsl]):=by kernel_rfl
@[go_sem] theorem Fa:j9 prog 58=true:=by kernel_rfl
@[go_sem] theorem Pa:yZ prog 58=160:=by kernel_rfl
@[go_sem] theorem Fb:zq prog 58 0=some (0,3):=by kernel_rfl
@[go_sem] theorem Fc:zq prog 58 1=some (1,9):=by kernel_rfl
@[go_sem] theorem Fe:zq prog 58 2=some (2,9):=by kernel_rfl
@[go_sem] theorem Ff:zq prog 58 3=some (3,3):=by kernel_rfl
@[go_sem] theorem Fg:zq prog 58 4=some (4,3):=by kernel_rfl
@[go_sem] theorem Fh:zq prog 58 5=some (5,3):=by kernel_rfl
@[go_sem] theorem Fi:zq prog 58 6=some (6,4):=by kernel_rfl
@[go_sem] theorem Fj:zq prog 58 7=some (7,56):=by kernel_rfl
@[go_sem] theorem Fk:zq prog 58 8=some (11,31):=by kernel_rfl
@[go_sem] theorem Bu:agT prog 59=some false:=by kernel_rfl
@[go_sem] theorem zGp:szT prog 61=1:=by kernel_rfl
@[go_sem] theorem zGq:agT prog 61=some false:=by kernel_rfl
@[go_sem] theorem nC:qS prog 61=some 30:=by kernel_rfl
@[go_sem] theorem Cg:uF prog 61=true:=by kernel_rfl
@[go_sem] theorem uW:szT prog 65=2:=by kernel_rfl
@[go_sem] theorem zGr:agT prog 65=some true:=by kernel_rfl
@[go_sem] theorem mz:qO prog 65=some (.agg [(.int .i64 0), .nilsl]):=by kernel_rfl
@[go_sem] theorem Fm:j9 prog 65=true:=by kernel_rfl
@[go_sem] theorem Pb:yZ prog 65=32:=by kernel_rfl
@[go_sem] theorem kR:wo prog 65=some [(0,1),(1,1)]:=by kernel_rfl
@[go_sem] theorem Fo:zq prog 65 0=some (0,3):=by kernel_rfl
@[go_sem] theorem Fp:zq prog 65 1=some (1,45):=by kernel_rfl
@[go_sem] theorem Uc:szT prog 67=4:=by kernel_rfl
@[go_sem] theorem gL:qO prog 67=some (.agg [(.int .i64 0), .nilsl,(.int .i64 0), .nilsl]):=by kernel_rfl
@[go_sem] theorem Fq:j9 prog 67=true:=by kernel_rfl
@[go_sem] theorem Pc:yZ prog 67=64:=by kernel_rfl
@[go_sem] theorem bU:wo prog 67=some [(0,1),(1,1),(2,2)]:=by kernel_rfl
@[go_sem] theorem Fs:zq prog 67 1=some (1,45):=by kernel_rfl
@[go_sem] theorem zGs:agT prog 75=some false:=by kernel_rfl
@[go_sem] theorem zGt:agT prog 89=some false:=by kernel_rfl
@[go_sem] theorem zGu:agT prog 95=some false:=by kernel_rfl
@[go_sem] theorem pP:szT prog 108=4:=by kernel_rfl
@[go_sem] theorem zDK:agT prog 108=some true:=by kernel_rfl
@[go_sem] theorem fS:qO prog 108=some (.agg [(.str []),(.str []),(.int .i64 0),(.str [])]):=by kernel_rfl
@[go_sem] theorem JG:j9 prog 108=true:=by kernel_rfl
@[go_sem] theorem Rm:yZ prog 108=56:=by kernel_rfl
@[go_sem] theorem fT:wo prog 108=some [(0,1),(1,1),(2,1),(3,1)]:=by kernel_rfl
@[go_sem] theorem HN:zq prog 108 0=some (0,9):=by kernel_rfl
@[go_sem] theorem HO:zq prog 108 1=some (1,9):=by kernel_rfl
@[go_sem] theorem HP:zq prog 108 2=some (2,3):=by kernel_rfl
@[go_sem] theorem HQ:zq prog 108 3=some (3,9):=by kernel_rfl
@[go_sem] theorem fU:szT prog 113=3:=by kernel_rfl
@[go_sem] theorem zDL:agT prog 113=some true:=by kernel_rfl
@[go_sem] theorem Bv:qO prog 113=some (.agg [(.str []),(.str []), .nilsl]):=by kernel_rfl
@[go_sem] theorem HR:zq prog 113 0=some (0,9):=by kernel_rfl
@[go_sem] theorem HS:zq prog 113 1=some (1,9):=by kernel_rfl
@[go_sem] theorem HU:zq prog 113 2=some (2,45):=by kernel_rfl
@[go_sem] theorem oI:szT prog 117=5:=by kernel_rfl
@[go_sem] theorem zDM:agT prog 117=some true:=by kernel_rfl
@[go_sem] theorem Pd:qO prog 117=some (.agg [(.str []),(.int .i64 0),(.int .i64 0),(.int .i64 0), .nilsl]):=by kernel_rfl
@[go_sem] theorem JH:j9 prog 117=true:=by kernel_rfl
@[go_sem] theorem Rn:yZ prog 117=64:=by kernel_rfl
@[go_sem] theorem HV:zq prog 117 0=some (0,9):=by kernel_rfl
@[go_sem] theorem HW:zq prog 117 1=some (1,3):=by kernel_rfl
@[go_sem] theorem HY:zq prog 117 2=some (2,3):=by kernel_rfl
@[go_sem] theorem HZ:zq prog 117 3=some (3,3):=by kernel_rfl
@[go_sem] theorem Ha:zq prog 117 4=some (4,31):=by kernel_rfl
@[go_sem] theorem ZK:szT prog 121=2:=by kernel_rfl
@[go_sem] theorem zDN:agT prog 121=some true:=by kernel_rfl
@[go_sem] theorem Pe:qO prog 121=some (.agg [(.str []),(.str [])]):=by kernel_rfl
@[go_sem] theorem Wz:wo prog 121=some [(0,1),(1,1)]:=by kernel_rfl
@[go_sem] theorem Hb:zq prog 121 0=some (0,9):=by kernel_rfl
@[go_sem] theorem Hc:zq prog 121 1=some (1,9):=by kernel_rfl
@[go_sem] theorem fV:qS prog 127=some 130:=by kernel_rfl
@[go_sem] theorem Ft:uF prog 127=true:=by kernel_rfl
@[go_sem] theorem yt:szT prog 128=1:=by kernel_rfl
@[go_sem] theorem zDO:agT prog 128=some false:=by kernel_rfl
@[go_sem] theorem oJ:qO prog 128=some .nilsl:=by kernel_rfl
@[go_sem] theorem yf:qS prog 128=some 130:=by kernel_rfl
@[go_sem] theorem Fu:uF prog 128=true:=by kernel_rfl
@[go_sem] theorem uC:j9 prog 128=true:=by kernel_rfl
@[go_sem] theorem qU:yZ prog 128=24:=by kernel_rfl
@[go_sem] theorem lC:cn prog 128=none:=by kernel_rfl
@[go_sem] theorem yz:szT prog 130=2:=by kernel_rfl
@[go_sem] theorem zDP:agT prog 130=some true:=by kernel_rfl
@[go_sem] theorem qy:qO prog 130=some (.agg [(.str []),(.str [])]):=by kernel_rfl
@[go_sem] theorem gM:j9 prog 130=true:=by kernel_rfl
@[go_sem] theorem rt:yZ prog 130=32:=by kernel_rfl
@[go_sem] theorem u9:wo prog 130=some [(0,1),(1,1)]:=by kernel_rfl
@[go_sem] theorem Hd:zq prog 130 0=some (0,9):=by kernel_rfl
@[go_sem] theorem He:zq prog 130 1=some (1,9):=by kernel_rfl
@[go_sem] theorem Pf:qO prog 132=some (.agg [.nilsl, .nilsl, .nilsl, .nilsl, .nilsl, .nilsl, .nilsl]):=by kernel_rfl
@[go_sem] theorem W0:wo prog 132=some [(0,4),(4,1),(5,1),(6,1)]:=by kernel_rfl
@[go_sem] theorem Hf:zq prog 132 0=some (0,27):=by kernel_rfl
@[go_sem] theorem Hg:zq prog 132 1=some (4,29):=by kernel_rfl
@[go_sem] theorem Hh:zq prog 132 2=some (5,61):=by kernel_rfl
@[go_sem] theorem Hi:zq prog 132 3=some (6,31):=by kernel_rfl
@[go_sem] theorem Fv:szT prog 138=1:=by kernel_rfl
@[go_sem] theorem zDQ:agT prog 138=some false:=by kernel_rfl
@[go_sem] theorem Bw:qO prog 138=some .nilsl:=by kernel_rfl
@[go_sem] theorem wK:qS prog 138=some 65:=by kernel_rfl
@[go_sem] theorem Fw:uF prog 138=true:=by kernel_rfl
@[go_sem] theorem ZL:cn prog 138=none:=by kernel_rfl
@[go_sem] theorem zDR:szT prog 151=1:=by kernel_rfl
@[go_sem] theorem zDS:agT prog 151=some false:=by kernel_rfl
@[go_sem] theorem Ud:UB prog 151=some (3,128):=by kernel_rfl
@[go_sem] theorem zDT:szT prog 152=1:=by kernel_rfl
@[go_sem] theorem zDU:agT prog 152=some false:=by kernel_rfl
@[go_sem] theorem Ue:UB prog 152=some (9,9):=by kernel_rfl
@[go_sem] theorem Pg:qO prog 154=some (.agg [.nilsl, .nilsl, .nilsl, .nilsl, .nilsl, .nilmap, .nilmap]):=by kernel_rfl
@[go_sem] theorem W1:wo prog 154=some [(0,4),(4,1),(5,1),(6,1)]:=by kernel_rfl
@[go_sem] theorem Hj:zq prog 154 0=some (0,27):=by kernel_rfl
@[go_sem] theorem Hk:zq prog 154 1=some (4,29):=by kernel_rfl
@[go_sem] theorem Hl:zq prog 154 2=some (5,151):=by kernel_rfl
@[go_sem] theorem Hm:zq prog 154 3=some (6,152):=by kernel_rfl
@[go_sem] theorem ZM:UB prog 180=some (9,3):=by kernel_rfl
@[go_sem] theorem kS:szT prog 189=6:=by kernel_rfl
@[go_sem] theorem Fx:agT prog 189=some true:=by kernel_rfl
@[go_sem] theorem Ys:qO prog 189=some (.agg [.nilsl, .nilsl, .nilsl, .nilsl, .nilsl, .nilsl]):=by kernel_rfl
@[go_sem] theorem fW:wo prog 189=some [(0,1),(1,1),(2,4)]:=by kernel_rfl
@[go_sem] theorem Hn:zq prog 189 0=some (0,61):=by kernel_rfl
@[go_sem] theorem Ho:zq prog 189 1=some (1,31):=by kernel_rfl
@[go_sem] theorem Hp:zq prog 189 2=some (2,27):=by kernel_rfl
@[go_sem] theorem Yt:qS prog 225=some 229:=by kernel_rfl
@[go_sem] theorem zDV:szT prog 227=1:=by kernel_rfl
@[go_sem] theorem zDW:agT prog 227=some false:=by kernel_rfl
@[go_sem] theorem W2:szT prog 229=2:=by kernel_rfl
@[go_sem] theorem zDX:agT prog 229=some true:=by kernel_rfl
@[go_sem] theorem Yu:qO prog 229=some (.agg [(.int .i64 0), .nilfn]):=by kernel_rfl
@[go_sem] theorem W3:wo prog 229=some [(0,1),(1,1)]:=by kernel_rfl
@[go_sem] theorem Hq:zq prog 229 0=some (0,3):=by kernel_rfl
@[go_sem] theorem Hr:zq prog 229 1=some (1,227):=by kernel_rfl
@[go_sem] theorem zDY:agT prog 230=some false:=by kernel_rfl
@[go_sem] theorem Ph:szT prog 238=8:=by kernel_rfl
@[go_sem] theorem zDZ:agT prog 238=some true:=by kernel_rfl
@[go_sem] theorem ru:qO prog 238=some (.agg [(.bool false),(.bool false),(.bool false),(.bool false),(.bool false),(.bool false),(.bool false),(.bool false)]):=by kernel_rfl
@[go_sem] theorem tA:wo prog 238=some [(0,1),(1,1),(2,1),(3,1),(4,1),(5,1),(6,1),(7,1)]:=by kernel_rfl
@[go_sem] theorem Hs:zq prog 238 0=some (0,4):=by kernel_rfl
@[go_sem] theorem Ht:zq prog 238 1=some (1,4):=by kernel_rfl
@[go_sem] theorem Hu:zq prog 238 2=some (2,4):=by kernel_rfl
@[go_sem] theorem Hv:zq prog 238 3=some (3,4):=by kernel_rfl
@[go_sem] theorem Hw:zq prog 238 4=some (4,4):=by kernel_rfl
@[go_sem] theorem Hx:zq prog 238 5=some (5,4):=by kernel_rfl
@[go_sem] theorem Hy:zq prog 238 6=some (6,4):=by kernel_rfl
@[go_sem] theorem Hz:zq prog 238 7=some (7,4):=by kernel_rfl
@[go_sem] theorem Pi:qS prog 268=some 5:=by kernel_rfl
@[go_sem] theorem Fy:szT prog 290=1:=by kernel_rfl
@[go_sem] theorem zDa:agT prog 290=some false:=by kernel_rfl
@[go_sem] theorem Bx:qO prog 290=some .nilfn:=by kernel_rfl
@[go_sem] theorem zDb:agT prog 319=some false:=by kernel_rfl
@[go_sem] theorem Fz:szT prog 328=3:=by kernel_rfl
@[go_sem] theorem zDc:agT prog 328=some true:=by kernel_rfl
@[go_sem] theorem Pj:qO prog 328=some (.agg [(.int .i64 0),(.int .i64 0),(.int .i64 0)]):=by kernel_rfl
@[go_sem] theorem W4:wo prog 328=some [(0,1),(1,1),(2,1)]:=by kernel_rfl
@[go_sem] theorem H0:zq prog 328 0=some (0,3):=by kernel_rfl
@[go_sem] theorem H6:zq prog 328 1=some (1,3):=by kernel_rfl
@[go_sem] theorem H7:zq prog 328 2=some (2,3):=by kernel_rfl
@[go_sem] theorem zDd:agT prog 363=some false:=by kernel_rfl
end Go.V
