/- A machine of abstract values for programs of the model, and its soundness, part 5. No condition. -/
import Derived.Test.YthcjhnmnhfgdiaaGreatDoorW02
import Derived.KernelRfl
import Derived.Test.YthcjhnmnhfgdiaaGreatDoorProg
set_option linter.all false
set_option maxHeartbeats 8000000
namespace Go.V
def onS (o:Option D) (k:D->Prop):Prop:=
 match o with
 |some d=>k d
 |none=>False
def onR (o:VR) (k:D->Heap->Prop):Prop:=
 match o with
 |some (d,h)=>k d h
 |none=>False
def onH (o:Option Heap) (k:Heap->Prop):Prop:=
 match o with
 |some h=>k h
 |none=>False
@[congr] theorem Bk {o o':Option D} {k:D->Prop} (h:o=o'):onS o k=onS o' k:=by rw[h]
@[congr] theorem Bl {o o':VR} {k:D->Heap->Prop} (h:o=o'):onR o k=onR o' k:=by rw[h]
@[congr] theorem Bm {o o':Option Heap} {k:Heap->Prop} (h:o=o'):onH o k=onH o' k:=by rw[h]
variable {P:Program}{f:FuncId}{h h':Heap}{K:D->Heap->Prop}{id i n:Nat}{op:Op}{ev:Operand->D}{fr:Frm}
@[congr] theorem FX {args args':List D} (ha:args=args') (hh:h=h'):zA P f args h K=zA P f args' h' K:=by rw[ha,hh]
@[congr] theorem Hm {args args':List D} (ha:args=args') (hh:h=h'):yg P id args h K=yg P id args' h' K:=by rw[ha,hh]
@[congr] theorem Ce {f f':D} {args args':List D} (hf:f=f') (ha:args=args') (hh:h=h'):jG P f args h K=jG P f' args' h' K:=by rw[hf,ha,hh]
@[go_sem ↓] theorem zCb (d:D) (k:D->Prop):onS (some d) k=k d:=(rfl)
@[go_sem ↓] theorem j8 (d:D) (h:Heap) (k:D->Heap->Prop):onR (some (d,h)) k=k d h:=(rfl)
@[go_sem ↓] theorem zCc (h:Heap) (k:Heap->Prop):onH (some h) k=k h:=(rfl)
section rules
variable {P:Program} {g:Cfg} {n:Nat} {ro:Option Nat} {mu:Tmp->Bool} {ops:Array Oper} {rest:List Oper} {K:Frm->Heap->Prop} {fr:Frm} {h:Heap} {dst:Option Tmp} {ty:TypeId} {pos:String} {after:Array Edge} {gd:Option (Nat×Bool)} {Q:Exit->Frm->Heap->Prop}
 {m:Bool} {nid:Nat} {k:D->Heap->Prop}
@[go_sem ↓] theorem ZH (a b:Code):vwp P g n ro (.seq a b) Q fr h=vwp P g n ro a (ng (vwp P g n ro b Q) Q) fr h:=(rfl)
@[go_sem ↓] theorem Cf (id:Nat) (l:List Oper):vwp P g n ro (.region id l.toArray false) Q fr h=cD P g.mu l.toArray l (Q .normal) fr h:=(rfl)
def Ud (id:Nat) (ops:Array Oper):vwp P g n ro (.region id ops true) Q fr h= ∃h0,HLe h0 h/\nL P g.mu h0 (Kx P g.mu ops (g.dr id) (jc ops.toList 0 [])) ops ((g.dr id).any (·.2.isSt)) (g.dr id) (Q .normal) fr h:=(rfl)
@[go_sem ↓] theorem zCd:vwp P g n ro .skip Q fr h=Q .normal fr h:=(rfl)
@[go_sem ↓] theorem zDf:vwp P g n ro .ret Q fr h=Q .ret fr h:=(rfl)
@[go_sem ↓] theorem zCe (i:Nat):vwp P g n ro (.exit i) Q fr h=Q (.exit i) fr h:=(rfl)
@[go_sem ↓] theorem Bn (id:Nat) (c:Code):vwp P g n ro (.block id c) Q fr h=vwp P g n ro c (mV id Q) fr h:=(rfl)
def onB (d:D) (x y:Prop):Prop:=
 match d with
 | .bool b=>match b with
  |true=>x
  |false=>y
 |_=>False
@[go_sem ↓] theorem zCf (c:Operand) (a b:Code):vwp P g n ro (.cond c a b) Q fr h=onB (yC fr c) (vwp P g n ro a Q fr h) (vwp P g n ro b Q fr h):=by
 simp only[vwp];rfl
@[congr] theorem Bo {d d':D} {x y:Prop} (h:d=d'):onB d x y=onB d' x y:=by rw[h]
@[go_sem ↓] theorem zCg (x y:Prop):onB (.bool true) x y=x:=(rfl)
@[go_sem ↓] theorem Bp (x y:Prop):onB (.bool false) x y=y:=(rfl)
@[go_sem ↓] theorem Hn (Kn:Frm->Heap->Prop):ng Kn Q .normal fr h=Kn fr h:=(rfl)
@[go_sem ↓] theorem Bq (Kn:Frm->Heap->Prop):ng Kn Q .ret fr h=Q .ret fr h:=(rfl)
@[go_sem ↓] theorem Cg (Kn:Frm->Heap->Prop) (i:Nat):ng Kn Q (.exit i) fr h=Q (.exit i) fr h:=(rfl)
@[go_sem ↓] theorem JS (i:Nat):mV i Q .normal fr h=Q .normal fr h:=(rfl)
@[go_sem ↓] theorem Ch (i:Nat):mV i Q .ret fr h=Q .ret fr h:=(rfl)
@[go_sem ↓] theorem FY (i j:Nat):mV i Q (.exit j) fr h=if j=i then Q .normal fr h else Q (.exit j) fr h:=(rfl)
@[go_sem ↓] theorem zCh:cD P mu ops [] K fr h=K fr h:=(rfl)
@[go_sem ↓] theorem Ci (op:Op):cD P mu ops (⟨dst,op,ty,pos,after,none⟩ ::rest) K fr h=wI P (lx mu dst) h.next op (yC fr) h λd h'=>cD P mu ops rest K (tT fr dst d) h':=(rfl)
def gif (g:Bool) (x y:Prop):Prop:=
 match g with
 |true=>x
 |false=>y
@[congr] theorem Br {g g':Bool} {x y:Prop} (h:g=g'):gif g x y=gif g' x y:=by rw[h]
@[go_sem ↓] theorem zCi (x y:Prop):gif true x y=x:=(rfl)
@[go_sem ↓] theorem Bs (x y:Prop):gif false x y=y:=(rfl)
@[go_sem ↓] theorem Cj (op:Op) (j:Nat) (b:Bool):cD P mu ops (⟨dst,op,ty,pos,after,some (j,b)⟩ ::rest) K fr h =
  gif (qC ops fr (some (j,b))) (wI P (lx mu dst) h.next op (yC fr) h λd h'=>cD P mu ops rest K (tT fr dst d) h') (cD P mu ops rest K (tT fr dst wS) h):=by
 simp only[cD,gif];cases qC ops fr (some (j,b))<;>rfl
@[go_sem ↓] theorem zCj (t:Tmp):yC fr (.tmp t)=fr t:=(rfl)
@[go_sem ↓] theorem zCk (k:IntKind) (n:Int):yC fr (.const (.int k n))= .int k n:=(rfl)
@[go_sem ↓] theorem Bt (b:Bool):yC fr (.const (.bool b))= .bool b:=(rfl)
@[go_sem ↓] theorem Bu (f:Nat):yC fr (.func f)= .fn (.func f) [] []:=(rfl)
@[go_sem ↓] theorem zCl (s:ByteArray):yC fr (.const (.string s))= .str s.data.toList:=(rfl)
@[go_sem ↓] theorem FZ:yC fr (.const (.pointer none))= .nilptr:=(rfl)
@[go_sem ↓] theorem Ck:yC fr (.const (.slice none 0 0))= .nilsl:=(rfl)
@[go_sem ↓] theorem Fa:yC fr (.const (.map none))= .nilmap:=(rfl)
@[go_sem ↓] theorem Cl:yC fr (.const .nilFunc)= .nilfn:=(rfl)
@[go_sem ↓] theorem Bv (t i:Tmp) (d:D):tT fr (some t) d i=if i=t then d else fr i:=(rfl)
@[go_sem ↓] theorem Bw (d:D):tT fr none d=fr:=(rfl)
@[go_sem ↓] theorem zGs (x:Operand):wI P m nid (.move x) (yC fr) h k=k (yC fr x) h:=(rfl)
@[go_sem ↓] theorem zCm (x:Operand):wI P m nid (.assign x) (yC fr) h k=k (yC fr x) h:=(rfl)
@[go_sem ↓] theorem zGt (f:Operand) (args:List Operand) (ats:Array TypeId):wI P m nid (.call ⟨.value f,args.toArray,ats⟩) (yC fr) h k=jG P (yC fr f) (args.map (yC fr)) h k:=(rfl)
@[go_sem ↓] theorem Pi (f:FuncId) (a c args:List D):jG P (.fn (.func f) a c) args h k=zA P f (a++args++c) h k:=(rfl)
@[go_sem ↓] theorem zCn (id:Nat) (args:List D):jG P (.yld id) args h k=yg P id args h k:=(rfl)
def tg {o:Option D} (h1:qB op=none) (a:vop P m nid op ev h=o.map (·,h)):wI P m nid op ev h k=onS o (k · h):=by
 unfold wI;rw[h1,a];cases o<;>rfl
def Pj {o:Option Heap} (h1:qB op=none) (a:vop P m nid op ev h=o.map (wS,·)):wI P m nid op ev h k=onH o (k wS ·):=by
 unfold wI;rw[h1,a];cases o<;>rfl
def fH {o:VR} (h1:qB op=none) (a:vop P m nid op ev h=o):wI P m nid op ev h k=onR o k:=by
 unfold wI;rw[h1,a];cases o<;>rfl
@[go_sem ↓] theorem zIC (op:BinOp) (t u:TypeId) (x y:Operand):wI P m nid (.binOp op t x y u) (yC fr) h k=onS (pj P op t (isC x||isC y) (yC fr x) (yC fr y)) (k · h):=tg rfl rfl
@[go_sem ↓] theorem zI6 (op:UnOp) (t:TypeId) (x:Operand):wI P m nid (.unOp op t x) (yC fr) h k=onS (vun op (yC fr x)) (k · h):=tg rfl rfl
@[go_sem ↓] theorem zGu (c x y:Operand):wI P m nid (.pick c x y) (yC fr) h k=onB (yC fr c) (k (yC fr x) h) (k (yC fr y) h):=by
 simp only[wI,qB,vop,onB];cases yC fr c with
 |bool b=>cases b<;>rfl
 |_=>rfl
@[go_sem ↓] theorem zDg (t:TypeId):wI P m nid (.alloc t) (yC fr) h k=onR (vop P m nid (.alloc t) (yC fr) h) k:=fH rfl rfl
@[go_sem ↓] theorem zID (t:TypeId) (x:Operand):wI P m nid (.box t x) (yC fr) h k=onR (vop P m nid (.box t x) (yC fr) h) k:=fH rfl rfl
@[go_sem ↓] theorem zDh (t:TypeId) (ps:List (Nat×Operand)):wI P m nid (.build t ps.toArray) (yC fr) h k=onS (yA P t (ps.map λp=>(p.1,yC fr p.2))) (k · h):=tg rfl rfl
@[go_sem ↓] theorem Ho (t:TypeId) (n:Nat) (ps:List (Nat×Operand)):wI P m nid (.buildSlice t n ps.toArray) (yC fr) h k=onR (zJ P m nid t n (ps.map λp=>(p.1,yC fr p.2)) h) k:=fH rfl rfl
@[go_sem ↓] theorem zGv (t:TypeId) (x:Operand):wI P m nid (.load t x) (yC fr) h k=onS (sJ P t (yC fr x) h) (k · h):=tg rfl rfl
@[go_sem ↓] theorem zDi (t:TypeId) (x y:Operand):wI P m nid (.store t x y) (yC fr) h k=onH (zQ P t (yC fr x) (yC fr y) h) (k wS ·):=Pj rfl rfl
@[go_sem ↓] theorem Cm (x:Operand):wI P m nid (.nilCheck x) (yC fr) h k=onS (zg (yC fr x)) (k · h):=tg rfl rfl
@[go_sem ↓] theorem Bx (s t:TypeId) (x:Operand):wI P m nid (.convert s t x) (yC fr) h k=onS (mK P s t (yC fr x) h) (k · h):=tg rfl rfl
@[go_sem ↓] theorem Cn (P:Program) (s t:TypeId) (k:IntKind) (n:Int) (h:Heap):mK P s t (.int k n) h=tD P s t (.int k n):=(rfl)
@[go_sem ↓] theorem Co (P:Program) (s t:TypeId) (x:List UInt8) (h:Heap):mK P s t (.str x) h=tD P s t (.str x):=(rfl)
@[go_sem ↓] theorem Cp (f:FuncId) (a c:List Operand):wI P m nid (.makeFunc (.func f) a.toArray c.toArray) (yC fr) h k=k (.fn (.func f) (a.map (yC fr)) (c.map (yC fr))) h:=(rfl)
@[go_sem ↓] theorem By (t:TypeId):wI P m nid (.makeMap t none) (yC fr) h k=k (.map nid) (h.new nid (.map [])):=(rfl)
@[go_sem ↓] theorem Fb (t:TypeId) (x y:Operand):wI P m nid (.makeSlice t x y) (yC fr) h k=onR (qR P m nid t (yC fr x) (yC fr y) h) k:=fH rfl rfl
@[go_sem ↓] theorem zDj (t:TypeId) (x:Operand) (lo hi mx:Option Operand):wI P m nid (.slice t x lo hi mx) (yC fr) h k=onS (yi P t (yC fr x) (lo.map (yC fr)) (hi.map (yC fr)) (mx.map (yC fr)) h) (k · h):=tg rfl rfl
@[go_sem ↓] theorem Fc (t:TypeId) (x:Operand) (f:Nat):wI P m nid (.fieldAddr t x f) (yC fr) h k=onS (sC P t (yC fr x) f) (k · h):=tg rfl rfl
@[go_sem ↓] theorem Fe (t:TypeId) (x i:Operand):wI P m nid (.indexAddr t x i) (yC fr) h k=onS (zP P t (yC fr x) (yC fr i)) (k · h):=tg rfl rfl
@[go_sem ↓] theorem zDk (t:TypeId) (x i:Operand):wI P m nid (.index t x i) (yC fr) h k=onS (tJ P t (yC fr x) (yC fr i)) (k · h):=tg rfl rfl
@[go_sem ↓] theorem zCo (t:TypeId) (x y:Operand) (ok:Bool):wI P m nid (.lookup t x y ok) (yC fr) h k=onS (yj P t (yC fr x) (yC fr y) ok h) (k · h):=tg rfl rfl
@[go_sem ↓] theorem Ff (t:TypeId) (x y z:Operand):wI P m nid (.mapUpdate t x y z) (yC fr) h k=onH (yW P t (yC fr x) (yC fr y) (yC fr z) h) (k wS ·):=Pj rfl rfl
@[go_sem ↓] theorem zDl (t:TypeId) (x:Operand):wI P m nid (.range t x) (yC fr) h k=onR (jA P nid t (yC fr x) h) k:=fH rfl rfl
@[go_sem ↓] theorem zGw (x:Operand) (b:Bool):wI P m nid (.next x b) (yC fr) h k=onR (cH (yC fr x) b h) k:=fH rfl rfl
@[go_sem ↓] theorem Bz (x:Operand) (i:Nat):wI P m nid (.extract x i) (yC fr) h k=onS (ss (yC fr x) i) (k · h):=tg rfl rfl
@[go_sem ↓] theorem zIE (t:TypeId) (x:Operand):wI P m nid (.call ⟨.builtin .len,#[x],#[t]⟩) (yC fr) h k=onS (sD P t (yC fr x) h) (k · h):=tg rfl rfl
@[go_sem ↓] theorem zCp (t u:TypeId) (x y:Operand):wI P m nid (.call ⟨.builtin .append,#[x,y],#[t,u]⟩) (yC fr) h k=onR (if uS P u then tn P m nid t (yC fr x) (yC fr y) h else to P m nid t u (yC fr x) (yC fr y) h) k:=fH rfl rfl
@[go_sem ↓] theorem Cq (t:TypeId) (s x:D):tn P false nid t s x h=zt P false nid t s x h:=(rfl)
@[go_sem ↓] theorem Cr (t:TypeId) (s x:D):tn P true nid t s x h=zt P true nid t s x (qZ s x h):=(rfl)
@[go_sem ↓] theorem Cs (sz:Nat) (xs:List (List D)) (tk:Tk) (x:D):qZ (.sl sz xs tk) x h=h:=(rfl)
@[go_sem ↓] theorem zIF (ats:Array TypeId) (x y:Operand):wI P m nid (.call ⟨.builtin .min,#[x,y],ats⟩) (yC fr) h k=onS (Qy (yC fr x) (yC fr y)) (k · h):=tg rfl rfl
@[go_sem ↓] theorem zIG (x y:Operand) (ats:Array TypeId):wI P m nid (.call ⟨.builtin .max,#[x,y],ats⟩) (yC fr) h k=onS (JA (yC fr x) (yC fr y)) (k · h):=by
 refine tg rfl ?_;simp only[vop,tp,We,List.map_cons,List.map_nil];cases JA (yC fr x) (yC fr y)<;>rfl
@[go_sem ↓] theorem Ct (d:D) (ds:List D):av (d::ds) 0=d:=(rfl)
@[go_sem ↓] theorem Cu (d:D) (ds:List D) (i:Nat):av (d::ds) (i+1)=av ds i:=(rfl)
def onL (o:Option (List D)) (k:List D->Prop):Prop:=
 match o with
 |some ds=>k ds
 |none=>False
@[go_sem ↓] theorem zCq (rs:List ResultVar) (q:D->Heap->Prop):Hi P rs q .ret fr h=onL (sQ P fr h rs) λds=>q (l8 ds) h:=by
 unfold Hi onL;cases sQ P fr h rs<;>simp
@[go_sem ↓] theorem Fg (rs:List ResultVar) (q:D->Heap->Prop):Hi P rs q .normal fr h=onL (sQ P fr h rs) λds=>q (l8 ds) h:=by
 unfold Hi onL;cases sQ P fr h rs<;>simp
@[go_sem ↓] theorem B0 (k:List D->Prop):onL (sQ P fr h []) k=k []:=(rfl)
@[go_sem ↓] theorem B1 (t:Tmp) (rs:List ResultVar) (k:List D->Prop):onL (sQ P fr h (.tmp t::rs)) k=onL (sQ P fr h rs) λds=>k (fr t::ds):=by
 simp only[sQ,PU];cases sQ P fr h rs<;>rfl
@[go_sem ↓] theorem Cv (a:Tmp) (t:TypeId) (rs:List ResultVar) (k:List D->Prop):onL (sQ P fr h (.cell a t::rs)) k=onS (sJ P t (fr a) h) λd=>onL (sQ P fr h rs) λds=>k (d::ds):=by
 simp only[sQ,PU];cases sJ P t (fr a) h with
 |none=>rfl
 |some d=>cases sQ P fr h rs<;>rfl
@[go_sem ↓] theorem B3 (d:D):l8 [d]=d:=(rfl)
@[go_sem ↓] theorem B4 (d d':D) (ds:List D):l8 (d::d'::ds)= .tuple (d::d'::ds):=(rfl)
@[go_sem ↓] theorem B5:l8 []= .tuple []:=(rfl)
end rules
def zd (sz:Nat) (xs:List (List D)) (d:D):Prop:=(d= .nilsl/\xs= [])\/∃tk,d= .sl sz xs tk
section
variable {P:Program} {sz:Nat} {xs:List (List D)} {d:D} {t e:TypeId} {h:Heap}
def zd.mk (tk:Tk):zd sz xs (.sl sz xs tk):= .inr ⟨tk,rfl⟩
def zd.nil:zd sz [] .nilsl:= .inl ⟨rfl,rfl⟩
def ye (a:zd sz xs d) (b:P.underlying t=some (.slice e)):sD P t d h=some (.int .i64 xs.length):=by
 rcases a with⟨rfl,rfl⟩ | ⟨tk,rfl⟩ <;>simp[sD,b]
def zW (b:zd sz xs d) (c:qQ P t=some e) (f:szT P e=sz) {k:IntKind} {x:List D} (a:xs[i]? =some x):zP P t d (.int k i)=some (.iptr x 0):=by
 rcases b with⟨rfl,rfl⟩ | ⟨tk,rfl⟩
 ·simp at a
 ·simp[zP,c,f,a]
end
@[go_sem ↓] theorem zCr (P:Program) (op:BinOp) (t:TypeId) (c:Bool) (k k':IntKind) (a b:Int):pj P op t c (.int k a) (.int k' b)=sI op k k' a b:=(rfl)
@[go_sem ↓] theorem zCs (P:Program) (op:BinOp) (t:TypeId) (c:Bool) (a b:List UInt8):pj P op t c (.str a) (.str b)=Kw op a b:=(rfl)
@[go_sem ↓] theorem B6 (k:IntKind) (a b:Int):sI .add k k a b=some (.int k (k.wrap (a+b))):=by simp[sI,UF]
@[go_sem ↓] theorem B7 (k:IntKind) (a b:Int):sI .sub k k a b=some (.int k (k.wrap (a-b))):=by simp[sI,UF]
@[go_sem ↓] theorem B8 (k:IntKind) (a b:Int):sI .mul k k a b=some (.int k (k.wrap (a*b))):=by simp[sI,UF]
@[go_sem ↓] theorem B9 (k:IntKind) (a b:Int):sI .lss k k a b=some (.bool (decide (a<b))):=by simp[sI,UF]
@[go_sem ↓] theorem AA (k:IntKind) (a b:Int):sI .leq k k a b=some (.bool (decide (a<=b))):=by simp[sI,UF]
@[go_sem ↓] theorem AB (k:IntKind) (a b:Int):sI .gtr k k a b=some (.bool (decide (a>b))):=by simp[sI,UF]
@[go_sem ↓] theorem AC (k:IntKind) (a b:Int):sI .geq k k a b=some (.bool (decide (a>=b))):=by simp[sI,UF]
@[go_sem ↓] theorem AD (k:IntKind) (a b:Int):sI .eql k k a b=some (.bool (a==b)):=by simp[sI,UF]
@[go_sem ↓] theorem AE (k:IntKind) (a b:Int):sI .neq k k a b=some (.bool (a !=b)):=by simp[sI,UF]
@[go_sem ↓] theorem zCt (a b:List UInt8):Kw .eql a b=some (.bool (a==b)):=(rfl)
@[go_sem ↓] theorem zCu (a b:List UInt8):Kw .neq a b=some (.bool (!(a==b))):=(rfl)
@[go_sem ↓] theorem zCv (a b:List UInt8):Kw .lss a b=some (.bool (cC a b)):=(rfl)
@[go_sem ↓] theorem Cw (P:Program) (t:TypeId) (cs:List D) (off:Nat) (h:Heap):sJ P t (.iptr cs off) h=(match agT P t with
 |none=>none
 |some ag=>zN ag (szT P t) cs off):=(rfl)
@[go_sem ↓] theorem sW (n:Nat) (cs:List D) (off:Nat):zN false n cs off=cs[off]? :=(rfl)
variable {P:Program}{n:Nat}{fr:Frm}{h:Heap}{K:D->Heap->Prop}
def Ue {g:Cfg} {ro:Option Nat} {c:Code} {Q:Exit->Frm->Heap->Prop} (I:Nat->Frm->Heap->Prop) (k:Nat) (a:I k fr h)
  (hr:∀k fr h,I k fr h->vwp P g n ro c (ng (λfr h=>∃m,m<k/\I m fr h) Q) fr h):vwp P g n ro (.loop c) Q fr h:=⟨I,⟨k,a⟩,hr⟩
open Go.Proofs.Tryz
open Go.Proofs
@[go_sem] theorem wW:szT prog 3=1:=by kernel_rfl
@[go_sem] theorem zIH:agT prog 3=some false:=by kernel_rfl
@[go_sem] theorem uV:qK prog 3=some (.int .i64 0):=by kernel_rfl
@[go_sem] theorem AF:uS prog 3=false:=by kernel_rfl
@[go_sem] theorem Yp:gT prog 3=true:=by kernel_rfl
@[go_sem] theorem mf:yf prog 3=8:=by kernel_rfl
@[go_sem] theorem Hp:UI prog 3=some (false,[.i]):=by kernel_rfl
@[go_sem] theorem Pk:szT prog 4=1:=by kernel_rfl
@[go_sem] theorem zII:agT prog 4=some false:=by kernel_rfl
@[go_sem] theorem zDm:qK prog 4=some (.bool false):=by kernel_rfl
@[go_sem] theorem zDn:szT prog 5=1:=by kernel_rfl
@[go_sem] theorem zIJ:agT prog 5=some false:=by kernel_rfl
@[go_sem] theorem uW:szT prog 9=1:=by kernel_rfl
@[go_sem] theorem zIK:agT prog 9=some false:=by kernel_rfl
@[go_sem] theorem nj:qK prog 9=some (.str []):=by kernel_rfl
@[go_sem] theorem jN:gT prog 9=true:=by kernel_rfl
@[go_sem] theorem tF:yf prog 9=16:=by kernel_rfl
@[go_sem] theorem Uf:cd prog 9=none:=by kernel_rfl
@[go_sem] theorem Yq:UI prog 9=some (false,[.s]):=by kernel_rfl
@[go_sem] theorem zGx:szT prog 22=1:=by kernel_rfl
@[go_sem] theorem zGy:agT prog 22=some false:=by kernel_rfl
@[go_sem] theorem mg:qQ prog 22=some 108:=by kernel_rfl
@[go_sem] theorem Cx:uS prog 22=true:=by kernel_rfl
@[go_sem] theorem Fh:cd prog 22=none:=by kernel_rfl
@[go_sem] theorem zGz:szT prog 23=1:=by kernel_rfl
@[go_sem] theorem zG0:agT prog 23=some false:=by kernel_rfl
@[go_sem] theorem JT:qQ prog 23=some 113:=by kernel_rfl
@[go_sem] theorem zG1:szT prog 24=1:=by kernel_rfl
@[go_sem] theorem zG2:agT prog 24=some false:=by kernel_rfl
@[go_sem] theorem ZI:qQ prog 24=some 117:=by kernel_rfl
@[go_sem] theorem Cy:uS prog 24=true:=by kernel_rfl
@[go_sem] theorem zG3:szT prog 25=1:=by kernel_rfl
@[go_sem] theorem zG4:agT prog 25=some false:=by kernel_rfl
@[go_sem] theorem JU:qQ prog 25=some 121:=by kernel_rfl
@[go_sem] theorem zG5:szT prog 27=4:=by kernel_rfl
@[go_sem] theorem AG:agT prog 27=some true:=by kernel_rfl
@[go_sem] theorem Fi:zl prog 27 0=some (0,22):=by kernel_rfl
@[go_sem] theorem Fj:zl prog 27 1=some (1,23):=by kernel_rfl
@[go_sem] theorem Fk:zl prog 27 2=some (2,24):=by kernel_rfl
@[go_sem] theorem Fm:zl prog 27 3=some (3,25):=by kernel_rfl
@[go_sem] theorem zG6:szT prog 29=1:=by kernel_rfl
@[go_sem] theorem AH:agT prog 29=some false:=by kernel_rfl
@[go_sem] theorem JV:qQ prog 29=some 58:=by kernel_rfl
@[go_sem] theorem jO:szT prog 30=1:=by kernel_rfl
@[go_sem] theorem zG7:agT prog 30=some false:=by kernel_rfl
@[go_sem] theorem Ug:qK prog 30=some .nilsl:=by kernel_rfl
@[go_sem] theorem yn:qQ prog 30=some 128:=by kernel_rfl
@[go_sem] theorem Cz:uS prog 30=true:=by kernel_rfl
@[go_sem] theorem Pm:gT prog 30=true:=by kernel_rfl
@[go_sem] theorem Yr:yf prog 30=24:=by kernel_rfl
@[go_sem] theorem Hq:szT prog 31=1:=by kernel_rfl
@[go_sem] theorem zG8:agT prog 31=some false:=by kernel_rfl
@[go_sem] theorem yv:qQ prog 31=some 9:=by kernel_rfl
@[go_sem] theorem C0:uS prog 31=true:=by kernel_rfl
@[go_sem] theorem Fo:cd prog 31=none:=by kernel_rfl
@[go_sem] theorem Pn:szT prog 33=2:=by kernel_rfl
@[go_sem] theorem zG9:agT prog 33=some true:=by kernel_rfl
@[go_sem] theorem JW:qK prog 33=some (.agg [.nilsl, .nilsl]):=by kernel_rfl
@[go_sem] theorem Rw:uA prog 33=some [(0,1),(1,1)]:=by kernel_rfl
@[go_sem] theorem Fp:zl prog 33 0=some (0,30):=by kernel_rfl
@[go_sem] theorem Fq:zl prog 33 1=some (1,31):=by kernel_rfl
@[go_sem] theorem AI:szT prog 35=1:=by kernel_rfl
@[go_sem] theorem zHA:agT prog 35=some false:=by kernel_rfl
@[go_sem] theorem zCw:qK prog 35=some .nilsl:=by kernel_rfl
@[go_sem] theorem oe:qQ prog 35=some 67:=by kernel_rfl
@[go_sem] theorem C1:uS prog 35=true:=by kernel_rfl
@[go_sem] theorem zHB:szT prog 37=4:=by kernel_rfl
@[go_sem] theorem AJ:agT prog 37=some true:=by kernel_rfl
@[go_sem] theorem Fs:zl prog 37 0=some (0,4):=by kernel_rfl
@[go_sem] theorem Ft:zl prog 37 1=some (1,33):=by kernel_rfl
@[go_sem] theorem Fu:zl prog 37 2=some (3,35):=by kernel_rfl
@[go_sem] theorem AK:szT prog 41=1:=by kernel_rfl
@[go_sem] theorem zHC:agT prog 41=some false:=by kernel_rfl
@[go_sem] theorem zCx:qK prog 41=some .nilfn:=by kernel_rfl
@[go_sem] theorem bS:szT prog 42=1:=by kernel_rfl
@[go_sem] theorem zHD:agT prog 42=some false:=by kernel_rfl
@[go_sem] theorem zCy:qK prog 42=some (.int .i64 0):=by kernel_rfl
@[go_sem] theorem AL:szT prog 45=1:=by kernel_rfl
@[go_sem] theorem zHE:agT prog 45=some false:=by kernel_rfl
@[go_sem] theorem yK:qQ prog 45=some 3:=by kernel_rfl
@[go_sem] theorem C2:uS prog 45=true:=by kernel_rfl
@[go_sem] theorem W2:cd prog 45=none:=by kernel_rfl
@[go_sem] theorem zHF:szT prog 54=1:=by kernel_rfl
@[go_sem] theorem zHG:agT prog 54=some false:=by kernel_rfl
@[go_sem] theorem JX:qQ prog 54=some 56:=by kernel_rfl
@[go_sem] theorem Po:szT prog 56=4:=by kernel_rfl
@[go_sem] theorem zHH:agT prog 56=some true:=by kernel_rfl
@[go_sem] theorem JY:qK prog 56=some (.agg [(.int .i64 0),(.str []),(.str []), .nilsl]):=by kernel_rfl
@[go_sem] theorem Rx:uA prog 56=some [(0,1),(1,1),(2,1),(3,1)]:=by kernel_rfl
@[go_sem] theorem Fv:zl prog 56 0=some (0,3):=by kernel_rfl
@[go_sem] theorem Fw:zl prog 56 1=some (1,9):=by kernel_rfl
@[go_sem] theorem Fx:zl prog 56 2=some (2,9):=by kernel_rfl
@[go_sem] theorem Fy:zl prog 56 3=some (3,54):=by kernel_rfl
@[go_sem] theorem Pp:szT prog 58=12:=by kernel_rfl
@[go_sem] theorem zHI:agT prog 58=some true:=by kernel_rfl
@[go_sem] theorem zCz:qK prog 58=some (.agg [(.int .i64 0),(.str []),(.str []),(.int .i64 0),(.int .i64 0),(.int .i64 0),(.bool false),(.int .i64 0),(.str []),(.str []), .nilsl, .nilsl]):=by kernel_rfl
@[go_sem] theorem Fz:zl prog 58 0=some (0,3):=by kernel_rfl
@[go_sem] theorem F0:zl prog 58 1=some (1,9):=by kernel_rfl
@[go_sem] theorem F5:zl prog 58 2=some (2,9):=by kernel_rfl
@[go_sem] theorem F6:zl prog 58 3=some (3,3):=by kernel_rfl
@[go_sem] theorem F7:zl prog 58 4=some (4,3):=by kernel_rfl
@[go_sem] theorem F8:zl prog 58 5=some (5,3):=by kernel_rfl
@[go_sem] theorem F9:zl prog 58 6=some (6,4):=by kernel_rfl
@[go_sem] theorem EA:zl prog 58 7=some (7,56):=by kernel_rfl
@[go_sem] theorem EB:zl prog 58 8=some (11,31):=by kernel_rfl
@[go_sem] theorem zHJ:szT prog 61=1:=by kernel_rfl
@[go_sem] theorem zHK:agT prog 61=some false:=by kernel_rfl
@[go_sem] theorem og:qQ prog 61=some 30:=by kernel_rfl
@[go_sem] theorem C3:uS prog 61=true:=by kernel_rfl
@[go_sem] theorem wk:szT prog 65=2:=by kernel_rfl
@[go_sem] theorem zHL:agT prog 65=some true:=by kernel_rfl
@[go_sem] theorem mh:qK prog 65=some (.agg [(.int .i64 0), .nilsl]):=by kernel_rfl
@[go_sem] theorem Pq:gT prog 65=true:=by kernel_rfl
@[go_sem] theorem Ys:yf prog 65=32:=by kernel_rfl
@[go_sem] theorem kI:uA prog 65=some [(0,1),(1,1)]:=by kernel_rfl
@[go_sem] theorem EC:zl prog 65 0=some (0,3):=by kernel_rfl
@[go_sem] theorem ED:zl prog 65 1=some (1,45):=by kernel_rfl
@[go_sem] theorem nP:szT prog 67=4:=by kernel_rfl
@[go_sem] theorem zHM:agT prog 67=some true:=by kernel_rfl
@[go_sem] theorem j9:qK prog 67=some (.agg [(.int .i64 0), .nilsl,(.int .i64 0), .nilsl]):=by kernel_rfl
@[go_sem] theorem EE:gT prog 67=true:=by kernel_rfl
@[go_sem] theorem Pr:yf prog 67=64:=by kernel_rfl
@[go_sem] theorem bT:uA prog 67=some [(0,1),(1,1),(2,2)]:=by kernel_rfl
@[go_sem] theorem EF:zl prog 67 0=some (0,3):=by kernel_rfl
@[go_sem] theorem EG:zl prog 67 1=some (1,45):=by kernel_rfl
@[go_sem] theorem EI:zl prog 67 2=some (2,65):=by kernel_rfl
@[go_sem] theorem zHN:agT prog 75=some false:=by kernel_rfl
@[go_sem] theorem zHO:agT prog 89=some false:=by kernel_rfl
@[go_sem] theorem zHP:agT prog 95=some false:=by kernel_rfl
@[go_sem] theorem pH:szT prog 108=4:=by kernel_rfl
@[go_sem] theorem zDo:agT prog 108=some true:=by kernel_rfl
@[go_sem] theorem fI:qK prog 108=some (.agg [(.str []),(.str []),(.int .i64 0),(.str [])]):=by kernel_rfl
@[go_sem] theorem JZ:gT prog 108=true:=by kernel_rfl
@[go_sem] theorem Ry:yf prog 108=56:=by kernel_rfl
@[go_sem] theorem fJ:uA prog 108=some [(0,1),(1,1),(2,1),(3,1)]:=by kernel_rfl
@[go_sem] theorem Hr:zl prog 108 0=some (0,9):=by kernel_rfl
@[go_sem] theorem Hs:zl prog 108 1=some (1,9):=by kernel_rfl
@[go_sem] theorem Ht:zl prog 108 2=some (2,3):=by kernel_rfl
@[go_sem] theorem Hu:zl prog 108 3=some (3,9):=by kernel_rfl
@[go_sem] theorem fK:szT prog 113=3:=by kernel_rfl
@[go_sem] theorem zDp:agT prog 113=some true:=by kernel_rfl
@[go_sem] theorem AM:qK prog 113=some (.agg [(.str []),(.str []), .nilsl]):=by kernel_rfl
@[go_sem] theorem Hv:zl prog 113 0=some (0,9):=by kernel_rfl
@[go_sem] theorem Hw:zl prog 113 1=some (1,9):=by kernel_rfl
@[go_sem] theorem Hx:zl prog 113 2=some (2,45):=by kernel_rfl
@[go_sem] theorem p0:szT prog 117=5:=by kernel_rfl
@[go_sem] theorem zDq:agT prog 117=some true:=by kernel_rfl
@[go_sem] theorem Ps:qK prog 117=some (.agg [(.str []),(.int .i64 0),(.int .i64 0),(.int .i64 0), .nilsl]):=by kernel_rfl
@[go_sem] theorem Ja:gT prog 117=true:=by kernel_rfl
@[go_sem] theorem Rz:yf prog 117=64:=by kernel_rfl
@[go_sem] theorem Hy:zl prog 117 0=some (0,9):=by kernel_rfl
@[go_sem] theorem Hz:zl prog 117 1=some (1,3):=by kernel_rfl
@[go_sem] theorem H0:zl prog 117 2=some (2,3):=by kernel_rfl
@[go_sem] theorem H6:zl prog 117 3=some (3,3):=by kernel_rfl
@[go_sem] theorem H7:zl prog 117 4=some (4,31):=by kernel_rfl
@[go_sem] theorem ZJ:szT prog 121=2:=by kernel_rfl
@[go_sem] theorem zDr:agT prog 121=some true:=by kernel_rfl
@[go_sem] theorem Pt:qK prog 121=some (.agg [(.str []),(.str [])]):=by kernel_rfl
@[go_sem] theorem W3:uA prog 121=some [(0,1),(1,1)]:=by kernel_rfl
@[go_sem] theorem H8:zl prog 121 0=some (0,9):=by kernel_rfl
@[go_sem] theorem H9:zl prog 121 1=some (1,9):=by kernel_rfl
@[go_sem] theorem fL:qQ prog 127=some 130:=by kernel_rfl
@[go_sem] theorem EJ:uS prog 127=true:=by kernel_rfl
@[go_sem] theorem yo:szT prog 128=1:=by kernel_rfl
@[go_sem] theorem zDs:agT prog 128=some false:=by kernel_rfl
@[go_sem] theorem p4:qK prog 128=some .nilsl:=by kernel_rfl
@[go_sem] theorem yY:qQ prog 128=some 130:=by kernel_rfl
@[go_sem] theorem EK:uS prog 128=true:=by kernel_rfl
@[go_sem] theorem wu:gT prog 128=true:=by kernel_rfl
@[go_sem] theorem qS:yf prog 128=24:=by kernel_rfl
@[go_sem] theorem mi:cd prog 128=none:=by kernel_rfl
@[go_sem] theorem yt:szT prog 130=2:=by kernel_rfl
@[go_sem] theorem zDt:agT prog 130=some true:=by kernel_rfl
@[go_sem] theorem qw:qK prog 130=some (.agg [(.str []),(.str [])]):=by kernel_rfl
@[go_sem] theorem hA:gT prog 130=true:=by kernel_rfl
@[go_sem] theorem rc:yf prog 130=32:=by kernel_rfl
@[go_sem] theorem uw:uA prog 130=some [(0,1),(1,1)]:=by kernel_rfl
@[go_sem] theorem GA:zl prog 130 0=some (0,9):=by kernel_rfl
@[go_sem] theorem GB:zl prog 130 1=some (1,9):=by kernel_rfl
@[go_sem] theorem Pu:qK prog 132=some (.agg [.nilsl, .nilsl, .nilsl, .nilsl, .nilsl, .nilsl, .nilsl]):=by kernel_rfl
@[go_sem] theorem W4:uA prog 132=some [(0,4),(4,1),(5,1),(6,1)]:=by kernel_rfl
@[go_sem] theorem GC:zl prog 132 0=some (0,27):=by kernel_rfl
@[go_sem] theorem GD:zl prog 132 1=some (4,29):=by kernel_rfl
@[go_sem] theorem GE:zl prog 132 2=some (5,61):=by kernel_rfl
@[go_sem] theorem GF:zl prog 132 3=some (6,31):=by kernel_rfl
@[go_sem] theorem Pv:szT prog 138=1:=by kernel_rfl
@[go_sem] theorem zDu:agT prog 138=some false:=by kernel_rfl
@[go_sem] theorem AN:qK prog 138=some .nilsl:=by kernel_rfl
@[go_sem] theorem qi:qQ prog 138=some 65:=by kernel_rfl
@[go_sem] theorem EL:uS prog 138=true:=by kernel_rfl
@[go_sem] theorem ZK:cd prog 138=none:=by kernel_rfl
@[go_sem] theorem zDv:szT prog 151=1:=by kernel_rfl
@[go_sem] theorem zDw:agT prog 151=some false:=by kernel_rfl
@[go_sem] theorem Uh:UH prog 151=some (3,128):=by kernel_rfl
@[go_sem] theorem zDx:szT prog 152=1:=by kernel_rfl
@[go_sem] theorem zDy:agT prog 152=some false:=by kernel_rfl
@[go_sem] theorem Ui:UH prog 152=some (9,9):=by kernel_rfl
@[go_sem] theorem Pw:qK prog 154=some (.agg [.nilsl, .nilsl, .nilsl, .nilsl, .nilsl, .nilmap, .nilmap]):=by kernel_rfl
@[go_sem] theorem W5:uA prog 154=some [(0,4),(4,1),(5,1),(6,1)]:=by kernel_rfl
@[go_sem] theorem GG:zl prog 154 0=some (0,27):=by kernel_rfl
@[go_sem] theorem GH:zl prog 154 1=some (4,29):=by kernel_rfl
@[go_sem] theorem GI:zl prog 154 2=some (5,151):=by kernel_rfl
@[go_sem] theorem GJ:zl prog 154 3=some (6,152):=by kernel_rfl
@[go_sem] theorem ZL:UH prog 180=some (9,3):=by kernel_rfl
@[go_sem] theorem kJ:szT prog 189=6:=by kernel_rfl
@[go_sem] theorem EM:agT prog 189=some true:=by kernel_rfl
@[go_sem] theorem Yt:qK prog 189=some (.agg [.nilsl, .nilsl, .nilsl, .nilsl, .nilsl, .nilsl]):=by kernel_rfl
@[go_sem] theorem fM:uA prog 189=some [(0,1),(1,1),(2,4)]:=by kernel_rfl
@[go_sem] theorem GK:zl prog 189 0=some (0,61):=by kernel_rfl
@[go_sem] theorem GL:zl prog 189 1=some (1,31):=by kernel_rfl
@[go_sem] theorem GM:zl prog 189 2=some (2,27):=by kernel_rfl
@[go_sem] theorem zDz:agT prog 193=some false:=by kernel_rfl
@[go_sem] theorem EN:szT prog 194=1:=by kernel_rfl
@[go_sem] theorem zD0:agT prog 194=some false:=by kernel_rfl
@[go_sem] theorem AO:qK prog 194=some .nilfn:=by kernel_rfl
@[go_sem] theorem Yu:qQ prog 225=some 229:=by kernel_rfl
@[go_sem] theorem zD1:szT prog 227=1:=by kernel_rfl
@[go_sem] theorem zD2:agT prog 227=some false:=by kernel_rfl
@[go_sem] theorem W6:szT prog 229=2:=by kernel_rfl
@[go_sem] theorem zD3:agT prog 229=some true:=by kernel_rfl
@[go_sem] theorem Yv:qK prog 229=some (.agg [(.int .i64 0), .nilfn]):=by kernel_rfl
@[go_sem] theorem W7:uA prog 229=some [(0,1),(1,1)]:=by kernel_rfl
@[go_sem] theorem GN:zl prog 229 0=some (0,3):=by kernel_rfl
@[go_sem] theorem GO:zl prog 229 1=some (1,227):=by kernel_rfl
@[go_sem] theorem zD4:agT prog 230=some false:=by kernel_rfl
@[go_sem] theorem Px:szT prog 238=8:=by kernel_rfl
@[go_sem] theorem zD5:agT prog 238=some true:=by kernel_rfl
@[go_sem] theorem re:qK prog 238=some (.agg [(.bool false),(.bool false),(.bool false),(.bool false),(.bool false),(.bool false),(.bool false),(.bool false)]):=by kernel_rfl
@[go_sem] theorem uy:uA prog 238=some [(0,1),(1,1),(2,1),(3,1),(4,1),(5,1),(6,1),(7,1)]:=by kernel_rfl
@[go_sem] theorem GP:zl prog 238 0=some (0,4):=by kernel_rfl
@[go_sem] theorem GQ:zl prog 238 1=some (1,4):=by kernel_rfl
@[go_sem] theorem GR:zl prog 238 2=some (2,4):=by kernel_rfl
@[go_sem] theorem GS:zl prog 238 3=some (3,4):=by kernel_rfl
@[go_sem] theorem GT:zl prog 238 4=some (4,4):=by kernel_rfl
@[go_sem] theorem GU:zl prog 238 5=some (5,4):=by kernel_rfl
@[go_sem] theorem GV:zl prog 238 6=some (6,4):=by kernel_rfl
@[go_sem] theorem GW:zl prog 238 7=some (7,4):=by kernel_rfl
@[go_sem] theorem Py:qQ prog 268=some 5:=by kernel_rfl
@[go_sem] theorem EO:szT prog 290=1:=by kernel_rfl
@[go_sem] theorem zD6:agT prog 290=some false:=by kernel_rfl
@[go_sem] theorem AP:qK prog 290=some .nilfn:=by kernel_rfl
@[go_sem] theorem zD7:agT prog 319=some false:=by kernel_rfl
@[go_sem] theorem EP:szT prog 328=3:=by kernel_rfl
@[go_sem] theorem zD8:agT prog 328=some true:=by kernel_rfl
@[go_sem] theorem Pz:qK prog 328=some (.agg [(.int .i64 0),(.int .i64 0),(.int .i64 0)]):=by kernel_rfl
@[go_sem] theorem W8:uA prog 328=some [(0,1),(1,1),(2,1)]:=by kernel_rfl
@[go_sem] theorem GX:zl prog 328 0=some (0,3):=by kernel_rfl
@[go_sem] theorem GY:zl prog 328 1=some (1,3):=by kernel_rfl
@[go_sem] theorem GZ:zl prog 328 2=some (2,3):=by kernel_rfl
@[go_sem] theorem zD9:agT prog 363=some false:=by kernel_rfl
end Go.V
