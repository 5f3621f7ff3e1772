/- A machine of abstract values for programs of the model, and its soundness, part 6. No condition. -/
import Derived.Test.YtalepjdbhjinhaaGreatDoorW03
import Derived.KernelRfl
import Derived.Test.YtalepjdbhjinhaaGreatDoorProg
set_option linter.all false
namespace Go.V
def onS (o:Option D) (k:D→Prop):Prop:=
 match o with
 |some d=>k d
 |none=>False
def onR (o:VR) (k:D→Heap→Prop):Prop:=
 match o with
 |some (d,h)=>k d h
 |none=>False
def onH (o:Option Heap) (k:Heap→Prop):Prop:=
 match o with
 |some h=>k h
 |none=>False
@[congr] theorem zZj {o o':Option D} {k:D→Prop} (h:o=o'):onS o k=onS o' k:=by rw[h]
@[congr] theorem zZk {o o':VR} {k:D→Heap→Prop} (h:o=o'):onR o k=onR o' k:=by rw[h]
@[congr] theorem zZl {o o':Option Heap} {k:Heap→Prop} (h:o=o'):onH o k=onH o' k:=by rw[h]
@[congr] theorem zWF {P:Program} {f:FuncId} {args args':List D} {h h':Heap} {K:D→Heap→Prop} (ha:args=args') (hh:h=h'):zA P f args h K=zA P f args' h' K:=by rw[ha,hh]
@[congr] theorem zUo {P:Program} {id:Nat} {args args':List D} {h h':Heap} {K:D→Heap→Prop} (ha:args=args') (hh:h=h'):qT P id args h K=qT P id args' h' K:=by rw[ha,hh]
@[congr] theorem zYl {P:Program} {f f':D} {args args':List D} {h h':Heap} {K:D→Heap→Prop} (hf:f=f') (ha:args=args') (hh:h=h'):zHy P f args h K=zHy P f' args' h' K:=by rw[hf,ha,hh]
@[go_sem ↓] theorem zcT (d:D) (k:D→Prop):onS (some d) k=k d:=(rfl)
@[go_sem ↓] theorem zFt (d:D) (h:Heap) (k:D→Heap→Prop):onR (some (d,h)) k=k d h:=(rfl)
@[go_sem ↓] theorem zcU (h:Heap) (k:Heap→Prop):onH (some h) k=k h:=(rfl)
section rules
variable {P:Program} {g:Cfg} {n:Nat} {ro:Option Nat} {mu:Tmp→Bool} {ops:Array Oper} {rest:List Oper} {K:Frm→Heap→Prop} {fr:Frm} {h:Heap} {dst:Option Tmp} {ty:TypeId} {pos:String} {after:Array Edge} {gd:Option (Nat×Bool)} {Q:Exit→Frm→Heap→Prop}
 {m:Bool} {nid:Nat} {k:D→Heap→Prop}
@[go_sem ↓] theorem zBE (a b:Code):vwp P g n ro (.seq a b) Q fr h=vwp P g n ro a (zDC (vwp P g n ro b Q) Q) fr h:=(rfl)
@[go_sem ↓] theorem zYm (id:Nat) (l:List Oper):vwp P g n ro (.region id l.toArray false) Q fr h=zHV P g.mu l.toArray l (Q .normal) fr h:=(rfl)
theorem zNL (id:Nat) (ops:Array Oper):vwp P g n ro (.region id ops true) Q fr h= ∃h0,HLe h0 h∧zCu P g.mu h0 (zSm P g.mu ops (g.dr id) (zFV ops.toList 0 [])) ops ((g.dr id).any (·.2.isSt)) (g.dr id) (Q .normal) fr h:=(rfl)
@[go_sem ↓] theorem zcV:vwp P g n ro .skip Q fr h=Q .normal fr h:=(rfl)
@[go_sem ↓] theorem zdP:vwp P g n ro .ret Q fr h=Q .ret fr h:=(rfl)
@[go_sem ↓] theorem zcW (i:Nat):vwp P g n ro (.exit i) Q fr h=Q (.exit i) fr h:=(rfl)
@[go_sem ↓] theorem zZm (id:Nat) (c:Code):vwp P g n ro (.block id c) Q fr h=vwp P g n ro c (zDk id Q) fr h:=(rfl)
def onB (d:D) (x y:Prop):Prop:=
 match d with
 | .bool b=>match b with
  |true=>x
  |false=>y
 |_=>False
@[go_sem ↓] theorem zcX (c:Operand) (a b:Code):vwp P g n ro (.cond c a b) Q fr h=onB (zz fr c) (vwp P g n ro a Q fr h) (vwp P g n ro b Q fr h):=by
 simp only[vwp];rfl
@[congr] theorem zZn {d d':D} {x y:Prop} (h:d=d'):onB d x y=onB d' x y:=by rw[h]
@[go_sem ↓] theorem zcY (x y:Prop):onB (.bool true) x y=x:=(rfl)
@[go_sem ↓] theorem zZo (x y:Prop):onB (.bool false) x y=y:=(rfl)
@[go_sem ↓] theorem zUp (Kn:Frm→Heap→Prop):zDC Kn Q .normal fr h=Kn fr h:=(rfl)
@[go_sem ↓] theorem zZp (Kn:Frm→Heap→Prop):zDC Kn Q .ret fr h=Q .ret fr h:=(rfl)
@[go_sem ↓] theorem zYn (Kn:Frm→Heap→Prop) (i:Nat):zDC Kn Q (.exit i) fr h=Q (.exit i) fr h:=(rfl)
@[go_sem ↓] theorem zS8 (i:Nat):zDk i Q .normal fr h=Q .normal fr h:=(rfl)
@[go_sem ↓] theorem zYo (i:Nat):zDk i Q .ret fr h=Q .ret fr h:=(rfl)
@[go_sem ↓] theorem zWG (i j:Nat):zDk i Q (.exit j) fr h=if j=i then Q .normal fr h else Q (.exit j) fr h:=(rfl)
@[go_sem ↓] theorem zcZ:zHV P mu ops [] K fr h=K fr h:=(rfl)
@[go_sem ↓] theorem zYp (op:Op):zHV P mu ops (⟨dst,op,ty,pos,after,none⟩ ::rest) K fr h=qY P (zE9 mu dst) h.next op (zz fr) h fun d h'=>zHV P mu ops rest K (zAG fr dst d) h':=(rfl)
def gif (g:Bool) (x y:Prop):Prop:=
 match g with
 |true=>x
 |false=>y
@[congr] theorem zZq {g g':Bool} {x y:Prop} (h:g=g'):gif g x y=gif g' x y:=by rw[h]
@[go_sem ↓] theorem zca (x y:Prop):gif true x y=x:=(rfl)
@[go_sem ↓] theorem zZr (x y:Prop):gif false x y=y:=(rfl)
@[go_sem ↓] theorem zYq (op:Op) (j:Nat) (b:Bool):zHV P mu ops (⟨dst,op,ty,pos,after,some (j,b)⟩ ::rest) K fr h =
  gif (yp ops fr (some (j,b))) (qY P (zE9 mu dst) h.next op (zz fr) h fun d h'=>zHV P mu ops rest K (zAG fr dst d) h') (zHV P mu ops rest K (zAG fr dst qg) h):=by
 simp only[zHV,gif];cases yp ops fr (some (j,b))<;>rfl
@[go_sem ↓] theorem zcb (t:Tmp):zz fr (.tmp t)=fr t:=(rfl)
@[go_sem ↓] theorem zcc (k:IntKind) (n:Int):zz fr (.const (.int k n))= .int k n:=(rfl)
@[go_sem ↓] theorem zZs (b:Bool):zz fr (.const (.bool b))= .bool b:=(rfl)
@[go_sem ↓] theorem zZt (f:Nat):zz fr (.func f)= .fn (.func f) [] []:=(rfl)
@[go_sem ↓] theorem zcd (s:ByteArray):zz fr (.const (.string s))= .str s.data.toList:=(rfl)
@[go_sem ↓] theorem zYr:zz fr (.const (.slice none 0 0))= .nilsl:=(rfl)
@[go_sem ↓] theorem zWH:zz fr (.const (.map none))= .nilmap:=(rfl)
@[go_sem ↓] theorem zYs:zz fr (.const .nilFunc)= .nilfn:=(rfl)
@[go_sem ↓] theorem zZu (t i:Tmp) (d:D):zAG fr (some t) d i=if i=t then d else fr i:=(rfl)
@[go_sem ↓] theorem zZv (d:D):zAG fr none d=fr:=(rfl)
@[go_sem ↓] theorem zfl (x:Operand):qY P m nid (.move x) (zz fr) h k=k (zz fr x) h:=(rfl)
@[go_sem ↓] theorem zce (x:Operand):qY P m nid (.assign x) (zz fr) h k=k (zz fr x) h:=(rfl)
@[go_sem ↓] theorem zfm (f:Operand) (args:List Operand) (ats:Array TypeId):qY P m nid (.call ⟨.value f,args.toArray,ats⟩) (zz fr) h k=zHy P (zz fr f) (args.map (zz fr)) h k:=(rfl)
@[go_sem ↓] theorem zdQ (f:FuncId) (a c args:List D):zHy P (.fn (.func f) a c) args h k=zA P f (a++args++c) h k:=(rfl)
@[go_sem ↓] theorem zcf (id:Nat) (args:List D):zHy P (.yld id) args h k=qT P id args h k:=(rfl)
theorem zAN {op:Op} {ev:Operand→D} {o:Option D} (h1:yy op=none) (h2:vop P m nid op ev h=o.map (·,h)):qY P m nid op ev h k=onS o (k · h):=by
 unfold qY;rw[h1,h2];cases o<;>rfl
theorem zQI {op:Op} {ev:Operand→D} {o:Option Heap} (h1:yy op=none) (h2:vop P m nid op ev h=o.map (qg,·)):qY P m nid op ev h k=onH o (k qg ·):=by
 unfold qY;rw[h1,h2];cases o<;>rfl
theorem zGb {op:Op} {ev:Operand→D} {o:VR} (h1:yy op=none) (h2:vop P m nid op ev h=o):qY P m nid op ev h k=onR o k:=by
 unfold qY;rw[h1,h2];cases o<;>rfl
@[go_sem ↓] theorem zhC (op:BinOp) (t u:TypeId) (x y:Operand):qY P m nid (.binOp op t x y u) (zz fr) h k=onS (zDW P op t (isC x||isC y) (zz fr x) (zz fr y)) (k · h):=zAN rfl rfl
@[go_sem ↓] theorem zh9 (op:UnOp) (t:TypeId) (x:Operand):qY P m nid (.unOp op t x) (zz fr) h k=onS (vun op (zz fr x)) (k · h):=zAN rfl rfl
@[go_sem ↓] theorem zfn (c x y:Operand):qY P m nid (.pick c x y) (zz fr) h k=onB (zz fr c) (k (zz fr x) h) (k (zz fr y) h):=by
 simp only[qY,yy,vop,onB];cases zz fr c with
 |bool b=>cases b<;>rfl
 |_=>rfl
@[go_sem ↓] theorem zdR (t:TypeId):qY P m nid (.alloc t) (zz fr) h k=onR (vop P m nid (.alloc t) (zz fr) h) k:=zGb rfl rfl
@[go_sem ↓] theorem zhD (t:TypeId) (x:Operand):qY P m nid (.box t x) (zz fr) h k=onR (vop P m nid (.box t x) (zz fr) h) k:=zGb rfl rfl
@[go_sem ↓] theorem zdS (t:TypeId) (ps:List (Nat×Operand)):qY P m nid (.build t ps.toArray) (zz fr) h k=onS (yi P t (ps.map fun p=>(p.1,zz fr p.2))) (k · h):=zAN rfl rfl
@[go_sem ↓] theorem zUq (t:TypeId) (n:Nat) (ps:List (Nat×Operand)):qY P m nid (.buildSlice t n ps.toArray) (zz fr) h k=onR (zV P m nid t n (ps.map fun p=>(p.1,zz fr p.2)) h) k:=zGb rfl rfl
@[go_sem ↓] theorem zfo (t:TypeId) (x:Operand):qY P m nid (.load t x) (zz fr) h k=onS (zBK P t (zz fr x) h) (k · h):=zAN rfl rfl
@[go_sem ↓] theorem zdT (t:TypeId) (x y:Operand):qY P m nid (.store t x y) (zz fr) h k=onH (zS P t (zz fr x) (zz fr y) h) (k qg ·):=zQI rfl rfl
@[go_sem ↓] theorem zZw (s t:TypeId) (x:Operand):qY P m nid (.convert s t x) (zz fr) h k=onS (zDZ P s t (zz fr x) h) (k · h):=zAN rfl rfl
@[go_sem ↓] theorem zYt (P:Program) (s t:TypeId) (k:IntKind) (n:Int) (h:Heap):zDZ P s t (.int k n) h=wU P s t (.int k n):=(rfl)
@[go_sem ↓] theorem zYu (P:Program) (s t:TypeId) (x:List UInt8) (h:Heap):zDZ P s t (.str x) h=wU P s t (.str x):=(rfl)
@[go_sem ↓] theorem zYv (f:FuncId) (a c:List Operand):qY P m nid (.makeFunc (.func f) a.toArray c.toArray) (zz fr) h k=k (.fn (.func f) (a.map (zz fr)) (c.map (zz fr))) h:=(rfl)
@[go_sem ↓] theorem zZx (t:TypeId):qY P m nid (.makeMap t none) (zz fr) h k=k (.map nid) (h.new nid (.map [])):=(rfl)
@[go_sem ↓] theorem zWI (t:TypeId) (x y:Operand):qY P m nid (.makeSlice t x y) (zz fr) h k=onR (qp P m nid t (zz fr x) (zz fr y) h) k:=zGb rfl rfl
@[go_sem ↓] theorem zdU (t:TypeId) (x:Operand) (lo hi mx:Option Operand):qY P m nid (.slice t x lo hi mx) (zz fr) h k=onS (yX P t (zz fr x) (lo.map (zz fr)) (hi.map (zz fr)) (mx.map (zz fr)) h) (k · h):=zAN rfl rfl
@[go_sem ↓] theorem zWJ (t:TypeId) (x:Operand) (f:Nat):qY P m nid (.fieldAddr t x f) (zz fr) h k=onS (z6 P t (zz fr x) f) (k · h):=zAN rfl rfl
@[go_sem ↓] theorem zWK (t:TypeId) (x i:Operand):qY P m nid (.indexAddr t x i) (zz fr) h k=onS (zN P t (zz fr x) (zz fr i)) (k · h):=zAN rfl rfl
@[go_sem ↓] theorem zdV (t:TypeId) (x i:Operand):qY P m nid (.index t x i) (zz fr) h k=onS (zAf P t (zz fr x) (zz fr i)) (k · h):=zAN rfl rfl
@[go_sem ↓] theorem zcg (t:TypeId) (x y:Operand) (ok:Bool):qY P m nid (.lookup t x y ok) (zz fr) h k=onS (wI P t (zz fr x) (zz fr y) ok h) (k · h):=zAN rfl rfl
@[go_sem ↓] theorem zWL (t:TypeId) (x y z:Operand):qY P m nid (.mapUpdate t x y z) (zz fr) h k=onH (yc P t (zz fr x) (zz fr y) (zz fr z) h) (k qg ·):=zQI rfl rfl
@[go_sem ↓] theorem zdW (t:TypeId) (x:Operand):qY P m nid (.range t x) (zz fr) h k=onR (zE3 P nid t (zz fr x) h) k:=zGb rfl rfl
@[go_sem ↓] theorem zfp (x:Operand) (b:Bool):qY P m nid (.next x b) (zz fr) h k=onR (zHY (zz fr x) b h) k:=zGb rfl rfl
@[go_sem ↓] theorem zZy (x:Operand) (i:Nat):qY P m nid (.extract x i) (zz fr) h k=onS (zAT (zz fr x) i) (k · h):=zAN rfl rfl
@[go_sem ↓] theorem zhE (t:TypeId) (x:Operand):qY P m nid (.call ⟨.builtin .len,#[x],#[t]⟩) (zz fr) h k=onS (zBe P t (zz fr x) h) (k · h):=zAN rfl rfl
@[go_sem ↓] theorem zch (t u:TypeId) (x y:Operand):qY P m nid (.call ⟨.builtin .append,#[x,y],#[t,u]⟩) (zz fr) h k=onR (if zAh P u then zAR P m nid t (zz fr x) (zz fr y) h else zAS P m nid t u (zz fr x) (zz fr y) h) k:=zGb rfl rfl
@[go_sem ↓] theorem zYw (t:TypeId) (s x:D):zAR P false nid t s x h=zj P false nid t s x h:=(rfl)
@[go_sem ↓] theorem zYx (t:TypeId) (s x:D):zAR P true nid t s x h=zj P true nid t s x (qh s x h):=(rfl)
@[go_sem ↓] theorem zYy (sz:Nat) (xs:List (List D)) (tk:Tk) (x:D):qh (.sl sz xs tk) x h=h:=(rfl)
@[go_sem ↓] theorem zhF (ats:Array TypeId) (x y:Operand):qY P m nid (.call ⟨.builtin .min,#[x,y],ats⟩) (zz fr) h k=onS (zPW (zz fr x) (zz fr y)) (k · h):=zAN rfl rfl
@[go_sem ↓] theorem zhG (x y:Operand) (ats:Array TypeId):qY P m nid (.call ⟨.builtin .max,#[x,y],ats⟩) (zz fr) h k=onS (zPd (zz fr x) (zz fr y)) (k · h):=by
 refine zAN rfl ?_;simp only[vop,zAU,zHX,List.map_cons,List.map_nil];cases zPd (zz fr x) (zz fr y)<;>rfl
@[go_sem ↓] theorem zfq (x y z u:Operand) (ats:Array TypeId):qY P m nid (.call ⟨.builtin .max,#[x,y,z,u],ats⟩) (zz fr) h k=onS (zHX (zz fr x) [zz fr y,zz fr z,zz fr u]) (k · h):=zAN rfl rfl
@[go_sem ↓] theorem zYz (d:D) (ds:List D):zI8 (d::ds) 0=d:=(rfl)
@[go_sem ↓] theorem zY0 (d:D) (ds:List D) (i:Nat):zI8 (d::ds) (i+1)=zI8 ds i:=(rfl)
def onL (o:Option (List D)) (k:List D→Prop):Prop:=
 match o with
 |some ds=>k ds
 |none=>False
@[go_sem ↓] theorem zci (rs:List ResultVar) (q:D→Heap→Prop):zUk P rs q .ret fr h=onL (zAp P fr h rs) fun ds=>q (zEd ds) h:=by
 unfold zUk onL;cases zAp P fr h rs<;>simp
@[go_sem ↓] theorem zWM (rs:List ResultVar) (q:D→Heap→Prop):zUk P rs q .normal fr h=onL (zAp P fr h rs) fun ds=>q (zEd ds) h:=by
 unfold zUk onL;cases zAp P fr h rs<;>simp
@[go_sem ↓] theorem zZz (k:List D→Prop):onL (zAp P fr h []) k=k []:=(rfl)
@[go_sem ↓] theorem zZ0 (t:Tmp) (rs:List ResultVar) (k:List D→Prop):onL (zAp P fr h (.tmp t::rs)) k=onL (zAp P fr h rs) fun ds=>k (fr t::ds):=by
 simp only[zAp,zP3];cases zAp P fr h rs<;>rfl
@[go_sem ↓] theorem zY1 (a:Tmp) (t:TypeId) (rs:List ResultVar) (k:List D→Prop):onL (zAp P fr h (.cell a t::rs)) k=onS (zBK P t (fr a) h) fun d=>onL (zAp P fr h rs) fun ds=>k (d::ds):=by
 simp only[zAp,zP3];cases zBK P t (fr a) h with
 |none=>rfl
 |some d=>cases zAp P fr h rs<;>rfl
@[go_sem ↓] theorem zZ1 (d:D):zEd [d]=d:=(rfl)
@[go_sem ↓] theorem zZ2 (d d':D) (ds:List D):zEd (d::d'::ds)= .tuple (d::d'::ds):=(rfl)
@[go_sem ↓] theorem zZ3:zEd []= .tuple []:=(rfl)
end rules
def zX (sz:Nat) (xs:List (List D)) (d:D):Prop:=(d= .nilsl∧xs= [])∨∃tk,d= .sl sz xs tk
section
variable {P:Program} {sz:Nat} {xs:List (List D)} {d:D} {t e:TypeId} {h:Heap}
theorem zX.mk (tk:Tk):zX sz xs (.sl sz xs tk):= .inr ⟨tk,rfl⟩
theorem zX.nil:zX sz [] .nilsl:= .inl ⟨rfl,rfl⟩
theorem zQ (hd:zX sz xs d) (hu:P.underlying t=some (.slice e)):zBe P t d h=some (.int .i64 xs.length):=by
 rcases hd with⟨rfl,rfl⟩ | ⟨tk,rfl⟩ <;>simp[zBe,hu]
theorem zG (hd:zX sz xs d) (he:yj P t=some e) (hz:szT P e=sz) {k:IntKind} {i:Nat} {x:List D} (hx:xs[i]? =some x):zN P t d (.int k i)=some (.iptr x 0):=by
 rcases hd with⟨rfl,rfl⟩ | ⟨tk,rfl⟩
 ·simp at hx
 ·simp[zN,he,hz,hx]
end
@[go_sem ↓] theorem zcj (P:Program) (op:BinOp) (t:TypeId) (c:Bool) (k k':IntKind) (a b:Int):zDW P op t c (.int k a) (.int k' b)=zAH op k k' a b:=(rfl)
@[go_sem ↓] theorem zck (P:Program) (op:BinOp) (t:TypeId) (c:Bool) (a b:List UInt8):zDW P op t c (.str a) (.str b)=zKD op a b:=(rfl)
@[go_sem ↓] theorem zZ4 (k:IntKind) (a b:Int):zAH .add k k a b=some (.int k (k.wrap (a+b))):=by simp[zAH,zLm]
@[go_sem ↓] theorem zZ5 (k:IntKind) (a b:Int):zAH .sub k k a b=some (.int k (k.wrap (a-b))):=by simp[zAH,zLm]
@[go_sem ↓] theorem zZ6 (k:IntKind) (a b:Int):zAH .mul k k a b=some (.int k (k.wrap (a*b))):=by simp[zAH,zLm]
@[go_sem ↓] theorem zZ7 (k:IntKind) (a b:Int):zAH .lss k k a b=some (.bool (decide (a<b))):=by simp[zAH,zLm]
@[go_sem ↓] theorem zZ8 (k:IntKind) (a b:Int):zAH .leq k k a b=some (.bool (decide (a≤b))):=by simp[zAH,zLm]
@[go_sem ↓] theorem zZ9 (k:IntKind) (a b:Int):zAH .gtr k k a b=some (.bool (decide (a>b))):=by simp[zAH,zLm]
@[go_sem ↓] theorem zaA (k:IntKind) (a b:Int):zAH .geq k k a b=some (.bool (decide (a≥b))):=by simp[zAH,zLm]
@[go_sem ↓] theorem zaB (k:IntKind) (a b:Int):zAH .eql k k a b=some (.bool (a==b)):=by simp[zAH,zLm]
@[go_sem ↓] theorem zaC (k:IntKind) (a b:Int):zAH .neq k k a b=some (.bool (a !=b)):=by simp[zAH,zLm]
@[go_sem ↓] theorem zcl (a b:List UInt8):zKD .eql a b=some (.bool (a==b)):=(rfl)
@[go_sem ↓] theorem zcm (a b:List UInt8):zKD .neq a b=some (.bool (!(a==b))):=(rfl)
@[go_sem ↓] theorem zcn (a b:List UInt8):zKD .lss a b=some (.bool (zHW a b)):=(rfl)
@[go_sem ↓] theorem zY2 (P:Program) (t:TypeId) (cs:List D) (off:Nat) (h:Heap):zBK P t (.iptr cs off) h=(match agT P t with
 |none=>none
 |some ag=>zW ag (szT P t) cs off):=(rfl)
@[go_sem ↓] theorem zU (n:Nat) (cs:List D) (off:Nat):zW false n cs off=cs[off]? :=(rfl)
theorem zNM {P:Program} {g:Cfg} {n:Nat} {ro:Option Nat} {c:Code} {Q:Exit→Frm→Heap→Prop} {fr:Frm} {h:Heap} (I:Nat→Frm→Heap→Prop) (k:Nat) (hI:I k fr h)
  (hr:∀k fr h,I k fr h→vwp P g n ro c (zDC (fun fr h=>∃m,m<k∧I m fr h) Q) fr h):vwp P g n ro (.loop c) Q fr h:=⟨I,⟨k,hI⟩,hr⟩
open Go.Proofs
@[go_sem] theorem zMC:szT Tryz.prog 3=1:=by kernel_rfl
@[go_sem] theorem zhH:agT Tryz.prog 3=some false:=by kernel_rfl
@[go_sem] theorem zJL:qM Tryz.prog 3=some (.int .i64 0):=by kernel_rfl
@[go_sem] theorem zaD:zAh Tryz.prog 3=false:=by kernel_rfl
@[go_sem] theorem zhI:szT Tryz.prog 4=1:=by kernel_rfl
@[go_sem] theorem zhJ:agT Tryz.prog 4=some false:=by kernel_rfl
@[go_sem] theorem zWN:qM Tryz.prog 4=some (.bool false):=by kernel_rfl
@[go_sem] theorem zOp:szT Tryz.prog 5=1:=by kernel_rfl
@[go_sem] theorem zdX:agT Tryz.prog 5=some false:=by kernel_rfl
@[go_sem] theorem qF:szT Tryz.prog 9=1:=by kernel_rfl
@[go_sem] theorem zhK:agT Tryz.prog 9=some false:=by kernel_rfl
@[go_sem] theorem zGc:qM Tryz.prog 9=some (.str []):=by kernel_rfl
@[go_sem] theorem zCz:zGA Tryz.prog 9=true:=by kernel_rfl
@[go_sem] theorem w9:yO Tryz.prog 9=16:=by kernel_rfl
@[go_sem] theorem zNN:zJ5 Tryz.prog 9=none:=by kernel_rfl
@[go_sem] theorem zQJ:zPV Tryz.prog 9=some (false,[.s]):=by kernel_rfl
@[go_sem] theorem zfr:szT Tryz.prog 22=1:=by kernel_rfl
@[go_sem] theorem zfs:agT Tryz.prog 22=some false:=by kernel_rfl
@[go_sem] theorem zDt:yj Tryz.prog 22=some 56:=by kernel_rfl
@[go_sem] theorem zY3:zAh Tryz.prog 22=true:=by kernel_rfl
@[go_sem] theorem zWO:zJ5 Tryz.prog 22=none:=by kernel_rfl
@[go_sem] theorem zft:szT Tryz.prog 23=1:=by kernel_rfl
@[go_sem] theorem zfu:agT Tryz.prog 23=some false:=by kernel_rfl
@[go_sem] theorem zS9:yj Tryz.prog 23=some 139:=by kernel_rfl
@[go_sem] theorem zfv:szT Tryz.prog 24=1:=by kernel_rfl
@[go_sem] theorem zfw:agT Tryz.prog 24=some false:=by kernel_rfl
@[go_sem] theorem zJM:yj Tryz.prog 24=some 143:=by kernel_rfl
@[go_sem] theorem zY4:zAh Tryz.prog 24=true:=by kernel_rfl
@[go_sem] theorem zfx:szT Tryz.prog 25=1:=by kernel_rfl
@[go_sem] theorem zfy:agT Tryz.prog 25=some false:=by kernel_rfl
@[go_sem] theorem zTA:yj Tryz.prog 25=some 147:=by kernel_rfl
@[go_sem] theorem zfz:szT Tryz.prog 27=4:=by kernel_rfl
@[go_sem] theorem zf0:agT Tryz.prog 27=some true:=by kernel_rfl
@[go_sem] theorem zWP:zl Tryz.prog 27 0=some (0,22):=by kernel_rfl
@[go_sem] theorem zWQ:zl Tryz.prog 27 1=some (1,23):=by kernel_rfl
@[go_sem] theorem zWR:zl Tryz.prog 27 2=some (2,24):=by kernel_rfl
@[go_sem] theorem zWS:zl Tryz.prog 27 3=some (3,25):=by kernel_rfl
@[go_sem] theorem zf1:szT Tryz.prog 29=1:=by kernel_rfl
@[go_sem] theorem zf2:agT Tryz.prog 29=some false:=by kernel_rfl
@[go_sem] theorem zTB:yj Tryz.prog 29=some 83:=by kernel_rfl
@[go_sem] theorem zNO:szT Tryz.prog 30=1:=by kernel_rfl
@[go_sem] theorem zf3:agT Tryz.prog 30=some false:=by kernel_rfl
@[go_sem] theorem zTC:qM Tryz.prog 30=some .nilsl:=by kernel_rfl
@[go_sem] theorem wW:yj Tryz.prog 30=some 168:=by kernel_rfl
@[go_sem] theorem zY5:zAh Tryz.prog 30=true:=by kernel_rfl
@[go_sem] theorem zWT:zGA Tryz.prog 30=true:=by kernel_rfl
@[go_sem] theorem zQK:yO Tryz.prog 30=24:=by kernel_rfl
@[go_sem] theorem zAO:szT Tryz.prog 31=1:=by kernel_rfl
@[go_sem] theorem zf4:agT Tryz.prog 31=some false:=by kernel_rfl
@[go_sem] theorem zm:yj Tryz.prog 31=some 9:=by kernel_rfl
@[go_sem] theorem zY6:zAh Tryz.prog 31=true:=by kernel_rfl
@[go_sem] theorem zWU:zJ5 Tryz.prog 31=none:=by kernel_rfl
@[go_sem] theorem zf5:szT Tryz.prog 33=2:=by kernel_rfl
@[go_sem] theorem zf6:agT Tryz.prog 33=some true:=by kernel_rfl
@[go_sem] theorem zWV:zl Tryz.prog 33 0=some (0,30):=by kernel_rfl
@[go_sem] theorem zWW:zl Tryz.prog 33 1=some (1,31):=by kernel_rfl
@[go_sem] theorem zf7:szT Tryz.prog 34=1:=by kernel_rfl
@[go_sem] theorem zf8:agT Tryz.prog 34=some false:=by kernel_rfl
@[go_sem] theorem zTD:yj Tryz.prog 34=some 65:=by kernel_rfl
@[go_sem] theorem zFG:szT Tryz.prog 36=4:=by kernel_rfl
@[go_sem] theorem zf9:agT Tryz.prog 36=some true:=by kernel_rfl
@[go_sem] theorem zNP:qM Tryz.prog 36=some (.agg [.nilsl, .nilsl, .nilsl, .nilsl]):=by kernel_rfl
@[go_sem] theorem zIH:zDA Tryz.prog 36=some [(0,1),(1,1),(2,1),(3,1)]:=by kernel_rfl
@[go_sem] theorem zWX:zl Tryz.prog 36 0=some (0,31):=by kernel_rfl
@[go_sem] theorem zWY:zl Tryz.prog 36 1=some (1,31):=by kernel_rfl
@[go_sem] theorem zWZ:zl Tryz.prog 36 2=some (2,31):=by kernel_rfl
@[go_sem] theorem zWa:zl Tryz.prog 36 3=some (3,31):=by kernel_rfl
@[go_sem] theorem zaE:agT Tryz.prog 38=some true:=by kernel_rfl
@[go_sem] theorem zWb:zl Tryz.prog 38 0=some (0,27):=by kernel_rfl
@[go_sem] theorem zWc:zl Tryz.prog 38 1=some (4,29):=by kernel_rfl
@[go_sem] theorem zWd:zl Tryz.prog 38 2=some (5,33):=by kernel_rfl
@[go_sem] theorem zWe:zl Tryz.prog 38 3=some (7,34):=by kernel_rfl
@[go_sem] theorem zWf:zl Tryz.prog 38 4=some (8,9):=by kernel_rfl
@[go_sem] theorem zII:szT Tryz.prog 41=1:=by kernel_rfl
@[go_sem] theorem zgA:agT Tryz.prog 41=some false:=by kernel_rfl
@[go_sem] theorem zco:qM Tryz.prog 41=some (.int .i64 0):=by kernel_rfl
@[go_sem] theorem zaF:szT Tryz.prog 45=1:=by kernel_rfl
@[go_sem] theorem zgB:agT Tryz.prog 45=some false:=by kernel_rfl
@[go_sem] theorem zcp:qM Tryz.prog 45=some .nilsl:=by kernel_rfl
@[go_sem] theorem zAX:yj Tryz.prog 45=some 53:=by kernel_rfl
@[go_sem] theorem zY7:zAh Tryz.prog 45=true:=by kernel_rfl
@[go_sem] theorem zgC:agT Tryz.prog 48=some false:=by kernel_rfl
@[go_sem] theorem wQ:szT Tryz.prog 51=2:=by kernel_rfl
@[go_sem] theorem zgD:agT Tryz.prog 51=some true:=by kernel_rfl
@[go_sem] theorem zBn:qM Tryz.prog 51=some (.agg [(.str []),(.str [])]):=by kernel_rfl
@[go_sem] theorem zQL:zGA Tryz.prog 51=true:=by kernel_rfl
@[go_sem] theorem zGd:yO Tryz.prog 51=32:=by kernel_rfl
@[go_sem] theorem zEm:zDA Tryz.prog 51=some [(0,1),(1,1)]:=by kernel_rfl
@[go_sem] theorem zWg:zl Tryz.prog 51 0=some (0,9):=by kernel_rfl
@[go_sem] theorem zWh:zl Tryz.prog 51 1=some (1,9):=by kernel_rfl
@[go_sem] theorem zA7:szT Tryz.prog 53=7:=by kernel_rfl
@[go_sem] theorem zgE:agT Tryz.prog 53=some true:=by kernel_rfl
@[go_sem] theorem zFu:qM Tryz.prog 53=some (.agg [(.str []),(.str []),(.str []),(.str []),(.int .i64 0),(.int .i64 0),(.int .i64 0)]):=by kernel_rfl
@[go_sem] theorem zMD:zGA Tryz.prog 53=true:=by kernel_rfl
@[go_sem] theorem zGe:yO Tryz.prog 53=88:=by kernel_rfl
@[go_sem] theorem zQM:zPV Tryz.prog 53=some (true,[.s, .s, .s, .s, .i, .i, .i]):=by kernel_rfl
@[go_sem] theorem zOq:zDA Tryz.prog 53=some [(0,1),(1,1),(2,2),(4,1),(5,1),(6,1)]:=by kernel_rfl
@[go_sem] theorem zWi:zl Tryz.prog 53 0=some (0,9):=by kernel_rfl
@[go_sem] theorem zWj:zl Tryz.prog 53 1=some (1,9):=by kernel_rfl
@[go_sem] theorem zWk:zl Tryz.prog 53 2=some (2,51):=by kernel_rfl
@[go_sem] theorem zWl:zl Tryz.prog 53 5=some (6,3):=by kernel_rfl
@[go_sem] theorem zC0:szT Tryz.prog 56=4:=by kernel_rfl
@[go_sem] theorem zgF:agT Tryz.prog 56=some true:=by kernel_rfl
@[go_sem] theorem zJN:qM Tryz.prog 56=some (.agg [(.str []),(.str []),(.int .i64 0),(.str [])]):=by kernel_rfl
@[go_sem] theorem zWm:zGA Tryz.prog 56=true:=by kernel_rfl
@[go_sem] theorem zQN:yO Tryz.prog 56=56:=by kernel_rfl
@[go_sem] theorem zIJ:zDA Tryz.prog 56=some [(0,1),(1,1),(2,1),(3,1)]:=by kernel_rfl
@[go_sem] theorem zWn:zl Tryz.prog 56 0=some (0,9):=by kernel_rfl
@[go_sem] theorem zWo:zl Tryz.prog 56 1=some (1,9):=by kernel_rfl
@[go_sem] theorem zWp:zl Tryz.prog 56 2=some (2,3):=by kernel_rfl
@[go_sem] theorem zWq:zl Tryz.prog 56 3=some (3,9):=by kernel_rfl
@[go_sem] theorem zgG:szT Tryz.prog 60=1:=by kernel_rfl
@[go_sem] theorem zgH:agT Tryz.prog 60=some false:=by kernel_rfl
@[go_sem] theorem zTE:yj Tryz.prog 60=some 62:=by kernel_rfl
@[go_sem] theorem zQO:szT Tryz.prog 62=4:=by kernel_rfl
@[go_sem] theorem zgI:agT Tryz.prog 62=some true:=by kernel_rfl
@[go_sem] theorem zcq:qM Tryz.prog 62=some (.agg [(.int .i64 0),(.str []),(.str []), .nilsl]):=by kernel_rfl
@[go_sem] theorem zWr:zl Tryz.prog 62 0=some (0,3):=by kernel_rfl
@[go_sem] theorem zWs:zl Tryz.prog 62 1=some (1,9):=by kernel_rfl
@[go_sem] theorem zWt:zl Tryz.prog 62 2=some (2,9):=by kernel_rfl
@[go_sem] theorem zWu:zl Tryz.prog 62 3=some (3,60):=by kernel_rfl
@[go_sem] theorem zUr:szT Tryz.prog 65=8:=by kernel_rfl
@[go_sem] theorem zgJ:agT Tryz.prog 65=some true:=by kernel_rfl
@[go_sem] theorem zWv:zl Tryz.prog 65 0=some (0,9):=by kernel_rfl
@[go_sem] theorem zWw:zl Tryz.prog 65 2=some (5,31):=by kernel_rfl
@[go_sem] theorem zQP:szT Tryz.prog 83=12:=by kernel_rfl
@[go_sem] theorem zgK:agT Tryz.prog 83=some true:=by kernel_rfl
@[go_sem] theorem zcr:qM Tryz.prog 83=some (.agg [(.int .i64 0),(.str []),(.str []),(.int .i64 0),(.int .i64 0),(.int .i64 0),(.bool false),(.int .i64 0),(.str []),(.str []), .nilsl, .nilsl]):=by kernel_rfl
@[go_sem] theorem zWx:zl Tryz.prog 83 0=some (0,3):=by kernel_rfl
@[go_sem] theorem zWy:zl Tryz.prog 83 1=some (1,9):=by kernel_rfl
@[go_sem] theorem zWz:zl Tryz.prog 83 2=some (2,9):=by kernel_rfl
@[go_sem] theorem zW0:zl Tryz.prog 83 3=some (3,3):=by kernel_rfl
@[go_sem] theorem zW1:zl Tryz.prog 83 4=some (4,3):=by kernel_rfl
@[go_sem] theorem zW2:zl Tryz.prog 83 5=some (5,3):=by kernel_rfl
@[go_sem] theorem zW3:zl Tryz.prog 83 6=some (6,4):=by kernel_rfl
@[go_sem] theorem zW4:zl Tryz.prog 83 7=some (7,62):=by kernel_rfl
@[go_sem] theorem zW5:zl Tryz.prog 83 8=some (11,31):=by kernel_rfl
@[go_sem] theorem zaG:szT Tryz.prog 96=1:=by kernel_rfl
@[go_sem] theorem zgL:agT Tryz.prog 96=some false:=by kernel_rfl
@[go_sem] theorem zcs:qM Tryz.prog 96=some .nilmap:=by kernel_rfl
@[go_sem] theorem zQQ:zPb Tryz.prog 96=some (53,4):=by kernel_rfl
@[go_sem] theorem zJO:zPb Tryz.prog 103=some (9,3):=by kernel_rfl
@[go_sem] theorem zBR:yj Tryz.prog 113=some 5:=by kernel_rfl
@[go_sem] theorem zdY:szT Tryz.prog 137=1:=by kernel_rfl
@[go_sem] theorem zdZ:agT Tryz.prog 137=some false:=by kernel_rfl
@[go_sem] theorem zDu:yj Tryz.prog 137=some 3:=by kernel_rfl
@[go_sem] theorem zGf:szT Tryz.prog 139=3:=by kernel_rfl
@[go_sem] theorem zda:agT Tryz.prog 139=some true:=by kernel_rfl
@[go_sem] theorem zaH:qM Tryz.prog 139=some (.agg [(.str []),(.str []), .nilsl]):=by kernel_rfl
@[go_sem] theorem zUs:zl Tryz.prog 139 0=some (0,9):=by kernel_rfl
@[go_sem] theorem zUt:zl Tryz.prog 139 1=some (1,9):=by kernel_rfl
@[go_sem] theorem zUu:zl Tryz.prog 139 2=some (2,137):=by kernel_rfl
@[go_sem] theorem zCJ:szT Tryz.prog 143=5:=by kernel_rfl
@[go_sem] theorem zdb:agT Tryz.prog 143=some true:=by kernel_rfl
@[go_sem] theorem zQR:qM Tryz.prog 143=some (.agg [(.str []),(.int .i64 0),(.int .i64 0),(.int .i64 0), .nilsl]):=by kernel_rfl
@[go_sem] theorem zTF:zGA Tryz.prog 143=true:=by kernel_rfl
@[go_sem] theorem zOr:yO Tryz.prog 143=64:=by kernel_rfl
@[go_sem] theorem zUv:zl Tryz.prog 143 0=some (0,9):=by kernel_rfl
@[go_sem] theorem zUw:zl Tryz.prog 143 1=some (1,3):=by kernel_rfl
@[go_sem] theorem zUx:zl Tryz.prog 143 2=some (2,3):=by kernel_rfl
@[go_sem] theorem zUy:zl Tryz.prog 143 3=some (3,3):=by kernel_rfl
@[go_sem] theorem zUz:zl Tryz.prog 143 4=some (4,31):=by kernel_rfl
@[go_sem] theorem zJP:szT Tryz.prog 147=2:=by kernel_rfl
@[go_sem] theorem zdc:agT Tryz.prog 147=some true:=by kernel_rfl
@[go_sem] theorem zaI:qM Tryz.prog 147=some (.agg [(.str []),(.str [])]):=by kernel_rfl
@[go_sem] theorem zU0:zl Tryz.prog 147 0=some (0,9):=by kernel_rfl
@[go_sem] theorem zU1:zl Tryz.prog 147 1=some (1,9):=by kernel_rfl
@[go_sem] theorem zGg:yj Tryz.prog 149=some 30:=by kernel_rfl
@[go_sem] theorem zW6:zAh Tryz.prog 149=true:=by kernel_rfl
@[go_sem] theorem wL:szT Tryz.prog 168=1:=by kernel_rfl
@[go_sem] theorem zdd:agT Tryz.prog 168=some false:=by kernel_rfl
@[go_sem] theorem zKk:qM Tryz.prog 168=some .nilsl:=by kernel_rfl
@[go_sem] theorem yY:yj Tryz.prog 168=some 51:=by kernel_rfl
@[go_sem] theorem zW7:zAh Tryz.prog 168=true:=by kernel_rfl
@[go_sem] theorem zDv:zGA Tryz.prog 168=true:=by kernel_rfl
@[go_sem] theorem zBS:yO Tryz.prog 168=24:=by kernel_rfl
@[go_sem] theorem zDw:zJ5 Tryz.prog 168=none:=by kernel_rfl
@[go_sem] theorem zQS:szT Tryz.prog 288=8:=by kernel_rfl
@[go_sem] theorem zde:agT Tryz.prog 288=some true:=by kernel_rfl
@[go_sem] theorem zBT:qM Tryz.prog 288=some (.agg [(.bool false),(.bool false),(.bool false),(.bool false),(.bool false),(.bool false),(.bool false),(.bool false)]):=by kernel_rfl
@[go_sem] theorem wt:zDA Tryz.prog 288=some [(0,1),(1,1),(2,1),(3,1),(4,1),(5,1),(6,1),(7,1)]:=by kernel_rfl
@[go_sem] theorem zU2:zl Tryz.prog 288 0=some (0,4):=by kernel_rfl
@[go_sem] theorem zU3:zl Tryz.prog 288 1=some (1,4):=by kernel_rfl
@[go_sem] theorem zU4:zl Tryz.prog 288 2=some (2,4):=by kernel_rfl
@[go_sem] theorem zU5:zl Tryz.prog 288 3=some (3,4):=by kernel_rfl
@[go_sem] theorem zU6:zl Tryz.prog 288 4=some (4,4):=by kernel_rfl
@[go_sem] theorem zU7:zl Tryz.prog 288 5=some (5,4):=by kernel_rfl
@[go_sem] theorem zU8:zl Tryz.prog 288 6=some (6,4):=by kernel_rfl
@[go_sem] theorem zU9:zl Tryz.prog 288 7=some (7,4):=by kernel_rfl
@[go_sem] theorem zW8:szT Tryz.prog 313=1:=by kernel_rfl
@[go_sem] theorem zdf:agT Tryz.prog 313=some false:=by kernel_rfl
@[go_sem] theorem zaJ:qM Tryz.prog 313=some .nilfn:=by kernel_rfl
@[go_sem] theorem zW9:szT Tryz.prog 391=4:=by kernel_rfl
end Go.V
