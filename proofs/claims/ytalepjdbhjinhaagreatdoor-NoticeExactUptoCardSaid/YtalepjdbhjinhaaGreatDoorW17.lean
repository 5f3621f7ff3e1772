/- A machine of abstract values for programs of the model, and its soundness, part 6. No condition. -/
import Derived.Test.YtalepjdbhjinhaaGreatDoorW03
import Derived.KernelRfl
import Derived.Test.YtalepjdbhjinhaaGreatDoorProg
set_option linter.all false
namespace Go.V
def onS (o:Option D) (k:D→Prop):Prop:=
 match o with
 |some d=>k d
 |none=>False
def onR (o:VR) (k:D→Heap→Prop):Prop:=
 match o with
 |some (d,h)=>k d h
 |none=>False
def onH (o:Option Heap) (k:Heap→Prop):Prop:=
 match o with
 |some h=>k h
 |none=>False
@[congr] theorem zZK {o o':Option D} {k:D→Prop} (h:o=o'):onS o k=onS o' k:=by rw[h]
@[congr] theorem zZL {o o':VR} {k:D→Heap→Prop} (h:o=o'):onR o k=onR o' k:=by rw[h]
@[congr] theorem zZM {o o':Option Heap} {k:Heap→Prop} (h:o=o'):onH o k=onH o' k:=by rw[h]
@[congr] theorem zVk {P:Program} {f:FuncId} {args args':List D} {h h':Heap} {K:D→Heap→Prop} (ha:args=args') (hh:h=h'):zA P f args h K=zA P f args' h' K:=by rw[ha,hh]
@[congr] theorem zUF {P:Program} {id:Nat} {args args':List D} {h h':Heap} {K:D→Heap→Prop} (ha:args=args') (hh:h=h'):qR P id args h K=qR P id args' h' K:=by rw[ha,hh]
@[congr] theorem zYN {P:Program} {f f':D} {args args':List D} {h h':Heap} {K:D→Heap→Prop} (hf:f=f') (ha:args=args') (hh:h=h'):zHc P f args h K=zHc P f' args' h' K:=by rw[hf,ha,hh]
@[go_sem ↓] theorem zb5 (d:D) (k:D→Prop):onS (some d) k=k d:=(rfl)
@[go_sem ↓] theorem zFX (d:D) (h:Heap) (k:D→Heap→Prop):onR (some (d,h)) k=k d h:=(rfl)
@[go_sem ↓] theorem zb6 (h:Heap) (k:Heap→Prop):onH (some h) k=k h:=(rfl)
section rules
variable {P:Program} {g:Cfg} {n:Nat} {ro:Option Nat} {mu:Tmp→Bool} {ops:Array Oper} {rest:List Oper} {K:Frm→Heap→Prop} {fr:Frm} {h:Heap} {dst:Option Tmp} {ty:TypeId} {pos:String} {after:Array Edge} {gd:Option (Nat×Bool)} {Q:Exit→Frm→Heap→Prop}
 {m:Bool} {nid:Nat} {k:D→Heap→Prop}
@[go_sem ↓] theorem zA0 (a b:Code):vwp P g n ro (.seq a b) Q fr h=vwp P g n ro a (zC1 (vwp P g n ro b Q) Q) fr h:=(rfl)
@[go_sem ↓] theorem zYO (id:Nat) (l:List Oper):vwp P g n ro (.region id l.toArray false) Q fr h=zG9 P g.mu l.toArray l (Q .normal) fr h:=(rfl)
theorem zMu (id:Nat) (ops:Array Oper):vwp P g n ro (.region id ops true) Q fr h= ∃h0,HLe h0 h∧zCk P g.mu h0 (zSF P g.mu ops (g.dr id) (zE7 ops.toList 0 [])) ops ((g.dr id).any (·.2.isSt)) (g.dr id) (Q .normal) fr h:=(rfl)
@[go_sem ↓] theorem zb7:vwp P g n ro .skip Q fr h=Q .normal fr h:=(rfl)
@[go_sem ↓] theorem zc0:vwp P g n ro .ret Q fr h=Q .ret fr h:=(rfl)
@[go_sem ↓] theorem zb8 (i:Nat):vwp P g n ro (.exit i) Q fr h=Q (.exit i) fr h:=(rfl)
@[go_sem ↓] theorem zZN (id:Nat) (c:Code):vwp P g n ro (.block id c) Q fr h=vwp P g n ro c (zDV id Q) fr h:=(rfl)
def onB (d:D) (x y:Prop):Prop:=
 match d with
 | .bool b=>match b with
  |true=>x
  |false=>y
 |_=>False
@[go_sem ↓] theorem zb9 (c:Operand) (a b:Code):vwp P g n ro (.cond c a b) Q fr h=onB (zw fr c) (vwp P g n ro a Q fr h) (vwp P g n ro b Q fr h):=by
 simp only[vwp];rfl
@[congr] theorem zZO {d d':D} {x y:Prop} (h:d=d'):onB d x y=onB d' x y:=by rw[h]
@[go_sem ↓] theorem zcA (x y:Prop):onB (.bool true) x y=x:=(rfl)
@[go_sem ↓] theorem zZP (x y:Prop):onB (.bool false) x y=y:=(rfl)
@[go_sem ↓] theorem zUG (Kn:Frm→Heap→Prop):zC1 Kn Q .normal fr h=Kn fr h:=(rfl)
@[go_sem ↓] theorem zZQ (Kn:Frm→Heap→Prop):zC1 Kn Q .ret fr h=Q .ret fr h:=(rfl)
@[go_sem ↓] theorem zYP (Kn:Frm→Heap→Prop) (i:Nat):zC1 Kn Q (.exit i) fr h=Q (.exit i) fr h:=(rfl)
@[go_sem ↓] theorem zSZ (i:Nat):zDV i Q .normal fr h=Q .normal fr h:=(rfl)
@[go_sem ↓] theorem zYQ (i:Nat):zDV i Q .ret fr h=Q .ret fr h:=(rfl)
@[go_sem ↓] theorem zVl (i j:Nat):zDV i Q (.exit j) fr h=if j=i then Q .normal fr h else Q (.exit j) fr h:=(rfl)
@[go_sem ↓] theorem zcB:zG9 P mu ops [] K fr h=K fr h:=(rfl)
@[go_sem ↓] theorem zYR (op:Op):zG9 P mu ops (⟨dst,op,ty,pos,after,none⟩ ::rest) K fr h=qW P (zEm mu dst) h.next op (zw fr) h fun d h'=>zG9 P mu ops rest K (zAA fr dst d) h':=(rfl)
def gif (g:Bool) (x y:Prop):Prop:=
 match g with
 |true=>x
 |false=>y
@[congr] theorem zZR {g g':Bool} {x y:Prop} (h:g=g'):gif g x y=gif g' x y:=by rw[h]
@[go_sem ↓] theorem zcC (x y:Prop):gif true x y=x:=(rfl)
@[go_sem ↓] theorem zZS (x y:Prop):gif false x y=y:=(rfl)
@[go_sem ↓] theorem zYS (op:Op) (j:Nat) (b:Bool):zG9 P mu ops (⟨dst,op,ty,pos,after,some (j,b)⟩ ::rest) K fr h =
  gif (yi ops fr (some (j,b))) (qW P (zEm mu dst) h.next op (zw fr) h fun d h'=>zG9 P mu ops rest K (zAA fr dst d) h') (zG9 P mu ops rest K (zAA fr dst qZ) h):=by
 simp only[zG9,gif];cases yi ops fr (some (j,b))<;>rfl
@[go_sem ↓] theorem zcD (t:Tmp):zw fr (.tmp t)=fr t:=(rfl)
@[go_sem ↓] theorem zcE (k:IntKind) (n:Int):zw fr (.const (.int k n))= .int k n:=(rfl)
@[go_sem ↓] theorem zZT (b:Bool):zw fr (.const (.bool b))= .bool b:=(rfl)
@[go_sem ↓] theorem zZU (f:Nat):zw fr (.func f)= .fn (.func f) [] []:=(rfl)
@[go_sem ↓] theorem zcF (s:ByteArray):zw fr (.const (.string s))= .str s.data.toList:=(rfl)
@[go_sem ↓] theorem zYT:zw fr (.const (.slice none 0 0))= .nilsl:=(rfl)
@[go_sem ↓] theorem zVm:zw fr (.const (.map none))= .nilmap:=(rfl)
@[go_sem ↓] theorem zYU:zw fr (.const .nilFunc)= .nilfn:=(rfl)
@[go_sem ↓] theorem zZV (t i:Tmp) (d:D):zAA fr (some t) d i=if i=t then d else fr i:=(rfl)
@[go_sem ↓] theorem zZW (d:D):zAA fr none d=fr:=(rfl)
@[go_sem ↓] theorem zfP (x:Operand):qW P m nid (.move x) (zw fr) h k=k (zw fr x) h:=(rfl)
@[go_sem ↓] theorem zcG (x:Operand):qW P m nid (.assign x) (zw fr) h k=k (zw fr x) h:=(rfl)
@[go_sem ↓] theorem zfQ (f:Operand) (args:List Operand) (ats:Array TypeId):qW P m nid (.call ⟨.value f,args.toArray,ats⟩) (zw fr) h k=zHc P (zw fr f) (args.map (zw fr)) h k:=(rfl)
@[go_sem ↓] theorem zc1 (f:FuncId) (a c args:List D):zHc P (.fn (.func f) a c) args h k=zA P f (a++args++c) h k:=(rfl)
@[go_sem ↓] theorem zcH (id:Nat) (args:List D):zHc P (.yld id) args h k=qR P id args h k:=(rfl)
theorem zAG {op:Op} {ev:Operand→D} {o:Option D} (h1:yr op=none) (h2:vop P m nid op ev h=o.map (·,h)):qW P m nid op ev h k=onS o (k · h):=by
 unfold qW;rw[h1,h2];cases o<;>rfl
theorem zPo {op:Op} {ev:Operand→D} {o:Option Heap} (h1:yr op=none) (h2:vop P m nid op ev h=o.map (qZ,·)):qW P m nid op ev h k=onH o (k qZ ·):=by
 unfold qW;rw[h1,h2];cases o<;>rfl
theorem zGF {op:Op} {ev:Operand→D} {o:VR} (h1:yr op=none) (h2:vop P m nid op ev h=o):qW P m nid op ev h k=onR o k:=by
 unfold qW;rw[h1,h2];cases o<;>rfl
@[go_sem ↓] theorem zgq (op:BinOp) (t u:TypeId) (x y:Operand):qW P m nid (.binOp op t x y u) (zw fr) h k=onS (zDH P op t (isC x||isC y) (zw fr x) (zw fr y)) (k · h):=zAG rfl rfl
@[go_sem ↓] theorem zh2 (op:UnOp) (t:TypeId) (x:Operand):qW P m nid (.unOp op t x) (zw fr) h k=onS (vun op (zw fr x)) (k · h):=zAG rfl rfl
@[go_sem ↓] theorem zfR (c x y:Operand):qW P m nid (.pick c x y) (zw fr) h k=onB (zw fr c) (k (zw fr x) h) (k (zw fr y) h):=by
 simp only[qW,yr,vop,onB];cases zw fr c with
 |bool b=>cases b<;>rfl
 |_=>rfl
@[go_sem ↓] theorem zc2 (t:TypeId):qW P m nid (.alloc t) (zw fr) h k=onR (vop P m nid (.alloc t) (zw fr) h) k:=zGF rfl rfl
@[go_sem ↓] theorem zgr (t:TypeId) (x:Operand):qW P m nid (.box t x) (zw fr) h k=onR (vop P m nid (.box t x) (zw fr) h) k:=zGF rfl rfl
@[go_sem ↓] theorem zc3 (t:TypeId) (ps:List (Nat×Operand)):qW P m nid (.build t ps.toArray) (zw fr) h k=onS (yc P t (ps.map fun p=>(p.1,zw fr p.2))) (k · h):=zAG rfl rfl
@[go_sem ↓] theorem zUH (t:TypeId) (n:Nat) (ps:List (Nat×Operand)):qW P m nid (.buildSlice t n ps.toArray) (zw fr) h k=onR (zU P m nid t n (ps.map fun p=>(p.1,zw fr p.2)) h) k:=zGF rfl rfl
@[go_sem ↓] theorem zfS (t:TypeId) (x:Operand):qW P m nid (.load t x) (zw fr) h k=onS (zA9 P t (zw fr x) h) (k · h):=zAG rfl rfl
@[go_sem ↓] theorem zc4 (t:TypeId) (x y:Operand):qW P m nid (.store t x y) (zw fr) h k=onH (zX P t (zw fr x) (zw fr y) h) (k qZ ·):=zPo rfl rfl
@[go_sem ↓] theorem zZX (s t:TypeId) (x:Operand):qW P m nid (.convert s t x) (zw fr) h k=onS (zDK P s t (zw fr x) h) (k · h):=zAG rfl rfl
@[go_sem ↓] theorem zYV (P:Program) (s t:TypeId) (k:IntKind) (n:Int) (h:Heap):zDK P s t (.int k n) h=zAM P s t (.int k n):=(rfl)
@[go_sem ↓] theorem zYW (P:Program) (s t:TypeId) (x:List UInt8) (h:Heap):zDK P s t (.str x) h=zAM P s t (.str x):=(rfl)
@[go_sem ↓] theorem zYX (f:FuncId) (a c:List Operand):qW P m nid (.makeFunc (.func f) a.toArray c.toArray) (zw fr) h k=k (.fn (.func f) (a.map (zw fr)) (c.map (zw fr))) h:=(rfl)
@[go_sem ↓] theorem zZY (t:TypeId):qW P m nid (.makeMap t none) (zw fr) h k=k (.map nid) (h.new nid (.map [])):=(rfl)
@[go_sem ↓] theorem zVn (t:TypeId) (x y:Operand):qW P m nid (.makeSlice t x y) (zw fr) h k=onR (qm P m nid t (zw fr x) (zw fr y) h) k:=zGF rfl rfl
@[go_sem ↓] theorem zc5 (t:TypeId) (x:Operand) (lo hi mx:Option Operand):qW P m nid (.slice t x lo hi mx) (zw fr) h k=onS (yR P t (zw fr x) (lo.map (zw fr)) (hi.map (zw fr)) (mx.map (zw fr)) h) (k · h):=zAG rfl rfl
@[go_sem ↓] theorem zVo (t:TypeId) (x:Operand) (f:Nat):qW P m nid (.fieldAddr t x f) (zw fr) h k=onS (zx P t (zw fr x) f) (k · h):=zAG rfl rfl
@[go_sem ↓] theorem zVp (t:TypeId) (x i:Operand):qW P m nid (.indexAddr t x i) (zw fr) h k=onS (zQ P t (zw fr x) (zw fr i)) (k · h):=zAG rfl rfl
@[go_sem ↓] theorem zc6 (t:TypeId) (x i:Operand):qW P m nid (.index t x i) (zw fr) h k=onS (zAX P t (zw fr x) (zw fr i)) (k · h):=zAG rfl rfl
@[go_sem ↓] theorem zcI (t:TypeId) (x y:Operand) (ok:Bool):qW P m nid (.lookup t x y ok) (zw fr) h k=onS (wD P t (zw fr x) (zw fr y) ok h) (k · h):=zAG rfl rfl
@[go_sem ↓] theorem zVq (t:TypeId) (x y z:Operand):qW P m nid (.mapUpdate t x y z) (zw fr) h k=onH (yX P t (zw fr x) (zw fr y) (zw fr z) h) (k qZ ·):=zPo rfl rfl
@[go_sem ↓] theorem zc7 (t:TypeId) (x:Operand):qW P m nid (.range t x) (zw fr) h k=onR (zEg P nid t (zw fr x) h) k:=zGF rfl rfl
@[go_sem ↓] theorem zfT (x:Operand) (b:Bool):qW P m nid (.next x b) (zw fr) h k=onR (zHD (zw fr x) b h) k:=zGF rfl rfl
@[go_sem ↓] theorem zZZ (x:Operand) (i:Nat):qW P m nid (.extract x i) (zw fr) h k=onS (zAL (zw fr x) i) (k · h):=zAG rfl rfl
@[go_sem ↓] theorem zgs (t:TypeId) (x:Operand):qW P m nid (.call ⟨.builtin .len,#[x],#[t]⟩) (zw fr) h k=onS (zBU P t (zw fr x) h) (k · h):=zAG rfl rfl
@[go_sem ↓] theorem zcJ (t u:TypeId) (x y:Operand):qW P m nid (.call ⟨.builtin .append,#[x,y],#[t,u]⟩) (zw fr) h k=onR (if zAZ P u then zAJ P m nid t (zw fr x) (zw fr y) h else zAK P m nid t u (zw fr x) (zw fr y) h) k:=zGF rfl rfl
@[go_sem ↓] theorem zYY (t:TypeId) (s x:D):zAJ P false nid t s x h=ze P false nid t s x h:=(rfl)
@[go_sem ↓] theorem zYZ (t:TypeId) (s x:D):zAJ P true nid t s x h=ze P true nid t s x (qd s x h):=(rfl)
@[go_sem ↓] theorem zYa (sz:Nat) (xs:List (List D)) (tk:Tk) (x:D):qd (.sl sz xs tk) x h=h:=(rfl)
@[go_sem ↓] theorem zgt (ats:Array TypeId) (x y:Operand):qW P m nid (.call ⟨.builtin .min,#[x,y],ats⟩) (zw fr) h k=onS (zO2 (zw fr x) (zw fr y)) (k · h):=zAG rfl rfl
@[go_sem ↓] theorem zgu (x y:Operand) (ats:Array TypeId):qW P m nid (.call ⟨.builtin .max,#[x,y],ats⟩) (zw fr) h k=onS (zO9 (zw fr x) (zw fr y)) (k · h):=by
 refine zAG rfl ?_;simp only[vop,zAN,zHC,List.map_cons,List.map_nil];cases zO9 (zw fr x) (zw fr y)<;>rfl
@[go_sem ↓] theorem zfU (x y z u:Operand) (ats:Array TypeId):qW P m nid (.call ⟨.builtin .max,#[x,y,z,u],ats⟩) (zw fr) h k=onS (zHC (zw fr x) [zw fr y,zw fr z,zw fr u]) (k · h):=zAG rfl rfl
@[go_sem ↓] theorem zYb (d:D) (ds:List D):zIi (d::ds) 0=d:=(rfl)
@[go_sem ↓] theorem zYc (d:D) (ds:List D) (i:Nat):zIi (d::ds) (i+1)=zIi ds i:=(rfl)
def onL (o:Option (List D)) (k:List D→Prop):Prop:=
 match o with
 |some ds=>k ds
 |none=>False
@[go_sem ↓] theorem zcK (rs:List ResultVar) (q:D→Heap→Prop):zUB P rs q .ret fr h=onL (zAg P fr h rs) fun ds=>q (zEK ds) h:=by
 unfold zUB onL;cases zAg P fr h rs<;>simp
@[go_sem ↓] theorem zVr (rs:List ResultVar) (q:D→Heap→Prop):zUB P rs q .normal fr h=onL (zAg P fr h rs) fun ds=>q (zEK ds) h:=by
 unfold zUB onL;cases zAg P fr h rs<;>simp
@[go_sem ↓] theorem zZa (k:List D→Prop):onL (zAg P fr h []) k=k []:=(rfl)
@[go_sem ↓] theorem zZb (t:Tmp) (rs:List ResultVar) (k:List D→Prop):onL (zAg P fr h (.tmp t::rs)) k=onL (zAg P fr h rs) fun ds=>k (fr t::ds):=by
 simp only[zAg,zPZ];cases zAg P fr h rs<;>rfl
@[go_sem ↓] theorem zYd (a:Tmp) (t:TypeId) (rs:List ResultVar) (k:List D→Prop):onL (zAg P fr h (.cell a t::rs)) k=onS (zA9 P t (fr a) h) fun d=>onL (zAg P fr h rs) fun ds=>k (d::ds):=by
 simp only[zAg,zPZ];cases zA9 P t (fr a) h with
 |none=>rfl
 |some d=>cases zAg P fr h rs<;>rfl
@[go_sem ↓] theorem zZc (d:D):zEK [d]=d:=(rfl)
@[go_sem ↓] theorem zZd (d d':D) (ds:List D):zEK (d::d'::ds)= .tuple (d::d'::ds):=(rfl)
@[go_sem ↓] theorem zZe:zEK []= .tuple []:=(rfl)
end rules
def zV (sz:Nat) (xs:List (List D)) (d:D):Prop:=(d= .nilsl∧xs= [])∨∃tk,d= .sl sz xs tk
section
variable {P:Program} {sz:Nat} {xs:List (List D)} {d:D} {t e:TypeId} {h:Heap}
theorem zV.mk (tk:Tk):zV sz xs (.sl sz xs tk):= .inr ⟨tk,rfl⟩
theorem zV.nil:zV sz [] .nilsl:= .inl ⟨rfl,rfl⟩
theorem zP (hd:zV sz xs d) (hu:P.underlying t=some (.slice e)):zBU P t d h=some (.int .i64 xs.length):=by
 rcases hd with⟨rfl,rfl⟩ | ⟨tk,rfl⟩ <;>simp[zBU,hu]
theorem zF (hd:zV sz xs d) (he:ye P t=some e) (hz:szT P e=sz) {k:IntKind} {i:Nat} {x:List D} (hx:xs[i]? =some x):zQ P t d (.int k i)=some (.iptr x 0):=by
 rcases hd with⟨rfl,rfl⟩ | ⟨tk,rfl⟩
 ·simp at hx
 ·simp[zQ,he,hz,hx]
end
@[go_sem ↓] theorem zcL (P:Program) (op:BinOp) (t:TypeId) (c:Bool) (k k':IntKind) (a b:Int):zDH P op t c (.int k a) (.int k' b)=zAW op k k' a b:=(rfl)
@[go_sem ↓] theorem zcM (P:Program) (op:BinOp) (t:TypeId) (c:Bool) (a b:List UInt8):zDH P op t c (.str a) (.str b)=zN0 op a b:=(rfl)
@[go_sem ↓] theorem zZf (k:IntKind) (a b:Int):zAW .add k k a b=some (.int k (k.wrap (a+b))):=by simp[zAW,zMa]
@[go_sem ↓] theorem zZg (k:IntKind) (a b:Int):zAW .sub k k a b=some (.int k (k.wrap (a-b))):=by simp[zAW,zMa]
@[go_sem ↓] theorem zZh (k:IntKind) (a b:Int):zAW .mul k k a b=some (.int k (k.wrap (a*b))):=by simp[zAW,zMa]
@[go_sem ↓] theorem zZi (k:IntKind) (a b:Int):zAW .lss k k a b=some (.bool (decide (a<b))):=by simp[zAW,zMa]
@[go_sem ↓] theorem zZj (k:IntKind) (a b:Int):zAW .leq k k a b=some (.bool (decide (a≤b))):=by simp[zAW,zMa]
@[go_sem ↓] theorem zZk (k:IntKind) (a b:Int):zAW .gtr k k a b=some (.bool (decide (a>b))):=by simp[zAW,zMa]
@[go_sem ↓] theorem zZl (k:IntKind) (a b:Int):zAW .geq k k a b=some (.bool (decide (a≥b))):=by simp[zAW,zMa]
@[go_sem ↓] theorem zZm (k:IntKind) (a b:Int):zAW .eql k k a b=some (.bool (a==b)):=by simp[zAW,zMa]
@[go_sem ↓] theorem zZn (k:IntKind) (a b:Int):zAW .neq k k a b=some (.bool (a !=b)):=by simp[zAW,zMa]
@[go_sem ↓] theorem zcN (a b:List UInt8):zN0 .eql a b=some (.bool (a==b)):=(rfl)
@[go_sem ↓] theorem zcO (a b:List UInt8):zN0 .neq a b=some (.bool (!(a==b))):=(rfl)
@[go_sem ↓] theorem zcP (a b:List UInt8):zN0 .lss a b=some (.bool (zHB a b)):=(rfl)
@[go_sem ↓] theorem zYe (P:Program) (t:TypeId) (cs:List D) (off:Nat) (h:Heap):zA9 P t (.iptr cs off) h=(match agT P t with
 |none=>none
 |some ag=>zW ag (szT P t) cs off):=(rfl)
@[go_sem ↓] theorem zS (n:Nat) (cs:List D) (off:Nat):zW false n cs off=cs[off]? :=(rfl)
theorem zMv {P:Program} {g:Cfg} {n:Nat} {ro:Option Nat} {c:Code} {Q:Exit→Frm→Heap→Prop} {fr:Frm} {h:Heap} (I:Nat→Frm→Heap→Prop) (k:Nat) (hI:I k fr h)
  (hr:∀k fr h,I k fr h→vwp P g n ro c (zC1 (fun fr h=>∃m,m<k∧I m fr h) Q) fr h):vwp P g n ro (.loop c) Q fr h:=⟨I,⟨k,hI⟩,hr⟩
open Go.Proofs
@[go_sem] theorem zLl:szT Tryz.prog 3=1:=by kernel_rfl
@[go_sem] theorem zgv:agT Tryz.prog 3=some false:=by kernel_rfl
@[go_sem] theorem zIv:qK Tryz.prog 3=some (.int .i64 0):=by kernel_rfl
@[go_sem] theorem zZo:zAZ Tryz.prog 3=false:=by kernel_rfl
@[go_sem] theorem zgw:szT Tryz.prog 4=1:=by kernel_rfl
@[go_sem] theorem zgx:agT Tryz.prog 4=some false:=by kernel_rfl
@[go_sem] theorem zVs:qK Tryz.prog 4=some (.bool false):=by kernel_rfl
@[go_sem] theorem zOO:szT Tryz.prog 5=1:=by kernel_rfl
@[go_sem] theorem zgy:agT Tryz.prog 5=some false:=by kernel_rfl
@[go_sem] theorem qH:szT Tryz.prog 9=1:=by kernel_rfl
@[go_sem] theorem zgz:agT Tryz.prog 9=some false:=by kernel_rfl
@[go_sem] theorem zGG:qK Tryz.prog 9=some (.str []):=by kernel_rfl
@[go_sem] theorem zCp:zFm Tryz.prog 9=true:=by kernel_rfl
@[go_sem] theorem wv:yL Tryz.prog 9=16:=by kernel_rfl
@[go_sem] theorem zMw:zJf Tryz.prog 9=none:=by kernel_rfl
@[go_sem] theorem zPp:zO1 Tryz.prog 9=some (false,[.s]):=by kernel_rfl
@[go_sem] theorem zfV:szT Tryz.prog 22=1:=by kernel_rfl
@[go_sem] theorem zfW:agT Tryz.prog 22=some false:=by kernel_rfl
@[go_sem] theorem zDf:ye Tryz.prog 22=some 56:=by kernel_rfl
@[go_sem] theorem zYf:zAZ Tryz.prog 22=true:=by kernel_rfl
@[go_sem] theorem zVt:zJf Tryz.prog 22=none:=by kernel_rfl
@[go_sem] theorem zfX:szT Tryz.prog 23=1:=by kernel_rfl
@[go_sem] theorem zfY:agT Tryz.prog 23=some false:=by kernel_rfl
@[go_sem] theorem zSa:ye Tryz.prog 23=some 139:=by kernel_rfl
@[go_sem] theorem zfZ:szT Tryz.prog 24=1:=by kernel_rfl
@[go_sem] theorem zfa:agT Tryz.prog 24=some false:=by kernel_rfl
@[go_sem] theorem zIw:ye Tryz.prog 24=some 143:=by kernel_rfl
@[go_sem] theorem zYg:zAZ Tryz.prog 24=true:=by kernel_rfl
@[go_sem] theorem zfb:szT Tryz.prog 25=1:=by kernel_rfl
@[go_sem] theorem zfc:agT Tryz.prog 25=some false:=by kernel_rfl
@[go_sem] theorem zSb:ye Tryz.prog 25=some 147:=by kernel_rfl
@[go_sem] theorem zfd:szT Tryz.prog 27=4:=by kernel_rfl
@[go_sem] theorem zfe:agT Tryz.prog 27=some true:=by kernel_rfl
@[go_sem] theorem zVu:zf Tryz.prog 27 0=some (0,22):=by kernel_rfl
@[go_sem] theorem zVv:zf Tryz.prog 27 1=some (1,23):=by kernel_rfl
@[go_sem] theorem zVw:zf Tryz.prog 27 2=some (2,24):=by kernel_rfl
@[go_sem] theorem zVx:zf Tryz.prog 27 3=some (3,25):=by kernel_rfl
@[go_sem] theorem zff:szT Tryz.prog 29=1:=by kernel_rfl
@[go_sem] theorem zfg:agT Tryz.prog 29=some false:=by kernel_rfl
@[go_sem] theorem zSc:ye Tryz.prog 29=some 83:=by kernel_rfl
@[go_sem] theorem zMx:szT Tryz.prog 30=1:=by kernel_rfl
@[go_sem] theorem zfh:agT Tryz.prog 30=some false:=by kernel_rfl
@[go_sem] theorem zSd:qK Tryz.prog 30=some .nilsl:=by kernel_rfl
@[go_sem] theorem wR:ye Tryz.prog 30=some 168:=by kernel_rfl
@[go_sem] theorem zYh:zAZ Tryz.prog 30=true:=by kernel_rfl
@[go_sem] theorem zVy:zFm Tryz.prog 30=true:=by kernel_rfl
@[go_sem] theorem zPq:yL Tryz.prog 30=24:=by kernel_rfl
@[go_sem] theorem zDg:szT Tryz.prog 31=1:=by kernel_rfl
@[go_sem] theorem zfi:agT Tryz.prog 31=some false:=by kernel_rfl
@[go_sem] theorem zi:ye Tryz.prog 31=some 9:=by kernel_rfl
@[go_sem] theorem zYi:zAZ Tryz.prog 31=true:=by kernel_rfl
@[go_sem] theorem zVz:zJf Tryz.prog 31=none:=by kernel_rfl
@[go_sem] theorem zfj:szT Tryz.prog 33=2:=by kernel_rfl
@[go_sem] theorem zfk:agT Tryz.prog 33=some true:=by kernel_rfl
@[go_sem] theorem zV0:zf Tryz.prog 33 0=some (0,30):=by kernel_rfl
@[go_sem] theorem zV1:zf Tryz.prog 33 1=some (1,31):=by kernel_rfl
@[go_sem] theorem zfl:szT Tryz.prog 34=1:=by kernel_rfl
@[go_sem] theorem zfm:agT Tryz.prog 34=some false:=by kernel_rfl
@[go_sem] theorem zSe:ye Tryz.prog 34=some 65:=by kernel_rfl
@[go_sem] theorem zMy:szT Tryz.prog 36=4:=by kernel_rfl
@[go_sem] theorem zfn:agT Tryz.prog 36=some true:=by kernel_rfl
@[go_sem] theorem zMz:qK Tryz.prog 36=some (.agg [.nilsl, .nilsl, .nilsl, .nilsl]):=by kernel_rfl
@[go_sem] theorem zHu:zCz Tryz.prog 36=some [(0,1),(1,1),(2,1),(3,1)]:=by kernel_rfl
@[go_sem] theorem zV2:zf Tryz.prog 36 0=some (0,31):=by kernel_rfl
@[go_sem] theorem zV3:zf Tryz.prog 36 1=some (1,31):=by kernel_rfl
@[go_sem] theorem zV4:zf Tryz.prog 36 2=some (2,31):=by kernel_rfl
@[go_sem] theorem zV5:zf Tryz.prog 36 3=some (3,31):=by kernel_rfl
@[go_sem] theorem zZp:agT Tryz.prog 38=some true:=by kernel_rfl
@[go_sem] theorem zV6:zf Tryz.prog 38 0=some (0,27):=by kernel_rfl
@[go_sem] theorem zV7:zf Tryz.prog 38 1=some (4,29):=by kernel_rfl
@[go_sem] theorem zV8:zf Tryz.prog 38 2=some (5,33):=by kernel_rfl
@[go_sem] theorem zV9:zf Tryz.prog 38 3=some (7,34):=by kernel_rfl
@[go_sem] theorem zWA:zf Tryz.prog 38 4=some (8,9):=by kernel_rfl
@[go_sem] theorem zHv:szT Tryz.prog 41=1:=by kernel_rfl
@[go_sem] theorem zfo:agT Tryz.prog 41=some false:=by kernel_rfl
@[go_sem] theorem zcQ:qK Tryz.prog 41=some (.int .i64 0):=by kernel_rfl
@[go_sem] theorem zUI:szT Tryz.prog 45=1:=by kernel_rfl
@[go_sem] theorem zfp:agT Tryz.prog 45=some false:=by kernel_rfl
@[go_sem] theorem zcR:qK Tryz.prog 45=some .nilsl:=by kernel_rfl
@[go_sem] theorem zBe:ye Tryz.prog 45=some 53:=by kernel_rfl
@[go_sem] theorem zYj:zAZ Tryz.prog 45=true:=by kernel_rfl
@[go_sem] theorem zfq:agT Tryz.prog 48=some false:=by kernel_rfl
@[go_sem] theorem wL:szT Tryz.prog 51=2:=by kernel_rfl
@[go_sem] theorem zfr:agT Tryz.prog 51=some true:=by kernel_rfl
@[go_sem] theorem zBf:qK Tryz.prog 51=some (.agg [(.str []),(.str [])]):=by kernel_rfl
@[go_sem] theorem zPr:zFm Tryz.prog 51=true:=by kernel_rfl
@[go_sem] theorem zGH:yL Tryz.prog 51=32:=by kernel_rfl
@[go_sem] theorem zET:zCz Tryz.prog 51=some [(0,1),(1,1)]:=by kernel_rfl
@[go_sem] theorem zWB:zf Tryz.prog 51 0=some (0,9):=by kernel_rfl
@[go_sem] theorem zWC:zf Tryz.prog 51 1=some (1,9):=by kernel_rfl
@[go_sem] theorem zCB:szT Tryz.prog 53=7:=by kernel_rfl
@[go_sem] theorem zfs:agT Tryz.prog 53=some true:=by kernel_rfl
@[go_sem] theorem zIx:qK Tryz.prog 53=some (.agg [(.str []),(.str []),(.str []),(.str []),(.int .i64 0),(.int .i64 0),(.int .i64 0)]):=by kernel_rfl
@[go_sem] theorem zPs:zFm Tryz.prog 53=true:=by kernel_rfl
@[go_sem] theorem zKH:yL Tryz.prog 53=88:=by kernel_rfl
@[go_sem] theorem zPt:zO1 Tryz.prog 53=some (true,[.s, .s, .s, .s, .i, .i, .i]):=by kernel_rfl
@[go_sem] theorem zOP:zCz Tryz.prog 53=some [(0,1),(1,1),(2,2),(4,1),(5,1),(6,1)]:=by kernel_rfl
@[go_sem] theorem zWD:zf Tryz.prog 53 0=some (0,9):=by kernel_rfl
@[go_sem] theorem zWE:zf Tryz.prog 53 1=some (1,9):=by kernel_rfl
@[go_sem] theorem zWF:zf Tryz.prog 53 2=some (2,51):=by kernel_rfl
@[go_sem] theorem zWG:zf Tryz.prog 53 5=some (6,3):=by kernel_rfl
@[go_sem] theorem zCq:szT Tryz.prog 56=4:=by kernel_rfl
@[go_sem] theorem zft:agT Tryz.prog 56=some true:=by kernel_rfl
@[go_sem] theorem zIy:qK Tryz.prog 56=some (.agg [(.str []),(.str []),(.int .i64 0),(.str [])]):=by kernel_rfl
@[go_sem] theorem zWH:zFm Tryz.prog 56=true:=by kernel_rfl
@[go_sem] theorem zPu:yL Tryz.prog 56=56:=by kernel_rfl
@[go_sem] theorem zHw:zCz Tryz.prog 56=some [(0,1),(1,1),(2,1),(3,1)]:=by kernel_rfl
@[go_sem] theorem zWI:zf Tryz.prog 56 0=some (0,9):=by kernel_rfl
@[go_sem] theorem zWJ:zf Tryz.prog 56 1=some (1,9):=by kernel_rfl
@[go_sem] theorem zWK:zf Tryz.prog 56 2=some (2,3):=by kernel_rfl
@[go_sem] theorem zWL:zf Tryz.prog 56 3=some (3,9):=by kernel_rfl
@[go_sem] theorem zfu:szT Tryz.prog 60=1:=by kernel_rfl
@[go_sem] theorem zfv:agT Tryz.prog 60=some false:=by kernel_rfl
@[go_sem] theorem zSf:ye Tryz.prog 60=some 62:=by kernel_rfl
@[go_sem] theorem zPv:szT Tryz.prog 62=4:=by kernel_rfl
@[go_sem] theorem zfw:agT Tryz.prog 62=some true:=by kernel_rfl
@[go_sem] theorem zcS:qK Tryz.prog 62=some (.agg [(.int .i64 0),(.str []),(.str []), .nilsl]):=by kernel_rfl
@[go_sem] theorem zWM:zf Tryz.prog 62 0=some (0,3):=by kernel_rfl
@[go_sem] theorem zWN:zf Tryz.prog 62 1=some (1,9):=by kernel_rfl
@[go_sem] theorem zWO:zf Tryz.prog 62 2=some (2,9):=by kernel_rfl
@[go_sem] theorem zWP:zf Tryz.prog 62 3=some (3,60):=by kernel_rfl
@[go_sem] theorem zUJ:szT Tryz.prog 65=8:=by kernel_rfl
@[go_sem] theorem zfx:agT Tryz.prog 65=some true:=by kernel_rfl
@[go_sem] theorem zWQ:zf Tryz.prog 65 0=some (0,9):=by kernel_rfl
@[go_sem] theorem zWR:zf Tryz.prog 65 2=some (5,31):=by kernel_rfl
@[go_sem] theorem zPw:szT Tryz.prog 83=12:=by kernel_rfl
@[go_sem] theorem zfy:agT Tryz.prog 83=some true:=by kernel_rfl
@[go_sem] theorem zcT:qK Tryz.prog 83=some (.agg [(.int .i64 0),(.str []),(.str []),(.int .i64 0),(.int .i64 0),(.int .i64 0),(.bool false),(.int .i64 0),(.str []),(.str []), .nilsl, .nilsl]):=by kernel_rfl
@[go_sem] theorem zWS:zf Tryz.prog 83 0=some (0,3):=by kernel_rfl
@[go_sem] theorem zWT:zf Tryz.prog 83 1=some (1,9):=by kernel_rfl
@[go_sem] theorem zWU:zf Tryz.prog 83 2=some (2,9):=by kernel_rfl
@[go_sem] theorem zWV:zf Tryz.prog 83 3=some (3,3):=by kernel_rfl
@[go_sem] theorem zWW:zf Tryz.prog 83 4=some (4,3):=by kernel_rfl
@[go_sem] theorem zWX:zf Tryz.prog 83 5=some (5,3):=by kernel_rfl
@[go_sem] theorem zWY:zf Tryz.prog 83 6=some (6,4):=by kernel_rfl
@[go_sem] theorem zWZ:zf Tryz.prog 83 7=some (7,62):=by kernel_rfl
@[go_sem] theorem zWa:zf Tryz.prog 83 8=some (11,31):=by kernel_rfl
@[go_sem] theorem zZq:szT Tryz.prog 96=1:=by kernel_rfl
@[go_sem] theorem zfz:agT Tryz.prog 96=some false:=by kernel_rfl
@[go_sem] theorem zcU:qK Tryz.prog 96=some .nilmap:=by kernel_rfl
@[go_sem] theorem zPx:zO7 Tryz.prog 96=some (53,4):=by kernel_rfl
@[go_sem] theorem zIz:zO7 Tryz.prog 103=some (9,3):=by kernel_rfl
@[go_sem] theorem zBH:ye Tryz.prog 113=some 5:=by kernel_rfl
@[go_sem] theorem zc8:szT Tryz.prog 137=1:=by kernel_rfl
@[go_sem] theorem zc9:agT Tryz.prog 137=some false:=by kernel_rfl
@[go_sem] theorem zDh:ye Tryz.prog 137=some 3:=by kernel_rfl
@[go_sem] theorem zGI:szT Tryz.prog 139=3:=by kernel_rfl
@[go_sem] theorem zdA:agT Tryz.prog 139=some true:=by kernel_rfl
@[go_sem] theorem zZr:qK Tryz.prog 139=some (.agg [(.str []),(.str []), .nilsl]):=by kernel_rfl
@[go_sem] theorem zUK:zf Tryz.prog 139 0=some (0,9):=by kernel_rfl
@[go_sem] theorem zUL:zf Tryz.prog 139 1=some (1,9):=by kernel_rfl
@[go_sem] theorem zUM:zf Tryz.prog 139 2=some (2,137):=by kernel_rfl
@[go_sem] theorem zCC:szT Tryz.prog 143=5:=by kernel_rfl
@[go_sem] theorem zdB:agT Tryz.prog 143=some true:=by kernel_rfl
@[go_sem] theorem zPy:qK Tryz.prog 143=some (.agg [(.str []),(.int .i64 0),(.int .i64 0),(.int .i64 0), .nilsl]):=by kernel_rfl
@[go_sem] theorem zSg:zFm Tryz.prog 143=true:=by kernel_rfl
@[go_sem] theorem zOQ:yL Tryz.prog 143=64:=by kernel_rfl
@[go_sem] theorem zUN:zf Tryz.prog 143 0=some (0,9):=by kernel_rfl
@[go_sem] theorem zUO:zf Tryz.prog 143 1=some (1,3):=by kernel_rfl
@[go_sem] theorem zUP:zf Tryz.prog 143 2=some (2,3):=by kernel_rfl
@[go_sem] theorem zUQ:zf Tryz.prog 143 3=some (3,3):=by kernel_rfl
@[go_sem] theorem zUR:zf Tryz.prog 143 4=some (4,31):=by kernel_rfl
@[go_sem] theorem zI0:szT Tryz.prog 147=2:=by kernel_rfl
@[go_sem] theorem zdC:agT Tryz.prog 147=some true:=by kernel_rfl
@[go_sem] theorem zZs:qK Tryz.prog 147=some (.agg [(.str []),(.str [])]):=by kernel_rfl
@[go_sem] theorem zUS:zf Tryz.prog 147 0=some (0,9):=by kernel_rfl
@[go_sem] theorem zUT:zf Tryz.prog 147 1=some (1,9):=by kernel_rfl
@[go_sem] theorem zGJ:ye Tryz.prog 149=some 30:=by kernel_rfl
@[go_sem] theorem zWb:zAZ Tryz.prog 149=true:=by kernel_rfl
@[go_sem] theorem wG:szT Tryz.prog 168=1:=by kernel_rfl
@[go_sem] theorem zdD:agT Tryz.prog 168=some false:=by kernel_rfl
@[go_sem] theorem zKI:qK Tryz.prog 168=some .nilsl:=by kernel_rfl
@[go_sem] theorem yT:ye Tryz.prog 168=some 51:=by kernel_rfl
@[go_sem] theorem zWc:zAZ Tryz.prog 168=true:=by kernel_rfl
@[go_sem] theorem zDi:zFm Tryz.prog 168=true:=by kernel_rfl
@[go_sem] theorem zBI:yL Tryz.prog 168=24:=by kernel_rfl
@[go_sem] theorem zDj:zJf Tryz.prog 168=none:=by kernel_rfl
@[go_sem] theorem zPz:szT Tryz.prog 288=8:=by kernel_rfl
@[go_sem] theorem zdE:agT Tryz.prog 288=some true:=by kernel_rfl
@[go_sem] theorem zBJ:qK Tryz.prog 288=some (.agg [(.bool false),(.bool false),(.bool false),(.bool false),(.bool false),(.bool false),(.bool false),(.bool false)]):=by kernel_rfl
@[go_sem] theorem wm:zCz Tryz.prog 288=some [(0,1),(1,1),(2,1),(3,1),(4,1),(5,1),(6,1),(7,1)]:=by kernel_rfl
@[go_sem] theorem zUU:zf Tryz.prog 288 0=some (0,4):=by kernel_rfl
@[go_sem] theorem zUV:zf Tryz.prog 288 1=some (1,4):=by kernel_rfl
@[go_sem] theorem zUW:zf Tryz.prog 288 2=some (2,4):=by kernel_rfl
@[go_sem] theorem zUX:zf Tryz.prog 288 3=some (3,4):=by kernel_rfl
@[go_sem] theorem zUY:zf Tryz.prog 288 4=some (4,4):=by kernel_rfl
@[go_sem] theorem zUZ:zf Tryz.prog 288 5=some (5,4):=by kernel_rfl
@[go_sem] theorem zUa:zf Tryz.prog 288 6=some (6,4):=by kernel_rfl
@[go_sem] theorem zUb:zf Tryz.prog 288 7=some (7,4):=by kernel_rfl
@[go_sem] theorem zWd:szT Tryz.prog 313=1:=by kernel_rfl
@[go_sem] theorem zdF:agT Tryz.prog 313=some false:=by kernel_rfl
@[go_sem] theorem zZt:qK Tryz.prog 313=some .nilfn:=by kernel_rfl
@[go_sem] theorem zWe:szT Tryz.prog 391=4:=by kernel_rfl
end Go.V
