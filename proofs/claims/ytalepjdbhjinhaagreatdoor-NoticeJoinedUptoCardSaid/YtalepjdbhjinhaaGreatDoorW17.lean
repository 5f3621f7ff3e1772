/- A machine of abstract values for programs of the model, and its soundness, part 6. No condition. -/
import Derived.Test.YtalepjdbhjinhaaGreatDoorW03
import Derived.KernelRfl
import Derived.Test.YtalepjdbhjinhaaGreatDoorProg
set_option linter.all false
namespace Go.V
def onS (o:Option D) (k:D→Prop):Prop:=
 match o with
 |some d=>k d
 |none=>False
def onR (o:VR) (k:D→Heap→Prop):Prop:=
 match o with
 |some (d,h)=>k d h
 |none=>False
def onH (o:Option Heap) (k:Heap→Prop):Prop:=
 match o with
 |some h=>k h
 |none=>False
@[congr] theorem zbc {o o':Option D} {k:D→Prop} (h:o=o'):onS o k=onS o' k:=by rw[h]
@[congr] theorem zbd {o o':VR} {k:D→Heap→Prop} (h:o=o'):onR o k=onR o' k:=by rw[h]
@[congr] theorem zbe {o o':Option Heap} {k:Heap→Prop} (h:o=o'):onH o k=onH o' k:=by rw[h]
@[congr] theorem zX5 {P:Program} {f:FuncId} {args args':List D} {h h':Heap} {K:D→Heap→Prop} (ha:args=args') (hh:h=h'):zA P f args h K=zA P f args' h' K:=by rw[ha,hh]
@[congr] theorem zWX {P:Program} {id:Nat} {args args':List D} {h h':Heap} {K:D→Heap→Prop} (ha:args=args') (hh:h=h'):qp P id args h K=qp P id args' h' K:=by rw[ha,hh]
@[congr] theorem zag {P:Program} {f f':D} {args args':List D} {h h':Heap} {K:D→Heap→Prop} (hf:f=f') (ha:args=args') (hh:h=h'):zIJ P f args h K=zIJ P f' args' h' K:=by rw[hf,ha,hh]
@[go_sem ↓] theorem zeH (d:D) (k:D→Prop):onS (some d) k=k d:=(rfl)
@[go_sem ↓] theorem zGV (d:D) (h:Heap) (k:D→Heap→Prop):onR (some (d,h)) k=k d h:=(rfl)
@[go_sem ↓] theorem zeI (h:Heap) (k:Heap→Prop):onH (some h) k=k h:=(rfl)
section rules
variable {P:Program} {g:Cfg} {n:Nat} {ro:Option Nat} {mu:Tmp→Bool} {ops:Array Oper} {rest:List Oper} {K:Frm→Heap→Prop} {fr:Frm} {h:Heap} {dst:Option Tmp} {ty:TypeId} {pos:String} {after:Array Edge} {gd:Option (Nat×Bool)} {Q:Exit→Frm→Heap→Prop}
 {m:Bool} {nid:Nat} {k:D→Heap→Prop}
@[go_sem ↓] theorem zBa (a b:Code):vwp P g n ro (.seq a b) Q fr h=vwp P g n ro a (zDf (vwp P g n ro b Q) Q) fr h:=(rfl)
@[go_sem ↓] theorem zah (id:Nat) (l:List Oper):vwp P g n ro (.region id l.toArray false) Q fr h=zH9 P g.mu l.toArray l (Q .normal) fr h:=(rfl)
theorem zOQ (id:Nat) (ops:Array Oper):vwp P g n ro (.region id ops true) Q fr h= ∃h0,HLe h0 h∧zDN P g.mu h0 (zUB P g.mu ops (g.dr id) (zF5 ops.toList 0 [])) ops ((g.dr id).any (·.2.isSt)) (g.dr id) (Q .normal) fr h:=(rfl)
@[go_sem ↓] theorem zeJ:vwp P g n ro .skip Q fr h=Q .normal fr h:=(rfl)
@[go_sem ↓] theorem zfJ:vwp P g n ro .ret Q fr h=Q .ret fr h:=(rfl)
@[go_sem ↓] theorem zeK (i:Nat):vwp P g n ro (.exit i) Q fr h=Q (.exit i) fr h:=(rfl)
@[go_sem ↓] theorem zbf (id:Nat) (c:Code):vwp P g n ro (.block id c) Q fr h=vwp P g n ro c (zEG id Q) fr h:=(rfl)
def onB (d:D) (x y:Prop):Prop:=
 match d with
 | .bool b=>match b with
  |true=>x
  |false=>y
 |_=>False
@[go_sem ↓] theorem zeL (c:Operand) (a b:Code):vwp P g n ro (.cond c a b) Q fr h=onB (zz fr c) (vwp P g n ro a Q fr h) (vwp P g n ro b Q fr h):=by
 simp only[vwp];rfl
@[congr] theorem zbg {d d':D} {x y:Prop} (h:d=d'):onB d x y=onB d' x y:=by rw[h]
@[go_sem ↓] theorem zeM (x y:Prop):onB (.bool true) x y=x:=(rfl)
@[go_sem ↓] theorem zbh (x y:Prop):onB (.bool false) x y=y:=(rfl)
@[go_sem ↓] theorem zWY (Kn:Frm→Heap→Prop):zDf Kn Q .normal fr h=Kn fr h:=(rfl)
@[go_sem ↓] theorem zbi (Kn:Frm→Heap→Prop):zDf Kn Q .ret fr h=Q .ret fr h:=(rfl)
@[go_sem ↓] theorem zai (Kn:Frm→Heap→Prop) (i:Nat):zDf Kn Q (.exit i) fr h=Q (.exit i) fr h:=(rfl)
@[go_sem ↓] theorem zUX (i:Nat):zEG i Q .normal fr h=Q .normal fr h:=(rfl)
@[go_sem ↓] theorem zaj (i:Nat):zEG i Q .ret fr h=Q .ret fr h:=(rfl)
@[go_sem ↓] theorem zX6 (i j:Nat):zEG i Q (.exit j) fr h=if j=i then Q .normal fr h else Q (.exit j) fr h:=(rfl)
@[go_sem ↓] theorem zeN:zH9 P mu ops [] K fr h=K fr h:=(rfl)
@[go_sem ↓] theorem zak (op:Op):zH9 P mu ops (⟨dst,op,ty,pos,after,none⟩ ::rest) K fr h=qn P (zFh mu dst) h.next op (zz fr) h fun d h'=>zH9 P mu ops rest K (zAe fr dst d) h':=(rfl)
def gif (g:Bool) (x y:Prop):Prop:=
 match g with
 |true=>x
 |false=>y
@[congr] theorem zbj {g g':Bool} {x y:Prop} (h:g=g'):gif g x y=gif g' x y:=by rw[h]
@[go_sem ↓] theorem zeO (x y:Prop):gif true x y=x:=(rfl)
@[go_sem ↓] theorem zbk (x y:Prop):gif false x y=y:=(rfl)
@[go_sem ↓] theorem zal (op:Op) (j:Nat) (b:Bool):zH9 P mu ops (⟨dst,op,ty,pos,after,some (j,b)⟩ ::rest) K fr h =
  gif (y9 ops fr (some (j,b))) (qn P (zFh mu dst) h.next op (zz fr) h fun d h'=>zH9 P mu ops rest K (zAe fr dst d) h') (zH9 P mu ops rest K (zAe fr dst wA) h):=by
 simp only[zH9,gif];cases y9 ops fr (some (j,b))<;>rfl
@[go_sem ↓] theorem zeP (t:Tmp):zz fr (.tmp t)=fr t:=(rfl)
@[go_sem ↓] theorem zeQ (k:IntKind) (n:Int):zz fr (.const (.int k n))= .int k n:=(rfl)
@[go_sem ↓] theorem zbl (b:Bool):zz fr (.const (.bool b))= .bool b:=(rfl)
@[go_sem ↓] theorem zbm (f:Nat):zz fr (.func f)= .fn (.func f) [] []:=(rfl)
@[go_sem ↓] theorem zeR (s:ByteArray):zz fr (.const (.string s))= .str s.data.toList:=(rfl)
@[go_sem ↓] theorem zam:zz fr (.const (.slice none 0 0))= .nilsl:=(rfl)
@[go_sem ↓] theorem zX7:zz fr (.const (.map none))= .nilmap:=(rfl)
@[go_sem ↓] theorem zan:zz fr (.const .nilFunc)= .nilfn:=(rfl)
@[go_sem ↓] theorem zUY:zz fr (.const .nilIface)= .niliface:=(rfl)
@[go_sem ↓] theorem zbn (t i:Tmp) (d:D):zAe fr (some t) d i=if i=t then d else fr i:=(rfl)
@[go_sem ↓] theorem zbo (d:D):zAe fr none d=fr:=(rfl)
@[go_sem ↓] theorem zhi (x:Operand):qn P m nid (.move x) (zz fr) h k=k (zz fr x) h:=(rfl)
@[go_sem ↓] theorem zeS (x:Operand):qn P m nid (.assign x) (zz fr) h k=k (zz fr x) h:=(rfl)
@[go_sem ↓] theorem zhj (f:Operand) (args:List Operand) (ats:Array TypeId):qn P m nid (.call ⟨.value f,args.toArray,ats⟩) (zz fr) h k=zIJ P (zz fr f) (args.map (zz fr)) h k:=(rfl)
@[go_sem ↓] theorem zX8 (f:FuncId) (a c args:List D):zIJ P (.fn (.func f) a c) args h k=zA P f (a++args++c) h k:=(rfl)
@[go_sem ↓] theorem zeT (id:Nat) (args:List D):zIJ P (.yld id) args h k=qp P id args h k:=(rfl)
theorem zAB {op:Op} {ev:Operand→D} {o:Option D} (h1:qK op=none) (h2:vop P m nid op ev h=o.map (·,h)):qn P m nid op ev h k=onS o (k · h):=by
 unfold qn;rw[h1,h2];cases o<;>rfl
theorem zRU {op:Op} {ev:Operand→D} {o:Option Heap} (h1:qK op=none) (h2:vop P m nid op ev h=o.map (wA,·)):qn P m nid op ev h k=onH o (k wA ·):=by
 unfold qn;rw[h1,h2];cases o<;>rfl
theorem zFo {op:Op} {ev:Operand→D} {o:VR} (h1:qK op=none) (h2:vop P m nid op ev h=o):qn P m nid op ev h k=onR o k:=by
 unfold qn;rw[h1,h2];cases o<;>rfl
@[go_sem ↓] theorem zjF (op:BinOp) (t u:TypeId) (x y:Operand):qn P m nid (.binOp op t x y u) (zz fr) h k=onS (zD1 P op t (isC x||isC y) (zz fr x) (zz fr y)) (k · h):=zAB rfl rfl
@[go_sem ↓] theorem zj5 (op:UnOp) (t:TypeId) (x:Operand):qn P m nid (.unOp op t x) (zz fr) h k=onS (vun op (zz fr x)) (k · h):=zAB rfl rfl
@[go_sem ↓] theorem zhk (c x y:Operand):qn P m nid (.pick c x y) (zz fr) h k=onB (zz fr c) (k (zz fr x) h) (k (zz fr y) h):=by
 simp only[qn,qK,vop,onB];cases zz fr c with
 |bool b=>cases b<;>rfl
 |_=>rfl
@[go_sem ↓] theorem zfK (t:TypeId):qn P m nid (.alloc t) (zz fr) h k=onR (vop P m nid (.alloc t) (zz fr) h) k:=zFo rfl rfl
@[go_sem ↓] theorem zjG (t:TypeId) (x:Operand):qn P m nid (.box t x) (zz fr) h k=onR (vop P m nid (.box t x) (zz fr) h) k:=zFo rfl rfl
@[go_sem ↓] theorem zfL (t:TypeId) (ps:List (Nat×Operand)):qn P m nid (.build t ps.toArray) (zz fr) h k=onS (yn P t (ps.map fun p=>(p.1,zz fr p.2))) (k · h):=zAB rfl rfl
@[go_sem ↓] theorem zWZ (t:TypeId) (n:Nat) (ps:List (Nat×Operand)):qn P m nid (.buildSlice t n ps.toArray) (zz fr) h k=onR (zS P m nid t n (ps.map fun p=>(p.1,zz fr p.2)) h) k:=zFo rfl rfl
@[go_sem ↓] theorem zhl (t:TypeId) (x:Operand):qn P m nid (.load t x) (zz fr) h k=onS (zBi P t (zz fr x) h) (k · h):=zAB rfl rfl
@[go_sem ↓] theorem zfM (t:TypeId) (x y:Operand):qn P m nid (.store t x y) (zz fr) h k=onH (zW P t (zz fr x) (zz fr y) h) (k wA ·):=zRU rfl rfl
@[go_sem ↓] theorem zao (x:Operand):qn P m nid (.nilCheck x) (zz fr) h k=onS (zAY (zz fr x)) (k · h):=zAB rfl rfl
@[go_sem ↓] theorem zbp (s t:TypeId) (x:Operand):qn P m nid (.convert s t x) (zz fr) h k=onS (zD3 P s t (zz fr x) h) (k · h):=zAB rfl rfl
@[go_sem ↓] theorem zap (P:Program) (s t:TypeId) (k:IntKind) (n:Int) (h:Heap):zD3 P s t (.int k n) h=zAo P s t (.int k n):=(rfl)
@[go_sem ↓] theorem zaq (P:Program) (s t:TypeId) (x:List UInt8) (h:Heap):zD3 P s t (.str x) h=zAo P s t (.str x):=(rfl)
@[go_sem ↓] theorem zar (f:FuncId) (a c:List Operand):qn P m nid (.makeFunc (.func f) a.toArray c.toArray) (zz fr) h k=k (.fn (.func f) (a.map (zz fr)) (c.map (zz fr))) h:=(rfl)
@[go_sem ↓] theorem zbq (t:TypeId):qn P m nid (.makeMap t none) (zz fr) h k=k (.map nid) (h.new nid (.map [])):=(rfl)
@[go_sem ↓] theorem zX9 (t:TypeId) (x y:Operand):qn P m nid (.makeSlice t x y) (zz fr) h k=onR (wL P m nid t (zz fr x) (zz fr y) h) k:=zFo rfl rfl
@[go_sem ↓] theorem zfN (t:TypeId) (x:Operand) (lo hi mx:Option Operand):qn P m nid (.slice t x lo hi mx) (zz fr) h k=onS (yZ P t (zz fr x) (lo.map (zz fr)) (hi.map (zz fr)) (mx.map (zz fr)) h) (k · h):=zAB rfl rfl
@[go_sem ↓] theorem zYA (t:TypeId) (x:Operand) (f:Nat):qn P m nid (.fieldAddr t x f) (zz fr) h k=onS (zI P t (zz fr x) f) (k · h):=zAB rfl rfl
@[go_sem ↓] theorem zYB (t:TypeId) (x i:Operand):qn P m nid (.indexAddr t x i) (zz fr) h k=onS (zR P t (zz fr x) (zz fr i)) (k · h):=zAB rfl rfl
@[go_sem ↓] theorem zfO (t:TypeId) (x i:Operand):qn P m nid (.index t x i) (zz fr) h k=onS (zA2 P t (zz fr x) (zz fr i)) (k · h):=zAB rfl rfl
@[go_sem ↓] theorem zeU (t:TypeId) (x y:Operand) (ok:Bool):qn P m nid (.lookup t x y ok) (zz fr) h k=onS (wB P t (zz fr x) (zz fr y) ok h) (k · h):=zAB rfl rfl
@[go_sem ↓] theorem zYC (t:TypeId) (x y z:Operand):qn P m nid (.mapUpdate t x y z) (zz fr) h k=onH (yU P t (zz fr x) (zz fr y) (zz fr z) h) (k wA ·):=zRU rfl rfl
@[go_sem ↓] theorem zfP (t:TypeId) (x:Operand):qn P m nid (.range t x) (zz fr) h k=onR (zFb P nid t (zz fr x) h) k:=zFo rfl rfl
@[go_sem ↓] theorem zhm (x:Operand) (b:Bool):qn P m nid (.next x b) (zz fr) h k=onR (zIF (zz fr x) b h) k:=zFo rfl rfl
@[go_sem ↓] theorem zbr (x:Operand) (i:Nat):qn P m nid (.extract x i) (zz fr) h k=onS (zo (zz fr x) i) (k · h):=zAB rfl rfl
@[go_sem ↓] theorem zjH (t:TypeId) (x:Operand):qn P m nid (.call ⟨.builtin .len,#[x],#[t]⟩) (zz fr) h k=onS (zAd P t (zz fr x) h) (k · h):=zAB rfl rfl
@[go_sem ↓] theorem zeV (t u:TypeId) (x y:Operand):qn P m nid (.call ⟨.builtin .append,#[x,y],#[t,u]⟩) (zz fr) h k=onR (if zAf P u then zAn P m nid t (zz fr x) (zz fr y) h else wn P m nid t u (zz fr x) (zz fr y) h) k:=zFo rfl rfl
@[go_sem ↓] theorem zas (t:TypeId) (s x:D):zAn P false nid t s x h=zZ P false nid t s x h:=(rfl)
@[go_sem ↓] theorem zat (t:TypeId) (s x:D):zAn P true nid t s x h=zZ P true nid t s x (yv s x h):=(rfl)
@[go_sem ↓] theorem zYD (x:D):yv .nilsl x h=h:=(rfl)
@[go_sem ↓] theorem zau (sz:Nat) (xs:List (List D)) (tk:Tk) (x:D):yv (.sl sz xs tk) x h=h:=(rfl)
@[go_sem ↓] theorem zjI (ats:Array TypeId) (x y:Operand):qn P m nid (.call ⟨.builtin .min,#[x,y],ats⟩) (zz fr) h k=onS (zQg (zz fr x) (zz fr y)) (k · h):=zAB rfl rfl
@[go_sem ↓] theorem zjJ (x y:Operand) (ats:Array TypeId):qn P m nid (.call ⟨.builtin .max,#[x,y],ats⟩) (zz fr) h k=onS (zQp (zz fr x) (zz fr y)) (k · h):=by
 refine zAB rfl ?_;simp only[vop,zAT,zIE,List.map_cons,List.map_nil];cases zQp (zz fr x) (zz fr y)<;>rfl
@[go_sem ↓] theorem zhn (x y z u:Operand) (ats:Array TypeId):qn P m nid (.call ⟨.builtin .max,#[x,y,z,u],ats⟩) (zz fr) h k=onS (zIE (zz fr x) [zz fr y,zz fr z,zz fr u]) (k · h):=zAB rfl rfl
@[go_sem ↓] theorem zav (d:D) (ds:List D):zJx (d::ds) 0=d:=(rfl)
@[go_sem ↓] theorem zaw (d:D) (ds:List D) (i:Nat):zJx (d::ds) (i+1)=zJx ds i:=(rfl)
def onL (o:Option (List D)) (k:List D→Prop):Prop:=
 match o with
 |some ds=>k ds
 |none=>False
@[go_sem ↓] theorem zeW (rs:List ResultVar) (q:D→Heap→Prop):zWT P rs q .ret fr h=onL (zA9 P fr h rs) fun ds=>q (zE4 ds) h:=by
 unfold zWT onL;cases zA9 P fr h rs<;>simp
@[go_sem ↓] theorem zYE (rs:List ResultVar) (q:D→Heap→Prop):zWT P rs q .normal fr h=onL (zA9 P fr h rs) fun ds=>q (zE4 ds) h:=by
 unfold zWT onL;cases zA9 P fr h rs<;>simp
@[go_sem ↓] theorem zbs (k:List D→Prop):onL (zA9 P fr h []) k=k []:=(rfl)
@[go_sem ↓] theorem zbt (t:Tmp) (rs:List ResultVar) (k:List D→Prop):onL (zA9 P fr h (.tmp t::rs)) k=onL (zA9 P fr h rs) fun ds=>k (fr t::ds):=by
 simp only[zA9,zRF];cases zA9 P fr h rs<;>rfl
@[go_sem ↓] theorem zax (a:Tmp) (t:TypeId) (rs:List ResultVar) (k:List D→Prop):onL (zA9 P fr h (.cell a t::rs)) k=onS (zBi P t (fr a) h) fun d=>onL (zA9 P fr h rs) fun ds=>k (d::ds):=by
 simp only[zA9,zRF];cases zBi P t (fr a) h with
 |none=>rfl
 |some d=>cases zA9 P fr h rs<;>rfl
@[go_sem ↓] theorem zbu (d:D):zE4 [d]=d:=(rfl)
@[go_sem ↓] theorem zbv (d d':D) (ds:List D):zE4 (d::d'::ds)= .tuple (d::d'::ds):=(rfl)
@[go_sem ↓] theorem zbw:zE4 []= .tuple []:=(rfl)
end rules
def zX (sz:Nat) (xs:List (List D)) (d:D):Prop:=(d= .nilsl∧xs= [])∨∃tk,d= .sl sz xs tk
section
variable {P:Program} {sz:Nat} {xs:List (List D)} {d:D} {t e:TypeId} {h:Heap}
theorem zX.mk (tk:Tk):zX sz xs (.sl sz xs tk):= .inr ⟨tk,rfl⟩
theorem zX.nil:zX sz [] .nilsl:= .inl ⟨rfl,rfl⟩
theorem zP (hd:zX sz xs d) (hu:P.underlying t=some (.slice e)):zAd P t d h=some (.int .i64 xs.length):=by
 rcases hd with⟨rfl,rfl⟩ | ⟨tk,rfl⟩ <;>simp[zAd,hu]
theorem zE (hd:zX sz xs d) (he:yr P t=some e) (hz:szT P e=sz) {k:IntKind} {i:Nat} {x:List D} (hx:xs[i]? =some x):zR P t d (.int k i)=some (.iptr x 0):=by
 rcases hd with⟨rfl,rfl⟩ | ⟨tk,rfl⟩
 ·simp at hx
 ·simp[zR,he,hz,hx]
end
@[go_sem ↓] theorem zeX (P:Program) (op:BinOp) (t:TypeId) (c:Bool) (k k':IntKind) (a b:Int):zD1 P op t c (.int k a) (.int k' b)=zA1 op k k' a b:=(rfl)
@[go_sem ↓] theorem zeY (P:Program) (op:BinOp) (t:TypeId) (c:Bool) (a b:List UInt8):zD1 P op t c (.str a) (.str b)=zF3 op a b:=(rfl)
@[go_sem ↓] theorem zbx (k:IntKind) (a b:Int):zA1 .add k k a b=some (.int k (k.wrap (a+b))):=by simp[zA1,zN3]
@[go_sem ↓] theorem zby (k:IntKind) (a b:Int):zA1 .sub k k a b=some (.int k (k.wrap (a-b))):=by simp[zA1,zN3]
@[go_sem ↓] theorem zbz (k:IntKind) (a b:Int):zA1 .mul k k a b=some (.int k (k.wrap (a*b))):=by simp[zA1,zN3]
@[go_sem ↓] theorem zb0 (k:IntKind) (a b:Int):zA1 .lss k k a b=some (.bool (decide (a<b))):=by simp[zA1,zN3]
@[go_sem ↓] theorem zb1 (k:IntKind) (a b:Int):zA1 .leq k k a b=some (.bool (decide (a≤b))):=by simp[zA1,zN3]
@[go_sem ↓] theorem zb2 (k:IntKind) (a b:Int):zA1 .gtr k k a b=some (.bool (decide (a>b))):=by simp[zA1,zN3]
@[go_sem ↓] theorem zb3 (k:IntKind) (a b:Int):zA1 .geq k k a b=some (.bool (decide (a≥b))):=by simp[zA1,zN3]
@[go_sem ↓] theorem zb4 (k:IntKind) (a b:Int):zA1 .eql k k a b=some (.bool (a==b)):=by simp[zA1,zN3]
@[go_sem ↓] theorem zb5 (k:IntKind) (a b:Int):zA1 .neq k k a b=some (.bool (a !=b)):=by simp[zA1,zN3]
@[go_sem ↓] theorem zeZ (a b:List UInt8):zF3 .eql a b=some (.bool (a==b)):=(rfl)
@[go_sem ↓] theorem zea (a b:List UInt8):zF3 .neq a b=some (.bool (!(a==b))):=(rfl)
@[go_sem ↓] theorem zeb (a b:List UInt8):zF3 .lss a b=some (.bool (zIB a b)):=(rfl)
@[go_sem ↓] theorem zay (P:Program) (t:TypeId) (cs:List D) (off:Nat) (h:Heap):zBi P t (.iptr cs off) h=(match agT P t with
 |none=>none
 |some ag=>ze ag (szT P t) cs off):=(rfl)
@[go_sem ↓] theorem zC (n:Nat) (cs:List D) (off:Nat):ze false n cs off=cs[off]? :=(rfl)
theorem zOR {P:Program} {g:Cfg} {n:Nat} {ro:Option Nat} {c:Code} {Q:Exit→Frm→Heap→Prop} {fr:Frm} {h:Heap} (I:Nat→Frm→Heap→Prop) (k:Nat) (hI:I k fr h)
  (hr:∀k fr h,I k fr h→vwp P g n ro c (zDf (fun fr h=>∃m,m<k∧I m fr h) Q) fr h):vwp P g n ro (.loop c) Q fr h:=⟨I,⟨k,hI⟩,hr⟩
open Go.Proofs
@[go_sem] theorem zM8:szT Tryz.prog 3=1:=by kernel_rfl
@[go_sem] theorem zjK:agT Tryz.prog 3=some false:=by kernel_rfl
@[go_sem] theorem zKA:qS Tryz.prog 3=some (.int .i64 0):=by kernel_rfl
@[go_sem] theorem zb6:zAf Tryz.prog 3=false:=by kernel_rfl
@[go_sem] theorem zjL:szT Tryz.prog 4=1:=by kernel_rfl
@[go_sem] theorem zjM:agT Tryz.prog 4=some false:=by kernel_rfl
@[go_sem] theorem zYF:qS Tryz.prog 4=some (.bool false):=by kernel_rfl
@[go_sem] theorem zIN:szT Tryz.prog 5=1:=by kernel_rfl
@[go_sem] theorem zjN:agT Tryz.prog 5=some false:=by kernel_rfl
@[go_sem] theorem zRV:zGM Tryz.prog 5=true:=by kernel_rfl
@[go_sem] theorem zOS:yY Tryz.prog 5=1:=by kernel_rfl
@[go_sem] theorem yu:szT Tryz.prog 9=1:=by kernel_rfl
@[go_sem] theorem zfQ:agT Tryz.prog 9=some false:=by kernel_rfl
@[go_sem] theorem zCA:qS Tryz.prog 9=some (.str []):=by kernel_rfl
@[go_sem] theorem zb7:zAf Tryz.prog 9=true:=by kernel_rfl
@[go_sem] theorem zBq:zGM Tryz.prog 9=true:=by kernel_rfl
@[go_sem] theorem wO:yY Tryz.prog 9=16:=by kernel_rfl
@[go_sem] theorem zOT:zKx Tryz.prog 9=none:=by kernel_rfl
@[go_sem] theorem zIy:zN6 Tryz.prog 9=some (false,[.s]):=by kernel_rfl
@[go_sem] theorem zho:szT Tryz.prog 22=1:=by kernel_rfl
@[go_sem] theorem zhp:agT Tryz.prog 22=some false:=by kernel_rfl
@[go_sem] theorem zEQ:yr Tryz.prog 22=some 56:=by kernel_rfl
@[go_sem] theorem zaz:zAf Tryz.prog 22=true:=by kernel_rfl
@[go_sem] theorem zYG:zKx Tryz.prog 22=none:=by kernel_rfl
@[go_sem] theorem zhq:szT Tryz.prog 23=1:=by kernel_rfl
@[go_sem] theorem zhr:agT Tryz.prog 23=some false:=by kernel_rfl
@[go_sem] theorem zUZ:yr Tryz.prog 23=some 139:=by kernel_rfl
@[go_sem] theorem zhs:szT Tryz.prog 24=1:=by kernel_rfl
@[go_sem] theorem zht:agT Tryz.prog 24=some false:=by kernel_rfl
@[go_sem] theorem zKB:yr Tryz.prog 24=some 143:=by kernel_rfl
@[go_sem] theorem za0:zAf Tryz.prog 24=true:=by kernel_rfl
@[go_sem] theorem zhu:szT Tryz.prog 25=1:=by kernel_rfl
@[go_sem] theorem zhv:agT Tryz.prog 25=some false:=by kernel_rfl
@[go_sem] theorem zUa:yr Tryz.prog 25=some 147:=by kernel_rfl
@[go_sem] theorem zhw:szT Tryz.prog 27=4:=by kernel_rfl
@[go_sem] theorem zhx:agT Tryz.prog 27=some true:=by kernel_rfl
@[go_sem] theorem zYH:zq Tryz.prog 27 0=some (0,22):=by kernel_rfl
@[go_sem] theorem zYI:zq Tryz.prog 27 1=some (1,23):=by kernel_rfl
@[go_sem] theorem zYJ:zq Tryz.prog 27 2=some (2,24):=by kernel_rfl
@[go_sem] theorem zYK:zq Tryz.prog 27 3=some (3,25):=by kernel_rfl
@[go_sem] theorem zhy:szT Tryz.prog 29=1:=by kernel_rfl
@[go_sem] theorem zhz:agT Tryz.prog 29=some false:=by kernel_rfl
@[go_sem] theorem zUb:yr Tryz.prog 29=some 83:=by kernel_rfl
@[go_sem] theorem zOU:szT Tryz.prog 30=1:=by kernel_rfl
@[go_sem] theorem zh0:agT Tryz.prog 30=some false:=by kernel_rfl
@[go_sem] theorem zUc:qS Tryz.prog 30=some .nilsl:=by kernel_rfl
@[go_sem] theorem wp:yr Tryz.prog 30=some 168:=by kernel_rfl
@[go_sem] theorem za1:zAf Tryz.prog 30=true:=by kernel_rfl
@[go_sem] theorem zYL:zGM Tryz.prog 30=true:=by kernel_rfl
@[go_sem] theorem zRW:yY Tryz.prog 30=24:=by kernel_rfl
@[go_sem] theorem zCQ:szT Tryz.prog 31=1:=by kernel_rfl
@[go_sem] theorem zh1:agT Tryz.prog 31=some false:=by kernel_rfl
@[go_sem] theorem zUd:qS Tryz.prog 31=some .nilsl:=by kernel_rfl
@[go_sem] theorem zd:yr Tryz.prog 31=some 9:=by kernel_rfl
@[go_sem] theorem za2:zAf Tryz.prog 31=true:=by kernel_rfl
@[go_sem] theorem zM9:zKx Tryz.prog 31=none:=by kernel_rfl
@[go_sem] theorem zh2:szT Tryz.prog 33=2:=by kernel_rfl
@[go_sem] theorem zh3:agT Tryz.prog 33=some true:=by kernel_rfl
@[go_sem] theorem zYM:zq Tryz.prog 33 0=some (0,30):=by kernel_rfl
@[go_sem] theorem zYN:zq Tryz.prog 33 1=some (1,31):=by kernel_rfl
@[go_sem] theorem zh4:szT Tryz.prog 34=1:=by kernel_rfl
@[go_sem] theorem zh5:agT Tryz.prog 34=some false:=by kernel_rfl
@[go_sem] theorem zUe:yr Tryz.prog 34=some 65:=by kernel_rfl
@[go_sem] theorem zBE:szT Tryz.prog 36=4:=by kernel_rfl
@[go_sem] theorem zh6:agT Tryz.prog 36=some true:=by kernel_rfl
@[go_sem] theorem zGW:qS Tryz.prog 36=some (.agg [.nilsl, .nilsl, .nilsl, .nilsl]):=by kernel_rfl
@[go_sem] theorem zFD:zDd Tryz.prog 36=some [(0,1),(1,1),(2,1),(3,1)]:=by kernel_rfl
@[go_sem] theorem zYO:zq Tryz.prog 36 0=some (0,31):=by kernel_rfl
@[go_sem] theorem zYP:zq Tryz.prog 36 1=some (1,31):=by kernel_rfl
@[go_sem] theorem zYQ:zq Tryz.prog 36 2=some (2,31):=by kernel_rfl
@[go_sem] theorem zYR:zq Tryz.prog 36 3=some (3,31):=by kernel_rfl
@[go_sem] theorem zb8:agT Tryz.prog 38=some true:=by kernel_rfl
@[go_sem] theorem zYS:zq Tryz.prog 38 0=some (0,27):=by kernel_rfl
@[go_sem] theorem zYT:zq Tryz.prog 38 1=some (4,29):=by kernel_rfl
@[go_sem] theorem zYU:zq Tryz.prog 38 2=some (5,33):=by kernel_rfl
@[go_sem] theorem zYV:zq Tryz.prog 38 3=some (7,34):=by kernel_rfl
@[go_sem] theorem zYW:zq Tryz.prog 38 4=some (8,9):=by kernel_rfl
@[go_sem] theorem zIz:szT Tryz.prog 41=1:=by kernel_rfl
@[go_sem] theorem zh7:agT Tryz.prog 41=some false:=by kernel_rfl
@[go_sem] theorem zec:qS Tryz.prog 41=some (.int .i64 0):=by kernel_rfl
@[go_sem] theorem zb9:szT Tryz.prog 45=1:=by kernel_rfl
@[go_sem] theorem zh8:agT Tryz.prog 45=some false:=by kernel_rfl
@[go_sem] theorem zed:qS Tryz.prog 45=some .nilsl:=by kernel_rfl
@[go_sem] theorem zAr:yr Tryz.prog 45=some 53:=by kernel_rfl
@[go_sem] theorem za3:zAf Tryz.prog 45=true:=by kernel_rfl
@[go_sem] theorem zh9:agT Tryz.prog 48=some false:=by kernel_rfl
@[go_sem] theorem wi:szT Tryz.prog 51=2:=by kernel_rfl
@[go_sem] theorem ziA:agT Tryz.prog 51=some true:=by kernel_rfl
@[go_sem] theorem zCB:qS Tryz.prog 51=some (.agg [(.str []),(.str [])]):=by kernel_rfl
@[go_sem] theorem zRX:zGM Tryz.prog 51=true:=by kernel_rfl
@[go_sem] theorem zHI:yY Tryz.prog 51=32:=by kernel_rfl
@[go_sem] theorem zFE:zDd Tryz.prog 51=some [(0,1),(1,1)]:=by kernel_rfl
@[go_sem] theorem zYX:zq Tryz.prog 51 0=some (0,9):=by kernel_rfl
@[go_sem] theorem zYY:zq Tryz.prog 51 1=some (1,9):=by kernel_rfl
@[go_sem] theorem zBT:szT Tryz.prog 53=7:=by kernel_rfl
@[go_sem] theorem ziB:agT Tryz.prog 53=some true:=by kernel_rfl
@[go_sem] theorem zGX:qS Tryz.prog 53=some (.agg [(.str []),(.str []),(.str []),(.str []),(.int .i64 0),(.int .i64 0),(.int .i64 0)]):=by kernel_rfl
@[go_sem] theorem zNA:zGM Tryz.prog 53=true:=by kernel_rfl
@[go_sem] theorem zHJ:yY Tryz.prog 53=88:=by kernel_rfl
@[go_sem] theorem zRY:zN6 Tryz.prog 53=some (true,[.s, .s, .s, .s, .i, .i, .i]):=by kernel_rfl
@[go_sem] theorem zPx:zDd Tryz.prog 53=some [(0,1),(1,1),(2,2),(4,1),(5,1),(6,1)]:=by kernel_rfl
@[go_sem] theorem zYZ:zq Tryz.prog 53 0=some (0,9):=by kernel_rfl
@[go_sem] theorem zYa:zq Tryz.prog 53 1=some (1,9):=by kernel_rfl
@[go_sem] theorem zYb:zq Tryz.prog 53 2=some (2,51):=by kernel_rfl
@[go_sem] theorem zYc:zq Tryz.prog 53 5=some (6,3):=by kernel_rfl
@[go_sem] theorem zDS:szT Tryz.prog 56=4:=by kernel_rfl
@[go_sem] theorem ziC:agT Tryz.prog 56=some true:=by kernel_rfl
@[go_sem] theorem zKC:qS Tryz.prog 56=some (.agg [(.str []),(.str []),(.int .i64 0),(.str [])]):=by kernel_rfl
@[go_sem] theorem zYd:zGM Tryz.prog 56=true:=by kernel_rfl
@[go_sem] theorem zRZ:yY Tryz.prog 56=56:=by kernel_rfl
@[go_sem] theorem zI0:zDd Tryz.prog 56=some [(0,1),(1,1),(2,1),(3,1)]:=by kernel_rfl
@[go_sem] theorem zYe:zq Tryz.prog 56 0=some (0,9):=by kernel_rfl
@[go_sem] theorem zYf:zq Tryz.prog 56 1=some (1,9):=by kernel_rfl
@[go_sem] theorem zYg:zq Tryz.prog 56 2=some (2,3):=by kernel_rfl
@[go_sem] theorem zYh:zq Tryz.prog 56 3=some (3,9):=by kernel_rfl
@[go_sem] theorem ziD:szT Tryz.prog 60=1:=by kernel_rfl
@[go_sem] theorem ziE:agT Tryz.prog 60=some false:=by kernel_rfl
@[go_sem] theorem zUf:yr Tryz.prog 60=some 62:=by kernel_rfl
@[go_sem] theorem zRa:szT Tryz.prog 62=4:=by kernel_rfl
@[go_sem] theorem ziF:agT Tryz.prog 62=some true:=by kernel_rfl
@[go_sem] theorem zee:qS Tryz.prog 62=some (.agg [(.int .i64 0),(.str []),(.str []), .nilsl]):=by kernel_rfl
@[go_sem] theorem zYi:zq Tryz.prog 62 0=some (0,3):=by kernel_rfl
@[go_sem] theorem zYj:zq Tryz.prog 62 1=some (1,9):=by kernel_rfl
@[go_sem] theorem zYk:zq Tryz.prog 62 2=some (2,9):=by kernel_rfl
@[go_sem] theorem zYl:zq Tryz.prog 62 3=some (3,60):=by kernel_rfl
@[go_sem] theorem zWa:szT Tryz.prog 65=8:=by kernel_rfl
@[go_sem] theorem ziG:agT Tryz.prog 65=some true:=by kernel_rfl
@[go_sem] theorem zYm:zq Tryz.prog 65 0=some (0,9):=by kernel_rfl
@[go_sem] theorem zYn:zq Tryz.prog 65 2=some (5,31):=by kernel_rfl
@[go_sem] theorem zRb:szT Tryz.prog 83=12:=by kernel_rfl
@[go_sem] theorem ziH:agT Tryz.prog 83=some true:=by kernel_rfl
@[go_sem] theorem zef:qS Tryz.prog 83=some (.agg [(.int .i64 0),(.str []),(.str []),(.int .i64 0),(.int .i64 0),(.int .i64 0),(.bool false),(.int .i64 0),(.str []),(.str []), .nilsl, .nilsl]):=by kernel_rfl
@[go_sem] theorem zYo:zq Tryz.prog 83 0=some (0,3):=by kernel_rfl
@[go_sem] theorem zYp:zq Tryz.prog 83 1=some (1,9):=by kernel_rfl
@[go_sem] theorem zYq:zq Tryz.prog 83 2=some (2,9):=by kernel_rfl
@[go_sem] theorem zYr:zq Tryz.prog 83 3=some (3,3):=by kernel_rfl
@[go_sem] theorem zYs:zq Tryz.prog 83 4=some (4,3):=by kernel_rfl
@[go_sem] theorem zYt:zq Tryz.prog 83 5=some (5,3):=by kernel_rfl
@[go_sem] theorem zYu:zq Tryz.prog 83 6=some (6,4):=by kernel_rfl
@[go_sem] theorem zYv:zq Tryz.prog 83 7=some (7,62):=by kernel_rfl
@[go_sem] theorem zYw:zq Tryz.prog 83 8=some (11,31):=by kernel_rfl
@[go_sem] theorem zcA:szT Tryz.prog 96=1:=by kernel_rfl
@[go_sem] theorem ziI:agT Tryz.prog 96=some false:=by kernel_rfl
@[go_sem] theorem zeg:qS Tryz.prog 96=some .nilmap:=by kernel_rfl
@[go_sem] theorem zRc:zN5 Tryz.prog 96=some (53,4):=by kernel_rfl
@[go_sem] theorem zKD:zN5 Tryz.prog 103=some (9,3):=by kernel_rfl
@[go_sem] theorem zKE:zN5 Tryz.prog 107=some (9,9):=by kernel_rfl
@[go_sem] theorem zLZ:yr Tryz.prog 108=some 36:=by kernel_rfl
@[go_sem] theorem zYx:szT Tryz.prog 113=1:=by kernel_rfl
@[go_sem] theorem zfR:agT Tryz.prog 113=some false:=by kernel_rfl
@[go_sem] theorem wq:yr Tryz.prog 113=some 5:=by kernel_rfl
@[go_sem] theorem zcB:qS Tryz.prog 115=some (.agg [.nilptr, .nilsl]):=by kernel_rfl
@[go_sem] theorem zWb:zq Tryz.prog 115 1=some (1,113):=by kernel_rfl
@[go_sem] theorem zfS:szT Tryz.prog 137=1:=by kernel_rfl
@[go_sem] theorem zfT:agT Tryz.prog 137=some false:=by kernel_rfl
@[go_sem] theorem zER:yr Tryz.prog 137=some 3:=by kernel_rfl
@[go_sem] theorem zHK:szT Tryz.prog 139=3:=by kernel_rfl
@[go_sem] theorem zfU:agT Tryz.prog 139=some true:=by kernel_rfl
@[go_sem] theorem zcC:qS Tryz.prog 139=some (.agg [(.str []),(.str []), .nilsl]):=by kernel_rfl
@[go_sem] theorem zWc:zq Tryz.prog 139 0=some (0,9):=by kernel_rfl
@[go_sem] theorem zWd:zq Tryz.prog 139 1=some (1,9):=by kernel_rfl
@[go_sem] theorem zWe:zq Tryz.prog 139 2=some (2,137):=by kernel_rfl
@[go_sem] theorem zCi:szT Tryz.prog 143=5:=by kernel_rfl
@[go_sem] theorem zfV:agT Tryz.prog 143=some true:=by kernel_rfl
@[go_sem] theorem zRd:qS Tryz.prog 143=some (.agg [(.str []),(.int .i64 0),(.int .i64 0),(.int .i64 0), .nilsl]):=by kernel_rfl
@[go_sem] theorem zUg:zGM Tryz.prog 143=true:=by kernel_rfl
@[go_sem] theorem zPy:yY Tryz.prog 143=64:=by kernel_rfl
@[go_sem] theorem zWf:zq Tryz.prog 143 0=some (0,9):=by kernel_rfl
@[go_sem] theorem zWg:zq Tryz.prog 143 1=some (1,3):=by kernel_rfl
@[go_sem] theorem zWh:zq Tryz.prog 143 2=some (2,3):=by kernel_rfl
@[go_sem] theorem zWi:zq Tryz.prog 143 3=some (3,3):=by kernel_rfl
@[go_sem] theorem zWj:zq Tryz.prog 143 4=some (4,31):=by kernel_rfl
@[go_sem] theorem zKF:szT Tryz.prog 147=2:=by kernel_rfl
@[go_sem] theorem zfW:agT Tryz.prog 147=some true:=by kernel_rfl
@[go_sem] theorem zcD:qS Tryz.prog 147=some (.agg [(.str []),(.str [])]):=by kernel_rfl
@[go_sem] theorem zWk:zq Tryz.prog 147 0=some (0,9):=by kernel_rfl
@[go_sem] theorem zWl:zq Tryz.prog 147 1=some (1,9):=by kernel_rfl
@[go_sem] theorem zHL:yr Tryz.prog 149=some 30:=by kernel_rfl
@[go_sem] theorem zYy:zAf Tryz.prog 149=true:=by kernel_rfl
@[go_sem] theorem we:szT Tryz.prog 168=1:=by kernel_rfl
@[go_sem] theorem zfX:agT Tryz.prog 168=some false:=by kernel_rfl
@[go_sem] theorem zLa:qS Tryz.prog 168=some .nilsl:=by kernel_rfl
@[go_sem] theorem yo:yr Tryz.prog 168=some 51:=by kernel_rfl
@[go_sem] theorem zYz:zAf Tryz.prog 168=true:=by kernel_rfl
@[go_sem] theorem zES:zGM Tryz.prog 168=true:=by kernel_rfl
@[go_sem] theorem zBr:yY Tryz.prog 168=24:=by kernel_rfl
@[go_sem] theorem zET:zKx Tryz.prog 168=none:=by kernel_rfl
@[go_sem] theorem zLb:yr Tryz.prog 182=some 31:=by kernel_rfl
@[go_sem] theorem zRe:szT Tryz.prog 288=8:=by kernel_rfl
@[go_sem] theorem zfY:agT Tryz.prog 288=some true:=by kernel_rfl
@[go_sem] theorem zBs:qS Tryz.prog 288=some (.agg [(.bool false),(.bool false),(.bool false),(.bool false),(.bool false),(.bool false),(.bool false),(.bool false)]):=by kernel_rfl
@[go_sem] theorem zAM:zDd Tryz.prog 288=some [(0,1),(1,1),(2,1),(3,1),(4,1),(5,1),(6,1),(7,1)]:=by kernel_rfl
@[go_sem] theorem zWm:zq Tryz.prog 288 0=some (0,4):=by kernel_rfl
@[go_sem] theorem zWn:zq Tryz.prog 288 1=some (1,4):=by kernel_rfl
@[go_sem] theorem zWo:zq Tryz.prog 288 2=some (2,4):=by kernel_rfl
@[go_sem] theorem zWp:zq Tryz.prog 288 3=some (3,4):=by kernel_rfl
@[go_sem] theorem zWq:zq Tryz.prog 288 4=some (4,4):=by kernel_rfl
@[go_sem] theorem zWr:zq Tryz.prog 288 5=some (5,4):=by kernel_rfl
@[go_sem] theorem zWs:zq Tryz.prog 288 6=some (6,4):=by kernel_rfl
@[go_sem] theorem zWt:zq Tryz.prog 288 7=some (7,4):=by kernel_rfl
@[go_sem] theorem zY0:szT Tryz.prog 313=1:=by kernel_rfl
@[go_sem] theorem zfZ:agT Tryz.prog 313=some false:=by kernel_rfl
@[go_sem] theorem zcE:qS Tryz.prog 313=some .nilfn:=by kernel_rfl
@[go_sem] theorem zY1:szT Tryz.prog 391=4:=by kernel_rfl
end Go.V
