/- A machine of abstract values for programs of the model, and its soundness, part 6. No condition. -/
import Derived.Test.YtmhkjfajejaniaaGreatDoorW03
import Derived.KernelRfl
import Derived.Test.YtmhkjfajejaniaaGreatDoorProg
set_option linter.unusedSimpArgs false
set_option linter.unusedVariables false
set_option linter.constructorNameAsVariable false
set_option linter.deprecated false
namespace Go.V
def onS (o:Option D) (k:D→Prop):Prop:=
 match o with
 |some d=>k d
 |none=>False
def onR (o:VR) (k:D→Heap→Prop):Prop:=
 match o with
 |some (d,h)=>k d h
 |none=>False
def onH (o:Option Heap) (k:Heap→Prop):Prop:=
 match o with
 |some h=>k h
 |none=>False
@[congr] theorem zbw {o o':Option D} {k:D→Prop} (h:o=o'):onS o k=onS o' k:=by rw[h]
@[congr] theorem zbx {o o':VR} {k:D→Heap→Prop} (h:o=o'):onR o k=onR o' k:=by rw[h]
@[congr] theorem zby {o o':Option Heap} {k:Heap→Prop} (h:o=o'):onH o k=onH o' k:=by rw[h]
@[congr] theorem zYQ {P:Program} {f:FuncId} {args args':List D} {h h':Heap} {K:D→Heap→Prop} (ha:args=args') (hh:h=h'):zA P f args h K=zA P f args' h' K:=by rw[ha,hh]
@[congr] theorem zW8 {P:Program} {id:Nat} {args args':List D} {h h':Heap} {K:D→Heap→Prop} (ha:args=args') (hh:h=h'):yW P id args h K=yW P id args' h' K:=by rw[ha,hh]
@[congr] theorem zas {P:Program} {f f':D} {args args':List D} {h h':Heap} {K:D→Heap→Prop} (hf:f=f') (ha:args=args') (hh:h=h'):zF9 P f args h K=zF9 P f' args' h' K:=by rw[hf,ha,hh]
@[go_sem ↓] theorem ze8 (d:D) (k:D→Prop):onS (some d) k=k d:=(rfl)
@[go_sem ↓] theorem zGY (d:D) (h:Heap) (k:D→Heap→Prop):onR (some (d,h)) k=k d h:=(rfl)
@[go_sem ↓] theorem ze9 (h:Heap) (k:Heap→Prop):onH (some h) k=k h:=(rfl)
section rules
variable {P:Program} {g:Cfg} {n:Nat} {ro:Option Nat} {mu:Tmp→Bool} {ops:Array Oper} {rest:List Oper} {K:Frm→Heap→Prop} {fr:Frm} {h:Heap} {dst:Option Tmp} {ty:TypeId} {pos:String} {after:Array Edge} {gd:Option (Nat×Bool)} {Q:Exit→Frm→Heap→Prop}
 {m:Bool} {nid:Nat} {k:D→Heap→Prop}
@[go_sem ↓] theorem zKH (a b:Code):vwp P g n ro (.seq a b) Q fr h=vwp P g n ro a (zDs (vwp P g n ro b Q) Q) fr h:=(rfl)
@[go_sem ↓] theorem zat (id:Nat) (l:List Oper):vwp P g n ro (.region id l.toArray false) Q fr h=zIK P g.mu l.toArray l (Q .normal) fr h:=(rfl)
theorem zOo (id:Nat) (ops:Array Oper):vwp P g n ro (.region id ops true) Q fr h= ∃h0,HLe h0 h∧zDe P g.mu h0 (zUh P g.mu ops (g.dr id) (zGA ops.toList 0 [])) ops ((g.dr id).any (·.2.isSt)) (g.dr id) (Q .normal) fr h:=(rfl)
@[go_sem ↓] theorem zfA:vwp P g n ro .skip Q fr h=Q .normal fr h:=(rfl)
@[go_sem ↓] theorem zgB:vwp P g n ro .ret Q fr h=Q .ret fr h:=(rfl)
@[go_sem ↓] theorem zfB (i:Nat):vwp P g n ro (.exit i) Q fr h=Q (.exit i) fr h:=(rfl)
@[go_sem ↓] theorem zbz (id:Nat) (c:Code):vwp P g n ro (.block id c) Q fr h=vwp P g n ro c (zEN id Q) fr h:=(rfl)
def onB (d:D) (x y:Prop):Prop:=
 match d with
 | .bool b=>match b with
  |true=>x
  |false=>y
 |_=>False
@[go_sem ↓] theorem zfC (c:Operand) (a b:Code):vwp P g n ro (.cond c a b) Q fr h=onB (zx fr c) (vwp P g n ro a Q fr h) (vwp P g n ro b Q fr h):=by
 simp only[vwp];rfl
@[congr] theorem zb0 {d d':D} {x y:Prop} (h:d=d'):onB d x y=onB d' x y:=by rw[h]
@[go_sem ↓] theorem zfD (x y:Prop):onB (.bool true) x y=x:=(rfl)
@[go_sem ↓] theorem zb1 (x y:Prop):onB (.bool false) x y=y:=(rfl)
@[go_sem ↓] theorem zW9 (Kn:Frm→Heap→Prop):zDs Kn Q .normal fr h=Kn fr h:=(rfl)
@[go_sem ↓] theorem zb2 (Kn:Frm→Heap→Prop):zDs Kn Q .ret fr h=Q .ret fr h:=(rfl)
@[go_sem ↓] theorem zau (Kn:Frm→Heap→Prop) (i:Nat):zDs Kn Q (.exit i) fr h=Q (.exit i) fr h:=(rfl)
@[go_sem ↓] theorem zU8 (i:Nat):zEN i Q .normal fr h=Q .normal fr h:=(rfl)
@[go_sem ↓] theorem zav (i:Nat):zEN i Q .ret fr h=Q .ret fr h:=(rfl)
@[go_sem ↓] theorem zYR (i j:Nat):zEN i Q (.exit j) fr h=if j=i then Q .normal fr h else Q (.exit j) fr h:=(rfl)
@[go_sem ↓] theorem zfE:zIK P mu ops [] K fr h=K fr h:=(rfl)
@[go_sem ↓] theorem zaw (op:Op):zIK P mu ops (⟨dst,op,ty,pos,after,none⟩ ::rest) K fr h=qr P (zFm mu dst) h.next op (zx fr) h fun d h'=>zIK P mu ops rest K (zAb fr dst d) h':=(rfl)
def gif (g:Bool) (x y:Prop):Prop:=
 match g with
 |true=>x
 |false=>y
@[congr] theorem zb3 {g g':Bool} {x y:Prop} (h:g=g'):gif g x y=gif g' x y:=by rw[h]
@[go_sem ↓] theorem zfF (x y:Prop):gif true x y=x:=(rfl)
@[go_sem ↓] theorem zb4 (x y:Prop):gif false x y=y:=(rfl)
@[go_sem ↓] theorem zax (op:Op) (j:Nat) (b:Bool):zIK P mu ops (⟨dst,op,ty,pos,after,some (j,b)⟩ ::rest) K fr h =
  gif (yz ops fr (some (j,b))) (qr P (zFm mu dst) h.next op (zx fr) h fun d h'=>zIK P mu ops rest K (zAb fr dst d) h') (zIK P mu ops rest K (zAb fr dst qy) h):=by
 simp only[zIK,gif]
 cases yz ops fr (some (j,b))<;>rfl
@[go_sem ↓] theorem zfG (t:Tmp):zx fr (.tmp t)=fr t:=(rfl)
@[go_sem ↓] theorem zfH (k:IntKind) (n:Int):zx fr (.const (.int k n))= .int k n:=(rfl)
@[go_sem ↓] theorem zb5 (b:Bool):zx fr (.const (.bool b))= .bool b:=(rfl)
@[go_sem ↓] theorem zb6 (f:Nat):zx fr (.func f)= .fn (.func f) [] []:=(rfl)
@[go_sem ↓] theorem zfI (s:ByteArray):zx fr (.const (.string s))= .str s.data.toList:=(rfl)
@[go_sem ↓] theorem zYS:zx fr (.const (.pointer none))= .nilptr:=(rfl)
@[go_sem ↓] theorem zay:zx fr (.const (.slice none 0 0))= .nilsl:=(rfl)
@[go_sem ↓] theorem zYT:zx fr (.const (.map none))= .nilmap:=(rfl)
@[go_sem ↓] theorem zaz:zx fr (.const .nilFunc)= .nilfn:=(rfl)
@[go_sem ↓] theorem zb7 (t i:Tmp) (d:D):zAb fr (some t) d i=if i=t then d else fr i:=(rfl)
@[go_sem ↓] theorem zb8 (d:D):zAb fr none d=fr:=(rfl)
@[go_sem ↓] theorem ziW (x:Operand):qr P m nid (.move x) (zx fr) h k=k (zx fr x) h:=(rfl)
@[go_sem ↓] theorem zfJ (x:Operand):qr P m nid (.assign x) (zx fr) h k=k (zx fr x) h:=(rfl)
@[go_sem ↓] theorem ziX (f:Operand) (args:List Operand) (ats:Array TypeId):qr P m nid (.call ⟨.value f,args.toArray,ats⟩) (zx fr) h k=zF9 P (zx fr f) (args.map (zx fr)) h k:=(rfl)
@[go_sem ↓] theorem zYU (f:FuncId) (a c args:List D):zF9 P (.fn (.func f) a c) args h k=zA P f (a++args++c) h k:=(rfl)
@[go_sem ↓] theorem zfK (id:Nat) (args:List D):zF9 P (.yld id) args h k=yW P id args h k:=(rfl)
theorem zAj {op:Op} {ev:Operand→D} {o:Option D} (h1:qE op=none) (h2:vop P m nid op ev h=o.map (·,h)):qr P m nid op ev h k=onS o (k · h):=by
 unfold qr
 rw[h1,h2]
 cases o<;>rfl
theorem zR6 {op:Op} {ev:Operand→D} {o:Option Heap} (h1:qE op=none) (h2:vop P m nid op ev h=o.map (qy,·)):qr P m nid op ev h k=onH o (k qy ·):=by
 unfold qr
 rw[h1,h2]
 cases o<;>rfl
theorem zHH {op:Op} {ev:Operand→D} {o:VR} (h1:qE op=none) (h2:vop P m nid op ev h=o):qr P m nid op ev h k=onR o k:=by
 unfold qr
 rw[h1,h2]
 cases o<;>rfl
@[go_sem ↓] theorem zj0 (op:BinOp) (t u:TypeId) (x y:Operand):qr P m nid (.binOp op t x y u) (zx fr) h k=onS (zCf P op t (isC x||isC y) (zx fr x) (zx fr y)) (k · h):=zAj rfl rfl
@[go_sem ↓] theorem zky (op:UnOp) (t:TypeId) (x:Operand):qr P m nid (.unOp op t x) (zx fr) h k=onS (vun op (zx fr x)) (k · h):=zAj rfl rfl
@[go_sem ↓] theorem ziY (c x y:Operand):qr P m nid (.pick c x y) (zx fr) h k=onB (zx fr c) (k (zx fr x) h) (k (zx fr y) h):=by
 simp only[qr,qE,vop,onB]
 cases zx fr c with
 |bool b=>cases b<;>rfl
 |_=>rfl
@[go_sem ↓] theorem zgC (t:TypeId):qr P m nid (.alloc t) (zx fr) h k=onR (vop P m nid (.alloc t) (zx fr) h) k:=zHH rfl rfl
@[go_sem ↓] theorem zj1 (t:TypeId) (x:Operand):qr P m nid (.box t x) (zx fr) h k=onR (vop P m nid (.box t x) (zx fr) h) k:=zHH rfl rfl
@[go_sem ↓] theorem zgD (t:TypeId) (ps:List (Nat×Operand)):qr P m nid (.build t ps.toArray) (zx fr) h k=onS (yC P t (ps.map fun p=>(p.1,zx fr p.2))) (k · h):=zAj rfl rfl
@[go_sem ↓] theorem zXA (t:TypeId) (n:Nat) (ps:List (Nat×Operand)):qr P m nid (.buildSlice t n ps.toArray) (zx fr) h k=onR (zM P m nid t n (ps.map fun p=>(p.1,zx fr p.2)) h) k:=zHH rfl rfl
@[go_sem ↓] theorem ziZ (t:TypeId) (x:Operand):qr P m nid (.load t x) (zx fr) h k=onS (zAl P t (zx fr x) h) (k · h):=zAj rfl rfl
@[go_sem ↓] theorem zgE (t:TypeId) (x y:Operand):qr P m nid (.store t x y) (zx fr) h k=onH (zS P t (zx fr x) (zx fr y) h) (k qy ·):=zR6 rfl rfl
@[go_sem ↓] theorem za0 (x:Operand):qr P m nid (.nilCheck x) (zx fr) h k=onS (zU (zx fr x)) (k · h):=zAj rfl rfl
@[go_sem ↓] theorem zb9 (s t:TypeId) (x:Operand):qr P m nid (.convert s t x) (zx fr) h k=onS (zEC P s t (zx fr x) h) (k · h):=zAj rfl rfl
@[go_sem ↓] theorem za1 (P:Program) (s t:TypeId) (k:IntKind) (n:Int) (h:Heap):zEC P s t (.int k n) h=wU P s t (.int k n):=(rfl)
@[go_sem ↓] theorem za2 (P:Program) (s t:TypeId) (x:List UInt8) (h:Heap):zEC P s t (.str x) h=wU P s t (.str x):=(rfl)
@[go_sem ↓] theorem za3 (f:FuncId) (a c:List Operand):qr P m nid (.makeFunc (.func f) a.toArray c.toArray) (zx fr) h k=k (.fn (.func f) (a.map (zx fr)) (c.map (zx fr))) h:=(rfl)
@[go_sem ↓] theorem zcA (t:TypeId):qr P m nid (.makeMap t none) (zx fr) h k=k (.map nid) (h.new nid (.map [])):=(rfl)
@[go_sem ↓] theorem zYV (t:TypeId) (x y:Operand):qr P m nid (.makeSlice t x y) (zx fr) h k=onR (qV P m nid t (zx fr x) (zx fr y) h) k:=zHH rfl rfl
@[go_sem ↓] theorem zgF (t:TypeId) (x:Operand) (lo hi mx:Option Operand):qr P m nid (.slice t x lo hi mx) (zx fr) h k=onS (yP P t (zx fr x) (lo.map (zx fr)) (hi.map (zx fr)) (mx.map (zx fr)) h) (k · h):=zAj rfl rfl
@[go_sem ↓] theorem zYW (t:TypeId) (x:Operand) (f:Nat):qr P m nid (.fieldAddr t x f) (zx fr) h k=onS (zAu P t (zx fr x) f) (k · h):=zAj rfl rfl
@[go_sem ↓] theorem zYX (t:TypeId) (x i:Operand):qr P m nid (.indexAddr t x i) (zx fr) h k=onS (zT P t (zx fr x) (zx fr i)) (k · h):=zAj rfl rfl
@[go_sem ↓] theorem zgG (t:TypeId) (x i:Operand):qr P m nid (.index t x i) (zx fr) h k=onS (zBM P t (zx fr x) (zx fr i)) (k · h):=zAj rfl rfl
@[go_sem ↓] theorem zfL (t:TypeId) (x y:Operand) (ok:Bool):qr P m nid (.lookup t x y ok) (zx fr) h k=onS (yQ P t (zx fr x) (zx fr y) ok h) (k · h):=zAj rfl rfl
@[go_sem ↓] theorem zYY (t:TypeId) (x y z:Operand):qr P m nid (.mapUpdate t x y z) (zx fr) h k=onH (yJ P t (zx fr x) (zx fr y) (zx fr z) h) (k qy ·):=zR6 rfl rfl
@[go_sem ↓] theorem zgH (t:TypeId) (x:Operand):qr P m nid (.range t x) (zx fr) h k=onR (zFg P nid t (zx fr x) h) k:=zHH rfl rfl
@[go_sem ↓] theorem zia (x:Operand) (b:Bool):qr P m nid (.next x b) (zx fr) h k=onR (zIO (zx fr x) b h) k:=zHH rfl rfl
@[go_sem ↓] theorem zcB (x:Operand) (i:Nat):qr P m nid (.extract x i) (zx fr) h k=onS (zBN (zx fr x) i) (k · h):=zAj rfl rfl
@[go_sem ↓] theorem zj2 (t:TypeId) (x:Operand):qr P m nid (.call ⟨.builtin .len,#[x],#[t]⟩) (zx fr) h k=onS (zBy P t (zx fr x) h) (k · h):=zAj rfl rfl
@[go_sem ↓] theorem zfM (t u:TypeId) (x y:Operand):qr P m nid (.call ⟨.builtin .append,#[x,y],#[t,u]⟩) (zx fr) h k=onR (if zAd P u then zAm P m nid t (zx fr x) (zx fr y) h else zAn P m nid t u (zx fr x) (zx fr y) h) k:=zHH rfl rfl
@[go_sem ↓] theorem za4 (t:TypeId) (s x:D):zAm P false nid t s x h=z7 P false nid t s x h:=(rfl)
@[go_sem ↓] theorem za5 (t:TypeId) (s x:D):zAm P true nid t s x h=z7 P true nid t s x (qg s x h):=(rfl)
@[go_sem ↓] theorem za6 (sz:Nat) (xs:List (List D)) (tk:Tk) (x:D):qg (.sl sz xs tk) x h=h:=(rfl)
@[go_sem ↓] theorem zj3 (ats:Array TypeId) (x y:Operand):qr P m nid (.call ⟨.builtin .min,#[x,y],ats⟩) (zx fr) h k=onS (zRN (zx fr x) (zx fr y)) (k · h):=zAj rfl rfl
@[go_sem ↓] theorem zj4 (x y:Operand) (ats:Array TypeId):qr P m nid (.call ⟨.builtin .max,#[x,y],ats⟩) (zx fr) h k=onS (zUs (zx fr x) (zx fr y)) (k · h):=by
 refine zAj rfl ?_
 simp only[vop,zAo,zM9,List.map_cons,List.map_nil]
 cases zUs (zx fr x) (zx fr y)<;>rfl
@[go_sem ↓] theorem za7 (d:D) (ds:List D):zJ4 (d::ds) 0=d:=(rfl)
@[go_sem ↓] theorem za8 (d:D) (ds:List D) (i:Nat):zJ4 (d::ds) (i+1)=zJ4 ds i:=(rfl)
def onL (o:Option (List D)) (k:List D→Prop):Prop:=
 match o with
 |some ds=>k ds
 |none=>False
@[go_sem ↓] theorem zfN (rs:List ResultVar) (q:D→Heap→Prop):zW4 P rs q .ret fr h=onL (zA7 P fr h rs) fun ds=>q (zE8 ds) h:=by
 unfold zW4 onL
 cases zA7 P fr h rs<;>simp
@[go_sem ↓] theorem zYZ (rs:List ResultVar) (q:D→Heap→Prop):zW4 P rs q .normal fr h=onL (zA7 P fr h rs) fun ds=>q (zE8 ds) h:=by
 unfold zW4 onL
 cases zA7 P fr h rs<;>simp
@[go_sem ↓] theorem zcC (k:List D→Prop):onL (zA7 P fr h []) k=k []:=(rfl)
@[go_sem ↓] theorem zcD (t:Tmp) (rs:List ResultVar) (k:List D→Prop):onL (zA7 P fr h (.tmp t::rs)) k=onL (zA7 P fr h rs) fun ds=>k (fr t::ds):=by
 simp only[zA7,zRs]
 cases zA7 P fr h rs<;>rfl
@[go_sem ↓] theorem za9 (a:Tmp) (t:TypeId) (rs:List ResultVar) (k:List D→Prop):onL (zA7 P fr h (.cell a t::rs)) k=onS (zAl P t (fr a) h) fun d=>onL (zA7 P fr h rs) fun ds=>k (d::ds):=by
 simp only[zA7,zRs]
 cases zAl P t (fr a) h with
 |none=>rfl
 |some d=>cases zA7 P fr h rs<;>rfl
@[go_sem ↓] theorem zcE (d:D):zE8 [d]=d:=(rfl)
@[go_sem ↓] theorem zcF (d d':D) (ds:List D):zE8 (d::d'::ds)= .tuple (d::d'::ds):=(rfl)
@[go_sem ↓] theorem zcG:zE8 []= .tuple []:=(rfl)
end rules
def zY (sz:Nat) (xs:List (List D)) (d:D):Prop:=(d= .nilsl∧xs= [])∨∃tk,d= .sl sz xs tk
section
variable {P:Program} {sz:Nat} {xs:List (List D)} {d:D} {t e:TypeId} {h:Heap}
theorem zY.mk (tk:Tk):zY sz xs (.sl sz xs tk):= .inr ⟨tk,rfl⟩
theorem zY.nil:zY sz [] .nilsl:= .inl ⟨rfl,rfl⟩
theorem yh (hd:zY sz xs d) (hu:P.underlying t=some (.slice e)):zBy P t d h=some (.int .i64 xs.length):=by
 rcases hd with⟨rfl,rfl⟩ | ⟨tk,rfl⟩ <;>simp[zBy,hu]
theorem zW (hd:zY sz xs d) (he:yy P t=some e) (hz:szT P e=sz) {k:IntKind} {i:Nat} {x:List D} (hx:xs[i]? =some x):zT P t d (.int k i)=some (.iptr x 0):=by
 rcases hd with⟨rfl,rfl⟩ | ⟨tk,rfl⟩
 ·simp at hx
 ·simp[zT,he,hz,hx]
end
@[go_sem ↓] theorem zfO (P:Program) (op:BinOp) (t:TypeId) (c:Bool) (k k':IntKind) (a b:Int):zCf P op t c (.int k a) (.int k' b)=wo op k k' a b:=(rfl)
@[go_sem ↓] theorem zfP (P:Program) (op:BinOp) (t:TypeId) (c:Bool) (a b:List UInt8):zCf P op t c (.str a) (.str b)=zUg op a b:=(rfl)
@[go_sem ↓] theorem zcH (k:IntKind) (a b:Int):wo .add k k a b=some (.int k (k.wrap (a+b))):=by simp[wo,zLE]
@[go_sem ↓] theorem zcI (k:IntKind) (a b:Int):wo .sub k k a b=some (.int k (k.wrap (a-b))):=by simp[wo,zLE]
@[go_sem ↓] theorem zcJ (k:IntKind) (a b:Int):wo .mul k k a b=some (.int k (k.wrap (a*b))):=by simp[wo,zLE]
@[go_sem ↓] theorem zcK (k:IntKind) (a b:Int):wo .lss k k a b=some (.bool (decide (a<b))):=by simp[wo,zLE]
@[go_sem ↓] theorem zcL (k:IntKind) (a b:Int):wo .leq k k a b=some (.bool (decide (a≤b))):=by simp[wo,zLE]
@[go_sem ↓] theorem zcM (k:IntKind) (a b:Int):wo .gtr k k a b=some (.bool (decide (a>b))):=by simp[wo,zLE]
@[go_sem ↓] theorem zcN (k:IntKind) (a b:Int):wo .geq k k a b=some (.bool (decide (a≥b))):=by simp[wo,zLE]
@[go_sem ↓] theorem zcO (k:IntKind) (a b:Int):wo .eql k k a b=some (.bool (a==b)):=by simp[wo,zLE]
@[go_sem ↓] theorem zcP (k:IntKind) (a b:Int):wo .neq k k a b=some (.bool (a !=b)):=by simp[wo,zLE]
@[go_sem ↓] theorem zfQ (a b:List UInt8):zUg .eql a b=some (.bool (a==b)):=(rfl)
@[go_sem ↓] theorem zfR (a b:List UInt8):zUg .neq a b=some (.bool (!(a==b))):=(rfl)
@[go_sem ↓] theorem zfS (a b:List UInt8):zUg .lss a b=some (.bool (zIJ a b)):=(rfl)
@[go_sem ↓] theorem zbA (P:Program) (t:TypeId) (cs:List D) (off:Nat) (h:Heap):zAl P t (.iptr cs off) h=(match agT P t with
 |none=>none
 |some ag=>zQ ag (szT P t) cs off):=(rfl)
@[go_sem ↓] theorem zBC (n:Nat) (cs:List D) (off:Nat):zQ false n cs off=cs[off]? :=(rfl)
theorem zOp {P:Program} {g:Cfg} {n:Nat} {ro:Option Nat} {c:Code} {Q:Exit→Frm→Heap→Prop} {fr:Frm} {h:Heap} (I:Nat→Frm→Heap→Prop) (k:Nat) (hI:I k fr h)
  (hr:∀k fr h,I k fr h→vwp P g n ro c (zDs (fun fr h=>∃m,m<k∧I m fr h) Q) fr h):vwp P g n ro (.loop c) Q fr h:=⟨I,⟨k,hI⟩,hr⟩
open Go.Proofs
@[go_sem] theorem wK:szT Tryz.prog 3=1:=by kernel_rfl
@[go_sem] theorem zj5:agT Tryz.prog 3=some false:=by kernel_rfl
@[go_sem] theorem zAK:qI Tryz.prog 3=some (.int .i64 0):=by kernel_rfl
@[go_sem] theorem zcQ:zAd Tryz.prog 3=false:=by kernel_rfl
@[go_sem] theorem zR7:zGp Tryz.prog 3=true:=by kernel_rfl
@[go_sem] theorem zGZ:yN Tryz.prog 3=8:=by kernel_rfl
@[go_sem] theorem zXB:zOU Tryz.prog 3=some (false,[.i]):=by kernel_rfl
@[go_sem] theorem zcR:szT Tryz.prog 4=1:=by kernel_rfl
@[go_sem] theorem zj6:agT Tryz.prog 4=some false:=by kernel_rfl
@[go_sem] theorem zgI:qI Tryz.prog 4=some (.bool false):=by kernel_rfl
@[go_sem] theorem zgJ:szT Tryz.prog 5=1:=by kernel_rfl
@[go_sem] theorem zj7:agT Tryz.prog 5=some false:=by kernel_rfl
@[go_sem] theorem zBL:szT Tryz.prog 9=1:=by kernel_rfl
@[go_sem] theorem zj8:agT Tryz.prog 9=some false:=by kernel_rfl
@[go_sem] theorem zHI:qI Tryz.prog 9=some (.str []):=by kernel_rfl
@[go_sem] theorem zJA:zGp Tryz.prog 9=true:=by kernel_rfl
@[go_sem] theorem zB8:yN Tryz.prog 9=16:=by kernel_rfl
@[go_sem] theorem zOq:zIl Tryz.prog 9=none:=by kernel_rfl
@[go_sem] theorem zLl:zOU Tryz.prog 9=some (false,[.s]):=by kernel_rfl
@[go_sem] theorem zib:szT Tryz.prog 22=1:=by kernel_rfl
@[go_sem] theorem zic:agT Tryz.prog 22=some false:=by kernel_rfl
@[go_sem] theorem zEX:yy Tryz.prog 22=some 124:=by kernel_rfl
@[go_sem] theorem zbB:zAd Tryz.prog 22=true:=by kernel_rfl
@[go_sem] theorem zYa:zIl Tryz.prog 22=none:=by kernel_rfl
@[go_sem] theorem zid:szT Tryz.prog 23=1:=by kernel_rfl
@[go_sem] theorem zie:agT Tryz.prog 23=some false:=by kernel_rfl
@[go_sem] theorem zU9:yy Tryz.prog 23=some 129:=by kernel_rfl
@[go_sem] theorem zif:szT Tryz.prog 24=1:=by kernel_rfl
@[go_sem] theorem zig:agT Tryz.prog 24=some false:=by kernel_rfl
@[go_sem] theorem zKI:yy Tryz.prog 24=some 92:=by kernel_rfl
@[go_sem] theorem zbC:zAd Tryz.prog 24=true:=by kernel_rfl
@[go_sem] theorem zih:szT Tryz.prog 25=1:=by kernel_rfl
@[go_sem] theorem zii:agT Tryz.prog 25=some false:=by kernel_rfl
@[go_sem] theorem zVA:yy Tryz.prog 25=some 135:=by kernel_rfl
@[go_sem] theorem zij:szT Tryz.prog 27=4:=by kernel_rfl
@[go_sem] theorem zcS:agT Tryz.prog 27=some true:=by kernel_rfl
@[go_sem] theorem zYb:zm Tryz.prog 27 0=some (0,22):=by kernel_rfl
@[go_sem] theorem zYc:zm Tryz.prog 27 1=some (1,23):=by kernel_rfl
@[go_sem] theorem zYd:zm Tryz.prog 27 2=some (2,24):=by kernel_rfl
@[go_sem] theorem zYe:zm Tryz.prog 27 3=some (3,25):=by kernel_rfl
@[go_sem] theorem zik:szT Tryz.prog 29=1:=by kernel_rfl
@[go_sem] theorem zcT:agT Tryz.prog 29=some false:=by kernel_rfl
@[go_sem] theorem zVB:yy Tryz.prog 29=some 87:=by kernel_rfl
@[go_sem] theorem zcU:agT Tryz.prog 30=some false:=by kernel_rfl
@[go_sem] theorem zil:szT Tryz.prog 31=1:=by kernel_rfl
@[go_sem] theorem zim:agT Tryz.prog 31=some false:=by kernel_rfl
@[go_sem] theorem yE:yy Tryz.prog 31=some 3:=by kernel_rfl
@[go_sem] theorem zbD:zAd Tryz.prog 31=true:=by kernel_rfl
@[go_sem] theorem zNX:zIl Tryz.prog 31=none:=by kernel_rfl
@[go_sem] theorem qt:szT Tryz.prog 33=2:=by kernel_rfl
@[go_sem] theorem zcV:agT Tryz.prog 33=some true:=by kernel_rfl
@[go_sem] theorem zDL:qI Tryz.prog 33=some (.agg [(.int .i64 0), .nilsl]):=by kernel_rfl
@[go_sem] theorem zR8:zGp Tryz.prog 33=true:=by kernel_rfl
@[go_sem] theorem zLm:yN Tryz.prog 33=32:=by kernel_rfl
@[go_sem] theorem zFH:zAc Tryz.prog 33=some [(0,1),(1,1)]:=by kernel_rfl
@[go_sem] theorem zYf:zm Tryz.prog 33 0=some (0,3):=by kernel_rfl
@[go_sem] theorem zYg:zm Tryz.prog 33 1=some (1,31):=by kernel_rfl
@[go_sem] theorem zJB:szT Tryz.prog 36=1:=by kernel_rfl
@[go_sem] theorem zin:agT Tryz.prog 36=some false:=by kernel_rfl
@[go_sem] theorem zfT:qI Tryz.prog 36=some (.int .i64 0):=by kernel_rfl
@[go_sem] theorem zLn:szT Tryz.prog 39=1:=by kernel_rfl
@[go_sem] theorem zio:agT Tryz.prog 39=some false:=by kernel_rfl
@[go_sem] theorem zVC:qI Tryz.prog 39=some .nilsl:=by kernel_rfl
@[go_sem] theorem wX:yy Tryz.prog 39=some 62:=by kernel_rfl
@[go_sem] theorem zbE:zAd Tryz.prog 39=true:=by kernel_rfl
@[go_sem] theorem zYh:zGp Tryz.prog 39=true:=by kernel_rfl
@[go_sem] theorem zR9:yN Tryz.prog 39=24:=by kernel_rfl
@[go_sem] theorem zXC:szT Tryz.prog 40=1:=by kernel_rfl
@[go_sem] theorem ziq:agT Tryz.prog 40=some false:=by kernel_rfl
@[go_sem] theorem qL:yy Tryz.prog 40=some 9:=by kernel_rfl
@[go_sem] theorem zbF:zAd Tryz.prog 40=true:=by kernel_rfl
@[go_sem] theorem zYi:zIl Tryz.prog 40=none:=by kernel_rfl
@[go_sem] theorem zOr:szT Tryz.prog 42=2:=by kernel_rfl
@[go_sem] theorem zir:agT Tryz.prog 42=some true:=by kernel_rfl
@[go_sem] theorem zVD:qI Tryz.prog 42=some (.agg [.nilsl, .nilsl]):=by kernel_rfl
@[go_sem] theorem zQa:zAc Tryz.prog 42=some [(0,1),(1,1)]:=by kernel_rfl
@[go_sem] theorem zYj:zm Tryz.prog 42 0=some (0,39):=by kernel_rfl
@[go_sem] theorem zYk:zm Tryz.prog 42 1=some (1,40):=by kernel_rfl
@[go_sem] theorem zXD:szT Tryz.prog 45=1:=by kernel_rfl
@[go_sem] theorem zis:agT Tryz.prog 45=some false:=by kernel_rfl
@[go_sem] theorem zfU:qI Tryz.prog 45=some .nilsl:=by kernel_rfl
@[go_sem] theorem qU:yy Tryz.prog 45=some 33:=by kernel_rfl
@[go_sem] theorem zbG:zAd Tryz.prog 45=true:=by kernel_rfl
@[go_sem] theorem zKJ:zIl Tryz.prog 45=none:=by kernel_rfl
@[go_sem] theorem zBQ:szT Tryz.prog 62=1:=by kernel_rfl
@[go_sem] theorem zit:agT Tryz.prog 62=some false:=by kernel_rfl
@[go_sem] theorem zKK:qI Tryz.prog 62=some .nilsl:=by kernel_rfl
@[go_sem] theorem yq:yy Tryz.prog 62=some 79:=by kernel_rfl
@[go_sem] theorem zbH:zAd Tryz.prog 62=true:=by kernel_rfl
@[go_sem] theorem zFI:zGp Tryz.prog 62=true:=by kernel_rfl
@[go_sem] theorem zBr:yN Tryz.prog 62=24:=by kernel_rfl
@[go_sem] theorem zHJ:zIl Tryz.prog 62=none:=by kernel_rfl
@[go_sem] theorem ziu:szT Tryz.prog 65=1:=by kernel_rfl
@[go_sem] theorem ziv:agT Tryz.prog 65=some false:=by kernel_rfl
@[go_sem] theorem zKL:yy Tryz.prog 65=some 39:=by kernel_rfl
@[go_sem] theorem zbI:zAd Tryz.prog 65=true:=by kernel_rfl
@[go_sem] theorem wF:szT Tryz.prog 79=2:=by kernel_rfl
@[go_sem] theorem ziw:agT Tryz.prog 79=some true:=by kernel_rfl
@[go_sem] theorem zBR:qI Tryz.prog 79=some (.agg [(.str []),(.str [])]):=by kernel_rfl
@[go_sem] theorem zNY:zGp Tryz.prog 79=true:=by kernel_rfl
@[go_sem] theorem zEY:yN Tryz.prog 79=32:=by kernel_rfl
@[go_sem] theorem zFJ:zAc Tryz.prog 79=some [(0,1),(1,1)]:=by kernel_rfl
@[go_sem] theorem zYl:zm Tryz.prog 79 0=some (0,9):=by kernel_rfl
@[go_sem] theorem zYm:zm Tryz.prog 79 1=some (1,9):=by kernel_rfl
@[go_sem] theorem zix:szT Tryz.prog 83=1:=by kernel_rfl
@[go_sem] theorem ziy:agT Tryz.prog 83=some false:=by kernel_rfl
@[go_sem] theorem zVE:yy Tryz.prog 83=some 85:=by kernel_rfl
@[go_sem] theorem zSA:szT Tryz.prog 85=4:=by kernel_rfl
@[go_sem] theorem ziz:agT Tryz.prog 85=some true:=by kernel_rfl
@[go_sem] theorem zfV:qI Tryz.prog 85=some (.agg [(.int .i64 0),(.str []),(.str []), .nilsl]):=by kernel_rfl
@[go_sem] theorem zYn:zm Tryz.prog 85 0=some (0,3):=by kernel_rfl
@[go_sem] theorem zYo:zm Tryz.prog 85 1=some (1,9):=by kernel_rfl
@[go_sem] theorem zYp:zm Tryz.prog 85 2=some (2,9):=by kernel_rfl
@[go_sem] theorem zYq:zm Tryz.prog 85 3=some (3,83):=by kernel_rfl
@[go_sem] theorem zSB:szT Tryz.prog 87=12:=by kernel_rfl
@[go_sem] theorem zi0:agT Tryz.prog 87=some true:=by kernel_rfl
@[go_sem] theorem zfW:qI Tryz.prog 87=some (.agg [(.int .i64 0),(.str []),(.str []),(.int .i64 0),(.int .i64 0),(.int .i64 0),(.bool false),(.int .i64 0),(.str []),(.str []), .nilsl, .nilsl]):=by kernel_rfl
@[go_sem] theorem zYr:zm Tryz.prog 87 0=some (0,3):=by kernel_rfl
@[go_sem] theorem zYs:zm Tryz.prog 87 1=some (1,9):=by kernel_rfl
@[go_sem] theorem zYt:zm Tryz.prog 87 2=some (2,9):=by kernel_rfl
@[go_sem] theorem zYu:zm Tryz.prog 87 3=some (3,3):=by kernel_rfl
@[go_sem] theorem zYv:zm Tryz.prog 87 4=some (4,3):=by kernel_rfl
@[go_sem] theorem zYw:zm Tryz.prog 87 5=some (5,3):=by kernel_rfl
@[go_sem] theorem zYx:zm Tryz.prog 87 6=some (6,4):=by kernel_rfl
@[go_sem] theorem zYy:zm Tryz.prog 87 7=some (7,85):=by kernel_rfl
@[go_sem] theorem zYz:zm Tryz.prog 87 8=some (11,40):=by kernel_rfl
@[go_sem] theorem zi1:agT Tryz.prog 88=some false:=by kernel_rfl
@[go_sem] theorem zFt:szT Tryz.prog 92=5:=by kernel_rfl
@[go_sem] theorem zi2:agT Tryz.prog 92=some true:=by kernel_rfl
@[go_sem] theorem zVF:qI Tryz.prog 92=some (.agg [(.str []),(.int .i64 0),(.int .i64 0),(.int .i64 0), .nilsl]):=by kernel_rfl
@[go_sem] theorem zY0:zGp Tryz.prog 92=true:=by kernel_rfl
@[go_sem] theorem zSC:yN Tryz.prog 92=64:=by kernel_rfl
@[go_sem] theorem zY1:zm Tryz.prog 92 0=some (0,9):=by kernel_rfl
@[go_sem] theorem zY2:zm Tryz.prog 92 1=some (1,3):=by kernel_rfl
@[go_sem] theorem zY3:zm Tryz.prog 92 2=some (2,3):=by kernel_rfl
@[go_sem] theorem zY4:zm Tryz.prog 92 3=some (3,3):=by kernel_rfl
@[go_sem] theorem zY5:zm Tryz.prog 92 4=some (4,40):=by kernel_rfl
@[go_sem] theorem zFu:szT Tryz.prog 95=6:=by kernel_rfl
@[go_sem] theorem zXE:agT Tryz.prog 95=some true:=by kernel_rfl
@[go_sem] theorem zOs:qI Tryz.prog 95=some (.agg [.nilsl, .nilsl, .nilsl, .nilsl, .nilsl, .nilsl]):=by kernel_rfl
@[go_sem] theorem zJC:zAc Tryz.prog 95=some [(0,1),(1,1),(2,4)]:=by kernel_rfl
@[go_sem] theorem zY6:zm Tryz.prog 95 0=some (0,65):=by kernel_rfl
@[go_sem] theorem zY7:zm Tryz.prog 95 1=some (1,40):=by kernel_rfl
@[go_sem] theorem zY8:zm Tryz.prog 95 2=some (2,27):=by kernel_rfl
@[go_sem] theorem zgK:agT Tryz.prog 101=some false:=by kernel_rfl
@[go_sem] theorem zB9:szT Tryz.prog 124=4:=by kernel_rfl
@[go_sem] theorem zgL:agT Tryz.prog 124=some true:=by kernel_rfl
@[go_sem] theorem zHK:qI Tryz.prog 124=some (.agg [(.str []),(.str []),(.int .i64 0),(.str [])]):=by kernel_rfl
@[go_sem] theorem zVG:zGp Tryz.prog 124=true:=by kernel_rfl
@[go_sem] theorem zQb:yN Tryz.prog 124=56:=by kernel_rfl
@[go_sem] theorem zHL:zAc Tryz.prog 124=some [(0,1),(1,1),(2,1),(3,1)]:=by kernel_rfl
@[go_sem] theorem zXF:zm Tryz.prog 124 0=some (0,9):=by kernel_rfl
@[go_sem] theorem zXG:zm Tryz.prog 124 1=some (1,9):=by kernel_rfl
@[go_sem] theorem zXH:zm Tryz.prog 124 2=some (2,3):=by kernel_rfl
@[go_sem] theorem zXI:zm Tryz.prog 124 3=some (3,9):=by kernel_rfl
@[go_sem] theorem zHM:szT Tryz.prog 129=3:=by kernel_rfl
@[go_sem] theorem zgM:agT Tryz.prog 129=some true:=by kernel_rfl
@[go_sem] theorem zcW:qI Tryz.prog 129=some (.agg [(.str []),(.str []), .nilsl]):=by kernel_rfl
@[go_sem] theorem zXJ:zm Tryz.prog 129 0=some (0,9):=by kernel_rfl
@[go_sem] theorem zXK:zm Tryz.prog 129 1=some (1,9):=by kernel_rfl
@[go_sem] theorem zXL:zm Tryz.prog 129 2=some (2,31):=by kernel_rfl
@[go_sem] theorem zKM:szT Tryz.prog 135=2:=by kernel_rfl
@[go_sem] theorem zgN:agT Tryz.prog 135=some true:=by kernel_rfl
@[go_sem] theorem zSD:qI Tryz.prog 135=some (.agg [(.str []),(.str [])]):=by kernel_rfl
@[go_sem] theorem zNZ:zAc Tryz.prog 135=some [(0,1),(1,1)]:=by kernel_rfl
@[go_sem] theorem zXM:zm Tryz.prog 135 0=some (0,9):=by kernel_rfl
@[go_sem] theorem zXN:zm Tryz.prog 135 1=some (1,9):=by kernel_rfl
@[go_sem] theorem zgO:szT Tryz.prog 148=1:=by kernel_rfl
@[go_sem] theorem zgP:agT Tryz.prog 148=some false:=by kernel_rfl
@[go_sem] theorem zOt:zOT Tryz.prog 148=some (3,62):=by kernel_rfl
@[go_sem] theorem zgQ:szT Tryz.prog 149=1:=by kernel_rfl
@[go_sem] theorem zgR:agT Tryz.prog 149=some false:=by kernel_rfl
@[go_sem] theorem zOu:zOT Tryz.prog 149=some (9,9):=by kernel_rfl
@[go_sem] theorem zSE:qI Tryz.prog 151=some (.agg [.nilsl, .nilsl, .nilsl, .nilsl, .nilsl, .nilmap, .nilmap]):=by kernel_rfl
@[go_sem] theorem zNa:zAc Tryz.prog 151=some [(0,4),(4,1),(5,1),(6,1)]:=by kernel_rfl
@[go_sem] theorem zXO:zm Tryz.prog 151 0=some (0,27):=by kernel_rfl
@[go_sem] theorem zXP:zm Tryz.prog 151 1=some (4,29):=by kernel_rfl
@[go_sem] theorem zXQ:zm Tryz.prog 151 2=some (5,148):=by kernel_rfl
@[go_sem] theorem zXR:zm Tryz.prog 151 3=some (6,149):=by kernel_rfl
@[go_sem] theorem zKN:zOT Tryz.prog 175=some (9,3):=by kernel_rfl
@[go_sem] theorem zLo:yy Tryz.prog 186=some 190:=by kernel_rfl
@[go_sem] theorem zgS:szT Tryz.prog 188=1:=by kernel_rfl
@[go_sem] theorem zgT:agT Tryz.prog 188=some false:=by kernel_rfl
@[go_sem] theorem zNb:szT Tryz.prog 190=2:=by kernel_rfl
@[go_sem] theorem zgU:agT Tryz.prog 190=some true:=by kernel_rfl
@[go_sem] theorem zLp:qI Tryz.prog 190=some (.agg [(.int .i64 0), .nilfn]):=by kernel_rfl
@[go_sem] theorem zNc:zAc Tryz.prog 190=some [(0,1),(1,1)]:=by kernel_rfl
@[go_sem] theorem zXS:zm Tryz.prog 190 0=some (0,3):=by kernel_rfl
@[go_sem] theorem zXT:zm Tryz.prog 190 1=some (1,188):=by kernel_rfl
@[go_sem] theorem zgV:agT Tryz.prog 193=some false:=by kernel_rfl
@[go_sem] theorem zSF:szT Tryz.prog 197=8:=by kernel_rfl
@[go_sem] theorem zgW:agT Tryz.prog 197=some true:=by kernel_rfl
@[go_sem] theorem zBs:qI Tryz.prog 197=some (.agg [(.bool false),(.bool false),(.bool false),(.bool false),(.bool false),(.bool false),(.bool false),(.bool false)]):=by kernel_rfl
@[go_sem] theorem zAL:zAc Tryz.prog 197=some [(0,1),(1,1),(2,1),(3,1),(4,1),(5,1),(6,1),(7,1)]:=by kernel_rfl
@[go_sem] theorem zXU:zm Tryz.prog 197 0=some (0,4):=by kernel_rfl
@[go_sem] theorem zXV:zm Tryz.prog 197 1=some (1,4):=by kernel_rfl
@[go_sem] theorem zXW:zm Tryz.prog 197 2=some (2,4):=by kernel_rfl
@[go_sem] theorem zXX:zm Tryz.prog 197 3=some (3,4):=by kernel_rfl
@[go_sem] theorem zXY:zm Tryz.prog 197 4=some (4,4):=by kernel_rfl
@[go_sem] theorem zXZ:zm Tryz.prog 197 5=some (5,4):=by kernel_rfl
@[go_sem] theorem zXa:zm Tryz.prog 197 6=some (6,4):=by kernel_rfl
@[go_sem] theorem zXb:zm Tryz.prog 197 7=some (7,4):=by kernel_rfl
@[go_sem] theorem zSG:yy Tryz.prog 233=some 5:=by kernel_rfl
@[go_sem] theorem zY9:szT Tryz.prog 242=1:=by kernel_rfl
@[go_sem] theorem zgX:agT Tryz.prog 242=some false:=by kernel_rfl
@[go_sem] theorem zcX:qI Tryz.prog 242=some .nilfn:=by kernel_rfl
@[go_sem] theorem zZA:szT Tryz.prog 270=3:=by kernel_rfl
@[go_sem] theorem zgY:agT Tryz.prog 270=some true:=by kernel_rfl
@[go_sem] theorem zSH:qI Tryz.prog 270=some (.agg [(.int .i64 0),(.int .i64 0),(.int .i64 0)]):=by kernel_rfl
@[go_sem] theorem zNd:zAc Tryz.prog 270=some [(0,1),(1,1),(2,1)]:=by kernel_rfl
@[go_sem] theorem zXc:zm Tryz.prog 270 0=some (0,3):=by kernel_rfl
@[go_sem] theorem zXd:zm Tryz.prog 270 1=some (1,3):=by kernel_rfl
@[go_sem] theorem zXe:zm Tryz.prog 270 2=some (2,3):=by kernel_rfl
@[go_sem] theorem zgZ:agT Tryz.prog 314=some false:=by kernel_rfl
end Go.V
