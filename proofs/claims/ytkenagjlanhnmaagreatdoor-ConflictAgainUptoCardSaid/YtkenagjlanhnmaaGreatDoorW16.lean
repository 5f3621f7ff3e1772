/- A machine of abstract values for programs of the model, and its soundness, part 5. No condition. -/
import Derived.Test.YtkenagjlanhnmaaGreatDoorW02
import Derived.KernelRfl
import Derived.Test.YtkenagjlanhnmaaGreatDoorProg
set_option linter.all false
set_option maxHeartbeats 8000000
namespace Go.V
def onS(o:Option D)(k:D->Prop):Prop:=
 match o with
 |some d=>k d
 |none=>False
def onR(o:VR)(k:D->Heap->Prop):Prop:=
 match o with
 |some (d,h)=>k d h
 |none=>False
def onH(o:Option Heap)(k:Heap->Prop):Prop:=
 match o with
 |some h=>k h
 |none=>False
@[congr] theorem zGX{o o':Option D}{k:D->Prop}(h:o=o'):onS o k=onS o' k:=by rw[h]
@[congr] theorem zGV{o o':VR}{k:D->Heap->Prop}(h:o=o'):onR o k=onR o' k:=by rw[h]
@[congr] theorem zGR{o o':Option Heap}{k:Heap->Prop}(h:o=o'):onH o k=onH o' k:=by rw[h]
variable{P:Program}{f:FuncId}{h h':Heap}{K:D->Heap->Prop}{id i n:Nat}{op:Op}{ev:Operand->D}{fr:Frm}
@[congr] theorem BN{args args':List D}(ha:args=args')(hh:h=h'):zE P f args h K=zE P f args' h' K:=by rw[ha,hh]
@[congr] theorem Fm{args args':List D}(ha:args=args')(hh:h=h'):uS P id args h K=uS P id args' h' K:=by rw[ha,hh]
@[congr] theorem zBE{f f':D}{args args':List D}(hf:f=f')(ha:args=args')(hh:h=h'):Za P f args h K=Za P f' args' h' K:=by rw[hf,ha,hh]
@[go_sem ↓] theorem zHq(d:D)(k:D->Prop):onS (some d) k=k d:=(rfl)
@[go_sem ↓] theorem dA(d:D)(h:Heap)(k:D->Heap->Prop):onR (some (d,h)) k=k d h:=(rfl)
@[go_sem ↓] theorem zHm(h:Heap)(k:Heap->Prop):onH (some h) k=k h:=(rfl)
section rules
variable{P:Program}{g:Cfg}{n:Nat}{ro:Option Nat}{mu:Tmp->Bool}{ops:Array Oper}{rest:List Oper}{K:Frm->Heap->Prop}{fr:Frm}{h:Heap}{dst:Option Tmp}{ty:TypeId}{pos:String}{after:Array Edge}{gd:Option (Nat×Bool)}{Q:Exit->Frm->Heap->Prop}
 {m:Bool} {nid:Nat} {k:D->Heap->Prop}
@[go_sem ↓] theorem TX(a b:Code):vwp P g n ro (.seq a b) Q fr h=vwp P g n ro a (cW (vwp P g n ro b Q) Q) fr h:=(rfl)
@[go_sem ↓] theorem zB0(id:Nat)(l:List Oper):vwp P g n ro (.region id l.toArray false) Q fr h=WT P g.mu l.toArray l (Q .normal) fr h:=(rfl)
def Mr(id:Nat)(ops:Array Oper):vwp P g n ro (.region id ops true) Q fr h= ∃h0,HLe h0 h/\dq P g.mu h0 (He P g.mu ops (g.dr id) (YA ops.toList 0 [])) ops ((g.dr id).any (·.2.isSt)) (g.dr id) (Q .normal) fr h:=(rfl)
@[go_sem ↓] theorem zIE:vwp P g n ro .skip Q fr h=Q .normal fr h:=(rfl)
@[go_sem ↓] theorem zMG:vwp P g n ro .ret Q fr h=Q .ret fr h:=(rfl)
@[go_sem ↓] theorem zID(i:Nat):vwp P g n ro (.exit i) Q fr h=Q (.exit i) fr h:=(rfl)
@[go_sem ↓] theorem zHG(id:Nat)(c:Code):vwp P g n ro (.block id c) Q fr h=vwp P g n ro c (bC id Q) fr h:=(rfl)
def onB(d:D)(x y:Prop):Prop:=
 match d with
 |.bool b=>match b with
  |true=>x
  |false=>y
 |_=>False
@[go_sem ↓] theorem zIC(c:Operand)(a b:Code):vwp P g n ro (.cond c a b) Q fr h=onB (wE fr c) (vwp P g n ro a Q fr h) (vwp P g n ro b Q fr h):=by
 simp only[vwp];rfl
@[congr] theorem zGO{d d':D}{x y:Prop}(h:d=d'):onB d x y=onB d' x y:=by rw[h]
@[go_sem ↓] theorem zHk(x y:Prop):onB (.bool true) x y=x:=(rfl)
@[go_sem ↓] theorem zGP(x y:Prop):onB (.bool false) x y=y:=(rfl)
@[go_sem ↓] theorem BE(Kn:Frm->Heap->Prop):cW Kn Q .normal fr h=Kn fr h:=(rfl)
@[go_sem ↓] theorem zGt(Kn:Frm->Heap->Prop):cW Kn Q .ret fr h=Q .ret fr h:=(rfl)
@[go_sem ↓] theorem zBm(Kn:Frm->Heap->Prop)(i:Nat):cW Kn Q (.exit i) fr h=Q (.exit i) fr h:=(rfl)
@[go_sem ↓] theorem H7(i:Nat):bC i Q .normal fr h=Q .normal fr h:=(rfl)
@[go_sem ↓] theorem zBK(i:Nat):bC i Q .ret fr h=Q .ret fr h:=(rfl)
@[go_sem ↓] theorem BW(i j:Nat):bC i Q (.exit j) fr h=if j=i then Q .normal fr h else Q (.exit j) fr h:=(rfl)
@[go_sem ↓] theorem zH6:WT P mu ops [] K fr h=K fr h:=(rfl)
@[go_sem ↓] theorem zBw(op:Op):WT P mu ops (⟨dst,op,ty,pos,after,none⟩ ::rest) K fr h=rF P (ar mu dst) h.next op (wE fr) h λd h'=>WT P mu ops rest K (nf fr dst d) h':=(rfl)
def gif(g:Bool)(x y:Prop):Prop:=
 match g with
 |true=>x
 |false=>y
@[congr] theorem zEd{g g':Bool}{x y:Prop}(h:g=g'):gif g x y=gif g' x y:=by rw[h]
@[go_sem ↓] theorem zHa(x y:Prop):gif true x y=x:=(rfl)
@[go_sem ↓] theorem zEe(x y:Prop):gif false x y=y:=(rfl)
@[go_sem ↓] theorem zBv(op:Op)(j:Nat)(b:Bool):WT P mu ops (⟨dst,op,ty,pos,after,some (j,b)⟩ ::rest) K fr h =
  gif (uk ops fr (some (j,b))) (rF P (ar mu dst) h.next op (wE fr) h λd h'=>WT P mu ops rest K (nf fr dst d) h') (WT P mu ops rest K (nf fr dst rD) h):=by
 simp only[WT,gif];cases uk ops fr (some (j,b))<;>rfl
@[go_sem ↓] theorem zHv(t:Tmp):wE fr (.tmp t)=fr t:=(rfl)
@[go_sem ↓] theorem zHt(k:IntKind)(n:Int):wE fr (.const (.int k n))=.int k n:=(rfl)
@[go_sem ↓] theorem zGb(b:Bool):wE fr (.const (.bool b))=.bool b:=(rfl)
@[go_sem ↓] theorem zGc(f:Nat):wE fr (.func f)=.fn (.func f) [] []:=(rfl)
@[go_sem ↓] theorem zHu(s:ByteArray):wE fr (.const (.string s))=.str s.data.toList:=(rfl)
@[go_sem ↓] theorem zAS:wE fr (.const (.pointer none))=.nilptr:=(rfl)
@[go_sem ↓] theorem zBZ:wE fr (.const (.slice none 0 0))=.nilsl:=(rfl)
@[go_sem ↓] theorem zAR:wE fr (.const (.map none))=.nilmap:=(rfl)
@[go_sem ↓] theorem zBY:wE fr (.const .nilFunc)=.nilfn:=(rfl)
@[go_sem ↓] theorem zGg(t i:Tmp)(d:D):nf fr (some t) d i=if i=t then d else fr i:=(rfl)
@[go_sem ↓] theorem zGf(d:D):nf fr none d=fr:=(rfl)
@[go_sem ↓] theorem zNR(x:Operand):rF P m nid (.move x) (wE fr) h k=k (wE fr x) h:=(rfl)
@[go_sem ↓] theorem zHz(x:Operand):rF P m nid (.assign x) (wE fr) h k=k (wE fr x) h:=(rfl)
@[go_sem ↓] theorem zNP(f:Operand)(args:List Operand)(ats:Array TypeId):rF P m nid (.call ⟨.value f,args.toArray,ats⟩) (wE fr) h k=Za P (wE fr f) (args.map (wE fr)) h k:=(rfl)
@[go_sem ↓] theorem KX(f:FuncId)(a c args:List D):Za P (.fn (.func f) a c) args h k=zE P f (a++args++c) h k:=(rfl)
@[go_sem ↓] theorem zHN(id:Nat)(args:List D):Za P (.yld id) args h k=uS P id args h k:=(rfl)
def mI{o:Option D}(h1:u0 op=none)(a:vop P m nid op ev h=o.map (·,h)):rF P m nid op ev h k=onS o (k · h):=by
 unfold rF;rw[h1,a];cases o<;>rfl
def HM{o:Option Heap}(h1:u0 op=none)(a:vop P m nid op ev h=o.map (rD,·)):rF P m nid op ev h k=onH o (k rD ·):=by
 unfold rF;rw[h1,a];cases o<;>rfl
def WN{o:VR}(h1:u0 op=none)(a:vop P m nid op ev h=o):rF P m nid op ev h k=onR o k:=by
 unfold rF;rw[h1,a];cases o<;>rfl
@[go_sem ↓] theorem zPy(op:BinOp)(t u:TypeId)(x y:Operand):rF P m nid (.binOp op t x y u) (wE fr) h k=onS (jI P op t (isC x||isC y) (wE fr x) (wE fr y)) (k · h):=mI rfl rfl
@[go_sem ↓] theorem zP5(op:UnOp)(t:TypeId)(x:Operand):rF P m nid (.unOp op t x) (wE fr) h k=onS (vun op (wE fr x)) (k · h):=mI rfl rfl
@[go_sem ↓] theorem zNT(c x y:Operand):rF P m nid (.pick c x y) (wE fr) h k=onB (wE fr c) (k (wE fr x) h) (k (wE fr y) h):=by
 simp only[rF,u0,vop,onB];cases wE fr c with
 |bool b=>cases b<;>rfl
 |_=>rfl
@[go_sem ↓] theorem zL2(t:TypeId):rF P m nid (.alloc t) (wE fr) h k=onR (vop P m nid (.alloc t) (wE fr) h) k:=WN rfl rfl
@[go_sem ↓] theorem zPz(t:TypeId)(x:Operand):rF P m nid (.box t x) (wE fr) h k=onR (vop P m nid (.box t x) (wE fr) h) k:=WN rfl rfl
@[go_sem ↓] theorem zL3(t:TypeId)(ps:List (Nat×Operand)):rF P m nid (.build t ps.toArray) (wE fr) h k=onS (qd P t (ps.map λp=>(p.1,wE fr p.2))) (k · h):=mI rfl rfl
@[go_sem ↓] theorem BG(t:TypeId)(n:Nat)(ps:List (Nat×Operand)):rF P m nid (.buildSlice t n ps.toArray) (wE fr) h k=onR (yB P m nid t n (ps.map λp=>(p.1,wE fr p.2)) h) k:=WN rfl rfl
@[go_sem ↓] theorem zNQ(t:TypeId)(x:Operand):rF P m nid (.load t x) (wE fr) h k=onS (lR P t (wE fr x) h) (k · h):=mI rfl rfl
@[go_sem ↓] theorem zL8(t:TypeId)(x y:Operand):rF P m nid (.store t x y) (wE fr) h k=onH (yX P t (wE fr x) (wE fr y) h) (k rD ·):=HM rfl rfl
@[go_sem ↓] theorem zBp(x:Operand):rF P m nid (.nilCheck x) (wE fr) h k=onS (qQ (wE fr x)) (k · h):=mI rfl rfl
@[go_sem ↓] theorem zGw(s t:TypeId)(x:Operand):rF P m nid (.convert s t x) (wE fr) h k=onS (aL P s t (wE fr x) h) (k · h):=mI rfl rfl
@[go_sem ↓] theorem zBs(P:Program)(s t:TypeId)(k:IntKind)(n:Int)(h:Heap):aL P s t (.int k n) h=nR P s t (.int k n):=(rfl)
@[go_sem ↓] theorem zBt(P:Program)(s t:TypeId)(x:List UInt8)(h:Heap):aL P s t (.str x) h=nR P s t (.str x):=(rfl)
@[go_sem ↓] theorem zBo(f:FuncId)(a c:List Operand):rF P m nid (.makeFunc (.func f) a.toArray c.toArray) (wE fr) h k=k (.fn (.func f) (a.map (wE fr)) (c.map (wE fr))) h:=(rfl)
@[go_sem ↓] theorem zGy(t:TypeId):rF P m nid (.makeMap t none) (wE fr) h k=k (.map nid) (h.new nid (.map [])):=(rfl)
@[go_sem ↓] theorem zA3(t:TypeId)(x y:Operand):rF P m nid (.makeSlice t x y) (wE fr) h k=onR (tW P m nid t (wE fr x) (wE fr y) h) k:=WN rfl rfl
@[go_sem ↓] theorem zL7(t:TypeId)(x:Operand)(lo hi mx:Option Operand):rF P m nid (.slice t x lo hi mx) (wE fr) h k=onS (uZ P t (wE fr x) (lo.map (wE fr)) (hi.map (wE fr)) (mx.map (wE fr)) h) (k · h):=mI rfl rfl
@[go_sem ↓] theorem zA1(t:TypeId)(x:Operand)(f:Nat):rF P m nid (.fieldAddr t x f) (wE fr) h k=onS (p7 P t (wE fr x) f) (k · h):=mI rfl rfl
@[go_sem ↓] theorem zA2(t:TypeId)(x i:Operand):rF P m nid (.indexAddr t x i) (wE fr) h k=onS (yt P t (wE fr x) (wE fr i)) (k · h):=mI rfl rfl
@[go_sem ↓] theorem zL5(t:TypeId)(x i:Operand):rF P m nid (.index t x i) (wE fr) h k=onS (nn P t (wE fr x) (wE fr i)) (k · h):=mI rfl rfl
@[go_sem ↓] theorem zH0(t:TypeId)(x y:Operand)(ok:Bool):rF P m nid (.lookup t x y ok) (wE fr) h k=onS (uY P t (wE fr x) (wE fr y) ok h) (k · h):=mI rfl rfl
@[go_sem ↓] theorem zA4(t:TypeId)(x y z:Operand):rF P m nid (.mapUpdate t x y z) (wE fr) h k=onH (uJ P t (wE fr x) (wE fr y) (wE fr z) h) (k rD ·):=HM rfl rfl
@[go_sem ↓] theorem zL6(t:TypeId)(x:Operand):rF P m nid (.range t x) (wE fr) h k=onR (Z1 P nid t (wE fr x) h) k:=WN rfl rfl
@[go_sem ↓] theorem zNS(x:Operand)(b:Bool):rF P m nid (.next x b) (wE fr) h k=onR (Wk (wE fr x) b h) k:=WN rfl rfl
@[go_sem ↓] theorem zGx(x:Operand)(i:Nat):rF P m nid (.extract x i) (wE fr) h k=onS (l9 (wE fr x) i) (k · h):=mI rfl rfl
@[go_sem ↓] theorem zP1(t:TypeId)(x:Operand):rF P m nid (.call ⟨.builtin .len,#[x],#[t]⟩) (wE fr) h k=onS (mC P t (wE fr x) h) (k · h):=mI rfl rfl
@[go_sem ↓] theorem zHy(t u:TypeId)(x y:Operand):rF P m nid (.call ⟨.builtin .append,#[x,y],#[t,u]⟩) (wE fr) h k=onR (if rp P u then mQ P m nid t (wE fr x) (wE fr y) h else mR P m nid t u (wE fr x) (wE fr y) h) k:=WN rfl rfl
@[go_sem ↓] theorem zBq(t:TypeId)(s x:D):mQ P false nid t s x h=qg P false nid t s x h:=(rfl)
@[go_sem ↓] theorem zBr(t:TypeId)(s x:D):mQ P true nid t s x h=qg P true nid t s x (tu s x h):=(rfl)
@[go_sem ↓] theorem zBn(sz:Nat)(xs:List (List D))(tk:Tk)(x:D):tu (.sl sz xs tk) x h=h:=(rfl)
@[go_sem ↓] theorem zP3(ats:Array TypeId)(x y:Operand):rF P m nid (.call ⟨.builtin .min,#[x,y],ats⟩) (wE fr) h k=onS (KS (wE fr x) (wE fr y)) (k · h):=mI rfl rfl
@[go_sem ↓] theorem zP2(x y:Operand)(ats:Array TypeId):rF P m nid (.call ⟨.builtin .max,#[x,y],ats⟩) (wE fr) h k=onS (Fa (wE fr x) (wE fr y)) (k · h):=by
 refine mI rfl ?_;simp only[vop,mS,P9,qm,nT];cases Fa (wE fr x) (wE fr y)<;>rfl
@[go_sem ↓] theorem zBN(d:D)(ds:List D):UR (d::ds) 0=d:=(rfl)
@[go_sem ↓] theorem zBM(d:D)(ds:List D)(i:Nat):UR (d::ds) (i+1)=UR ds i:=(rfl)
def onL(o:Option (List D))(k:List D->Prop):Prop:=
 match o with
 |some ds=>k ds
 |none=>False
@[go_sem ↓] theorem zHU(rs:List ResultVar)(q:D->Heap->Prop):D7 P rs q .ret fr h=onL (lS P fr h rs) λds=>q (ay ds) h:=by
 unfold D7 onL;cases lS P fr h rs<;>simp
@[go_sem ↓] theorem AN(rs:List ResultVar)(q:D->Heap->Prop):D7 P rs q .normal fr h=onL (lS P fr h rs) λds=>q (ay ds) h:=by
 unfold D7 onL;cases lS P fr h rs<;>simp
@[go_sem ↓] theorem zHE(k:List D->Prop):onL (lS P fr h []) k=k []:=(rfl)
@[go_sem ↓] theorem zHF(t:Tmp)(rs:List ResultVar)(k:List D->Prop):onL (lS P fr h (.tmp t::rs)) k=onL (lS P fr h rs) λds=>k (fr t::ds):=by
 simp only[lS,HP];cases lS P fr h rs<;>rfl
@[go_sem ↓] theorem zBy(a:Tmp)(t:TypeId)(rs:List ResultVar)(k:List D->Prop):onL (lS P fr h (.cell a t::rs)) k=onS (lR P t (fr a) h) λd=>onL (lS P fr h rs) λds=>k (d::ds):=by
 simp only[lS,HP];cases lR P t (fr a) h with
 |none=>rfl
 |some d=>cases lS P fr h rs<;>rfl
@[go_sem ↓] theorem zGZ(d:D):ay [d]=d:=(rfl)
@[go_sem ↓] theorem zGa(d d':D)(ds:List D):ay (d::d'::ds)=.tuple (d::d'::ds):=(rfl)
@[go_sem ↓] theorem zGY:ay []=.tuple []:=(rfl)
end rules
def yi(sz:Nat)(xs:List (List D))(d:D):Prop:=(d=.nilsl/\xs= [])\/∃tk,d=.sl sz xs tk
section
variable{P:Program}{sz:Nat}{xs:List (List D)}{d:D}{t e:TypeId}{h:Heap}
def yi.mk(tk:Tk):yi sz xs (.sl sz xs tk):=.inr ⟨tk,rfl⟩
def yi.nil:yi sz [] .nilsl:=.inl ⟨rfl,rfl⟩
def wa(a:yi sz xs d)(b:P.underlying t=some (.slice e)):mC P t d h=some (.int .i64 xs.length):=by
 rcases a with⟨rfl,rfl⟩ | ⟨tk,rfl⟩ <;>simp[mC,b]
def yn(b:yi sz xs d)(c:tG P t=some e)(f:szT P e=sz){k:IntKind}{x:List D}(a:xs[i]? =some x):yt P t d (.int k i)=some (.iptr x 0):=by
 rcases b with⟨rfl,rfl⟩ | ⟨tk,rfl⟩
 ·simp at a
 ·simp[yt,c,f,a]
end
@[go_sem ↓] theorem zH2(P:Program)(op:BinOp)(t:TypeId)(c:Bool)(k k':IntKind)(a b:Int):jI P op t c (.int k a) (.int k' b)=lQ op k k' a b:=(rfl)
@[go_sem ↓] theorem zH4(P:Program)(op:BinOp)(t:TypeId)(c:Bool)(a b:List UInt8):jI P op t c (.str a) (.str b)=Hm op a b:=(rfl)
@[go_sem ↓] theorem zG0(k:IntKind)(a b:Int):lQ .add k k a b=some (.int k (k.wrap (a+b))):=by simp[lQ,Ml]
@[go_sem ↓] theorem zG8(k:IntKind)(a b:Int):lQ .sub k k a b=some (.int k (k.wrap (a-b))):=by simp[lQ,Ml]
@[go_sem ↓] theorem zG6(k:IntKind)(a b:Int):lQ .mul k k a b=some (.int k (k.wrap (a*b))):=by simp[lQ,Ml]
@[go_sem ↓] theorem zG5(k:IntKind)(a b:Int):lQ .lss k k a b=some (.bool (decide (a<b))):=by simp[lQ,Ml]
@[go_sem ↓] theorem zG4(k:IntKind)(a b:Int):lQ .leq k k a b=some (.bool (decide (a<=b))):=by simp[lQ,Ml]
@[go_sem ↓] theorem zG3(k:IntKind)(a b:Int):lQ .gtr k k a b=some (.bool (decide (a>b))):=by simp[lQ,Ml]
@[go_sem ↓] theorem zG2(k:IntKind)(a b:Int):lQ .geq k k a b=some (.bool (decide (a>=b))):=by simp[lQ,Ml]
@[go_sem ↓] theorem zG1(k:IntKind)(a b:Int):lQ .eql k k a b=some (.bool (a==b)):=by simp[lQ,Ml]
@[go_sem ↓] theorem zG7(k:IntKind)(a b:Int):lQ .neq k k a b=some (.bool (a !=b)):=by simp[lQ,Ml]
@[go_sem ↓] theorem zH7(a b:List UInt8):Hm .eql a b=some (.bool (a==b)):=(rfl)
@[go_sem ↓] theorem zIB(a b:List UInt8):Hm .neq a b=some (.bool (!(a==b))):=(rfl)
@[go_sem ↓] theorem zIA(a b:List UInt8):Hm .lss a b=some (.bool (WS a b)):=(rfl)
@[go_sem ↓] theorem zBu(P:Program)(t:TypeId)(cs:List D)(off:Nat)(h:Heap):lR P t (.iptr cs off) h=(match agT P t with
 |none=>none
 |some ag=>yW ag (szT P t) cs off):=(rfl)
@[go_sem ↓] theorem wO(n:Nat)(cs:List D)(off:Nat):yW false n cs off=cs[off]? :=(rfl)
variable{P:Program}{n:Nat}{fr:Frm}{h:Heap}{K:D->Heap->Prop}
def Ms{g:Cfg}{ro:Option Nat}{c:Code}{Q:Exit->Frm->Heap->Prop}(I:Nat->Frm->Heap->Prop)(k:Nat)(a:I k fr h)
  (hr:∀k fr h,I k fr h->vwp P g n ro c (cW (λfr h=>∃m,m<k/\I m fr h) Q) fr h):vwp P g n ro (.loop c) Q fr h:=⟨I,⟨k,a⟩,hr⟩
open Go.Proofs.Tryz
open Go.Proofs
@[go_sem] theorem sI:szT prog 3=1:=kr
@[go_sem] theorem zNU:agT prog 3=some false:=kr
@[go_sem] theorem rv:tJ prog 3=some (.int .i64 0):=kr
@[go_sem] theorem zGm:rp prog 3=false:=kr
@[go_sem] theorem Z3:ZW prog 3=true:=kr
@[go_sem] theorem lq:uE prog 3=8:=kr
@[go_sem] theorem Cu:N3 prog 3=some (false,[.i]):=kr
@[go_sem] theorem zGr:szT prog 4=1:=kr
@[go_sem] theorem zNV:agT prog 4=some false:=kr
@[go_sem] theorem zMI:tJ prog 4=some (.bool false):=kr
@[go_sem] theorem zLy:szT prog 5=1:=kr
@[go_sem] theorem zNW:agT prog 5=some false:=kr
@[go_sem] theorem pz:szT prog 9=1:=kr
@[go_sem] theorem zNX:agT prog 9=some false:=kr
@[go_sem] theorem fV:tJ prog 9=some (.str []):=kr
@[go_sem] theorem aU:ZW prog 9=true:=kr
@[go_sem] theorem oP:uE prog 9=16:=kr
@[go_sem] theorem NO:Wt prog 9=none:=kr
@[go_sem] theorem Rg:N3 prog 9=some (false,[.s]):=kr
@[go_sem] theorem zNJ:szT prog 22=1:=kr
@[go_sem] theorem zMN:agT prog 22=some false:=kr
@[go_sem] theorem bJ:tG prog 22=some 117:=kr
@[go_sem] theorem zBc:rp prog 22=true:=kr
@[go_sem] theorem BT:Wt prog 22=none:=kr
@[go_sem] theorem zNK:szT prog 23=1:=kr
@[go_sem] theorem zMO:agT prog 23=some false:=kr
@[go_sem] theorem Gg:tG prog 23=some 122:=kr
@[go_sem] theorem zNL:szT prog 24=1:=kr
@[go_sem] theorem zMP:agT prog 24=some false:=kr
@[go_sem] theorem UL:tG prog 24=some 126:=kr
@[go_sem] theorem zBd:rp prog 24=true:=kr
@[go_sem] theorem zNM:szT prog 25=1:=kr
@[go_sem] theorem zMQ:agT prog 25=some false:=kr
@[go_sem] theorem Gh:tG prog 25=some 130:=kr
@[go_sem] theorem zNN:szT prog 27=4:=kr
@[go_sem] theorem zB8:agT prog 27=some true:=kr
@[go_sem] theorem AU:qV prog 27 0=some (0,22):=kr
@[go_sem] theorem AV:qV prog 27 1=some (1,23):=kr
@[go_sem] theorem AW:qV prog 27 2=some (2,24):=kr
@[go_sem] theorem AX:qV prog 27 3=some (3,25):=kr
@[go_sem] theorem BB:szT prog 29=1:=kr
@[go_sem] theorem zB9:agT prog 29=some false:=kr
@[go_sem] theorem zIG:tJ prog 29=some .nilsl:=kr
@[go_sem] theorem YJ:tG prog 29=some 57:=kr
@[go_sem] theorem zBe:rp prog 29=true:=kr
@[go_sem] theorem zGp:szT prog 30=1:=kr
@[go_sem] theorem zMR:agT prog 30=some false:=kr
@[go_sem] theorem qv:tG prog 30=some 3:=kr
@[go_sem] theorem zBf:rp prog 30=true:=kr
@[go_sem] theorem Qn:Wt prog 30=none:=kr
@[go_sem] theorem BC:szT prog 32=1:=kr
@[go_sem] theorem zMS:agT prog 32=some false:=kr
@[go_sem] theorem zIH:tJ prog 32=some .nilsl:=kr
@[go_sem] theorem YK:tG prog 32=some 139:=kr
@[go_sem] theorem zBg:rp prog 32=true:=kr
@[go_sem] theorem zGq:szT prog 33=1:=kr
@[go_sem] theorem zMT:agT prog 33=some false:=kr
@[go_sem] theorem Nm:tG prog 33=some 47:=kr
@[go_sem] theorem zBh:rp prog 33=true:=kr
@[go_sem] theorem Vn:szT prog 35=3:=kr
@[go_sem] theorem zMU:agT prog 35=some true:=kr
@[go_sem] theorem Ta:tJ prog 35=some (.agg [.nilsl,.nilsl,.nilsl]):=kr
@[go_sem] theorem ZA:rh prog 35=some [(0,1),(1,1),(2,1)]:=kr
@[go_sem] theorem AY:qV prog 35 0=some (0,30):=kr
@[go_sem] theorem AZ:qV prog 35 1=some (1,32):=kr
@[go_sem] theorem Aa:qV prog 35 2=some (2,33):=kr
@[go_sem] theorem aB:szT prog 39=1:=kr
@[go_sem] theorem zMV:agT prog 39=some false:=kr
@[go_sem] theorem zII:tJ prog 39=some (.int .i64 0):=kr
@[go_sem] theorem aC:szT prog 44=1:=kr
@[go_sem] theorem zMW:agT prog 44=some false:=kr
@[go_sem] theorem Mt:tJ prog 44=some .nilsl:=kr
@[go_sem] theorem uV:tG prog 44=some 195:=kr
@[go_sem] theorem zBi:rp prog 44=true:=kr
@[go_sem] theorem Ha:ZW prog 44=true:=kr
@[go_sem] theorem To:uE prog 44=24:=kr
@[go_sem] theorem Mf:szT prog 45=1:=kr
@[go_sem] theorem zMX:agT prog 45=some false:=kr
@[go_sem] theorem uK:tG prog 45=some 9:=kr
@[go_sem] theorem zBj:rp prog 45=true:=kr
@[go_sem] theorem BU:Wt prog 45=none:=kr
@[go_sem] theorem QN:szT prog 47=2:=kr
@[go_sem] theorem zMY:agT prog 47=some true:=kr
@[go_sem] theorem Mu:tJ prog 47=some (.agg [.nilsl,.nilsl]):=kr
@[go_sem] theorem zA9:ZW prog 47=true:=kr
@[go_sem] theorem Kh:uE prog 47=48:=kr
@[go_sem] theorem Ln:rh prog 47=some [(0,1),(1,1)]:=kr
@[go_sem] theorem Ab:qV prog 47 0=some (0,44):=kr
@[go_sem] theorem Ac:qV prog 47 1=some (1,45):=kr
@[go_sem] theorem Mg:szT prog 49=4:=kr
@[go_sem] theorem zMZ:agT prog 49=some true:=kr
@[go_sem] theorem Tb:tJ prog 49=some (.agg [(.bool false),.nilsl,.nilsl,.nilsl]):=kr
@[go_sem] theorem ZB:rh prog 49=some [(0,1),(1,2),(3,1)]:=kr
@[go_sem] theorem Ad:qV prog 49 0=some (0,4):=kr
@[go_sem] theorem Ae:qV prog 49 1=some (1,47):=kr
@[go_sem] theorem Af:qV prog 49 2=some (3,32):=kr
@[go_sem] theorem BD:szT prog 53=1:=kr
@[go_sem] theorem zMa:agT prog 53=some false:=kr
@[go_sem] theorem bK:tG prog 53=some 55:=kr
@[go_sem] theorem zBk:rp prog 53=true:=kr
@[go_sem] theorem hP:szT prog 55=4:=kr
@[go_sem] theorem zMb:agT prog 55=some true:=kr
@[go_sem] theorem Mv:tJ prog 55=some (.agg [(.int .i64 0),(.str []),(.str []),.nilsl]):=kr
@[go_sem] theorem zBA:ZW prog 55=true:=kr
@[go_sem] theorem Ki:uE prog 55=64:=kr
@[go_sem] theorem Lo:rh prog 55=some [(0,1),(1,1),(2,1),(3,1)]:=kr
@[go_sem] theorem Ag:qV prog 55 0=some (0,3):=kr
@[go_sem] theorem Ah:qV prog 55 1=some (1,9):=kr
@[go_sem] theorem Ai:qV prog 55 2=some (2,9):=kr
@[go_sem] theorem Aj:qV prog 55 3=some (3,53):=kr
@[go_sem] theorem Zv:szT prog 57=12:=kr
@[go_sem] theorem zMc:agT prog 57=some true:=kr
@[go_sem] theorem Ff:tJ prog 57=some (.agg [(.int .i64 0),(.str []),(.str []),(.int .i64 0),(.int .i64 0),(.int .i64 0),(.bool false),(.int .i64 0),(.str []),(.str []),.nilsl,.nilsl]):=kr
@[go_sem] theorem zBB:ZW prog 57=true:=kr
@[go_sem] theorem Kj:uE prog 57=160:=kr
@[go_sem] theorem Ak:qV prog 57 0=some (0,3):=kr
@[go_sem] theorem Al:qV prog 57 1=some (1,9):=kr
@[go_sem] theorem Am:qV prog 57 2=some (2,9):=kr
@[go_sem] theorem An:qV prog 57 3=some (3,3):=kr
@[go_sem] theorem Ao:qV prog 57 4=some (4,3):=kr
@[go_sem] theorem Ap:qV prog 57 5=some (5,3):=kr
@[go_sem] theorem Aq:qV prog 57 6=some (6,4):=kr
@[go_sem] theorem Ar:qV prog 57 7=some (7,55):=kr
@[go_sem] theorem As:qV prog 57 8=some (11,45):=kr
@[go_sem] theorem zMd:agT prog 71=some false:=kr
@[go_sem] theorem zGs:szT prog 77=1:=kr
@[go_sem] theorem zMe:agT prog 77=some false:=kr
@[go_sem] theorem zIJ:tJ prog 77=some .nilfn:=kr
@[go_sem] theorem zMf:agT prog 85=some false:=kr
@[go_sem] theorem zMg:agT prog 91=some false:=kr
@[go_sem] theorem zNO:szT prog 98=1:=kr
@[go_sem] theorem zMh:agT prog 98=some false:=kr
@[go_sem] theorem fi:tG prog 98=some 44:=kr
@[go_sem] theorem zBl:rp prog 98=true:=kr
@[go_sem] theorem ZP:szT prog 100=6:=kr
@[go_sem] theorem BP:agT prog 100=some true:=kr
@[go_sem] theorem Qe:tJ prog 100=some (.agg [.nilsl,.nilsl,.nilsl,.nilsl,.nilsl,.nilsl]):=kr
@[go_sem] theorem Xp:rh prog 100=some [(0,1),(1,1),(2,4)]:=kr
@[go_sem] theorem D8:qV prog 100 0=some (0,98):=kr
@[go_sem] theorem D9:qV prog 100 1=some (1,45):=kr
@[go_sem] theorem CA:qV prog 100 2=some (2,27):=kr
@[go_sem] theorem jr:szT prog 117=4:=kr
@[go_sem] theorem zIS:agT prog 117=some true:=kr
@[go_sem] theorem WR:tJ prog 117=some (.agg [(.str []),(.str []),(.int .i64 0),(.str [])]):=kr
@[go_sem] theorem Fg:ZW prog 117=true:=kr
@[go_sem] theorem M5:uE prog 117=56:=kr
@[go_sem] theorem Xq:rh prog 117=some [(0,1),(1,1),(2,1),(3,1)]:=kr
@[go_sem] theorem CB:qV prog 117 0=some (0,9):=kr
@[go_sem] theorem CC:qV prog 117 1=some (1,9):=kr
@[go_sem] theorem CD:qV prog 117 2=some (2,3):=kr
@[go_sem] theorem CE:qV prog 117 3=some (3,9):=kr
@[go_sem] theorem WF:szT prog 122=3:=kr
@[go_sem] theorem zIT:agT prog 122=some true:=kr
@[go_sem] theorem zHI:tJ prog 122=some (.agg [(.str []),(.str []),.nilsl]):=kr
@[go_sem] theorem CF:qV prog 122 0=some (0,9):=kr
@[go_sem] theorem CG:qV prog 122 1=some (1,9):=kr
@[go_sem] theorem CH:qV prog 122 2=some (2,30):=kr
@[go_sem] theorem fI:szT prog 126=5:=kr
@[go_sem] theorem zIU:agT prog 126=some true:=kr
@[go_sem] theorem HU:tJ prog 126=some (.agg [(.str []),(.int .i64 0),(.int .i64 0),(.int .i64 0),.nilsl]):=kr
@[go_sem] theorem Fh:ZW prog 126=true:=kr
@[go_sem] theorem M6:uE prog 126=64:=kr
@[go_sem] theorem CI:qV prog 126 0=some (0,9):=kr
@[go_sem] theorem CJ:qV prog 126 1=some (1,3):=kr
@[go_sem] theorem CK:qV prog 126 2=some (2,3):=kr
@[go_sem] theorem CL:qV prog 126 3=some (3,3):=kr
@[go_sem] theorem CM:qV prog 126 4=some (4,45):=kr
@[go_sem] theorem TE:szT prog 130=2:=kr
@[go_sem] theorem zIV:agT prog 130=some true:=kr
@[go_sem] theorem HV:tJ prog 130=some (.agg [(.str []),(.str [])]):=kr
@[go_sem] theorem Pb:rh prog 130=some [(0,1),(1,1)]:=kr
@[go_sem] theorem CO:qV prog 130 0=some (0,9):=kr
@[go_sem] theorem CP:qV prog 130 1=some (1,9):=kr
@[go_sem] theorem so:szT prog 137=2:=kr
@[go_sem] theorem zIW:agT prog 137=some true:=kr
@[go_sem] theorem fT:tJ prog 137=some (.agg [(.int .i64 0),.nilsl]):=kr
@[go_sem] theorem Fi:ZW prog 137=true:=kr
@[go_sem] theorem M7:uE prog 137=32:=kr
@[go_sem] theorem cR:rh prog 137=some [(0,1),(1,1)]:=kr
@[go_sem] theorem CQ:qV prog 137 0=some (0,3):=kr
@[go_sem] theorem CR:qV prog 137 1=some (1,30):=kr
@[go_sem] theorem TG:szT prog 139=4:=kr
@[go_sem] theorem aT:tJ prog 139=some (.agg [(.int .i64 0),.nilsl,(.int .i64 0),.nilsl]):=kr
@[go_sem] theorem Fj:ZW prog 139=true:=kr
@[go_sem] theorem M8:uE prog 139=64:=kr
@[go_sem] theorem Xr:rh prog 139=some [(0,1),(1,1),(2,2)]:=kr
@[go_sem] theorem CS:qV prog 139 1=some (1,30):=kr
@[go_sem] theorem zIX:agT prog 143=some false:=kr
@[go_sem] theorem zAw:szT prog 157=1:=kr
@[go_sem] theorem zIY:agT prog 157=some false:=kr
@[go_sem] theorem zHJ:tJ prog 157=some .nilsl:=kr
@[go_sem] theorem sx:tG prog 157=some 137:=kr
@[go_sem] theorem zAo:rp prog 157=true:=kr
@[go_sem] theorem V7:Wt prog 157=none:=kr
@[go_sem] theorem HW:tJ prog 163=some (.agg [.nilsl,.nilsl,.nilsl,.nilsl,.nilsl,.nilsl,.nilsl]):=kr
@[go_sem] theorem Pc:rh prog 163=some [(0,4),(4,1),(5,1),(6,1)]:=kr
@[go_sem] theorem CT:qV prog 163 0=some (0,27):=kr
@[go_sem] theorem CU:qV prog 163 1=some (4,29):=kr
@[go_sem] theorem CV:qV prog 163 2=some (5,98):=kr
@[go_sem] theorem CW:qV prog 163 3=some (6,45):=kr
@[go_sem] theorem Uf:MA prog 189=some (9,3):=kr
@[go_sem] theorem XD:tG prog 194=some 197:=kr
@[go_sem] theorem zAp:rp prog 194=true:=kr
@[go_sem] theorem ue:szT prog 195=1:=kr
@[go_sem] theorem zIZ:agT prog 195=some false:=kr
@[go_sem] theorem fU:tJ prog 195=some .nilsl:=kr
@[go_sem] theorem uF:tG prog 195=some 197:=kr
@[go_sem] theorem zAq:rp prog 195=true:=kr
@[go_sem] theorem po:ZW prog 195=true:=kr
@[go_sem] theorem tU:uE prog 195=24:=kr
@[go_sem] theorem cy:Wt prog 195=none:=kr
@[go_sem] theorem uq:szT prog 197=2:=kr
@[go_sem] theorem zIa:agT prog 197=some true:=kr
@[go_sem] theorem sW:tJ prog 197=some (.agg [(.str []),(.str [])]):=kr
@[go_sem] theorem Yg:ZW prog 197=true:=kr
@[go_sem] theorem kY:uE prog 197=32:=kr
@[go_sem] theorem nD:rh prog 197=some [(0,1),(1,1)]:=kr
@[go_sem] theorem CX:qV prog 197 0=some (0,9):=kr
@[go_sem] theorem CY:qV prog 197 1=some (1,9):=kr
@[go_sem] theorem zLv:szT prog 208=1:=kr
@[go_sem] theorem zIb:agT prog 208=some false:=kr
@[go_sem] theorem MB:MA prog 208=some (3,195):=kr
@[go_sem] theorem zLw:szT prog 209=1:=kr
@[go_sem] theorem zIc:agT prog 209=some false:=kr
@[go_sem] theorem MC:MA prog 209=some (9,9):=kr
@[go_sem] theorem HY:tJ prog 211=some (.agg [.nilsl,.nilsl,.nilsl,.nilsl,.nilsl,.nilmap,.nilmap]):=kr
@[go_sem] theorem Pd:rh prog 211=some [(0,4),(4,1),(5,1),(6,1)]:=kr
@[go_sem] theorem CZ:qV prog 211 0=some (0,27):=kr
@[go_sem] theorem Ca:qV prog 211 1=some (4,29):=kr
@[go_sem] theorem Cb:qV prog 211 2=some (5,208):=kr
@[go_sem] theorem Cc:qV prog 211 3=some (6,209):=kr
@[go_sem] theorem JY:tG prog 255=some 5:=kr
@[go_sem] theorem RR:tG prog 267=some 271:=kr
@[go_sem] theorem zLx:szT prog 269=1:=kr
@[go_sem] theorem zId:agT prog 269=some false:=kr
@[go_sem] theorem P0:szT prog 271=2:=kr
@[go_sem] theorem zIe:agT prog 271=some true:=kr
@[go_sem] theorem Qf:tJ prog 271=some (.agg [(.int .i64 0),.nilfn]):=kr
@[go_sem] theorem Pe:rh prog 271=some [(0,1),(1,1)]:=kr
@[go_sem] theorem Cd:qV prog 271 0=some (0,3):=kr
@[go_sem] theorem Ce:qV prog 271 1=some (1,269):=kr
@[go_sem] theorem zIf:agT prog 273=some false:=kr
@[go_sem] theorem I3:szT prog 310=8:=kr
@[go_sem] theorem zIg:agT prog 310=some true:=kr
@[go_sem] theorem jH:tJ prog 310=some (.agg [(.bool false),(.bool false),(.bool false),(.bool false),(.bool false),(.bool false),(.bool false),(.bool false)]):=kr
@[go_sem] theorem nE:rh prog 310=some [(0,1),(1,1),(2,1),(3,1),(4,1),(5,1),(6,1),(7,1)]:=kr
@[go_sem] theorem Cf:qV prog 310 0=some (0,4):=kr
@[go_sem] theorem Cg:qV prog 310 1=some (1,4):=kr
@[go_sem] theorem Ch:qV prog 310 2=some (2,4):=kr
@[go_sem] theorem Ci:qV prog 310 3=some (3,4):=kr
@[go_sem] theorem Cj:qV prog 310 4=some (4,4):=kr
@[go_sem] theorem Ck:qV prog 310 5=some (5,4):=kr
@[go_sem] theorem Cl:qV prog 310 6=some (6,4):=kr
@[go_sem] theorem Cm:qV prog 310 7=some (7,4):=kr
@[go_sem] theorem zAx:szT prog 339=3:=kr
@[go_sem] theorem zIh:agT prog 339=some true:=kr
@[go_sem] theorem HZ:tJ prog 339=some (.agg [(.int .i64 0),(.int .i64 0),(.int .i64 0)]):=kr
@[go_sem] theorem Pf:rh prog 339=some [(0,1),(1,1),(2,1)]:=kr
@[go_sem] theorem Cn:qV prog 339 0=some (0,3):=kr
@[go_sem] theorem Co:qV prog 339 1=some (1,3):=kr
@[go_sem] theorem Cp:qV prog 339 2=some (2,3):=kr
@[go_sem] theorem zAy:szT prog 368=1:=kr
@[go_sem] theorem zIi:agT prog 368=some false:=kr
@[go_sem] theorem zHK:tJ prog 368=some .nilfn:=kr
@[go_sem] theorem zIj:agT prog 395=some false:=kr
end Go.V
