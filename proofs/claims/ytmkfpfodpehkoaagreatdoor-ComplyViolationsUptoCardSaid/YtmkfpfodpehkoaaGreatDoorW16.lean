/- A machine of abstract values for programs of the model, and its soundness, part 5. No condition. -/
import Derived.Test.YtmkfpfodpehkoaaGreatDoorW02
import Derived.KernelRfl
import Derived.Test.YtmkfpfodpehkoaaGreatDoorProg
set_option linter.all false
set_option maxHeartbeats 8000000
namespace Go.V
def onS(o:Option D)(k:D->Prop):Prop:=
 match o with
 |some d=>k d
 |none=>False
def onR(o:VR)(k:D->Heap->Prop):Prop:=
 match o with
 |some (d,h)=>k d h
 |none=>False
def onH(o:Option Heap)(k:Heap->Prop):Prop:=
 match o with
 |some h=>k h
 |none=>False
@[congr] theorem zD8{o o':Option D}{k:D->Prop}(h:o=o'):onS o k=onS o' k:=by rw[h]
@[congr] theorem zD6{o o':VR}{k:D->Heap->Prop}(h:o=o'):onR o k=onR o' k:=by rw[h]
@[congr] theorem zD2{o o':Option Heap}{k:Heap->Prop}(h:o=o'):onH o k=onH o' k:=by rw[h]
variable{P:Program}{f:FuncId}{h h':Heap}{K:D->Heap->Prop}{id i n:Nat}{op:Op}{ev:Operand->D}{fr:Frm}
@[congr] theorem E6{args args':List D}(ha:args=args')(hh:h=h'):zB P f args h K=zB P f args' h' K:=by rw[ha,hh]
@[congr] theorem Ge{args args':List D}(ha:args=args')(hh:h=h'):uN P id args h K=uN P id args' h' K:=by rw[ha,hh]
@[congr] theorem Bn{f f':D}{args args':List D}(hf:f=f')(ha:args=args')(hh:h=h'):ao P f args h K=ao P f' args' h' K:=by rw[hf,ha,hh]
@[go_sem ↓] theorem zFK(d:D)(k:D->Prop):onS (some d) k=k d:=(rfl)
@[go_sem ↓] theorem Zx(d:D)(h:Heap)(k:D->Heap->Prop):onR (some (d,h)) k=k d h:=(rfl)
@[go_sem ↓] theorem zFG(h:Heap)(k:Heap->Prop):onH (some h) k=k h:=(rfl)
section rules
variable{P:Program}{g:Cfg}{n:Nat}{ro:Option Nat}{mu:Tmp->Bool}{ops:Array Oper}{rest:List Oper}{K:Frm->Heap->Prop}{fr:Frm}{h:Heap}{dst:Option Tmp}{ty:TypeId}{pos:String}{after:Array Edge}{gd:Option (Nat×Bool)}{Q:Exit->Frm->Heap->Prop}
 {m:Bool} {nid:Nat} {k:D->Heap->Prop}
@[go_sem ↓] theorem rV(a b:Code):vwp P g n ro (.seq a b) Q fr h=vwp P g n ro a (gm (vwp P g n ro b Q) Q) fr h:=(rfl)
@[go_sem ↓] theorem AZ(id:Nat)(l:List Oper):vwp P g n ro (.region id l.toArray false) Q fr h=Xz P g.mu l.toArray l (Q .normal) fr h:=(rfl)
def Up(id:Nat)(ops:Array Oper):vwp P g n ro (.region id ops true) Q fr h= ∃h0,HLe h0 h/\dR P g.mu h0 (Lj P g.mu ops (g.dr id) (aG ops.toList 0 [])) ops ((g.dr id).any (·.2.isSt)) (g.dr id) (Q .normal) fr h:=(rfl)
@[go_sem ↓] theorem zFf:vwp P g n ro .skip Q fr h=Q .normal fr h:=(rfl)
@[go_sem ↓] theorem zIU:vwp P g n ro .ret Q fr h=Q .ret fr h:=(rfl)
@[go_sem ↓] theorem zFe(i:Nat):vwp P g n ro (.exit i) Q fr h=Q (.exit i) fr h:=(rfl)
@[go_sem ↓] theorem Xt(id:Nat)(c:Code):vwp P g n ro (.block id c) Q fr h=vwp P g n ro c (cP id Q) fr h:=(rfl)
def onB(d:D)(x y:Prop):Prop:=
 match d with
 |.bool b=>match b with
  |true=>x
  |false=>y
 |_=>False
@[go_sem ↓] theorem zFd(c:Operand)(a b:Code):vwp P g n ro (.cond c a b) Q fr h=onB (qt fr c) (vwp P g n ro a Q fr h) (vwp P g n ro b Q fr h):=by
 simp only[vwp];rfl
@[congr] theorem zDz{d d':D}{x y:Prop}(h:d=d'):onB d x y=onB d' x y:=by rw[h]
@[go_sem ↓] theorem zFE(x y:Prop):onB (.bool true) x y=x:=(rfl)
@[go_sem ↓] theorem zD0(x y:Prop):onB (.bool false) x y=y:=(rfl)
@[go_sem ↓] theorem Es(Kn:Frm->Heap->Prop):gm Kn Q .normal fr h=Kn fr h:=(rfl)
@[go_sem ↓] theorem zER(Kn:Frm->Heap->Prop):gm Kn Q .ret fr h=Q .ret fr h:=(rfl)
@[go_sem ↓] theorem AL(Kn:Frm->Heap->Prop)(i:Nat):gm Kn Q (.exit i) fr h=Q (.exit i) fr h:=(rfl)
@[go_sem ↓] theorem Iv(i:Nat):cP i Q .normal fr h=Q .normal fr h:=(rfl)
@[go_sem ↓] theorem Bu(i:Nat):cP i Q .ret fr h=Q .ret fr h:=(rfl)
@[go_sem ↓] theorem DF(i j:Nat):cP i Q (.exit j) fr h=if j=i then Q .normal fr h else Q (.exit j) fr h:=(rfl)
@[go_sem ↓] theorem zFX:Xz P mu ops [] K fr h=K fr h:=(rfl)
@[go_sem ↓] theorem AV(op:Op):Xz P mu ops (⟨dst,op,ty,pos,after,none⟩ ::rest) K fr h=sZ P (bj mu dst) h.next op (qt fr) h λd h'=>Xz P mu ops rest K (o6 fr dst d) h':=(rfl)
def gif(g:Bool)(x y:Prop):Prop:=
 match g with
 |true=>x
 |false=>y
@[congr] theorem zCX{g g':Bool}{x y:Prop}(h:g=g'):gif g x y=gif g' x y:=by rw[h]
@[go_sem ↓] theorem zE6(x y:Prop):gif true x y=x:=(rfl)
@[go_sem ↓] theorem zCY(x y:Prop):gif false x y=y:=(rfl)
@[go_sem ↓] theorem AU(op:Op)(j:Nat)(b:Bool):Xz P mu ops (⟨dst,op,ty,pos,after,some (j,b)⟩ ::rest) K fr h =
  gif (uR ops fr (some (j,b))) (sZ P (bj mu dst) h.next op (qt fr) h λd h'=>Xz P mu ops rest K (o6 fr dst d) h') (Xz P mu ops rest K (o6 fr dst sn) h):=by
 simp only[Xz,gif];cases uR ops fr (some (j,b))<;>rfl
@[go_sem ↓] theorem zFP(t:Tmp):qt fr (.tmp t)=fr t:=(rfl)
@[go_sem ↓] theorem zFN(k:IntKind)(n:Int):qt fr (.const (.int k n))=.int k n:=(rfl)
@[go_sem ↓] theorem zEC(b:Bool):qt fr (.const (.bool b))=.bool b:=(rfl)
@[go_sem ↓] theorem zED(f:Nat):qt fr (.func f)=.fn (.func f) [] []:=(rfl)
@[go_sem ↓] theorem zFO(s:ByteArray):qt fr (.const (.string s))=.str s.data.toList:=(rfl)
@[go_sem ↓] theorem C2:qt fr (.const (.pointer none))=.nilptr:=(rfl)
@[go_sem ↓] theorem B9:qt fr (.const (.slice none 0 0))=.nilsl:=(rfl)
@[go_sem ↓] theorem C1:qt fr (.const (.map none))=.nilmap:=(rfl)
@[go_sem ↓] theorem B8:qt fr (.const .nilFunc)=.nilfn:=(rfl)
@[go_sem ↓] theorem zEH(t i:Tmp)(d:D):o6 fr (some t) d i=if i=t then d else fr i:=(rfl)
@[go_sem ↓] theorem zEG(d:D):o6 fr none d=fr:=(rfl)
@[go_sem ↓] theorem zJr(x:Operand):sZ P m nid (.move x) (qt fr) h k=k (qt fr x) h:=(rfl)
@[go_sem ↓] theorem zFT(x:Operand):sZ P m nid (.assign x) (qt fr) h k=k (qt fr x) h:=(rfl)
@[go_sem ↓] theorem zJp(f:Operand)(args:List Operand)(ats:Array TypeId):sZ P m nid (.call ⟨.value f,args.toArray,ats⟩) (qt fr) h k=ao P (qt fr f) (args.map (qt fr)) h k:=(rfl)
@[go_sem ↓] theorem Lb(f:FuncId)(a c args:List D):ao P (.fn (.func f) a c) args h k=zB P f (a++args++c) h k:=(rfl)
@[go_sem ↓] theorem zEv(id:Nat)(args:List D):ao P (.yld id) args h k=uN P id args h k:=(rfl)
def nV{o:Option D}(h1:uj op=none)(a:vop P m nid op ev h=o.map (·,h)):sZ P m nid op ev h k=onS o (k · h):=by
 unfold sZ;rw[h1,a];cases o<;>rfl
def ID{o:Option Heap}(h1:uj op=none)(a:vop P m nid op ev h=o.map (sn,·)):sZ P m nid op ev h k=onH o (k sn ·):=by
 unfold sZ;rw[h1,a];cases o<;>rfl
def Xq{o:VR}(h1:uj op=none)(a:vop P m nid op ev h=o):sZ P m nid op ev h k=onR o k:=by
 unfold sZ;rw[h1,a];cases o<;>rfl
@[go_sem ↓] theorem zKx(op:BinOp)(t u:TypeId)(x y:Operand):sZ P m nid (.binOp op t x y u) (qt fr) h k=onS (fV P op t (isC x||isC y) (qt fr x) (qt fr y)) (k · h):=nV rfl rfl
@[go_sem ↓] theorem zK3(op:UnOp)(t:TypeId)(x:Operand):sZ P m nid (.unOp op t x) (qt fr) h k=onS (vun op (qt fr x)) (k · h):=nV rfl rfl
@[go_sem ↓] theorem zJt(c x y:Operand):sZ P m nid (.pick c x y) (qt fr) h k=onB (qt fr c) (k (qt fr x) h) (k (qt fr y) h):=by
 simp only[sZ,uj,vop,onB];cases qt fr c with
 |bool b=>cases b<;>rfl
 |_=>rfl
@[go_sem ↓] theorem zIF(t:TypeId):sZ P m nid (.alloc t) (qt fr) h k=onR (vop P m nid (.alloc t) (qt fr) h) k:=Xq rfl rfl
@[go_sem ↓] theorem zKy(t:TypeId)(x:Operand):sZ P m nid (.box t x) (qt fr) h k=onR (vop P m nid (.box t x) (qt fr) h) k:=Xq rfl rfl
@[go_sem ↓] theorem zIG(t:TypeId)(ps:List (Nat×Operand)):sZ P m nid (.build t ps.toArray) (qt fr) h k=onS (wO P t (ps.map λp=>(p.1,qt fr p.2))) (k · h):=nV rfl rfl
@[go_sem ↓] theorem Eu(t:TypeId)(n:Nat)(ps:List (Nat×Operand)):sZ P m nid (.buildSlice t n ps.toArray) (qt fr) h k=onR (yB P m nid t n (ps.map λp=>(p.1,qt fr p.2)) h) k:=Xq rfl rfl
@[go_sem ↓] theorem zJq(t:TypeId)(x:Operand):sZ P m nid (.load t x) (qt fr) h k=onS (kW P t (qt fr x) h) (k · h):=nV rfl rfl
@[go_sem ↓] theorem zIL(t:TypeId)(x y:Operand):sZ P m nid (.store t x y) (qt fr) h k=onH (qP P t (qt fr x) (qt fr y) h) (k sn ·):=ID rfl rfl
@[go_sem ↓] theorem AO(x:Operand):sZ P m nid (.nilCheck x) (qt fr) h k=onS (qH (qt fr x)) (k · h):=nV rfl rfl
@[go_sem ↓] theorem zEV(s t:TypeId)(x:Operand):sZ P m nid (.convert s t x) (qt fr) h k=onS (bY P s t (qt fr x) h) (k · h):=nV rfl rfl
@[go_sem ↓] theorem AR(P:Program)(s t:TypeId)(k:IntKind)(n:Int)(h:Heap):bY P s t (.int k n) h=oc P s t (.int k n):=(rfl)
@[go_sem ↓] theorem AS(P:Program)(s t:TypeId)(x:List UInt8)(h:Heap):bY P s t (.str x) h=oc P s t (.str x):=(rfl)
@[go_sem ↓] theorem AN(f:FuncId)(a c:List Operand):sZ P m nid (.makeFunc (.func f) a.toArray c.toArray) (qt fr) h k=k (.fn (.func f) (a.map (qt fr)) (c.map (qt fr))) h:=(rfl)
@[go_sem ↓] theorem zEX(t:TypeId):sZ P m nid (.makeMap t none) (qt fr) h k=k (.map nid) (h.new nid (.map [])):=(rfl)
@[go_sem ↓] theorem Ba(t:TypeId)(x y:Operand):sZ P m nid (.makeSlice t x y) (qt fr) h k=onR (sM P m nid t (qt fr x) (qt fr y) h) k:=Xq rfl rfl
@[go_sem ↓] theorem zIK(t:TypeId)(x:Operand)(lo hi mx:Option Operand):sZ P m nid (.slice t x lo hi mx) (qt fr) h k=onS (wi P t (qt fr x) (lo.map (qt fr)) (hi.map (qt fr)) (mx.map (qt fr)) h) (k · h):=nV rfl rfl
@[go_sem ↓] theorem BY(t:TypeId)(x:Operand)(f:Nat):sZ P m nid (.fieldAddr t x f) (qt fr) h k=onS (n8 P t (qt fr x) f) (k · h):=nV rfl rfl
@[go_sem ↓] theorem BZ(t:TypeId)(x i:Operand):sZ P m nid (.indexAddr t x i) (qt fr) h k=onS (yP P t (qt fr x) (qt fr i)) (k · h):=nV rfl rfl
@[go_sem ↓] theorem zII(t:TypeId)(x i:Operand):sZ P m nid (.index t x i) (qt fr) h k=onS (kV P t (qt fr x) (qt fr i)) (k · h):=nV rfl rfl
@[go_sem ↓] theorem zFU(t:TypeId)(x y:Operand)(ok:Bool):sZ P m nid (.lookup t x y ok) (qt fr) h k=onS (uF P t (qt fr x) (qt fr y) ok h) (k · h):=nV rfl rfl
@[go_sem ↓] theorem Bb(t:TypeId)(x y z:Operand):sZ P m nid (.mapUpdate t x y z) (qt fr) h k=onH (wv P t (qt fr x) (qt fr y) (qt fr z) h) (k sn ·):=ID rfl rfl
@[go_sem ↓] theorem zIJ(t:TypeId)(x:Operand):sZ P m nid (.range t x) (qt fr) h k=onR (ZP P nid t (qt fr x) h) k:=Xq rfl rfl
@[go_sem ↓] theorem zJs(x:Operand)(b:Bool):sZ P m nid (.next x b) (qt fr) h k=onR (WQ (qt fr x) b h) k:=Xq rfl rfl
@[go_sem ↓] theorem zEW(x:Operand)(i:Nat):sZ P m nid (.extract x i) (qt fr) h k=onS (lO (qt fr x) i) (k · h):=nV rfl rfl
@[go_sem ↓] theorem zK0(t:TypeId)(x:Operand):sZ P m nid (.call ⟨.builtin .len,#[x],#[t]⟩) (qt fr) h k=onS (js P t (qt fr x) h) (k · h):=nV rfl rfl
@[go_sem ↓] theorem zFS(t u:TypeId)(x y:Operand):sZ P m nid (.call ⟨.builtin .append,#[x,y],#[t,u]⟩) (qt fr) h k=onR (if oR P u then nn P m nid t (qt fr x) (qt fr y) h else np P m nid t u (qt fr x) (qt fr y) h) k:=Xq rfl rfl
@[go_sem ↓] theorem AP(t:TypeId)(s x:D):nn P false nid t s x h=qh P false nid t s x h:=(rfl)
@[go_sem ↓] theorem AQ(t:TypeId)(s x:D):nn P true nid t s x h=qh P true nid t s x (sY s x h):=(rfl)
@[go_sem ↓] theorem AM(sz:Nat)(xs:List (List D))(tk:Tk)(x:D):sY (.sl sz xs tk) x h=h:=(rfl)
@[go_sem ↓] theorem zK2(ats:Array TypeId)(x y:Operand):sZ P m nid (.call ⟨.builtin .min,#[x,y],ats⟩) (qt fr) h k=onS (LZ (qt fr x) (qt fr y)) (k · h):=nV rfl rfl
@[go_sem ↓] theorem zK1(x y:Operand)(ats:Array TypeId):sZ P m nid (.call ⟨.builtin .max,#[x,y],ats⟩) (qt fr) h k=onS (GW (qt fr x) (qt fr y)) (k · h):=by
 refine nV rfl ?_;simp only[vop,nq,PY,qL,rL];cases GW (qt fr x) (qt fr y)<;>rfl
@[go_sem ↓] theorem Bw(d:D)(ds:List D):Vm (d::ds) 0=d:=(rfl)
@[go_sem ↓] theorem Bv(d:D)(ds:List D)(i:Nat):Vm (d::ds) (i+1)=Vm ds i:=(rfl)
def onL(o:Option (List D))(k:List D->Prop):Prop:=
 match o with
 |some ds=>k ds
 |none=>False
@[go_sem ↓] theorem zE1(rs:List ResultVar)(q:D->Heap->Prop):EB P rs q .ret fr h=onL (mi P fr h rs) λds=>q (aJ ds) h:=by
 unfold EB onL;cases mi P fr h rs<;>simp
@[go_sem ↓] theorem Dy(rs:List ResultVar)(q:D->Heap->Prop):EB P rs q .normal fr h=onL (mi P fr h rs) λds=>q (aJ ds) h:=by
 unfold EB onL;cases mi P fr h rs<;>simp
@[go_sem ↓] theorem zEo(k:List D->Prop):onL (mi P fr h []) k=k []:=(rfl)
@[go_sem ↓] theorem zEp(t:Tmp)(rs:List ResultVar)(k:List D->Prop):onL (mi P fr h (.tmp t::rs)) k=onL (mi P fr h rs) λds=>k (fr t::ds):=by
 simp only[mi,IG];cases mi P fr h rs<;>rfl
@[go_sem ↓] theorem AX(a:Tmp)(t:TypeId)(rs:List ResultVar)(k:List D->Prop):onL (mi P fr h (.cell a t::rs)) k=onS (kW P t (fr a) h) λd=>onL (mi P fr h rs) λds=>k (d::ds):=by
 simp only[mi,IG];cases kW P t (fr a) h with
 |none=>rfl
 |some d=>cases mi P fr h rs<;>rfl
@[go_sem ↓] theorem zEA(d:D):aJ [d]=d:=(rfl)
@[go_sem ↓] theorem zEB(d d':D)(ds:List D):aJ (d::d'::ds)=.tuple (d::d'::ds):=(rfl)
@[go_sem ↓] theorem zD9:aJ []=.tuple []:=(rfl)
end rules
def ye(sz:Nat)(xs:List (List D))(d:D):Prop:=(d=.nilsl/\xs= [])\/∃tk,d=.sl sz xs tk
section
variable{P:Program}{sz:Nat}{xs:List (List D)}{d:D}{t e:TypeId}{h:Heap}
def ye.mk(tk:Tk):ye sz xs (.sl sz xs tk):=.inr ⟨tk,rfl⟩
def ye.nil:ye sz [] .nilsl:=.inl ⟨rfl,rfl⟩
def uV(a:ye sz xs d)(b:P.underlying t=some (.slice e)):js P t d h=some (.int .i64 xs.length):=by
 rcases a with⟨rfl,rfl⟩ | ⟨tk,rfl⟩ <;>simp[js,b]
def qA(b:ye sz xs d)(c:tQ P t=some e)(f:szT P e=sz){k:IntKind}{x:List D}(a:xs[i]? =some x):yP P t d (.int k i)=some (.iptr x 0):=by
 rcases b with⟨rfl,rfl⟩ | ⟨tk,rfl⟩
 ·simp at a
 ·simp[yP,c,f,a]
end
@[go_sem ↓] theorem zFV(P:Program)(op:BinOp)(t:TypeId)(c:Bool)(k k':IntKind)(a b:Int):fV P op t c (.int k a) (.int k' b)=mg op k k' a b:=(rfl)
@[go_sem ↓] theorem zFW(P:Program)(op:BinOp)(t:TypeId)(c:Bool)(a b:List UInt8):fV P op t c (.str a) (.str b)=Ia op a b:=(rfl)
@[go_sem ↓] theorem zEb(k:IntKind)(a b:Int):mg .add k k a b=some (.int k (k.wrap (a+b))):=by simp[mg,Nx]
@[go_sem ↓] theorem zEj(k:IntKind)(a b:Int):mg .sub k k a b=some (.int k (k.wrap (a-b))):=by simp[mg,Nx]
@[go_sem ↓] theorem zEh(k:IntKind)(a b:Int):mg .mul k k a b=some (.int k (k.wrap (a*b))):=by simp[mg,Nx]
@[go_sem ↓] theorem zEg(k:IntKind)(a b:Int):mg .lss k k a b=some (.bool (decide (a<b))):=by simp[mg,Nx]
@[go_sem ↓] theorem zEf(k:IntKind)(a b:Int):mg .leq k k a b=some (.bool (decide (a<=b))):=by simp[mg,Nx]
@[go_sem ↓] theorem zEe(k:IntKind)(a b:Int):mg .gtr k k a b=some (.bool (decide (a>b))):=by simp[mg,Nx]
@[go_sem ↓] theorem zEd(k:IntKind)(a b:Int):mg .geq k k a b=some (.bool (decide (a>=b))):=by simp[mg,Nx]
@[go_sem ↓] theorem zEc(k:IntKind)(a b:Int):mg .eql k k a b=some (.bool (a==b)):=by simp[mg,Nx]
@[go_sem ↓] theorem zEi(k:IntKind)(a b:Int):mg .neq k k a b=some (.bool (a !=b)):=by simp[mg,Nx]
@[go_sem ↓] theorem zFY(a b:List UInt8):Ia .eql a b=some (.bool (a==b)):=(rfl)
@[go_sem ↓] theorem zFc(a b:List UInt8):Ia .neq a b=some (.bool (!(a==b))):=(rfl)
@[go_sem ↓] theorem zFb(a b:List UInt8):Ia .lss a b=some (.bool (l8 a b)):=(rfl)
@[go_sem ↓] theorem AT(P:Program)(t:TypeId)(cs:List D)(off:Nat)(h:Heap):kW P t (.iptr cs off) h=(match agT P t with
 |none=>none
 |some ag=>yN ag (szT P t) cs off):=(rfl)
@[go_sem ↓] theorem mh(n:Nat)(cs:List D)(off:Nat):yN false n cs off=cs[off]? :=(rfl)
variable{P:Program}{n:Nat}{fr:Frm}{h:Heap}{K:D->Heap->Prop}
def N5{g:Cfg}{ro:Option Nat}{c:Code}{Q:Exit->Frm->Heap->Prop}(I:Nat->Frm->Heap->Prop)(k:Nat)(a:I k fr h)
  (hr:∀k fr h,I k fr h->vwp P g n ro c (gm (λfr h=>∃m,m<k/\I m fr h) Q) fr h):vwp P g n ro (.loop c) Q fr h:=⟨I,⟨k,a⟩,hr⟩
open Go.Proofs.Tryz
open Go.Proofs
@[go_sem] theorem pj:szT prog 3=1:=kr
@[go_sem] theorem zJz:agT prog 3=some false:=kr
@[go_sem] theorem nO:sD prog 3=some (.int .i64 0):=kr
@[go_sem] theorem zEN:oR prog 3=false:=kr
@[go_sem] theorem Ey:X0 prog 3=true:=kr
@[go_sem] theorem Po:uW prog 3=8:=kr
@[go_sem] theorem Ea:NM prog 3=some (false,[.i]):=kr
@[go_sem] theorem zEQ:szT prog 4=1:=kr
@[go_sem] theorem zJ0:agT prog 4=some false:=kr
@[go_sem] theorem zIW:sD prog 4=some (.bool false):=kr
@[go_sem] theorem zIC:szT prog 5=1:=kr
@[go_sem] theorem zJ1:agT prog 5=some false:=kr
@[go_sem] theorem md:szT prog 9=1:=kr
@[go_sem] theorem zJ2:agT prog 9=some false:=kr
@[go_sem] theorem Xx:sD prog 9=some (.str []):=kr
@[go_sem] theorem VN:X0 prog 9=true:=kr
@[go_sem] theorem kw:uW prog 9=16:=kr
@[go_sem] theorem Pm:X5 prog 9=none:=kr
@[go_sem] theorem Tm:NM prog 9=some (false,[.s]):=kr
@[go_sem] theorem zJg:szT prog 22=1:=kr
@[go_sem] theorem zIZ:agT prog 22=some false:=kr
@[go_sem] theorem cV:tQ prog 22=some 80:=kr
@[go_sem] theorem AE:oR prog 22=true:=kr
@[go_sem] theorem DB:X5 prog 22=none:=kr
@[go_sem] theorem zJh:szT prog 23=1:=kr
@[go_sem] theorem zIa:agT prog 23=some false:=kr
@[go_sem] theorem HU:tQ prog 23=some 85:=kr
@[go_sem] theorem zJi:szT prog 24=1:=kr
@[go_sem] theorem zIb:agT prog 24=some false:=kr
@[go_sem] theorem cW:tQ prog 24=some 89:=kr
@[go_sem] theorem AF:oR prog 24=true:=kr
@[go_sem] theorem zJj:szT prog 25=1:=kr
@[go_sem] theorem zIc:agT prog 25=some false:=kr
@[go_sem] theorem HV:tQ prog 25=some 93:=kr
@[go_sem] theorem zJk:szT prog 27=4:=kr
@[go_sem] theorem Ai:agT prog 27=some true:=kr
@[go_sem] theorem D4:qr prog 27 0=some (0,22):=kr
@[go_sem] theorem D5:qr prog 27 1=some (1,23):=kr
@[go_sem] theorem D6:qr prog 27 2=some (2,24):=kr
@[go_sem] theorem D7:qr prog 27 3=some (3,25):=kr
@[go_sem] theorem zJl:szT prog 29=1:=kr
@[go_sem] theorem Aj:agT prog 29=some false:=kr
@[go_sem] theorem HW:tQ prog 29=some 56:=kr
@[go_sem] theorem Xj:szT prog 30=1:=kr
@[go_sem] theorem zId:agT prog 30=some false:=kr
@[go_sem] theorem N6:sD prog 30=some .nilsl:=kr
@[go_sem] theorem uc:tQ prog 30=some 108:=kr
@[go_sem] theorem AG:oR prog 30=true:=kr
@[go_sem] theorem IP:X0 prog 30=true:=kr
@[go_sem] theorem U3:uW prog 30=24:=kr
@[go_sem] theorem zEP:szT prog 31=1:=kr
@[go_sem] theorem zIe:agT prog 31=some false:=kr
@[go_sem] theorem t5:tQ prog 31=some 9:=kr
@[go_sem] theorem AH:oR prog 31=true:=kr
@[go_sem] theorem DC:X5 prog 31=none:=kr
@[go_sem] theorem zJm:szT prog 33=2:=kr
@[go_sem] theorem Ak:agT prog 33=some true:=kr
@[go_sem] theorem D8:qr prog 33 0=some (0,30):=kr
@[go_sem] theorem D9:qr prog 33 1=some (1,31):=kr
@[go_sem] theorem Er:szT prog 36=1:=kr
@[go_sem] theorem zIf:agT prog 36=some false:=kr
@[go_sem] theorem zFh:sD prog 36=some .nilsl:=kr
@[go_sem] theorem wc:tQ prog 36=some 42:=kr
@[go_sem] theorem AI:oR prog 36=true:=kr
@[go_sem] theorem dc:X5 prog 36=none:=kr
@[go_sem] theorem VD:szT prog 37=1:=kr
@[go_sem] theorem zIg:agT prog 37=some false:=kr
@[go_sem] theorem zFi:sD prog 37=some (.int .i64 0):=kr
@[go_sem] theorem zJn:szT prog 40=1:=kr
@[go_sem] theorem zIh:agT prog 40=some false:=kr
@[go_sem] theorem uL:tQ prog 40=some 3:=kr
@[go_sem] theorem AJ:oR prog 40=true:=kr
@[go_sem] theorem QA:X5 prog 40=none:=kr
@[go_sem] theorem tY:szT prog 42=2:=kr
@[go_sem] theorem Al:agT prog 42=some true:=kr
@[go_sem] theorem ja:sD prog 42=some (.agg [(.int .i64 0),.nilsl]):=kr
@[go_sem] theorem jb:X0 prog 42=true:=kr
@[go_sem] theorem mK:uW prog 42=32:=kr
@[go_sem] theorem aK:nL prog 42=some [(0,1),(1,1)]:=kr
@[go_sem] theorem CA:qr prog 42 0=some (0,3):=kr
@[go_sem] theorem CB:qr prog 42 1=some (1,40):=kr
@[go_sem] theorem zJo:szT prog 52=1:=kr
@[go_sem] theorem zIi:agT prog 52=some false:=kr
@[go_sem] theorem HX:tQ prog 52=some 54:=kr
@[go_sem] theorem Jx:szT prog 54=4:=kr
@[go_sem] theorem zIj:agT prog 54=some true:=kr
@[go_sem] theorem Ga:sD prog 54=some (.agg [(.int .i64 0),(.str []),(.str []),.nilsl]):=kr
@[go_sem] theorem Mx:nL prog 54=some [(0,1),(1,1),(2,1),(3,1)]:=kr
@[go_sem] theorem CC:qr prog 54 0=some (0,3):=kr
@[go_sem] theorem CD:qr prog 54 1=some (1,9):=kr
@[go_sem] theorem CE:qr prog 54 2=some (2,9):=kr
@[go_sem] theorem CF:qr prog 54 3=some (3,52):=kr
@[go_sem] theorem Rg:szT prog 56=12:=kr
@[go_sem] theorem zIk:agT prog 56=some true:=kr
@[go_sem] theorem zFj:sD prog 56=some (.agg [(.int .i64 0),(.str []),(.str []),(.int .i64 0),(.int .i64 0),(.int .i64 0),(.bool false),(.int .i64 0),(.str []),(.str []),.nilsl,.nilsl]):=kr
@[go_sem] theorem CG:qr prog 56 0=some (0,3):=kr
@[go_sem] theorem CH:qr prog 56 1=some (1,9):=kr
@[go_sem] theorem CI:qr prog 56 2=some (2,9):=kr
@[go_sem] theorem CJ:qr prog 56 3=some (3,3):=kr
@[go_sem] theorem CK:qr prog 56 4=some (4,3):=kr
@[go_sem] theorem CL:qr prog 56 5=some (5,3):=kr
@[go_sem] theorem CM:qr prog 56 6=some (6,4):=kr
@[go_sem] theorem CO:qr prog 56 7=some (7,54):=kr
@[go_sem] theorem CP:qr prog 56 8=some (11,31):=kr
@[go_sem] theorem zIl:agT prog 63=some false:=kr
@[go_sem] theorem bT:szT prog 80=4:=kr
@[go_sem] theorem zIm:agT prog 80=some true:=kr
@[go_sem] theorem Ur:sD prog 80=some (.agg [(.str []),(.str []),(.int .i64 0),(.str [])]):=kr
@[go_sem] theorem Bh:X0 prog 80=true:=kr
@[go_sem] theorem Ll:uW prog 80=56:=kr
@[go_sem] theorem Wt:nL prog 80=some [(0,1),(1,1),(2,1),(3,1)]:=kr
@[go_sem] theorem CQ:qr prog 80 0=some (0,9):=kr
@[go_sem] theorem CR:qr prog 80 1=some (1,9):=kr
@[go_sem] theorem CS:qr prog 80 2=some (2,3):=kr
@[go_sem] theorem CT:qr prog 80 3=some (3,9):=kr
@[go_sem] theorem Rh:szT prog 85=3:=kr
@[go_sem] theorem zIn:agT prog 85=some true:=kr
@[go_sem] theorem zFk:sD prog 85=some (.agg [(.str []),(.str []),.nilsl]):=kr
@[go_sem] theorem CU:qr prog 85 0=some (0,9):=kr
@[go_sem] theorem CV:qr prog 85 1=some (1,9):=kr
@[go_sem] theorem CW:qr prog 85 2=some (2,40):=kr
@[go_sem] theorem gk:szT prog 89=5:=kr
@[go_sem] theorem zIo:agT prog 89=some true:=kr
@[go_sem] theorem Gb:sD prog 89=some (.agg [(.str []),(.int .i64 0),(.int .i64 0),(.int .i64 0),.nilsl]):=kr
@[go_sem] theorem Pc:X0 prog 89=true:=kr
@[go_sem] theorem YH:uW prog 89=64:=kr
@[go_sem] theorem CX:qr prog 89 0=some (0,9):=kr
@[go_sem] theorem CY:qr prog 89 1=some (1,3):=kr
@[go_sem] theorem CZ:qr prog 89 2=some (2,3):=kr
@[go_sem] theorem Ca:qr prog 89 3=some (3,3):=kr
@[go_sem] theorem Cb:qr prog 89 4=some (4,31):=kr
@[go_sem] theorem Nr:szT prog 93=2:=kr
@[go_sem] theorem zIp:agT prog 93=some true:=kr
@[go_sem] theorem Gc:sD prog 93=some (.agg [(.str []),(.str [])]):=kr
@[go_sem] theorem My:nL prog 93=some [(0,1),(1,1)]:=kr
@[go_sem] theorem Cc:qr prog 93 0=some (0,9):=kr
@[go_sem] theorem Cd:qr prog 93 1=some (1,9):=kr
@[go_sem] theorem fJ:tQ prog 96=some 30:=kr
@[go_sem] theorem AK:oR prog 96=true:=kr
@[go_sem] theorem Yh:tQ prog 107=some 112:=kr
@[go_sem] theorem BL:oR prog 107=true:=kr
@[go_sem] theorem uT:szT prog 108=1:=kr
@[go_sem] theorem zFn:agT prog 108=some false:=kr
@[go_sem] theorem bi:sD prog 108=some .nilsl:=kr
@[go_sem] theorem uO:tQ prog 108=some 112:=kr
@[go_sem] theorem BM:oR prog 108=true:=kr
@[go_sem] theorem p7:X0 prog 108=true:=kr
@[go_sem] theorem tt:uW prog 108=24:=kr
@[go_sem] theorem cN:X5 prog 108=none:=kr
@[go_sem] theorem uo:szT prog 112=2:=kr
@[go_sem] theorem zFo:agT prog 112=some true:=kr
@[go_sem] theorem so:sD prog 112=some (.agg [(.str []),(.str [])]):=kr
@[go_sem] theorem Us:X0 prog 112=true:=kr
@[go_sem] theorem fE:uW prog 112=32:=kr
@[go_sem] theorem oM:nL prog 112=some [(0,1),(1,1)]:=kr
@[go_sem] theorem EC:qr prog 112 0=some (0,9):=kr
@[go_sem] theorem ED:qr prog 112 1=some (1,9):=kr
@[go_sem] theorem zH9:szT prog 116=1:=kr
@[go_sem] theorem zFp:agT prog 116=some false:=kr
@[go_sem] theorem NT:NS prog 116=some (3,108):=kr
@[go_sem] theorem zIA:szT prog 117=1:=kr
@[go_sem] theorem zFq:agT prog 117=some false:=kr
@[go_sem] theorem NU:NS prog 117=some (9,9):=kr
@[go_sem] theorem IL:sD prog 119=some (.agg [.nilsl,.nilsl,.nilsl,.nilsl,.nilsl,.nilmap,.nilmap]):=kr
@[go_sem] theorem Q4:nL prog 119=some [(0,4),(4,1),(5,1),(6,1)]:=kr
@[go_sem] theorem EE:qr prog 119 0=some (0,27):=kr
@[go_sem] theorem EF:qr prog 119 1=some (4,29):=kr
@[go_sem] theorem EG:qr prog 119 2=some (5,116):=kr
@[go_sem] theorem EI:qr prog 119 3=some (6,117):=kr
@[go_sem] theorem IM:sD prog 133=some (.agg [(.int .i64 0),(.int .i64 0),(.int .i64 0)]):=kr
@[go_sem] theorem KX:tQ prog 133=none:=kr
@[go_sem] theorem Pk:X5 prog 133=some (3,3):=kr
@[go_sem] theorem Q5:nL prog 133=none:=kr
@[go_sem] theorem V5:NS prog 149=some (9,3):=kr
@[go_sem] theorem TX:tQ prog 167=some 171:=kr
@[go_sem] theorem zIB:szT prog 169=1:=kr
@[go_sem] theorem zFr:agT prog 169=some false:=kr
@[go_sem] theorem PT:szT prog 171=2:=kr
@[go_sem] theorem zFs:agT prog 171=some true:=kr
@[go_sem] theorem Rw:sD prog 171=some (.agg [(.int .i64 0),.nilfn]):=kr
@[go_sem] theorem Q6:nL prog 171=some [(0,1),(1,1)]:=kr
@[go_sem] theorem EJ:qr prog 171 0=some (0,3):=kr
@[go_sem] theorem EK:qr prog 171 1=some (1,169):=kr
@[go_sem] theorem zFt:agT prog 174=some false:=kr
@[go_sem] theorem KY:tQ prog 198=some 5:=kr
@[go_sem] theorem Jw:szT prog 237=8:=kr
@[go_sem] theorem zFu:agT prog 237=some true:=kr
@[go_sem] theorem kZ:sD prog 237=some (.agg [(.bool false),(.bool false),(.bool false),(.bool false),(.bool false),(.bool false),(.bool false),(.bool false)]):=kr
@[go_sem] theorem oN:nL prog 237=some [(0,1),(1,1),(2,1),(3,1),(4,1),(5,1),(6,1),(7,1)]:=kr
@[go_sem] theorem EL:qr prog 237 0=some (0,4):=kr
@[go_sem] theorem EM:qr prog 237 1=some (1,4):=kr
@[go_sem] theorem EN:qr prog 237 2=some (2,4):=kr
@[go_sem] theorem EO:qr prog 237 3=some (3,4):=kr
@[go_sem] theorem EP:qr prog 237 4=some (4,4):=kr
@[go_sem] theorem EQ:qr prog 237 5=some (5,4):=kr
@[go_sem] theorem ER:qr prog 237 6=some (6,4):=kr
@[go_sem] theorem ES:qr prog 237 7=some (7,4):=kr
@[go_sem] theorem BS:szT prog 256=3:=kr
@[go_sem] theorem zFv:agT prog 256=some true:=kr
@[go_sem] theorem IN:sD prog 256=some (.agg [(.int .i64 0),(.int .i64 0),(.int .i64 0)]):=kr
@[go_sem] theorem Q7:nL prog 256=some [(0,1),(1,1),(2,1)]:=kr
@[go_sem] theorem ET:qr prog 256 0=some (0,3):=kr
@[go_sem] theorem EU:qr prog 256 1=some (1,3):=kr
@[go_sem] theorem EV:qr prog 256 2=some (2,3):=kr
@[go_sem] theorem zFw:agT prog 263=some false:=kr
@[go_sem] theorem BT:szT prog 298=1:=kr
@[go_sem] theorem zFx:agT prog 298=some false:=kr
@[go_sem] theorem zEs:sD prog 298=some .nilfn:=kr
@[go_sem] theorem zFy:agT prog 305=some false:=kr
end Go.V
