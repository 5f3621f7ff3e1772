/- A machine of abstract values for programs of the model, and its soundness, part 5. No condition. -/
import Derived.Test.YtkenagjlanhnmaaGreatDoorW02
import Derived.KernelRfl
import Derived.Test.YtkenagjlanhnmaaGreatDoorProg
set_option linter.all false
set_option maxHeartbeats 8000000
namespace Go.V
def onS(o:Option D)(k:D->Prop):Prop:=
 match o with
 |some d=>k d
 |none=>False
def onR(o:VR)(k:D->Heap->Prop):Prop:=
 match o with
 |some (d,h)=>k d h
 |none=>False
def onH(o:Option Heap)(k:Heap->Prop):Prop:=
 match o with
 |some h=>k h
 |none=>False
@[congr] theorem zIU{o o':Option D}{k:D->Prop}(h:o=o'):onS o k=onS o' k:=by rw[h]
@[congr] theorem zIS{o o':VR}{k:D->Heap->Prop}(h:o=o'):onR o k=onR o' k:=by rw[h]
@[congr] theorem zIN{o o':Option Heap}{k:Heap->Prop}(h:o=o'):onH o k=onH o' k:=by rw[h]
variable{P:Program}{f:FuncId}{h h':Heap}{K:D->Heap->Prop}{id i n:Nat}{op:Op}{ev:Operand->D}{fr:Frm}
@[congr] theorem zAC{args args':List D}(ha:args=args')(hh:h=h'):zE P f args h K=zE P f args' h' K:=by rw[ha,hh]
@[congr] theorem Dn{args args':List D}(ha:args=args')(hh:h=h'):uC P id args h K=uC P id args' h' K:=by rw[ha,hh]
@[congr] theorem zCu{f f':D}{args args':List D}(hf:f=f')(ha:args=args')(hh:h=h'):YL P f args h K=YL P f' args' h' K:=by rw[hf,ha,hh]
def zJ0(d:D)(k:D->Prop):onS (some d) k=k d:=(rfl)
theorem dm(d:D)(h:Heap)(k:D->Heap->Prop):onR (some (d,h)) k=k d h:=(rfl)
def zJw(h:Heap)(k:Heap->Prop):onH (some h) k=k h:=(rfl)
section rules
variable{P:Program}{g:Cfg}{n:Nat}{ro:Option Nat}{mu:Tmp->Bool}{ops:Array Oper}{rest:List Oper}{K:Frm->Heap->Prop}{fr:Frm}{h:Heap}{dst:Option Tmp}{ty:TypeId}{pos:String}{after:Array Edge}{gd:Option (Nat×Bool)}{Q:Exit->Frm->Heap->Prop}
 {m:Bool} {nid:Nat} {k:D->Heap->Prop}
def Re(a b:Code):vwp P g n ro (.seq a b) Q fr h=vwp P g n ro a (bX (vwp P g n ro b Q) Q) fr h:=(rfl)
def zDj(id:Nat)(l:List Oper):vwp P g n ro (.region id l.toArray false) Q fr h=VO P g.mu l.toArray l (Q .normal) fr h:=(rfl)
def Rc(id:Nat)(ops:Array Oper):vwp P g n ro (.region id ops true) Q fr h= ∃h0,HLe h0 h/\cn P g.mu h0 (J6 P g.mu ops (g.dr id) (Zo ops.toList 0 [])) ops ((g.dr id).any (·.2.isSt)) (g.dr id) (Q .normal) fr h:=(rfl)
def zKP:vwp P g n ro .skip Q fr h=Q .normal fr h:=(rfl)
def zNe:vwp P g n ro .ret Q fr h=Q .ret fr h:=(rfl)
def zKO(i:Nat):vwp P g n ro (.exit i) Q fr h=Q (.exit i) fr h:=(rfl)
def zJI(id:Nat)(c:Code):vwp P g n ro (.block id c) Q fr h=vwp P g n ro c (bp id Q) fr h:=(rfl)
def onB(d:D)(x y:Prop):Prop:=
 match d with
 |.bool b=>match b with
  |true=>x
  |false=>y
 |_=>False
def zKN(c:Operand)(a b:Code):vwp P g n ro (.cond c a b) Q fr h=onB (qz fr c) (vwp P g n ro a Q fr h) (vwp P g n ro b Q fr h):=by
 simp only[vwp];rfl
@[congr] theorem zIK{d d':D}{x y:Prop}(h:d=d'):onB d x y=onB d' x y:=by rw[h]
def zJu(x y:Prop):onB (.bool true) x y=x:=(rfl)
def zIL(x y:Prop):onB (.bool false) x y=y:=(rfl)
def A3(Kn:Frm->Heap->Prop):bX Kn Q .normal fr h=Kn fr h:=(rfl)
def zIs(Kn:Frm->Heap->Prop):bX Kn Q .ret fr h=Q .ret fr h:=(rfl)
def zDT(Kn:Frm->Heap->Prop)(i:Nat):bX Kn Q (.exit i) fr h=Q (.exit i) fr h:=(rfl)
def Fw(i:Nat):bp i Q .normal fr h=Q .normal fr h:=(rfl)
def zC0(i:Nat):bp i Q .ret fr h=Q .ret fr h:=(rfl)
def zAK(i j:Nat):bp i Q (.exit j) fr h=if j=i then Q .normal fr h else Q (.exit j) fr h:=(rfl)
def zKH:VO P mu ops [] K fr h=K fr h:=(rfl)
def zDd(op:Op):VO P mu ops (⟨dst,op,ty,pos,after,none⟩ ::rest) K fr h=rK P (ZS mu dst) h.next op (qz fr) h λd h'=>VO P mu ops rest K (nz fr dst d) h':=(rfl)
def gif(g:Bool)(x y:Prop):Prop:=
 match g with
 |true=>x
 |false=>y
@[congr] theorem zGT{g g':Bool}{x y:Prop}(h:g=g'):gif g x y=gif g' x y:=by rw[h]
def zJe(x y:Prop):gif true x y=x:=(rfl)
def zGU(x y:Prop):gif false x y=y:=(rfl)
def zDc(op:Op)(j:Nat)(b:Bool):VO P mu ops (⟨dst,op,ty,pos,after,some (j,b)⟩ ::rest) K fr h =
  gif (uf ops fr (some (j,b))) (rK P (ZS mu dst) h.next op (qz fr) h λd h'=>VO P mu ops rest K (nz fr dst d) h') (VO P mu ops rest K (nz fr dst rJ) h):=by
 simp only[VO,gif];cases uf ops fr (some (j,b))<;>rfl
def zJ5(t:Tmp):qz fr (.tmp t)=fr t:=(rfl)
def zJ3(k:IntKind)(n:Int):qz fr (.const (.int k n))=.int k n:=(rfl)
def zIY(b:Bool):qz fr (.const (.bool b))=.bool b:=(rfl)
def zIZ(f:Nat):qz fr (.func f)=.fn (.func f) [] []:=(rfl)
def zJ4(s:ByteArray):qz fr (.const (.string s))=.str s.data.toList:=(rfl)
def zB7:qz fr (.const (.pointer none))=.nilptr:=(rfl)
def zDE:qz fr (.const (.slice none 0 0))=.nilsl:=(rfl)
def zB6:qz fr (.const (.map none))=.nilmap:=(rfl)
def zDD:qz fr (.const .nilFunc)=.nilfn:=(rfl)
def zId(t i:Tmp)(d:D):nz fr (some t) d i=if i=t then d else fr i:=(rfl)
def zIc(d:D):nz fr none d=fr:=(rfl)
def zPp(x:Operand):rK P m nid (.move x) (qz fr) h k=k (qz fr x) h:=(rfl)
def zKA(x:Operand):rK P m nid (.assign x) (qz fr) h k=k (qz fr x) h:=(rfl)
def zPn(f:Operand)(args:List Operand)(ats:Array TypeId):rK P m nid (.call ⟨.value f,args.toArray,ats⟩) (qz fr) h k=YL P (qz fr f) (args.map (qz fr)) h k:=(rfl)
def J0(f:FuncId)(a c args:List D):YL P (.fn (.func f) a c) args h k=zE P f (a++args++c) h k:=(rfl)
def zJS(id:Nat)(args:List D):YL P (.yld id) args h k=uC P id args h k:=(rfl)
def mU{o:Option D}(h1:uy op=none)(a:vop P m nid op ev h=o.map (·,h)):rK P m nid op ev h k=onS o (k · h):=by
 unfold rK;rw[h1,a];cases o<;>rfl
def G8{o:Option Heap}(h1:uy op=none)(a:vop P m nid op ev h=o.map (rJ,·)):rK P m nid op ev h k=onH o (k rJ ·):=by
 unfold rK;rw[h1,a];cases o<;>rfl
def Uw{o:VR}(h1:uy op=none)(a:vop P m nid op ev h=o):rK P m nid op ev h k=onR o k:=by
 unfold rK;rw[h1,a];cases o<;>rfl
def zQW(op:BinOp)(t u:TypeId)(x y:Operand):rK P m nid (.binOp op t x y u) (qz fr) h k=onS (jR P op t (isC x||isC y) (qz fr x) (qz fr y)) (k · h):=mU rfl rfl
def zQd(op:UnOp)(t:TypeId)(x:Operand):rK P m nid (.unOp op t x) (qz fr) h k=onS (vun op (qz fr x)) (k · h):=mU rfl rfl
def zPr(c x y:Operand):rK P m nid (.pick c x y) (qz fr) h k=onB (qz fr c) (k (qz fr x) h) (k (qz fr y) h):=by
 simp only[rK,uy,vop,onB];cases qz fr c with
 |bool b=>cases b<;>rfl
 |_=>rfl
def zNQ(t:TypeId):rK P m nid (.alloc t) (qz fr) h k=onR (vop P m nid (.alloc t) (qz fr) h) k:=Uw rfl rfl
def zQX(t:TypeId)(x:Operand):rK P m nid (.box t x) (qz fr) h k=onR (vop P m nid (.box t x) (qz fr) h) k:=Uw rfl rfl
def zNR(t:TypeId)(ps:List (Nat×Operand)):rK P m nid (.build t ps.toArray) (qz fr) h k=onS (qX P t (ps.map λp=>(p.1,qz fr p.2))) (k · h):=mU rfl rfl
def A5(t:TypeId)(n:Nat)(ps:List (Nat×Operand)):rK P m nid (.buildSlice t n ps.toArray) (qz fr) h k=onR (yA P m nid t n (ps.map λp=>(p.1,qz fr p.2)) h) k:=Uw rfl rfl
def zPo(t:TypeId)(x:Operand):rK P m nid (.load t x) (qz fr) h k=onS (jT P t (qz fr x) h) (k · h):=mU rfl rfl
def zNV(t:TypeId)(x y:Operand):rK P m nid (.store t x y) (qz fr) h k=onH (yR P t (qz fr x) (qz fr y) h) (k rJ ·):=G8 rfl rfl
def zDW(x:Operand):rK P m nid (.nilCheck x) (qz fr) h k=onS (qU (qz fr x)) (k · h):=mU rfl rfl
def zIv(s t:TypeId)(x:Operand):rK P m nid (.convert s t x) (qz fr) h k=onS (ZH P s t (qz fr x) h) (k · h):=mU rfl rfl
def zDZ(P:Program)(s t:TypeId)(k:IntKind)(n:Int)(h:Heap):ZH P s t (.int k n) h=ng P s t (.int k n):=(rfl)
def zDa(P:Program)(s t:TypeId)(x:List UInt8)(h:Heap):ZH P s t (.str x) h=ng P s t (.str x):=(rfl)
def zDV(f:FuncId)(a c:List Operand):rK P m nid (.makeFunc (.func f) a.toArray c.toArray) (qz fr) h k=k (.fn (.func f) (a.map (qz fr)) (c.map (qz fr))) h:=(rfl)
def zIx(t:TypeId):rK P m nid (.makeMap t none) (qz fr) h k=k (.map nid) (h.new nid (.map [])):=(rfl)
def zCj(t:TypeId)(x y:Operand):rK P m nid (.makeSlice t x y) (qz fr) h k=onR (uk P m nid t (qz fr x) (qz fr y) h) k:=Uw rfl rfl
def zNU(t:TypeId)(x:Operand)(lo hi mx:Option Operand):rK P m nid (.slice t x lo hi mx) (qz fr) h k=onS (ww P t (qz fr x) (lo.map (qz fr)) (hi.map (qz fr)) (mx.map (qz fr)) h) (k · h):=mU rfl rfl
def zCh(t:TypeId)(x:Operand)(f:Nat):rK P m nid (.fieldAddr t x f) (qz fr) h k=onS (oM P t (qz fr x) f) (k · h):=mU rfl rfl
def zCi(t:TypeId)(x i:Operand):rK P m nid (.indexAddr t x i) (qz fr) h k=onS (yj P t (qz fr x) (qz fr i)) (k · h):=mU rfl rfl
def zNT(t:TypeId)(x i:Operand):rK P m nid (.index t x i) (qz fr) h k=onS (mG P t (qz fr x) (qz fr i)) (k · h):=mU rfl rfl
def zKB(t:TypeId)(x y:Operand)(ok:Bool):rK P m nid (.lookup t x y ok) (qz fr) h k=onS (uW P t (qz fr x) (qz fr y) ok h) (k · h):=mU rfl rfl
def zCk(t:TypeId)(x y z:Operand):rK P m nid (.mapUpdate t x y z) (qz fr) h k=onH (uH P t (qz fr x) (qz fr y) (qz fr z) h) (k rJ ·):=G8 rfl rfl
def zPq(x:Operand)(b:Bool):rK P m nid (.next x b) (qz fr) h k=onR (Vl (qz fr x) b h) k:=Uw rfl rfl
def zIw(x:Operand)(i:Nat):rK P m nid (.extract x i) (qz fr) h k=onS (kE (qz fr x) i) (k · h):=mU rfl rfl
def zQZ(t:TypeId)(x:Operand):rK P m nid (.call ⟨.builtin .len,#[x],#[t]⟩) (qz fr) h k=onS (o5 P t (qz fr x) h) (k · h):=mU rfl rfl
def zJ9(t u:TypeId)(x y:Operand):rK P m nid (.call ⟨.builtin .append,#[x,y],#[t,u]⟩) (qz fr) h k=onR (if rS P u then md P m nid t (qz fr x) (qz fr y) h else me P m nid t u (qz fr x) (qz fr y) h) k:=Uw rfl rfl
def zDX(t:TypeId)(s x:D):md P false nid t s x h=qg P false nid t s x h:=(rfl)
def zDY(t:TypeId)(s x:D):md P true nid t s x h=qg P true nid t s x (t6 s x h):=(rfl)
def zDU(sz:Nat)(xs:List (List D))(tk:Tk)(x:D):t6 (.sl sz xs tk) x h=h:=(rfl)
def zQb(ats:Array TypeId)(x y:Operand):rK P m nid (.call ⟨.builtin .min,#[x,y],ats⟩) (qz fr) h k=onS (Jy (qz fr x) (qz fr y)) (k · h):=mU rfl rfl
def zQa(x y:Operand)(ats:Array TypeId):rK P m nid (.call ⟨.builtin .max,#[x,y],ats⟩) (qz fr) h k=onS (Dc (qz fr x) (qz fr y)) (k · h):=by
 refine mU rfl ?_;simp only[vop,mf,MU,qV,oE];cases Dc (qz fr x) (qz fr y)<;>rfl
def zC2(d:D)(ds:List D):TV (d::ds) 0=d:=(rfl)
def zC1(d:D)(ds:List D)(i:Nat):TV (d::ds) (i+1)=TV ds i:=(rfl)
def onL(o:Option (List D))(k:List D->Prop):Prop:=
 match o with
 |some ds=>k ds
 |none=>False
@[congr] theorem zIO{o o':Option (List D)}{k:List D->Prop}(h:o=o'):onL o k=onL o' k:=by rw[h]
def zJY(rs:List ResultVar)(q:D->Heap->Prop):Bu P rs q .ret fr h=onL (lY P fr h rs) λds=>q (Zw ds) h:=by
 unfold Bu onL;cases lY P fr h rs<;>simp
def zA5(rs:List ResultVar)(q:D->Heap->Prop):Bu P rs q .normal fr h=onL (lY P fr h rs) λds=>q (Zw ds) h:=by
 unfold Bu onL;cases lY P fr h rs<;>simp
def zJG(k:List D->Prop):onL (lY P fr h []) k=k []:=(rfl)
def zJH(t:Tmp)(rs:List ResultVar)(k:List D->Prop):onL (lY P fr h (.tmp t::rs)) k=onL (lY P fr h rs) λds=>k (fr t::ds):=by
 simp only[lY,FB];cases lY P fr h rs<;>rfl
def zDh(a:Tmp)(t:TypeId)(rs:List ResultVar)(k:List D->Prop):onL (lY P fr h (.cell a t::rs)) k=onS (jT P t (fr a) h) λd=>onL (lY P fr h rs) λds=>k (d::ds):=by
 simp only[lY,FB];cases jT P t (fr a) h with
 |none=>rfl
 |some d=>cases lY P fr h rs<;>rfl
def zIW(d:D):Zw [d]=d:=(rfl)
def zIX(d d':D)(ds:List D):Zw (d::d'::ds)=.tuple (d::d'::ds):=(rfl)
def zIV:Zw []=.tuple []:=(rfl)
end rules
attribute[go_sem ↓] zJ0 dm zJw Re zDj zKP zNe zKO zJI zKN zJu zIL A3 zIs zDT Fw zC0 zAK zKH zDd zJe zGU zDc zJ5 zJ3 zIY zIZ zJ4 zB7 zDE zB6 zDD zId zIc zPp zKA zPn J0 zJS zQW zQd zPr zNQ zQX zNR A5 zPo zNV zDW zIv zDZ zDa zDV zIx zCj zNU zCh zCi zNT zKB zCk zPq zIw zQZ zJ9 zDX zDY zDU zQb zQa zC2 zC1 zJY zA5 zJG zJH zDh zIW zIX zIV
def yg(sz:Nat)(xs:List (List D))(d:D):Prop:=(d=.nilsl/\xs= [])\/∃tk,d=.sl sz xs tk
section
variable{P:Program}{sz:Nat}{xs:List (List D)}{d:D}{t e:TypeId}{h:Heap}
def yg.mk(tk:Tk):yg sz xs (.sl sz xs tk):=.inr ⟨tk,rfl⟩
def yg.nil:yg sz [] .nilsl:=.inl ⟨rfl,rfl⟩
def wL(a:yg sz xs d)(b:P.underlying t=some (.slice e)):o5 P t d h=some (.int .i64 xs.length):=by
 rcases a with⟨rfl,rfl⟩ | ⟨tk,rfl⟩ <;>simp[o5,b]
def yW(b:yg sz xs d)(c:ur P t=some e)(f:szT P e=sz){k:IntKind}{x:List D}(a:xs[i]? =some x):yj P t d (.int k i)=some (.iptr x 0):=by
 rcases b with⟨rfl,rfl⟩ | ⟨tk,rfl⟩
 .simp at a
 .simp[yj,c,f,a]
end
def zKD(P:Program)(op:BinOp)(t:TypeId)(c:Bool)(k k':IntKind)(a b:Int):jR P op t c (.int k a) (.int k' b)=lX op k k' a b:=(rfl)
def zKF(P:Program)(op:BinOp)(t:TypeId)(c:Bool)(a b:List UInt8):jR P op t c (.str a) (.str b)=Fa op a b:=(rfl)
def zI0(k:IntKind)(a b:Int):lX .add k k a b=some (.int k (k.wrap (a+b))):=by simp[lX,KI]
def zI8(k:IntKind)(a b:Int):lX .sub k k a b=some (.int k (k.wrap (a-b))):=by simp[lX,KI]
def zI6(k:IntKind)(a b:Int):lX .mul k k a b=some (.int k (k.wrap (a*b))):=by simp[lX,KI]
def zI5(k:IntKind)(a b:Int):lX .lss k k a b=some (.bool (decide (a<b))):=by simp[lX,KI]
def zI4(k:IntKind)(a b:Int):lX .leq k k a b=some (.bool (decide (a<=b))):=by simp[lX,KI]
def zI3(k:IntKind)(a b:Int):lX .gtr k k a b=some (.bool (decide (a>b))):=by simp[lX,KI]
def zI2(k:IntKind)(a b:Int):lX .geq k k a b=some (.bool (decide (a>=b))):=by simp[lX,KI]
def zI1(k:IntKind)(a b:Int):lX .eql k k a b=some (.bool (a==b)):=by simp[lX,KI]
def zI7(k:IntKind)(a b:Int):lX .neq k k a b=some (.bool (a !=b)):=by simp[lX,KI]
def zKI(a b:List UInt8):Fa .eql a b=some (.bool (a==b)):=(rfl)
def zKM(a b:List UInt8):Fa .neq a b=some (.bool (!(a==b))):=(rfl)
def zKL(a b:List UInt8):Fa .lss a b=some (.bool (VN a b)):=(rfl)
def zDb(P:Program)(t:TypeId)(cs:List D)(off:Nat)(h:Heap):jT P t (.iptr cs off) h=(match agT P t with
 |none=>none
 |some ag=>yQ ag (szT P t) cs off):=(rfl)
def wM(n:Nat)(cs:List D)(off:Nat):yQ false n cs off=cs[off]? :=(rfl)
variable{P:Program}{n:Nat}{fr:Frm}{h:Heap}{K:D->Heap->Prop}
def KS{g:Cfg}{ro:Option Nat}{c:Code}{Q:Exit->Frm->Heap->Prop}(I:Nat->Frm->Heap->Prop)(k:Nat)(a:I k fr h)
  (hr:∀k fr h,I k fr h->vwp P g n ro c (bX (λfr h=>∃m,m<k/\I m fr h) Q) fr h):vwp P g n ro (.loop c) Q fr h:=⟨I,⟨k,a⟩,hr⟩
attribute[go_sem ↓] zKD zKF zI0 zI8 zI6 zI5 zI4 zI3 zI2 zI1 zI7 zKI zKM zKL zDb wM
open Go.Proofs.Tryz
open Go.Proofs
def uz:szT prog 3=1:=kr
def s8:uw prog 3=some (.int .i64 0):=kr
def ZQ:ZU prog 3=true:=kr
def mV:wr prog 3=8:=kr
def LI:LH prog 3=some (false,[.i]):=kr
def RN:szT prog 4=1:=kr
def FN:uw prog 4=some (.bool false):=kr
def Fy:wr prog 4=1:=kr
def zNL:szT prog 5=1:=kr
def p9:szT prog 9=1:=kr
def dG:uw prog 9=some (.str []):=kr
def ZR:ZU prog 9=true:=kr
def oo:wr prog 9=16:=kr
def Mf:Vt prog 9=none:=kr
def Qo:LH prog 9=some (false,[.s]):=kr
def aB:ur prog 22=some 117:=kr
def zAH:Vt prog 22=none:=kr
def Ee:ur prog 23=some 122:=kr
def TP:ur prog 24=some 126:=kr
def Ef:ur prog 25=some 130:=kr
def zDt:agT prog 27=some true:=kr
def zIn:szT prog 29=1:=kr
def zDu:agT prog 29=some false:=kr
def dS:ur prog 29=some 57:=kr
def zIo:szT prog 30=1:=kr
def qS:ur prog 30=some 3:=kr
def Xb:Vt prog 30=none:=kr
def A1:szT prog 32=1:=kr
def dT:ur prog 32=some 139:=kr
def zIp:szT prog 33=1:=kr
def Y4:ur prog 33=some 47:=kr
def fj:szT prog 35=3:=kr
def XT:uw prog 35=some (.agg [.nilsl,.nilsl,.nilsl]):=kr
def zCp:ZU prog 35=true:=kr
def J8:wr prog 35=72:=kr
def Zy:ru prog 35=some [(0,1),(1,1),(2,1)]:=kr
def aw:szT prog 39=1:=kr
def ax:szT prog 44=1:=kr
def KU:uw prog 44=some .nilsl:=kr
def uS:ur prog 44=some 195:=kr
def FO:ZU prog 44=true:=kr
def Rs:wr prog 44=24:=kr
def KD:szT prog 45=1:=kr
def uI:ur prog 45=some 9:=kr
def zAI:Vt prog 45=none:=kr
def ay:szT prog 47=2:=kr
def KW:uw prog 47=some (.agg [.nilsl,.nilsl]):=kr
def zCq:ZU prog 47=true:=kr
def J9:wr prog 47=48:=kr
def JR:ru prog 47=some [(0,1),(1,1)]:=kr
def KE:szT prog 49=4:=kr
def XU:uw prog 49=some (.agg [(.bool false),.nilsl,.nilsl,.nilsl]):=kr
def dn:ru prog 49=some [(0,1),(1,2),(3,1)]:=kr
def A2:szT prog 53=1:=kr
def aC:ur prog 53=some 55:=kr
def gM:szT prog 55=4:=kr
def KX:uw prog 55=some (.agg [(.int .i64 0),(.str []),(.str []),.nilsl]):=kr
def zCr:ZU prog 55=true:=kr
def IA:wr prog 55=64:=kr
def JS:ru prog 55=some [(0,1),(1,1),(2,1),(3,1)]:=kr
def cZ:szT prog 57=12:=kr
def KY:uw prog 57=some (.agg [(.int .i64 0),(.str []),(.str []),(.int .i64 0),(.int .i64 0),(.int .i64 0),(.bool false),(.int .i64 0),(.str []),(.str []),.nilsl,.nilsl]):=kr
def FP:ZU prog 57=true:=kr
def Rt:wr prog 57=160:=kr
def Y5:ur prog 65=some 35:=kr
def TQ:ur prog 69=some 4:=kr
def zIq:szT prog 77=1:=kr
theorem zPs:agT prog 3=some false/\rS prog 3=false/\agT prog 4=some false/\agT prog 5=some false/\agT prog 9=some false/\szT prog 22=1/\agT prog 22=some false/\rS prog 22=true/\szT prog 23=1/\agT prog 23=some false/\szT prog 24=1/\agT prog 24=some false/\rS prog 24=true/\szT prog 25=1/\agT prog 25=some false/\szT prog 27=4:=⟨kr,kr,kr,kr,kr,kr,kr,kr,kr,kr,kr,kr,kr,kr,kr,kr⟩
theorem zBB:qT prog 27 0=some (0,22)/\qT prog 27 1=some (1,23)/\qT prog 27 2=some (2,24)/\qT prog 27 3=some (3,25)/\uw prog 29=some .nilsl/\rS prog 29=true/\agT prog 30=some false/\rS prog 30=true/\agT prog 32=some false/\uw prog 32=some .nilsl/\rS prog 32=true/\agT prog 33=some false/\rS prog 33=true/\agT prog 35=some true/\qT prog 35 0=some (0,30)/\qT prog 35 1=some (1,32):=⟨kr,kr,kr,kr,kr,kr,kr,kr,kr,kr,kr,kr,kr,kr,kr,kr⟩
theorem zBH:qT prog 35 2=some (2,33)/\agT prog 39=some false/\uw prog 39=some (.int .i64 0)/\agT prog 44=some false/\rS prog 44=true/\agT prog 45=some false/\rS prog 45=true/\agT prog 47=some true/\qT prog 47 0=some (0,44)/\qT prog 47 1=some (1,45)/\agT prog 49=some true/\qT prog 49 0=some (0,4)/\qT prog 49 1=some (1,47)/\qT prog 49 2=some (3,32)/\agT prog 53=some false/\rS prog 53=true:=⟨kr,kr,kr,kr,kr,kr,kr,kr,kr,kr,kr,kr,kr,kr,kr,kr⟩
theorem zNy:agT prog 55=some true/\qT prog 55 0=some (0,3)/\qT prog 55 1=some (1,9)/\qT prog 55 2=some (2,9)/\qT prog 55 3=some (3,53)/\agT prog 57=some true/\qT prog 57 0=some (0,3)/\qT prog 57 1=some (1,9)/\qT prog 57 2=some (2,9)/\qT prog 57 3=some (3,3)/\qT prog 57 4=some (4,3)/\qT prog 57 5=some (5,3)/\qT prog 57 6=some (6,4)/\qT prog 57 7=some (7,55)/\qT prog 57 8=some (11,45)/\rS prog 65=true:=⟨kr,kr,kr,kr,kr,kr,kr,kr,kr,kr,kr,kr,kr,kr,kr,kr⟩
theorem zN0:agT prog 71=some false/\agT prog 77=some false/\uw prog 77=some .nilfn/\agT prog 85=some false/\agT prog 91=some false/\szT prog 98=1:=⟨kr,kr,kr,kr,kr,kr⟩
attribute[go_sem] uz s8 ZQ mV LI RN FN Fy zNL p9 dG ZR oo Mf Qo aB zAH Ee TP Ef zDt zIn zDu dS zIo qS Xb A1 dT zIp Y4 fj XT zCp J8 Zy aw ax KU uS FO Rs KD uI zAI ay KW zCq J9 JR KE XU dn A2 aC gM KX zCr IA JS cZ KY FP Rt Y5 TQ zIq zPs zBB zBH zNy zN0
def dU:ur prog 98=some 44:=kr
def W7:szT prog 100=6:=kr
def Pq:uw prog 100=some (.agg [.nilsl,.nilsl,.nilsl,.nilsl,.nilsl,.nilsl]):=kr
def Wg:ru prog 100=some [(0,1),(1,1),(2,4)]:=kr
def zCc:szT prog 104=1:=kr
def LQ:No prog 104=some (3,4):=kr
def j8:szT prog 117=4:=kr
def VL:uw prog 117=some (.agg [(.str []),(.str []),(.int .i64 0),(.str [])]):=kr
def Di:ZU prog 117=true:=kr
def Kh:wr prog 117=56:=kr
def Wh:ru prog 117=some [(0,1),(1,1),(2,1),(3,1)]:=kr
def W8:szT prog 122=3:=kr
def fi:szT prog 126=5:=kr
def FI:uw prog 126=some (.agg [(.str []),(.int .i64 0),(.int .i64 0),(.int .i64 0),.nilsl]):=kr
def Dj:ZU prog 126=true:=kr
def Ki:wr prog 126=64:=kr
def RM:szT prog 130=2:=kr
def FJ:uw prog 130=some (.agg [(.str []),(.str [])]):=kr
def Nx:ru prog 130=some [(0,1),(1,1)]:=kr
def t5:szT prog 137=2:=kr
def dD:uw prog 137=some (.agg [(.int .i64 0),.nilsl]):=kr
def KZ:ZU prog 137=true:=kr
def Vu:wr prog 137=32:=kr
def bP:ru prog 137=some [(0,1),(1,1)]:=kr
def lT:szT prog 139=4:=kr
def ZP:uw prog 139=some (.agg [(.int .i64 0),.nilsl,(.int .i64 0),.nilsl]):=kr
def Dk:ZU prog 139=true:=kr
def Kj:wr prog 139=64:=kr
def Wi:ru prog 139=some [(0,1),(1,1),(2,2)]:=kr
def Gl:szT prog 157=1:=kr
def sH:ur prog 157=some 137:=kr
def U7:Vt prog 157=none:=kr
def FK:uw prog 163=some (.agg [.nilsl,.nilsl,.nilsl,.nilsl,.nilsl,.nilsl,.nilsl]):=kr
def Ny:ru prog 163=some [(0,4),(4,1),(5,1),(6,1)]:=kr
def Tj:No prog 189=some (9,3):=kr
def X1:ur prog 194=some 197:=kr
def uZ:szT prog 195=1:=kr
def dF:uw prog 195=some .nilsl:=kr
def uD:ur prog 195=some 197:=kr
def pw:ZU prog 195=true:=kr
def tS:wr prog 195=24:=kr
def bj:Vt prog 195=none:=kr
def ui:szT prog 197=2:=kr
def sj:uw prog 197=some (.agg [(.str []),(.str [])]):=kr
def XV:ZU prog 197=true:=kr
def kx:wr prog 197=32:=kr
def nQ:ru prog 197=some [(0,1),(1,1)]:=kr
theorem zN4:agT prog 98=some false/\rS prog 98=true/\agT prog 100=some true/\qT prog 100 0=some (0,98)/\qT prog 100 1=some (1,45)/\qT prog 100 2=some (2,27)/\agT prog 104=some false/\uw prog 104=some .nilmap/\agT prog 117=some true/\qT prog 117 0=some (0,9)/\qT prog 117 1=some (1,9)/\qT prog 117 2=some (2,3)/\qT prog 117 3=some (3,9)/\agT prog 122=some true/\uw prog 122=some (.agg [(.str []),(.str []),.nilsl])/\qT prog 122 0=some (0,9):=⟨kr,kr,kr,kr,kr,kr,kr,kr,kr,kr,kr,kr,kr,kr,kr,kr⟩
theorem B4:qT prog 122 1=some (1,9)/\qT prog 122 2=some (2,30)/\agT prog 126=some true/\qT prog 126 0=some (0,9)/\qT prog 126 1=some (1,3)/\qT prog 126 2=some (2,3)/\qT prog 126 3=some (3,3)/\qT prog 126 4=some (4,45)/\agT prog 130=some true/\qT prog 130 0=some (0,9)/\qT prog 130 1=some (1,9)/\agT prog 137=some true/\qT prog 137 0=some (0,3)/\qT prog 137 1=some (1,30)/\agT prog 139=some true/\qT prog 139 0=some (0,3):=⟨kr,kr,kr,kr,kr,kr,kr,kr,kr,kr,kr,kr,kr,kr,kr,kr⟩
theorem AG:qT prog 139 1=some (1,30)/\qT prog 139 2=some (2,137)/\agT prog 143=some false/\agT prog 157=some false/\uw prog 157=some .nilsl/\rS prog 157=true/\qT prog 163 0=some (0,27)/\qT prog 163 1=some (4,29)/\qT prog 163 2=some (5,98)/\qT prog 163 3=some (6,45)/\rS prog 194=true/\agT prog 195=some false/\rS prog 195=true/\agT prog 197=some true/\qT prog 197 0=some (0,9)/\qT prog 197 1=some (1,9):=⟨kr,kr,kr,kr,kr,kr,kr,kr,kr,kr,kr,kr,kr,kr,kr,kr⟩
theorem zNI:szT prog 208=1/\agT prog 208=some false:=⟨kr,kr⟩
attribute[go_sem] dU W7 Pq Wg zCc LQ j8 VL Di Kh Wh W8 fi FI Dj Ki RM FJ Nx t5 dD KZ Vu bP lT ZP Dk Kj Wi Gl sH U7 FK Ny Tj X1 uZ dF uD pw tS bj ui sj XV kx nQ zN4 B4 AG zNI
def LR:No prog 208=some (3,195):=kr
def LS:No prog 209=some (9,9):=kr
def FL:uw prog 211=some (.agg [.nilsl,.nilsl,.nilsl,.nilsl,.nilsl,.nilmap,.nilmap]):=kr
def Nz:ru prog 211=some [(0,4),(4,1),(5,1),(6,1)]:=kr
def I7:ur prog 255=some 5:=kr
def zCd:szT prog 259=1:=kr
def QX:ur prog 267=some 271:=kr
def MM:szT prog 271=2:=kr
def Pr:uw prog 271=some (.agg [(.int .i64 0),.nilfn]):=kr
def N2:ru prog 271=some [(0,1),(1,1)]:=kr
def Gm:szT prog 310=8:=kr
def jX:uw prog 310=some (.agg [(.bool false),(.bool false),(.bool false),(.bool false),(.bool false),(.bool false),(.bool false),(.bool false)]):=kr
def nR:ru prog 310=some [(0,1),(1,1),(2,1),(3,1),(4,1),(5,1),(6,1),(7,1)]:=kr
def zCe:szT prog 339=3:=kr
def FM:uw prog 339=some (.agg [(.int .i64 0),(.int .i64 0),(.int .i64 0)]):=kr
def N3:ru prog 339=some [(0,1),(1,1),(2,1)]:=kr
def zCf:szT prog 368=1:=kr
theorem zNJ:szT prog 209=1/\agT prog 209=some false/\qT prog 211 0=some (0,27)/\qT prog 211 1=some (4,29)/\qT prog 211 2=some (5,208)/\qT prog 211 3=some (6,209)/\agT prog 258=some false/\agT prog 259=some false/\uw prog 259=some .nilfn/\szT prog 269=1/\agT prog 269=some false/\agT prog 271=some true/\qT prog 271 0=some (0,3)/\qT prog 271 1=some (1,269)/\agT prog 273=some false/\agT prog 310=some true:=⟨kr,kr,kr,kr,kr,kr,kr,kr,kr,kr,kr,kr,kr,kr,kr,kr⟩
theorem AU:qT prog 310 0=some (0,4)/\qT prog 310 1=some (1,4)/\qT prog 310 2=some (2,4)/\qT prog 310 3=some (3,4)/\qT prog 310 4=some (4,4)/\qT prog 310 5=some (5,4)/\qT prog 310 6=some (6,4)/\qT prog 310 7=some (7,4)/\agT prog 339=some true/\qT prog 339 0=some (0,3)/\qT prog 339 1=some (1,3)/\qT prog 339 2=some (2,3)/\agT prog 368=some false/\uw prog 368=some .nilfn/\agT prog 395=some false:=⟨kr,kr,kr,kr,kr,kr,kr,kr,kr,kr,kr,kr,kr,kr,kr⟩
attribute[go_sem] LR LS FL Nz I7 zCd QX MM Pr N2 Gm jX nR zCe FM N3 zCf zNJ AU
end Go.V
