/- A machine of abstract values for programs of the model, and its soundness, part 5. No condition. -/
import Derived.Test.YtkenagjlanhnmaaGreatDoorW02
import Derived.KernelRfl
import Derived.Test.YtkenagjlanhnmaaGreatDoorProg
set_option linter.all false
set_option maxHeartbeats 8000000
namespace Go.V
def onS(o:Option D)(k:D->Prop):Prop:=
 match o with
 |some d=>k d
 |none=>False
def onR(o:VR)(k:D->Heap->Prop):Prop:=
 match o with
 |some (d,h)=>k d h
 |none=>False
def onH(o:Option Heap)(k:Heap->Prop):Prop:=
 match o with
 |some h=>k h
 |none=>False
@[congr] theorem zGo{o o':Option D}{k:D->Prop}(h:o=o'):onS o k=onS o' k:=by rw[h]
@[congr] theorem zGm{o o':VR}{k:D->Heap->Prop}(h:o=o'):onR o k=onR o' k:=by rw[h]
@[congr] theorem zGh{o o':Option Heap}{k:Heap->Prop}(h:o=o'):onH o k=onH o' k:=by rw[h]
variable{P:Program}{f:FuncId}{h h':Heap}{K:D->Heap->Prop}{id i n:Nat}{op:Op}{ev:Operand->D}{fr:Frm}
@[congr] theorem BU{args args':List D}(ha:args=args')(hh:h=h'):zD P f args h K=zD P f args' h' K:=by rw[ha,hh]
@[congr] theorem Fy{args args':List D}(ha:args=args')(hh:h=h'):wo P id args h K=wo P id args' h' K:=by rw[ha,hh]
@[congr] theorem zBK{f f':D}{args args':List D}(hf:f=f')(ha:args=args')(hh:h=h'):ZY P f args h K=ZY P f' args' h' K:=by rw[hf,ha,hh]
def zIP(d:D)(k:D->Prop):onS (some d) k=k d:=(rfl)
theorem fo(d:D)(h:Heap)(k:D->Heap->Prop):onR (some (d,h)) k=k d h:=(rfl)
def zIL(h:Heap)(k:Heap->Prop):onH (some h) k=k h:=(rfl)
section rules
variable{P:Program}{g:Cfg}{n:Nat}{ro:Option Nat}{mu:Tmp->Bool}{ops:Array Oper}{rest:List Oper}{K:Frm->Heap->Prop}{fr:Frm}{h:Heap}{dst:Option Tmp}{ty:TypeId}{pos:String}{after:Array Edge}{gd:Option (Nat×Bool)}{Q:Exit->Frm->Heap->Prop}
 {m:Bool} {nid:Nat} {k:D->Heap->Prop}
def Ta(a b:Code):vwp P g n ro (.seq a b) Q fr h=vwp P g n ro a (lr (vwp P g n ro b Q) Q) fr h:=(rfl)
def zB7(id:Nat)(l:List Oper):vwp P g n ro (.region id l.toArray false) Q fr h=WT P g.mu l.toArray l (Q .normal) fr h:=(rfl)
def Mo(id:Nat)(ops:Array Oper):vwp P g n ro (.region id ops true) Q fr h= ∃h0,HLe h0 h/\dw P g.mu h0 (Hf P g.mu ops (g.dr id) (Z9 ops.toList 0 [])) ops ((g.dr id).any (·.2.isSt)) (g.dr id) (Q .normal) fr h:=(rfl)
def zIq:vwp P g n ro .skip Q fr h=Q .normal fr h:=(rfl)
def zL2:vwp P g n ro .ret Q fr h=Q .ret fr h:=(rfl)
def zIp(i:Nat):vwp P g n ro (.exit i) Q fr h=Q (.exit i) fr h:=(rfl)
def zHj(id:Nat)(c:Code):vwp P g n ro (.block id c) Q fr h=vwp P g n ro c (jk id Q) fr h:=(rfl)
def onB(d:D)(x y:Prop):Prop:=
 match d with
 |.bool b=>match b with
  |true=>x
  |false=>y
 |_=>False
def zIo(c:Operand)(a b:Code):vwp P g n ro (.cond c a b) Q fr h=onB (qy fr c) (vwp P g n ro a Q fr h) (vwp P g n ro b Q fr h):=by
 simp only[vwp];rfl
@[congr] theorem zGe{d d':D}{x y:Prop}(h:d=d'):onB d x y=onB d' x y:=by rw[h]
def zIJ(x y:Prop):onB (.bool true) x y=x:=(rfl)
def zGf(x y:Prop):onB (.bool false) x y=y:=(rfl)
def BL(Kn:Frm->Heap->Prop):lr Kn Q .normal fr h=Kn fr h:=(rfl)
def zHF(Kn:Frm->Heap->Prop):lr Kn Q .ret fr h=Q .ret fr h:=(rfl)
def zBq(Kn:Frm->Heap->Prop)(i:Nat):lr Kn Q (.exit i) fr h=Q (.exit i) fr h:=(rfl)
def GB(i:Nat):jk i Q .normal fr h=Q .normal fr h:=(rfl)
def zBQ(i:Nat):jk i Q .ret fr h=Q .ret fr h:=(rfl)
def Bb(i j:Nat):jk i Q (.exit j) fr h=if j=i then Q .normal fr h else Q (.exit j) fr h:=(rfl)
def zIg:WT P mu ops [] K fr h=K fr h:=(rfl)
def zB0(op:Op):WT P mu ops (⟨dst,op,ty,pos,after,none⟩ ::rest) K fr h=su P (aS mu dst) h.next op (qy fr) h λd h'=>WT P mu ops rest K (pv fr dst d) h':=(rfl)
def gif(g:Bool)(x y:Prop):Prop:=
 match g with
 |true=>x
 |false=>y
@[congr] theorem zEj{g g':Bool}{x y:Prop}(h:g=g'):gif g x y=gif g' x y:=by rw[h]
def zH5(x y:Prop):gif true x y=x:=(rfl)
def zEk(x y:Prop):gif false x y=y:=(rfl)
def zBz(op:Op)(j:Nat)(b:Bool):WT P mu ops (⟨dst,op,ty,pos,after,some (j,b)⟩ ::rest) K fr h =
  gif (uS ops fr (some (j,b))) (su P (aS mu dst) h.next op (qy fr) h λd h'=>WT P mu ops rest K (pv fr dst d) h') (WT P mu ops rest K (pv fr dst si) h):=by
 simp only[WT,gif];cases uS ops fr (some (j,b))<;>rfl
def zIU(t:Tmp):qy fr (.tmp t)=fr t:=(rfl)
def zIS(k:IntKind)(n:Int):qy fr (.const (.int k n))=.int k n:=(rfl)
def zGs(b:Bool):qy fr (.const (.bool b))=.bool b:=(rfl)
def zGt(f:Nat):qy fr (.func f)=.fn (.func f) [] []:=(rfl)
def zIT(s:ByteArray):qy fr (.const (.string s))=.str s.data.toList:=(rfl)
def zAV:qy fr (.const (.pointer none))=.nilptr:=(rfl)
def zBe:qy fr (.const (.slice none 0 0))=.nilsl:=(rfl)
def zAU:qy fr (.const (.map none))=.nilmap:=(rfl)
def zBd:qy fr (.const .nilFunc)=.nilfn:=(rfl)
def zGx(t i:Tmp)(d:D):pv fr (some t) d i=if i=t then d else fr i:=(rfl)
def zGw(d:D):pv fr none d=fr:=(rfl)
def zOC(x:Operand):su P m nid (.move x) (qy fr) h k=k (qy fr x) h:=(rfl)
def zIZ(x:Operand):su P m nid (.assign x) (qy fr) h k=k (qy fr x) h:=(rfl)
def zOA(f:Operand)(args:List Operand)(ats:Array TypeId):su P m nid (.call ⟨.value f,args.toArray,ats⟩) (qy fr) h k=ZY P (qy fr f) (args.map (qy fr)) h k:=(rfl)
def KW(f:FuncId)(a c args:List D):ZY P (.fn (.func f) a c) args h k=zD P f (a++args++c) h k:=(rfl)
def zHt(id:Nat)(args:List D):ZY P (.yld id) args h k=wo P id args h k:=(rfl)
def ni{o:Option D}(h1:uZ op=none)(a:vop P m nid op ev h=o.map (·,h)):su P m nid op ev h k=onS o (k · h):=by
 unfold su;rw[h1,a];cases o<;>rfl
def HI{o:Option Heap}(h1:uZ op=none)(a:vop P m nid op ev h=o.map (si,·)):su P m nid op ev h k=onH o (k si ·):=by
 unfold su;rw[h1,a];cases o<;>rfl
def Vx{o:VR}(h1:uZ op=none)(a:vop P m nid op ev h=o):su P m nid op ev h k=onR o k:=by
 unfold su;rw[h1,a];cases o<;>rfl
def zOy(op:BinOp)(t u:TypeId)(x y:Operand):su P m nid (.binOp op t x y u) (qy fr) h k=onS (kW P op t (isC x||isC y) (qy fr x) (qy fr y)) (k · h):=ni rfl rfl
def zO4(op:UnOp)(t:TypeId)(x:Operand):su P m nid (.unOp op t x) (qy fr) h k=onS (vun op (qy fr x)) (k · h):=ni rfl rfl
def zOE(c x y:Operand):su P m nid (.pick c x y) (qy fr) h k=onB (qy fr c) (k (qy fr x) h) (k (qy fr y) h):=by
 simp only[su,uZ,vop,onB];cases qy fr c with
 |bool b=>cases b<;>rfl
 |_=>rfl
def zLn(t:TypeId):su P m nid (.alloc t) (qy fr) h k=onR (vop P m nid (.alloc t) (qy fr) h) k:=Vx rfl rfl
def zOz(t:TypeId)(x:Operand):su P m nid (.box t x) (qy fr) h k=onR (vop P m nid (.box t x) (qy fr) h) k:=Vx rfl rfl
def zLo(t:TypeId)(ps:List (Nat×Operand)):su P m nid (.build t ps.toArray) (qy fr) h k=onS (qW P t (ps.map λp=>(p.1,qy fr p.2))) (k · h):=ni rfl rfl
def BN(t:TypeId)(n:Nat)(ps:List (Nat×Operand)):su P m nid (.buildSlice t n ps.toArray) (qy fr) h k=onR (yD P m nid t n (ps.map λp=>(p.1,qy fr p.2)) h) k:=Vx rfl rfl
def zOB(t:TypeId)(x:Operand):su P m nid (.load t x) (qy fr) h k=onS (kT P t (qy fr x) h) (k · h):=ni rfl rfl
def zLs(t:TypeId)(x y:Operand):su P m nid (.store t x y) (qy fr) h k=onH (yW P t (qy fr x) (qy fr y) h) (k si ·):=HI rfl rfl
def zBt(x:Operand):su P m nid (.nilCheck x) (qy fr) h k=onS (qL (qy fr x)) (k · h):=ni rfl rfl
def zHI(s t:TypeId)(x:Operand):su P m nid (.convert s t x) (qy fr) h k=onS (aK P s t (qy fr x) h) (k · h):=ni rfl rfl
def zBw(P:Program)(s t:TypeId)(k:IntKind)(n:Int)(h:Heap):aK P s t (.int k n) h=o8 P s t (.int k n):=(rfl)
def zBx(P:Program)(s t:TypeId)(x:List UInt8)(h:Heap):aK P s t (.str x) h=o8 P s t (.str x):=(rfl)
def zBs(f:FuncId)(a c:List Operand):su P m nid (.makeFunc (.func f) a.toArray c.toArray) (qy fr) h k=k (.fn (.func f) (a.map (qy fr)) (c.map (qy fr))) h:=(rfl)
def zHK(t:TypeId):su P m nid (.makeMap t none) (qy fr) h k=k (.map nid) (h.new nid (.map [])):=(rfl)
def zBA(t:TypeId)(x y:Operand):su P m nid (.makeSlice t x y) (qy fr) h k=onR (tG P m nid t (qy fr x) (qy fr y) h) k:=Vx rfl rfl
def zLr(t:TypeId)(x:Operand)(lo hi mx:Option Operand):su P m nid (.slice t x lo hi mx) (qy fr) h k=onS (uN P t (qy fr x) (lo.map (qy fr)) (hi.map (qy fr)) (mx.map (qy fr)) h) (k · h):=ni rfl rfl
def zA8(t:TypeId)(x:Operand)(f:Nat):su P m nid (.fieldAddr t x f) (qy fr) h k=onS (pk P t (qy fr x) f) (k · h):=ni rfl rfl
def zA9(t:TypeId)(x i:Operand):su P m nid (.indexAddr t x i) (qy fr) h k=onS (yc P t (qy fr x) (qy fr i)) (k · h):=ni rfl rfl
def zLq(t:TypeId)(x i:Operand):su P m nid (.index t x i) (qy fr) h k=onS (nS P t (qy fr x) (qy fr i)) (k · h):=ni rfl rfl
def zIa(t:TypeId)(x y:Operand)(ok:Bool):su P m nid (.lookup t x y ok) (qy fr) h k=onS (uM P t (qy fr x) (qy fr y) ok h) (k · h):=ni rfl rfl
def zBB(t:TypeId)(x y z:Operand):su P m nid (.mapUpdate t x y z) (qy fr) h k=onH (wv P t (qy fr x) (qy fr y) (qy fr z) h) (k si ·):=HI rfl rfl
def zOD(x:Operand)(b:Bool):su P m nid (.next x b) (qy fr) h k=onR (Wn (qy fr x) b h) k:=Vx rfl rfl
def zHJ(x:Operand)(i:Nat):su P m nid (.extract x i) (qy fr) h k=onS (lO (qy fr x) i) (k · h):=ni rfl rfl
def zO1(t:TypeId)(x:Operand):su P m nid (.call ⟨.builtin .len,#[x],#[t]⟩) (qy fr) h k=onS (o9 P t (qy fr x) h) (k · h):=ni rfl rfl
def zIY(t u:TypeId)(x y:Operand):su P m nid (.call ⟨.builtin .append,#[x,y],#[t,u]⟩) (qy fr) h k=onR (if pC P u then ny P m nid t (qy fr x) (qy fr y) h else nz P m nid t u (qy fr x) (qy fr y) h) k:=Vx rfl rfl
def zBu(t:TypeId)(s x:D):ny P false nid t s x h=qS P false nid t s x h:=(rfl)
def zBv(t:TypeId)(s x:D):ny P true nid t s x h=qS P true nid t s x (tT s x h):=(rfl)
def zBr(sz:Nat)(xs:List (List D))(tk:Tk)(x:D):tT (.sl sz xs tk) x h=h:=(rfl)
def zO3(ats:Array TypeId)(x y:Operand):su P m nid (.call ⟨.builtin .min,#[x,y],ats⟩) (qy fr) h k=onS (KR (qy fr x) (qy fr y)) (k · h):=ni rfl rfl
def zO2(x y:Operand)(ats:Array TypeId):su P m nid (.call ⟨.builtin .max,#[x,y],ats⟩) (qy fr) h k=onS (Fk (qy fr x) (qy fr y)) (k · h):=by
 refine ni rfl ?_;simp only[vop,n7,NG,qe,nF];cases Fk (qy fr x) (qy fr y)<;>rfl
def zBS(d:D)(ds:List D):UX (d::ds) 0=d:=(rfl)
def zBR(d:D)(ds:List D)(i:Nat):UX (d::ds) (i+1)=UX ds i:=(rfl)
def onL(o:Option (List D))(k:List D->Prop):Prop:=
 match o with
 |some ds=>k ds
 |none=>False
@[congr] theorem zGi{o o':Option (List D)}{k:List D->Prop}(h:o=o'):onL o k=onL o' k:=by rw[h]
def zHz(rs:List ResultVar)(q:D->Heap->Prop):Hi P rs q .ret fr h=onL (n8 P fr h rs) λds=>q (bi ds) h:=by
 unfold Hi onL;cases n8 P fr h rs<;>simp
def AS(rs:List ResultVar)(q:D->Heap->Prop):Hi P rs q .normal fr h=onL (n8 P fr h rs) λds=>q (bi ds) h:=by
 unfold Hi onL;cases n8 P fr h rs<;>simp
def zHd(k:List D->Prop):onL (n8 P fr h []) k=k []:=(rfl)
def zHe(t:Tmp)(rs:List ResultVar)(k:List D->Prop):onL (n8 P fr h (.tmp t::rs)) k=onL (n8 P fr h rs) λds=>k (fr t::ds):=by
 simp only[n8,HM];cases n8 P fr h rs<;>rfl
def zB4(a:Tmp)(t:TypeId)(rs:List ResultVar)(k:List D->Prop):onL (n8 P fr h (.cell a t::rs)) k=onS (kT P t (fr a) h) λd=>onL (n8 P fr h rs) λds=>k (d::ds):=by
 simp only[n8,HM];cases kT P t (fr a) h with
 |none=>rfl
 |some d=>cases n8 P fr h rs<;>rfl
def zGq(d:D):bi [d]=d:=(rfl)
def zGr(d d':D)(ds:List D):bi (d::d'::ds)=.tuple (d::d'::ds):=(rfl)
def zGp:bi []=.tuple []:=(rfl)
end rules
attribute[go_sem ↓] zIP fo zIL Ta zB7 zIq zL2 zIp zHj zIo zIJ zGf BL zHF zBq GB zBQ Bb zIg zB0 zH5 zEk zBz zIU zIS zGs zGt zIT zAV zBe zAU zBd zGx zGw zOC zIZ zOA KW zHt zOy zO4 zOE zLn zOz zLo BN zOB zLs zBt zHI zBw zBx zBs zHK zBA zLr zA8 zA9 zLq zIa zBB zOD zHJ zO1 zIY zBu zBv zBr zO3 zO2 zBS zBR zHz AS zHd zHe zB4 zGq zGr zGp
def yZ(sz:Nat)(xs:List (List D))(d:D):Prop:=(d=.nilsl/\xs= [])\/∃tk,d=.sl sz xs tk
section
variable{P:Program}{sz:Nat}{xs:List (List D)}{d:D}{t e:TypeId}{h:Heap}
def yZ.mk(tk:Tk):yZ sz xs (.sl sz xs tk):=.inr ⟨tk,rfl⟩
def yZ.nil:yZ sz [] .nilsl:=.inl ⟨rfl,rfl⟩
def wL(a:yZ sz xs d)(b:P.underlying t=some (.slice e)):o9 P t d h=some (.int .i64 xs.length):=by
 rcases a with⟨rfl,rfl⟩ | ⟨tk,rfl⟩ <;>simp[o9,b]
def yR(b:yZ sz xs d)(c:uu P t=some e)(f:szT P e=sz){k:IntKind}{x:List D}(a:xs[i]? =some x):yc P t d (.int k i)=some (.iptr x 0):=by
 rcases b with⟨rfl,rfl⟩ | ⟨tk,rfl⟩
 .simp at a
 .simp[yc,c,f,a]
end
def zIc(P:Program)(op:BinOp)(t:TypeId)(c:Bool)(k k':IntKind)(a b:Int):kW P op t c (.int k a) (.int k' b)=mr op k k' a b:=(rfl)
def zIe(P:Program)(op:BinOp)(t:TypeId)(c:Bool)(a b:List UInt8):kW P op t c (.str a) (.str b)=Ho op a b:=(rfl)
def zHN(k:IntKind)(a b:Int):mr .add k k a b=some (.int k (k.wrap (a+b))):=by simp[mr,Mi]
def zHV(k:IntKind)(a b:Int):mr .sub k k a b=some (.int k (k.wrap (a-b))):=by simp[mr,Mi]
def zHT(k:IntKind)(a b:Int):mr .mul k k a b=some (.int k (k.wrap (a*b))):=by simp[mr,Mi]
def zHS(k:IntKind)(a b:Int):mr .lss k k a b=some (.bool (decide (a<b))):=by simp[mr,Mi]
def zHR(k:IntKind)(a b:Int):mr .leq k k a b=some (.bool (decide (a<=b))):=by simp[mr,Mi]
def zHQ(k:IntKind)(a b:Int):mr .gtr k k a b=some (.bool (decide (a>b))):=by simp[mr,Mi]
def zHP(k:IntKind)(a b:Int):mr .geq k k a b=some (.bool (decide (a>=b))):=by simp[mr,Mi]
def zHO(k:IntKind)(a b:Int):mr .eql k k a b=some (.bool (a==b)):=by simp[mr,Mi]
def zHU(k:IntKind)(a b:Int):mr .neq k k a b=some (.bool (a !=b)):=by simp[mr,Mi]
def zIh(a b:List UInt8):Ho .eql a b=some (.bool (a==b)):=(rfl)
def zIl(a b:List UInt8):Ho .neq a b=some (.bool (!(a==b))):=(rfl)
def zIk(a b:List UInt8):Ho .lss a b=some (.bool (WS a b)):=(rfl)
def zBy(P:Program)(t:TypeId)(cs:List D)(off:Nat)(h:Heap):kT P t (.iptr cs off) h=(match agT P t with
 |none=>none
 |some ag=>yO ag (szT P t) cs off):=(rfl)
def wI(n:Nat)(cs:List D)(off:Nat):yO false n cs off=cs[off]? :=(rfl)
variable{P:Program}{n:Nat}{fr:Frm}{h:Heap}{K:D->Heap->Prop}
def Mp{g:Cfg}{ro:Option Nat}{c:Code}{Q:Exit->Frm->Heap->Prop}(I:Nat->Frm->Heap->Prop)(k:Nat)(a:I k fr h)
  (hr:∀k fr h,I k fr h->vwp P g n ro c (lr (λfr h=>∃m,m<k/\I m fr h) Q) fr h):vwp P g n ro (.loop c) Q fr h:=⟨I,⟨k,a⟩,hr⟩
attribute[go_sem ↓] zIc zIe zHN zHV zHT zHS zHR zHQ zHP zHO zHU zIh zIl zIk zBy wI
open Go.Proofs.Tryz
open Go.Proofs
def sG:szT prog 3=1:=kr
def pc:uo prog 3=some (.int .i64 0):=kr
def V5:YE prog 3=true:=kr
def fO:uF prog 3=8:=kr
def C5:N5 prog 3=some (false,[.i]):=kr
def I0:szT prog 4=1:=kr
def zLh:szT prog 5=1:=kr
def pK:szT prog 9=1:=kr
def fM:uo prog 9=some (.str []):=kr
def aR:YE prog 9=true:=kr
def p6:uF prog 9=16:=kr
def NT:Wu prog 9=none:=kr
def Rk:N5 prog 9=some (false,[.s]):=kr
def bK:uu prog 22=some 117:=kr
def BY:Wu prog 22=none:=kr
def Gp:uu prog 23=some 122:=kr
def UQ:uu prog 24=some 126:=kr
def Gq:uu prog 25=some 130:=kr
def zCF:agT prog 27=some true:=kr
def zHA:szT prog 29=1:=kr
def zCG:agT prog 29=some false:=kr
def fU:uu prog 29=some 57:=kr
def zHB:szT prog 30=1:=kr
def wA:uu prog 30=some 3:=kr
def Qu:Wu prog 30=none:=kr
def zHC:szT prog 32=1:=kr
def fV:uu prog 32=some 139:=kr
def No:uu prog 33=some 47:=kr
def zCH:agT prog 35=some true:=kr
def aB:szT prog 39=1:=kr
def aC:szT prog 44=1:=kr
def Mq:uo prog 44=some .nilsl:=kr
def uG:uu prog 44=some 195:=kr
def Hb:YE prog 44=true:=kr
def Tp:uF prog 44=24:=kr
def Me:szT prog 45=1:=kr
def ww:uu prog 45=some 9:=kr
def BZ:Wu prog 45=none:=kr
def Zu:szT prog 47=2:=kr
def Ft:uo prog 47=some (.agg [.nilsl,.nilsl]):=kr
def Lm:rz prog 47=some [(0,1),(1,1)]:=kr
def Zv:szT prog 49=4:=kr
def Yd:uo prog 49=some (.agg [(.bool false),.nilsl,.nilsl,.nilsl]):=kr
def fq:rz prog 49=some [(0,1),(1,2),(3,1)]:=kr
def BK:szT prog 53=1:=kr
def bL:uu prog 53=some 55:=kr
def jq:szT prog 55=4:=kr
def Mr:uo prog 55=some (.agg [(.int .i64 0),(.str []),(.str []),.nilsl]):=kr
def zBG:YE prog 55=true:=kr
def Kc:uF prog 55=64:=kr
def Ln:rz prog 55=some [(0,1),(1,1),(2,1),(3,1)]:=kr
def dm:szT prog 57=12:=kr
def Ms:uo prog 57=some (.agg [(.int .i64 0),(.str []),(.str []),(.int .i64 0),(.int .i64 0),(.int .i64 0),(.bool false),(.int .i64 0),(.str []),(.str []),.nilsl,.nilsl]):=kr
def Hc:YE prog 57=true:=kr
def Tq:uF prog 57=160:=kr
def zHD:szT prog 77=1:=kr
theorem zOH:agT prog 3=some false/\pC prog 3=false/\agT prog 4=some false/\uo prog 4=some (.bool false)/\agT prog 5=some false/\agT prog 9=some false/\szT prog 22=1/\agT prog 22=some false/\pC prog 22=true/\szT prog 23=1/\agT prog 23=some false/\szT prog 24=1/\agT prog 24=some false/\pC prog 24=true/\szT prog 25=1/\agT prog 25=some false:=⟨kr,kr,kr,kr,kr,kr,kr,kr,kr,kr,kr,kr,kr,kr,kr,kr⟩
theorem zN6:szT prog 27=4/\qK prog 27 0=some (0,22)/\qK prog 27 1=some (1,23)/\qK prog 27 2=some (2,24)/\qK prog 27 3=some (3,25)/\uo prog 29=some .nilsl/\pC prog 29=true/\agT prog 30=some false/\pC prog 30=true/\agT prog 32=some false/\uo prog 32=some .nilsl/\pC prog 32=true/\szT prog 33=1/\agT prog 33=some false/\szT prog 35=3/\qK prog 35 0=some (0,30):=⟨kr,kr,kr,kr,kr,kr,kr,kr,kr,kr,kr,kr,kr,kr,kr,kr⟩
theorem Ad:qK prog 35 1=some (1,32)/\qK prog 35 2=some (2,33)/\agT prog 39=some false/\uo prog 39=some (.int .i64 0)/\agT prog 44=some false/\pC prog 44=true/\agT prog 45=some false/\pC prog 45=true/\agT prog 47=some true/\qK prog 47 0=some (0,44)/\qK prog 47 1=some (1,45)/\agT prog 49=some true/\qK prog 49 0=some (0,4)/\qK prog 49 1=some (1,47)/\qK prog 49 2=some (3,32)/\agT prog 53=some false:=⟨kr,kr,kr,kr,kr,kr,kr,kr,kr,kr,kr,kr,kr,kr,kr,kr⟩
theorem zBo:pC prog 53=true/\agT prog 55=some true/\qK prog 55 0=some (0,3)/\qK prog 55 1=some (1,9)/\qK prog 55 2=some (2,9)/\qK prog 55 3=some (3,53)/\agT prog 57=some true/\qK prog 57 0=some (0,3)/\qK prog 57 1=some (1,9)/\qK prog 57 2=some (2,9)/\qK prog 57 3=some (3,3)/\qK prog 57 4=some (4,3)/\qK prog 57 5=some (5,3)/\qK prog 57 6=some (6,4)/\qK prog 57 7=some (7,55)/\qK prog 57 8=some (11,45):=⟨kr,kr,kr,kr,kr,kr,kr,kr,kr,kr,kr,kr,kr,kr,kr,kr⟩
theorem zMM:agT prog 71=some false/\agT prog 77=some false/\uo prog 77=some .nilfn/\agT prog 85=some false/\agT prog 91=some false/\szT prog 98=1:=⟨kr,kr,kr,kr,kr,kr⟩
attribute[go_sem] sG pc V5 fO C5 I0 zLh pK fM aR p6 NT Rk bK BY Gp UQ Gq zCF zHA zCG fU zHB wA Qu zHC fV No zCH aB aC Mq uG Hb Tp Me ww BZ Zu Ft Lm Zv Yd fq BK bL jq Mr zBG Kc Ln dm Ms Hc Tq zHD zOH zN6 Ad zBo zMM
def fW:uu prog 98=some 44:=kr
def WG:szT prog 100=6:=kr
def Ql:uo prog 100=some (.agg [.nilsl,.nilsl,.nilsl,.nilsl,.nilsl,.nilsl]):=kr
def Xp:rz prog 100=some [(0,1),(1,1),(2,4)]:=kr
def jW:szT prog 117=4:=kr
def WQ:uo prog 117=some (.agg [(.str []),(.str []),(.int .i64 0),(.str [])]):=kr
def Fu:YE prog 117=true:=kr
def M3:uF prog 117=56:=kr
def Xq:rz prog 117=some [(0,1),(1,1),(2,1),(3,1)]:=kr
def WH:szT prog 122=3:=kr
def gu:szT prog 126=5:=kr
def HV:uo prog 126=some (.agg [(.str []),(.int .i64 0),(.int .i64 0),(.int .i64 0),.nilsl]):=kr
def Fv:YE prog 126=true:=kr
def M4:uF prog 126=64:=kr
def TI:szT prog 130=2:=kr
def HW:uo prog 130=some (.agg [(.str []),(.str [])]):=kr
def Ph:rz prog 130=some [(0,1),(1,1)]:=kr
def tS:szT prog 137=2:=kr
def fK:uo prog 137=some (.agg [(.int .i64 0),.nilsl]):=kr
def Mt:YE prog 137=true:=kr
def Wv:uF prog 137=32:=kr
def cR:rz prog 137=some [(0,1),(1,1)]:=kr
def lq:szT prog 139=4:=kr
def aQ:uo prog 139=some (.agg [(.int .i64 0),.nilsl,(.int .i64 0),.nilsl]):=kr
def Fw:YE prog 139=true:=kr
def M5:uF prog 139=64:=kr
def Xr:rz prog 139=some [(0,1),(1,1),(2,2)]:=kr
def Iy:szT prog 157=1:=kr
def tg:uu prog 157=some 137:=kr
def UC:Wu prog 157=none:=kr
def HY:uo prog 163=some (.agg [.nilsl,.nilsl,.nilsl,.nilsl,.nilsl,.nilsl,.nilsl]):=kr
def Pi:rz prog 163=some [(0,4),(4,1),(5,1),(6,1)]:=kr
def Ul:MA prog 189=some (9,3):=kr
def XE:uu prog 194=some 197:=kr
def uK:szT prog 195=1:=kr
def fL:uo prog 195=some .nilsl:=kr
def wp:uu prog 195=some 197:=kr
def pR:YE prog 195=true:=kr
def tF:uF prog 195=24:=kr
def cz:Wu prog 195=none:=kr
def uO:szT prog 197=2:=kr
def sH:uo prog 197=some (.agg [(.str []),(.str [])]):=kr
def Ye:YE prog 197=true:=kr
def kA:uF prog 197=32:=kr
def oc:rz prog 197=some [(0,1),(1,1)]:=kr
theorem zMQ:agT prog 98=some false/\pC prog 98=true/\agT prog 100=some true/\qK prog 100 0=some (0,98)/\qK prog 100 1=some (1,45)/\qK prog 100 2=some (2,27)/\agT prog 117=some true/\qK prog 117 0=some (0,9)/\qK prog 117 1=some (1,9)/\qK prog 117 2=some (2,3)/\qK prog 117 3=some (3,9)/\agT prog 122=some true/\uo prog 122=some (.agg [(.str []),(.str []),.nilsl])/\qK prog 122 0=some (0,9)/\qK prog 122 1=some (1,9)/\qK prog 122 2=some (2,30):=⟨kr,kr,kr,kr,kr,kr,kr,kr,kr,kr,kr,kr,kr,kr,kr,kr⟩
theorem zI5:agT prog 126=some true/\qK prog 126 0=some (0,9)/\qK prog 126 1=some (1,3)/\qK prog 126 2=some (2,3)/\qK prog 126 3=some (3,3)/\qK prog 126 4=some (4,45)/\agT prog 130=some true/\qK prog 130 0=some (0,9)/\qK prog 130 1=some (1,9)/\agT prog 137=some true/\qK prog 137 0=some (0,3)/\qK prog 137 1=some (1,30)/\agT prog 139=some true/\qK prog 139 0=some (0,3)/\qK prog 139 1=some (1,30)/\qK prog 139 2=some (2,137):=⟨kr,kr,kr,kr,kr,kr,kr,kr,kr,kr,kr,kr,kr,kr,kr,kr⟩
theorem zI9:agT prog 143=some false/\agT prog 157=some false/\uo prog 157=some .nilsl/\pC prog 157=true/\qK prog 163 0=some (0,27)/\qK prog 163 1=some (4,29)/\qK prog 163 2=some (5,98)/\qK prog 163 3=some (6,45)/\pC prog 194=true/\agT prog 195=some false/\pC prog 195=true/\agT prog 197=some true/\qK prog 197 0=some (0,9)/\qK prog 197 1=some (1,9)/\szT prog 208=1/\agT prog 208=some false:=⟨kr,kr,kr,kr,kr,kr,kr,kr,kr,kr,kr,kr,kr,kr,kr,kr⟩
attribute[go_sem] fW WG Ql Xp jW WQ Fu M3 Xq WH gu HV Fv M4 TI HW Ph tS fK Mt Wv cR lq aQ Fw M5 Xr Iy tg UC HY Pi Ul XE uK fL wp pR tF cz uO sH Ye kA oc zMQ zI5 zI9
def MB:MA prog 208=some (3,195):=kr
def MC:MA prog 209=some (9,9):=kr
def HZ:uo prog 211=some (.agg [.nilsl,.nilsl,.nilsl,.nilsl,.nilsl,.nilmap,.nilmap]):=kr
def Pj:rz prog 211=some [(0,4),(4,1),(5,1),(6,1)]:=kr
def JW:uu prog 255=some 5:=kr
def zA4:szT prog 259=1:=kr
def RV:uu prog 267=some 271:=kr
def P3:szT prog 271=2:=kr
def Qm:uo prog 271=some (.agg [(.int .i64 0),.nilfn]):=kr
def Pk:rz prog 271=some [(0,1),(1,1)]:=kr
def Iz:szT prog 310=8:=kr
def kV:uo prog 310=some (.agg [(.bool false),(.bool false),(.bool false),(.bool false),(.bool false),(.bool false),(.bool false),(.bool false)]):=kr
def oe:rz prog 310=some [(0,1),(1,1),(2,1),(3,1),(4,1),(5,1),(6,1),(7,1)]:=kr
def zA5:szT prog 339=3:=kr
def Ha:uo prog 339=some (.agg [(.int .i64 0),(.int .i64 0),(.int .i64 0)]):=kr
def Pm:rz prog 339=some [(0,1),(1,1),(2,1)]:=kr
def zA6:szT prog 368=1:=kr
theorem zLf:szT prog 209=1/\agT prog 209=some false/\qK prog 211 0=some (0,27)/\qK prog 211 1=some (4,29)/\qK prog 211 2=some (5,208)/\qK prog 211 3=some (6,209)/\agT prog 258=some false/\agT prog 259=some false/\uo prog 259=some .nilfn/\szT prog 269=1/\agT prog 269=some false/\agT prog 271=some true/\qK prog 271 0=some (0,3)/\qK prog 271 1=some (1,269)/\agT prog 273=some false/\agT prog 310=some true:=⟨kr,kr,kr,kr,kr,kr,kr,kr,kr,kr,kr,kr,kr,kr,kr,kr⟩
theorem Cp:qK prog 310 0=some (0,4)/\qK prog 310 1=some (1,4)/\qK prog 310 2=some (2,4)/\qK prog 310 3=some (3,4)/\qK prog 310 4=some (4,4)/\qK prog 310 5=some (5,4)/\qK prog 310 6=some (6,4)/\qK prog 310 7=some (7,4)/\agT prog 339=some true/\qK prog 339 0=some (0,3)/\qK prog 339 1=some (1,3)/\qK prog 339 2=some (2,3)/\agT prog 368=some false/\uo prog 368=some .nilfn/\agT prog 395=some false:=⟨kr,kr,kr,kr,kr,kr,kr,kr,kr,kr,kr,kr,kr,kr,kr⟩
attribute[go_sem] MB MC HZ Pj JW zA4 RV P3 Qm Pk Iz kV oe zA5 Ha Pm zA6 zLf Cp
end Go.V
