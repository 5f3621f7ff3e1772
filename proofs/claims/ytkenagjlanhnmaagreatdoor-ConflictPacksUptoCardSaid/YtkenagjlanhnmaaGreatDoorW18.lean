/- Rules of the machine of abstract values, part 2. No condition. -/
import Derived.Test.YtkenagjlanhnmaaGreatDoorW16
import Derived.Test.YtkenagjlanhnmaaGreatDoorW17
import Derived.Shelf.SlGeneric
import Derived.Shelf.Strings.Builder1
import Derived.Shelf.Strconv.Atoi
import Derived.Shelf.Strings.Search2
import Derived.Shelf.Strings.Search3
import Derived.Shelf.Sort.Plain
import Derived.Ground.Names2Prog
import Derived.Shelf.Slices.Delete
import Derived.Test.YtkenagjlanhnmaaGreatDoorW05
import Derived.Sort.Row
set_option linter.all false
set_option maxHeartbeats 8000000
namespace Go.V
def gJ{α:Type _}(a b:α):(some a).getD b=a:=rfl
section
variable{P:Program}{g:Cfg}{n:Nat}{mu:Tmp->Bool}{h0:Heap}{bk:Nat->Bool}{ops:Array Oper}
theorem VD:∀(l:List Oper){K c:Frm->Heap->Prop}(_:∀fr h,K fr h->c fr h)(fr:Frm)(h:Heap),VO P mu ops l K fr h->VO P mu ops l c fr h
 | [],_,_,b,fr,h,a=>b fr h a
 |o::rest,K,c,b,fr,h,a=>by
  simp only[VO]at a⊢;cases e:uf ops fr o.guard with
  |true=>
   rw[e]at a;exact dA (λd h' f=>VD rest b _ _ f) a
  |false=>
   rw[e]at a;exact VD rest b _ _ a
theorem YC:∀(l:List (Nat×Fl)){K b:Frm->Heap->Prop}(_:∀fr h,K fr h->b fr h)(fl:Bool)(fr:Frm)(h:Heap),mF P mu h0 bk ops fl l K fr h->mF P mu h0 bk ops fl l b fr h
 | [],_,_,c,_,fr,h,a=>c fr h a
 |(i,st)::rest,K,b,c,fl,fr,h,a=>by
  simp only[mF]at a⊢;cases e:ops[i]? with
  |none=>rw[e]at a;exact a
  |some o=>
   rw[e]at a;exact bZ (λd h' f=>⟨f.1,YC rest c _ _ _ f.2⟩) a
variable{fr:Frm}{h:Heap}
def MS{l:List (Nat×Fl)}{K b:Frm->Heap->Prop}(c:∀fr h,K fr h->b fr h){fl:Bool}(a:cn P mu h0 bk ops fl l K fr h):cn P mu h0 bk ops fl l b fr h:=by
 unfold cn at a⊢;split at a
 .exact YC _ c _ _ _ a
 .exact⟨a.1,YC _ c _ _ _ a.2⟩
theorem rW:∀(c:Code){ro:Option Nat}{Q p:Exit->Frm->Heap->Prop}(_:∀e fr h,Q e fr h->p e fr h)(fr:Frm)(h:Heap),vwp P g n ro c Q fr h->vwp P g n ro c p fr h
 |.skip,_,_,_,m,fr,h,j=>m _ _ _ j
 |.exit _,_,_,_,m,fr,h,j=>m _ _ _ j
 |.ret,_,_,_,m,fr,h,j=>m _ _ _ j
 |.region id ops s,_,_,_,m,fr,h,j=>by
  simp only[vwp]at j⊢;cases s with
  |false=>exact VD _ (λfr h=>m _ fr h) _ _ j
  |true=>
   obtain⟨h0,h1,q⟩:=j;exact⟨h0,h1,MS (λfr h=>m _ fr h) q⟩
 |.seq a b,ro,Q,p,m,fr,h,j=>by
  simp only[vwp]at j⊢;refine rW a (λe fr h o=> ?_) fr h j;cases e with
  |normal=>exact rW b m fr h o
  |_=>exact m _ _ _ o
 |.cond c a b,ro,Q,p,m,fr,h,j=>by
  simp only[vwp]at j⊢;split at j
  .split at j
   .exact rW a m fr h j
   .exact rW b m fr h j
  .exact j
 |.block id c,ro,Q,p,m,fr,h,j=>by
  simp only[vwp]at j⊢;refine rW c (λe fr h o=> ?_) fr h j;cases e with
  |exit i=>
   simp only[bp]at o⊢;split at o
   .rename_i t;rw[ip t];exact m _ _ _ o
   .rename_i t;rw[iq t];exact m _ _ _ o
  |_=>exact m _ _ _ o
 |.loop c,ro,Q,p,m,fr,h,j=>by
  simp only[vwp]at j⊢;obtain⟨I,h1,q⟩:=j;refine⟨I,h1,λk fr h w=>rW c (λe fr h o=> ?_) fr h (q k fr h w)⟩;cases e with
  |normal=>exact o
  |_=>exact m _ _ _ o
 |.rangeFunc f x u body,ro,Q,p,m,fr,h,j=>by
  simp only[vwp]at j⊢;refine⟨j.1,?_⟩;have q:=j.2;cases hf:qz fr f<;>rw[hf]at q<;>simp only[VFn]at q⊢;rename_i v first cap
  cases v<;>simp only at q⊢;refine zE.mono q λd h' o=> ?_;obtain⟨r,r1,r2,r3⟩:=o;refine⟨r,r1,r2,?_⟩;unfold Va at r3⊢;split at r3
  .exact m _ _ _ r3
  .split at r3
   .exact m _ _ _ r3
   .exact m _ _ _ r3
   .exact r3
 |.label _,_,_,_,m,fr,h,j=>m _ _ _ j
 |.goto _,_,_,_,_,_,_,j=>j
 |.scope c,ro,Q,p,m,fr,h,j=>by
  simp only[vwp]at j⊢;refine rW c (λe fr h o=> ?_) fr h j;cases e with
  |goto l=>exact o
  |_=>exact m _ _ _ o
 |.refuse ..,_,_,_,_,_,_,j=>j
end
section
variable{P:Program}{g:Cfg}{n:Nat}{ro:Option Nat}{c:Code}{Q:Exit->Frm->Heap->Prop}{fr:Frm}{h:Heap}
variable{f:FuncId}{args:List D}
def xO(b:P.follows .mixedOrders=true){fn:Func}{co:Code}{R:D->Heap->Prop}(hf:P.funcs[f]? =some fn)(a:PC P g fn=true)(c:fn.body=some co)(d:Nat.ble args.length fn.ntmps=true)
  (e:vwp P g fn.ntmps none co (Bu P fn.results.toList R) (V.TV args) h):zE P f args h R:=by
 unfold PC at a;rw[c]at a;simp only[zF,qH]at a;exact zE.of_body b hf c a.2 a.1 (nk d) e
def zJX(m:List Nat)(d:List (Nat×List (Nat×Fl)))(t:Tmp):(zm m d).mu t=List.contains (α:=Nat) m t:=(rfl)
def ql(J:Nat->Frm->Heap->Prop)(len:Nat)(b:J 0 fr h)(step:∀i fr h,i<=len->J i fr h->vwp P g n ro c (bX (λfr h=>i<len/\J (i+1) fr h) Q) fr h):vwp P g n ro (.loop c) Q fr h:=by
 refine KS (λk fr h=>∃i,k=len-i/\i<=len/\J i fr h) len ⟨0,jS,yD _,b⟩ ?_;rintro k fr h ⟨i,rfl,j,f⟩;refine rW c ?_ fr h (step i fr h j f);intro e d h' a;cases e with
 |normal=>exact⟨len- (i+1),by have:=a.1;omega,i+1,rfl,a.1,a.2⟩
 |_=>exact a
end
def qJ{x:Int}(h1: -9223372036854775808<=x)(a:x<9223372036854775808):IntKind.i64.wrap x=x:=by
 unfold IntKind.wrap;simp[IntKind.signed,IntKind.bits];split<;>omega
variable{i id n nid sz k:Nat}{fr:Frm}{h h' h0:Heap}{f:FuncId}{args cs:List D}{P:Program}{t:TypeId}{z x d:D}{xs ys X:List (List D)}{S S':Nat->Prop}{K Q:D->Heap->Prop}{tk:Tk}{α:Type}{l:Loc}{M:Imm}{ρ:Ren}{v:Value}{ev:Operand->D}{o:Oper}{bk:Nat->Bool}{b:Bool}
theorem qR(h:i<=lim):IntKind.i64.wrap ((i:Int)+1)=((i+1:Nat):Int):=by
 rw[qJ ow (by unfold lim at h;omega)];norm_cast
def zGh(mu:Tmp->Bool)(t:Tmp):ZS mu (some t)=mu t:=(rfl)
attribute [go_sem] List.contains_nil List.map_cons List.map_nil List.nil_append List.append_nil List.cons_append Bool.false_eq_true Bool.or_false Bool.or_true Bool.true_or Bool.false_or Bool.not_true Bool.not_false List.getElem?_cons_zero List.getElem?_cons_succ
def zLQ(t:Tmp):isC (.tmp t)=false:=(rfl)
def zGZ(v:Value):isC (.const v)=true:=(rfl)
def zBp(h:Heap)(i:Nat)(o:Obj):(h.new i o).at' i=some o:=z5 h i o
def zU(h:Heap)(i:Nat)(o:Obj):(h.set i o).at' i=some o:=by simp[Heap.set]
def zCm(P:Program)(nid:Nat)(t:TypeId)(x:Operand)(fr:Frm)(h:Heap):vop P false nid (.box t x) (qz fr) h=if(qz fr x).notTuple then some (.iptr (qz fr x).cells 0,h)else none:=by
 simp[vop]
def zCn(P:Program)(nid:Nat)(t:TypeId)(x:Operand)(fr:Frm)(h:Heap):vop P true nid (.box t x) (qz fr) h=if(qz fr x).notTuple then some (.ptr nid 0,h.new nid (.row (qz fr x).cells))else none:=by
 simp[vop]
def gx(t:TypeId)(nid:Nat)(h:Heap):Option D->VR
 |some z=>if z.notTuple then some (.ptr nid 0,h.new nid (Zu t z.cells))else none
 |none=>none
def zJC(P:Program)(m:Bool)(nid:Nat)(t:TypeId)(fr:Frm)(h:Heap):vop P m nid (.alloc t) (qz fr) h=gx t nid h (uw P t):=by
 simp only[vop,gx];cases uw P t<;>rfl
def zCw(t:TypeId)(nid:Nat)(h:Heap)(cs:List D):gx t nid h (some (.agg cs))=some (.ptr nid 0,h.new nid (Zu t cs)):=(rfl)
def zCx(t:TypeId)(nid:Nat)(h:Heap)(k:IntKind)(n:Int):gx t nid h (some (.int k n))=some (.ptr nid 0,h.new nid (.row [.int k n])):=(rfl)
def zCy(t:TypeId)(nid:Nat)(h:Heap)(s:List UInt8):gx t nid h (some (.str s))=some (.ptr nid 0,h.new nid (.row [.str s])):=(rfl)
def Dp(t:TypeId)(nid:Nat)(h:Heap):gx t nid h (some .nilsl)=some (.ptr nid 0,h.new nid (.row [.nilsl])):=(rfl)
def zGj(t:TypeId)(k:IntKind)(n:Int)(cs:List D):Zu t (.int k n::cs)=.row (.int k n::cs):=(rfl)
def zGk(t:TypeId)(s:List UInt8)(cs:List D):Zu t (.str s::cs)=.row (.str s::cs):=(rfl)
def zC8(t:TypeId)(b:Bool)(cs:List D):Zu t (.bool b::cs)=.row (.bool b::cs):=(rfl)
def zBr(t:TypeId)(cs:List D):Zu t (.nilsl::cs)=.row (.nilsl::cs):=(rfl)
def Yd(cs:List D):(D.agg cs).notTuple=true:=(rfl)
def PB(s:List UInt8):(D.str s).notTuple=true:=(rfl)
def QN(cs:List D):(D.agg cs).cells=cs:=(rfl)
def Ir(s:List UInt8):(D.str s).cells= [.str s]:=(rfl)
def qh{cs cs':List D}(b:h.at' id=some (.row cs))(d:szT P t=cs'.length)(a:cs.length=cs'.length)(h0:0<cs'.length)(hf:cs'.all D.flat=true):yR P t (.ptr id 0) (.agg cs') h=some (h.set id (.row cs')):=by
 have c:wg cs cs' 0=cs':=by simp[wg,a]
 simp only[yR,b,D.cells,d,c];rw[ip];simp only[zF,zP,ne_eq,yP];exact⟨⟨⟨λe=>by omega,trivial⟩,Nat.le_of_eq a.symm⟩,hf⟩
def zJ(a:cs.length=n)(h0:0<n):yQ true n cs 0=some (.agg cs):=by
 subst a;simp only[yQ];rw[ip trivial,iq ow,ip ow];simp
def GO(ag:Bool)(n off:Nat):Option Obj->Option D
 |some (.row cs)=>yQ ag n cs off
 |some (.trow _ _ cs)=>yQ ag n cs off
 |_=>none
def zI9(P:Program)(t:TypeId)(id off:Nat)(h:Heap):jT P t (.ptr id off) h=(match agT P t with
 |none=>none
 |some ag=>GO ag (szT P t) off (h.at' id)):=by
 unfold jT;cases agT P t with
 |none=>rfl
 |some ag=>
  simp only;cases h.at' id with
  |none=>rfl
  |some o=>cases o<;>rfl
def zCG(ag:Bool)(n off:Nat)(cs:List D):GO ag n off (some (.row cs))=yQ ag n cs off:=(rfl)
def qD{t e:TypeId}(j:ur P t=some e)(l:uw P e=some z)(k:szT P e=sz)(g:z.notTuple=true)(b:z.cells.length=sz)(h0:0<sz)(i:sz<=16777216)
  (f:x.notTuple=true) (a:x.cells.length=sz):yA P false nid t 1 [(0,x)] h=some (.sl sz [x.cells] .full,h):=by
 simp only[yA,j,l,k];have d:ma 1 z.cells=z.cells:=by simp[ma]
 have c:wg z.cells x.cells 0=x.cells:=by simp[wg,b,a]
 rw[ip (by simp[g,b,h0];omega)];simp only[uc,d];rw[ip (by simp[f,a,b])];simp only[sr,c];simp[wP,<-a]
def rY(h:Heap)(sz:Nat)(xs:List (List D))(d:D):Prop:=(d=.nilsl/\xs= [])\/∃t,d=.sl sz xs (.own t)/\h.at' t=some .tok/\t<h.next
def rY.isSl(a:rY h sz xs d):yg sz xs d:=by
 rcases a with⟨rfl,rfl⟩ | ⟨t,rfl,_⟩
 .exact yg.nil
 .exact yg.mk _
def rY.keep(c:rY h sz xs d)(b:∀i,i<h.next->h'.at' i=h.at' i)(e:h.next<=h'.next):rY h' sz xs d:=by
 rcases c with h1| ⟨t,h1,a,h3⟩
 .exact .inl h1
 .exact .inr ⟨t,h1,by rw[b t h3];exact a,ow⟩
attribute[go_sem] zJX zGh zLQ zGZ zBp zU zCm zCn zJC zCw zCx zCy Dp zGj zGk zC8 zBr Yd PB QN Ir zCG
attribute[go_sem ↓] zI9
open Go.Proofs.Tryz
open Go.Proofs
set_option maxRecDepth 100000
noncomputable def tab:List (Nat× (Func×Cfg)):=[(8,(f8,zN9)),(11,(f11,zEP)),(13,(f13,zLM)),(14,(f14,zPx)),(18,(f18,zEZ)),(19,(f19,zPx)),(20,(f20,zEv)),(21,(f21,zPx)),(26,(f26,zEu)),(27,(f27,zEv)),(32,(f32,zPx)),(33,(f33,zPx)),(34,(f34,zPx)),(40,(f40,zPx)),(41,(f41,zPx)),(42,(f42,zPx)),(43,(f43,zPx)),(47,(f47,zFl)),(48,(f48,zFm)),(49,(f49,zFn)),(50,(f50,zPx)),(51,(f51,zPx)),(52,(f52,zPx)),(53,(f53,zPx)),(58,(f58,zPx)),(59,(f59,zPx)),(60,(f60,zPx)),(61,(f61,zPx)),(62,(f62,zPx)),(63,(f63,zPx)),(65,(f65,zPx)),(67,(f67,zPx)),(69,(f69,zPx)),(73,(f73,zAx)),(74,(f74,zPx)),(75,(f75,zF2)),(76,(f76,zPx)),(77,(f77,zPx)),(79,(f79,CW)),(86,(f86,zPx)),(87,(f87,zPx)),(88,(f88,zF7)),(89,(f89,zF8)),(90,(f90,zPx)),(91,(f91,zPx)),(92,(f92,zPx)),(93,(f93,zGC)),(94,(f94,zGD)),(97,(f97,zPx)),(98,(f98,zPx)),(101,(f101,Dt)),(102,(f102,zPx)),(103,(f103,zPx)),(104,(f104,Dw)),(106,(f106,Dx)),(108,(f108,zPx)),(109,(f109,zPx)),(110,(f110,zPx)),(111,(f111,zPx)),(112,(f112,zPx)),(113,(f113,zPx)),(114,(f114,zPx)),(115,(f115,CA)),(116,(f116,zPx)),(118,(f118,CC)),(121,(f121,CD)),(122,(f122,zPx)),(123,(f123,zPx)),(124,(f124,zPx)),(125,(f125,zPx)),(126,(f126,zEv)),(127,(f127,zPx)),(128,(f128,zPx)),(129,(f129,zPx)),(130,(f130,zPx)),(131,(f131,CO)),(132,(f132,CP)),(133,(f133,CW)),(148,(f148,zPx)),(149,(f149,zPx)),(150,(f150,CT)),(151,(f151,CU)),(152,(f152,CW)),(153,(f153,CW)),(155,(f155,zPx)),(158,(f158,zPx)),(160,(f160,zPx)),(161,(f161,Ca)),(162,(f162,zPx)),(163,(f163,zPx)),(164,(f164,zPx)),(165,(f165,zPx)),(166,(f166,zPx)),(167,(f167,Cg)),(169,(f169,Cg)),(171,(f171,Cg)),(173,(f173,zPx)),(174,(f174,Cg)),(176,(f176,zPx)),(177,(f177,zPx)),(179,(f179,zPx)),(181,(f181,zEa)),(184,(f184,zF7)),(185,(f185,Cq)),(186,(f186,zPx)),(187,(f187,zPx)),(188,(f188,zPx)),(189,(f189,zPx)),(190,(f190,zPx)),(191,(f191,zPx)),(192,(f192,zPx)),(193,(f193,zPx)),(194,(f194,Cy)),(195,(f195,zPx)),(196,(f196,zFI)),(197,(f197,zPx)),(198,(f198,C2)),(199,(f199,C3)),(200,(f200,CW)),(207,(f207,C5)),(208,(f208,zPx)),(209,(f209,zPx)),(215,(f215,zPx)),(226,(f226,zPx)),(227,(f227,zPx)),(228,(f228,Iw)),(229,(f229,Mr)),(230,(f230,Ms)),(231,(f231,Mt)),(232,(f232,zPx)),(233,(f233,C9)),(234,(f234,zPx)),(235,(f235,BB)),(236,(f236,zPx)),(243,(f243,zPx)),(244,(f244,zPx)),(245,(f245,zPx)),(246,(f246,zPx)),(247,(f247,zPx)),(248,(f248,zPx)),(249,(f249,zPx)),(267,(f267,zPx)),(282,(f282,zPx)),(283,(f283,BL)),(285,(f285,zPx)),(286,(f286,zPx)),(288,(f288,BO)),(289,(f289,zPx)),(290,(f290,BQ)),(292,(f292,BR)),(298,(f298,zPx)),(302,(f302,zPx)),(303,(f303,Cg)),(317,(f317,zPx)),(318,(f318,zPx)),(319,(f319,zPx)),(320,(f320,zPx)),(321,(f321,zPx)),(322,(f322,zPx)),(323,(f323,zPx)),(324,(f324,zPx)),(325,(f325,zPx)),(326,(f326,zPx)),(361,(f361,Mu)),(362,(f362,zPx)),(363,(f363,BQ)),(364,(f364,zPx)),(365,(f365,zPx)),(366,(f366,zPx)),(375,(f375,zPx)),(376,(f376,zPx)),(377,(f377,zPx)),(396,(f396,zPx)),(399,(f399,zPx)),(430,(f430,zFj)),(431,(f431,zPx))]
def zIr:ZV prog tab:=⟨⟨func8,kr⟩,zLZ,zPE,zLi,zHF,zPF,⟨func20,kr⟩,zJo,⟨func26,kr⟩,⟨func27,kr⟩,zJp,zPG,zMk,zM2,zPH,zM3,zPI,zPJ,zPK,zPL,zPM,zPN,zM6,zM7,zPO,⟨func59,kr⟩,⟨func60,kr⟩,⟨func61,kr⟩,zPP,⟨func63,kr⟩,⟨func65,kr⟩,⟨func67,kr⟩,zPQ,zM8,zPR,zPS,zPT,zPU,zM9,zJq,zPV,zPW,zJr,zPX,zPY,zNA,zPZ,zPa,zPc,zPd,zGn,⟨func102,kr⟩,⟨func103,kr⟩,⟨func104,kr⟩,⟨func106,kr⟩,⟨func108,kr⟩,zGo,⟨func110,kr⟩,⟨func111,kr⟩,zGp,zGq,⟨func114,kr⟩,zGr,zGs,zGt,zGu,zBt,zGv,zGw,zGx,zGy,zGz,zG0,zG1,zG2,zG3,zBu,⟨func133,kr⟩,zG4,zG5,zG6,zBv,⟨func152,kr⟩,zG7,zG8,⟨func158,kr⟩,zG9,⟨func161,kr⟩,⟨func162,kr⟩,zHA,⟨func164,kr⟩,⟨func165,kr⟩,⟨func166,kr⟩,⟨func167,kr⟩,⟨func169,kr⟩,⟨func171,kr⟩,zHB,⟨func174,kr⟩,zHC,zHD,zHE,zHG,zHH,E6,zHI,zHJ,zHK,zHL,zHM,zHN,zHO,zHP,zHQ,⟨func195,kr⟩,zHR,zHS,zHT,zBw,zHU,zHV,zHW,E7,⟨func215,kr⟩,zHX,zHY,zHZ,zHa,zHb,zHc,zHd,⟨func233,kr⟩,⟨func234,kr⟩,zHe,zHf,zHg,zHh,zHi,zHj,zHk,zHl,zHm,⟨func267,kr⟩,zHn,zHo,zHp,zHq,zHr,zHs,zHt,⟨func292,kr⟩,⟨func298,kr⟩,⟨func302,kr⟩,zHu,zHv,zHw,zHx,zHy,zHz,zH0,zH1,zH2,zH3,zH4,zH5,zH6,zH7,zH8,zH9,zIA,zIB,zIC,zID,zIE,zIF,zIG,zIH,trivial⟩
def mix:prog.follows .mixedOrders=true:=kr
def zo{fn:Func}{g:Cfg}{co:Code}{R:D->Heap->Prop}(e:Fo prog f fn g)(c:vwp prog g fn.ntmps none co (Bu prog fn.results.toList R) (V.TV args) h)(a:fn.body=some co:=by rfl)(b:Nat.ble args.length fn.ntmps=true:=by rfl):zE prog f args h R:=xO mix e.1 e.2 a b c
end Go.V
namespace Go.Proofs
def bears_k{P:Program}{i:Nat}{B:Func}(h1:(P.funcs[i]?).any (λf=> !(f.name== "runtime.NumGoroutine"))=true)(a:(P.funcs[i]?).map (λf=> { B with name:=f.name })=P.funcs[i]?):Bears P i B:=by
 cases h:P.funcs[i]? with
 |none=>rw[h]at h1;cases h1
 |some f=>
  rw[h]at h1 a;exact⟨f.name,by simpa using h1,h.trans a.symm⟩
def lay_k{p:Prop}(h:p:=by first|kernel_rfl|(show _=_;kernel_rfl)|(refine bears_k ?_ ?_<;>kernel_rfl)):p:=h
open Go.Shelf
def Tryz.lays160_ren:Go.Shelf.Ren:=⟨fun|160=>214|232=>261|231=>260|227=>262|234=>264|233=>263|236=>266|235=>265|228=>341|271=>343|151=>342|197=>211|120=>387|152=>386|260=>255|137=>425|119=>426|224=>258|225=>257|217=>256|266=>339|n=>n,fun|9=>9|4=>4|3=>3|5=>5|117=>327|116=>326|0=>0|124=>330|21=>21|105=>284|46=>299|119=>375|139=>378|138=>377|n=>n,fun|3=>1|4=>2|n=>n⟩
def Tryz.lays160:Go.Proofs.Lays.n160 Tryz.prog Tryz.lays160_ren:=by constructor<;>intros<;>exact lay_k
def Tryz.lays172_ren:Go.Shelf.Ren:=⟨fun|172=>215|244=>267|245=>268|247=>344|279=>345|280=>346|281=>347|282=>348|287=>388|316=>389|171=>391|205=>390|321=>427|322=>428|243=>429|246=>441|283=>445|284=>446|285=>447|286=>448|129=>302|317=>449|318=>450|319=>451|320=>452|337=>453|338=>454|n=>n,fun|9=>9|3=>3|75=>289|76=>290|4=>4|5=>5|167=>383|37=>255|0=>0|85=>384|2=>2|168=>386|53=>357|175=>415|46=>299|210=>419|127=>332|145=>449|143=>447|21=>21|171=>462|173=>464|212=>467|51=>355|20=>20|213=>468|232=>469|233=>470|80=>296|n=>n,fun|15=>3|16=>4|17=>5|18=>6|19=>7|n=>n⟩
def Tryz.lays172:Go.Proofs.Lays.n172 Tryz.prog Tryz.lays172_ren:=by constructor<;>intros<;>exact lay_k
open Go.RowKit in
def Tryz.strconv_Atoi(s:ByteArray)(n:Int)(a:s.size<=18)(h:Lib.atoi s.data.toList=some n)(w:World):
  Calls Tryz.prog 215 #[.string s] w λe b=>e=.returned (.tuple #[.int .i64 n,.nilIface])/\∃t,b=Lib.bytesWorld w 5 t:=Any.strconv_Atoi Tryz.lays172 s n a h w
def Tryz.laysM171_ren:Go.Shelf.Ren:=⟨fun|171=>391|243=>429|246=>441|283=>445|284=>446|285=>447|286=>448|129=>302|317=>449|318=>450|319=>451|320=>452|337=>453|338=>454|n=>n,fun|3=>3|9=>9|2=>2|4=>4|171=>462|0=>0|53=>357|37=>255|5=>5|173=>464|212=>467|51=>355|20=>20|213=>468|46=>299|232=>469|233=>470|n=>n,fun|17=>5|18=>6|19=>7|n=>n⟩
def Tryz.laysM171:Go.Proofs.LaysM.n171 Tryz.prog Tryz.laysM171_ren:=by constructor<;>intros<;>first|exact lay_k|(constructor<;>intros<;>exact lay_k)
def Tryz.lays219_ren:Go.Shelf.Ren:=⟨fun|219=>213|217=>256|225=>257|224=>258|267=>259|266=>339|314=>340|n=>n,fun|9=>9|3=>3|4=>4|5=>5|46=>299|146=>379|51=>355|n=>n,fun|1=>0|n=>n⟩
def Tryz.lays219:Go.Proofs.Lays.n219 Tryz.prog Tryz.lays219_ren:=by constructor<;>intros<;>exact lay_k
open Go.RowKit Go.Lib in
def Tryz.stringslite_Index_one(s:ByteArray)(c:UInt8)(w:World):
  Calls Tryz.prog 213 #[.string s,.string ⟨#[c]⟩] w λe a=>e=.returned (.int .i64 (Lib.indexByte s.data.toList c))/\a=w:=Any.stringslite_Index_one Tryz.lays219 s c w
def Tryz.lays143_ren:Go.Shelf.Ren:=⟨fun|143=>159|219=>213|217=>256|225=>257|224=>258|267=>259|266=>339|314=>340|n=>n,fun|9=>9|3=>3|4=>4|5=>5|46=>299|146=>379|51=>355|n=>n,fun|1=>0|n=>n⟩
def Tryz.lays143:Go.Proofs.Lays.n143 Tryz.prog Tryz.lays143_ren:=by constructor<;>intros<;>exact lay_k
open Go.RowKit Go.Lib in
def Tryz.strings_Index_one(s:ByteArray)(c:UInt8)(w:World):
  Calls Tryz.prog 159 #[.string s,.string ⟨#[c]⟩] w λe a=>e=.returned (.int .i64 (Lib.indexByte s.data.toList c))/\a=w:=Any.strings_Index_one Tryz.lays143 s c w
def Tryz.lays138_ren:Go.Shelf.Ren:=⟨fun|138=>158|195=>210|218=>212|143=>159|219=>213|217=>256|225=>257|224=>258|267=>259|266=>339|314=>340|n=>n,fun|9=>9|3=>3|4=>4|5=>5|0=>0|46=>299|146=>379|51=>355|n=>n,fun|1=>0|n=>n⟩
def Tryz.lays138:Go.Proofs.Lays.n138 Tryz.prog Tryz.lays138_ren:=by constructor<;>intros<;>exact lay_k
open Go.RowKit Go.Lib in
def Tryz.strings_Count_one(s:ByteArray)(c:UInt8)(w:World):
  Calls Tryz.prog 158 #[.string s,.string ⟨#[c]⟩] w λe a=>e=.returned (.int .i64 (Lib.countByte s.data.toList c))/\a=w:=Any.strings_Count_one Tryz.lays138 s c w
end Go.Proofs
namespace Go.V
section
variable{P:Program}
variable{k:Nat}
theorem bm:∀{xs:List (List D)},(∀x∈xs,qM k x)->nC k xs
 | [],_=>by simp only[nC]
 |x::xs,h=>by
  simp only[nC];exact⟨h x jS,bm λy a=>h y (by simp[a])⟩
theorem bn:∀{d vs:List D},qM k d->qM k vs->qM k (d++vs)
 | [],_,_,c=>c
 |a::d,vs,b,c=>by
  simp only[qM,zq]at b⊢;exact⟨b.1,bn b.2 c⟩
theorem ar:∀b vs:List D,qW (b++vs)=qW b++qW vs
 | [],_=>by simp[qW]
 |a::b,vs=>by simp[qW,ar b vs]
theorem W5:∀{xs:List (List D)},(∀x∈xs,qW x=x)->oJ xs=xs
 | [],_=>by simp only[oJ]
 |x::xs,h=>by
  simp only[oJ];rw[h x jS,W5 λy a=>h y (by simp[a])]
def wl(cs:List D):Prop:=cs.all D.flat=true/\qM 0 cs/\qW cs=cs
def wl.append{c vs:List D}(a:wl c)(b:wl vs):wl (c++vs):=
 ⟨by rw[uO,a.1,b.1];rfl,bn a.2.1 b.2.1,by rw[ar,a.2.2,b.2.2]⟩
def wl.nil:wl []:=⟨rfl,by simp only[qM],by simp only[qW]⟩
theorem Vo{r:TypeId->List D->Prop}(hr:∀t cs,r t cs->wl cs):∀(fs:List Field)(cs:List D),Ff P r fs cs->wl cs
 | [],cs,h=>by
  simp only[Ff]at h;subst h;exact wl.nil
 |f::fs,cs,h=>by
  obtain⟨c,cs',rfl,h1,a⟩:=h;exact wl.append (hr _ _ h1) (Vo hr fs cs' a)
theorem rD:∀(k:Nat)(t:TypeId)(cs:List D),Shp P k t cs->wl cs
 |0,_,_,h=>by simp only[Shp]at h
 |k+1,t,cs,h=>by
  simp only[Shp]at h;split at h
  .obtain⟨b,rfl⟩:=h
   exact⟨rfl,by simp[qM,below],by simp[qW,qC]⟩
  .obtain⟨n,rfl,_⟩:=h
   exact⟨rfl,by simp[qM,below],by simp[qW,qC]⟩
  .obtain⟨s,rfl,_⟩:=h
   exact⟨rfl,by simp[qM,below],by simp[qW,qC]⟩
  .rcases h with rfl| ⟨xs,rfl,_,a⟩
   .exact⟨rfl,by simp[qM,below],by simp[qW,qC]⟩
   .refine⟨rfl,?_,?_⟩
    .simp only[qM,below,zT]
     exact bm λx h=>(rD k _ x (a x h)).2.1
    .simp only[qW,qC]
     rw[W5 λx h=>(rD k _ x (a x h)).2.2]
  .exact Vo (λt cs=>rD k t cs) _ _ h
  .exact h.elim
end
def Ext(h h':Heap):Prop:=h.next<=h'.next/\∀i,i<h.next->h'.at' i=h.at' i
def But(S:Nat->Prop)(h h':Heap):Prop:=h.next<=h'.next/\∀i,i<h.next->¬S i->h'.at' i=h.at' i
theorem Ext.refl(h:Heap):Ext h h:=⟨zD _,λ_ _=>rfl⟩
def Ext.trans{h1 c h3:Heap}(a:Ext h1 c)(b:Ext c h3):Ext h1 h3:=⟨zY a.1 b.1,λi d=>by rw[b.2 i (by have:=a.1;omega),a.2 i d]⟩
variable{id i n nid sz k:Nat}{fr:Frm}{h h' h0:Heap}{f:FuncId}{args cs:List D}{P:Program}{t:TypeId}{z x d:D}{xs ys X:List (List D)}{S S':Nat->Prop}{K Q:D->Heap->Prop}{tk:Tk}{α:Type}{l:Loc}{M:Imm}{ρ:Ren}{v:Value}{ev:Operand->D}{o:Oper}{bk:Nat->Bool}{b:Bool}
def Ext.new{h h1:Heap}(a:Ext h h1)(hid:h.next<=id)(o:Obj):Ext h (h1.new id o):=⟨zY a.1 (sW _ _ _),λi b=>by rw[zg ow,a.2 i b]⟩
def Ext.set{h h1:Heap}(a:Ext h h1)(hid:h.next<=id)(o:Obj):Ext h (h1.set id o):=⟨a.1,λi b=>by rw[zW ow,a.2 i b]⟩
def Ext.del{h h1:Heap}(a:Ext h h1)(hid:h.next<=id):Ext h (h1.del id):=⟨a.1,λi b=>by rw[wQ ow,a.2 i b]⟩
def Ext.but{h h1:Heap}(a:Ext h h1)(S:Nat->Prop):But S h h1:=⟨a.1,λi b _=>a.2 i b⟩
def But.refl(S:Nat->Prop)(h:Heap):But S h h:=⟨zD _,λ_ _ _=>rfl⟩
def But.trans{h1 c h3:Heap}(a:But S h1 c)(b:But S' c h3)(f:∀i,S' i->S i\/h1.next<=i):But S h1 h3:=
 ⟨zY a.1 b.1,λi e d=>by rw[b.2 i (by have:=a.1;omega) (λh=>(f i h).elim d ow),a.2 i e d]⟩
def But.set{h h1:Heap}(a:But S h h1)(hid:S id\/h.next<=id)(o:Obj):But S h (h1.set id o):=⟨a.1,λi c b=>by rw[zW (λe=>by subst e;exact hid.elim b ow),a.2 i c b]⟩
def yc(h:Heap)(i:Nat)(o:Obj):(h.set i o).next=h.next:=(rfl)
def LZ(h:Heap)(i:Nat):(h.del i).next=h.next:=(rfl)
theorem za(h:Heap)(o:Obj):(h.new h.next o).next=h.next+1:=by simp[Heap.new]
theorem qQ(h:Heap)(a:h.next<=i)(o:Obj):(h.new i o).next=i+1:=by simp[Heap.new];omega
section
variable{P:Program}{g:Cfg}{n:Nat}{ro:Option Nat}{Q:Exit->Frm->Heap->Prop}{fr:Frm}{h:Heap}
def Nj(ro:Option Nat)(h:Heap):Prop:=
 match ro with
 |none=>True
 |some id=>∃r,h.at' id=some (.loop r)
def Ai:Nj none h=True:=(rfl)
def zNj(f:FuncId)(a c args:List D)(K:D->Heap->Prop):VFn P (.fn (.func f) a c) args h K=zE P f (a++args++c) h K:=(rfl)
def De(f:Operand)(ps:Array Tmp)(asg body:Code):vwp P g n ro (.rangeFunc f ps asg body) Q fr h =
  (Nj ro h/\VFn P (qz fr f) [.yld h.next] (h.new h.next (.loop ⟨.ready,none,fr,ps,asg,body,n⟩)) λ_ h'=>∃r,h'.at' h.next=some (.loop r)/\r.st≠ .busy/\Va r.pending Q fr (h'.del h.next)):=by
 cases ro<;>simp only[vwp,Nj]
def pM:Va none Q fr h=Q .normal fr h:=(rfl)
def aX:Va (some .ret) Q fr h=Q .ret fr h:=(rfl)
def zDH(t:Tmp)(ts:List Tmp)(d:D)(ds:List D):Z8 fr (t::ts) (d::ds)=Z8 (nz fr (some t) d) ts ds:=(rfl)
def zIg:Z8 fr [] []=fr:=(rfl)
def rH(K:D->Heap->Prop)(id:Nat)(e:Exit)(_:Frm)(h2:Heap):Prop:=∃L2,h2.at' id=some (.loop L2)/\RA K id L2 e h2
def sK{L:LRec}(a:h.at' id=some (.loop L))(b:K (.bool true) (h.set id (.loop { L with st:=.ready,pending:=none }))):rH K id .normal fr h:=⟨L,a,b⟩
def Z5{L:LRec}(a:h.at' id=some (.loop L))(b:K (.bool false) (h.set id (.loop { L with st:=.done,pending:=some .ret }))):rH K id .ret fr h:=⟨L,a,b⟩
def uC.round(f:P.follows .mixedOrders=true){b:Array Tmp}{a body:Code}(m:h.at' id=some (.loop ⟨.ready,none,fr,b,a,body,n⟩))(d:args.length=b.size)
  (i:b.toList.all (λt=>decide (t<n))=true) (k:ss P g n a=true) (l:ss P g n body=true)
  (o:vwp P g n (some id) a (bX (λc h1=>h1.at' id=some (.loop ⟨.ready,none,fr,b,a,body,n⟩)/\vwp P g n (some id) body (rH K id) c (h1.set id (.loop ⟨.busy,none,fr,b,a,body,n⟩))) (λ_ _ _=>False)) (Z8 fr b.toList args) h):uC P id args h K:=by
 refine uC.of_round (g:=g) f m d i k l (rW a (λe c h1 j=> ?_) _ _ o);cases e with
 |normal=>exact⟨_,j.1,rfl,j.2⟩
 |_=>exact j.elim
structure Yld(P:Program)(id:Nat)(len:Nat)(el:Nat->List D)(Y:Nat->(Nat->Prop)->Heap->Prop)(Z:(Nat->Prop)->Heap->Prop):Prop where
 here:∀k S h,Y k S h->∀i,S i->i<h.next
 loc:∀k S h h',Y k S h->h.next<=h'.next->(∀i,S i->h'.at' i=h.at' i)->Y k S h'
 hereZ:∀S h,Z S h->∀i,S i->i<h.next
 locZ:∀S h h',Z S h->h.next<=h'.next->(∀i,S i->h'.at' i=h.at' i)->Z S h'
 go:∀k S h,k<len->Y k S h->uC P id (el k) h λr h'=>∃S',(∀i,S' i->S i\/h.next<=i)/\But S h h'/\((r=.bool true/\Y (k+1) S' h')\/(r=.bool false/\Z S' h'))
variable{h:Heap}
def Yld.ext{id len:Nat}{el:Nat->List D}{Y:Nat->(Nat->Prop)->Heap->Prop}{Z:(Nat->Prop)->Heap->Prop}(y:Yld P id len el Y Z)(b:Y k S h)(a:Ext h h'):Y k S h':=
 y.loc k S h h' b a.1 λi c=>a.2 i (y.here k S h b i c)
end
section
variable{P:Program}{sz:Nat}
def uu(a:∀x∈xs,x.length=sz):xs.flatten.length=xs.length*sz:=by
 induction xs with
 |nil=>simp
 |cons x xs c=>rw[yH,zS,a x jS,c (λy b=>a y (by simp[b])),zu,qp];omega
theorem X5:∀{xs:List (List D)}(_:∀x∈xs,x.length=sz){i:Nat}{x:List D}(_:xs[i]? =some x),(xs.flatten.drop (i*sz)).take sz=x
 | [],_,i,x,h=>by simp at h
 |y::xs,a,0,x,h=>by
  simp only[wJ,uB]at h;subst h;rw[sr,wS,yH,qm (by rw[a y jS];exact zD _),yO (by rw[a y jS];exact zD _)]
 |y::xs,a,i+1,x,h=>by
  simp only[wb]at h;have c:=a y jS;rw[yH,qp,gk,gF,tm ow,yL,show sz+i*sz-y.length=i*sz by omega];exact X5 (λz b=>a z (by simp[b])) h
theorem M8:∀{xs:List (List D)}(_:∀x∈xs,x.length=sz){i:Nat}(_:i<xs.length){x:List D}(_:x.length=sz),wg xs.flatten x (i*sz)=(xs.set i x).flatten
 | [],_,i,h,x,_=>by simp at h
 |y::xs,a,0,h,x,b=>by
  have d:=a y jS;simp only[wg,sr,pc,yL,yP,yH,sD];rw[gF,tm ow,yL,show x.length-y.length=0 by omega,wS]
 |y::xs,a,i+1,h,x,b=>by
  have d:=a y jS;have c:=M8 (xs:=xs) (λz e=>a z (yG _ e)) (i:=i) (by simpa using h) b;simp only[wg]at c⊢;rw[yH,lr,yH,<-c,qp,gk (i*sz) sz,List.take_append,yO ow,show sz+i*sz-y.length=i*sz by omega,gF,tm ow,yL,show sz+i*sz+x.length-y.length=i*sz+x.length by omega];simp
def qG{t e:TypeId}{id len:Nat}(a:ur P t=some e)(c:szT P e=sz){k:IntKind}(b:i<len):yj P t (.rs id sz 0 len) (.int k (i:Int))=some (.ptr id (i*sz)):=by
 simp[yj,a,c,b]
variable{h:Heap}
def oC{t e:TypeId}{id off len:Nat}(a:P.underlying t=some (.slice e)):o5 P t (.rs id sz off len) h=some (.int .i64 len):=by simp[o5,a]
def nb(c:∀x∈xs,x.length=sz)(h0:0<sz){x:List D}(b:xs[i]? =some x):yQ true sz xs.flatten (i*sz)=some (.agg x):=by
 have a:i<xs.length:=(zK.1 b).1;have h1:i*sz+sz<=xs.length*sz:=by rw[<-qp];exact yt _ a
 simp only[yQ,qK];rw[iq ow,ip (by rw[uu c];exact h1),X5 c b]
def be(hr:h.at' id=some (.row xs.flatten))(c:∀x∈xs,x.length=sz)(h0:0<sz)(d:szT P t=sz)(a:i<xs.length){x:List D}(b:x.length=sz)(hf:x.all D.flat=true):
  yR P t (.ptr id (i*sz)) (.agg x) h=some (h.set id (.row (xs.set i x).flatten)):=by
 have h1:i*sz+sz<=xs.length*sz:=by rw[<-qp];exact yt _ a
 simp only[yR,hr,D.cells,d,b];rw[ip,M8 c a b];simp only[zF,zP,ne_eq];refine⟨⟨⟨ow,trivial⟩,by rw[uu c];exact h1⟩,hf⟩
def p4(a:∀x∈xs,x.length=sz):wP sz xs.length xs.flatten=xs:=by
 have:=mX sz xs [] 0 a;simpa [wP]using this
def kD{t e:TypeId}(c:ur P t=some e)(g:ZU P e=true)(f:szT P e=sz)(h0:0<sz)(a:∀x∈xs,x.length=sz)(b:xs.length*wr P e<=lim)(d:xs.length<=lim):
  qg P false nid t (.sl sz [] .full) (.sl sz xs tk) h=if xs.length=0 then some (.sl sz [] .full,h)else some (.sl sz xs (.own nid),h.new nid .tok):=by
 simp only[qg,c,g,f,Us,qK,uu a,u0 _ h0,tt];rw[ip (by simp only[qO,yP,zF,zP];exact⟨⟨trivial,b⟩,d⟩)];simp only[zf,yr,p4 a,yL]
def oz{t e:TypeId}(b:ur P t=some e)(g:ZU P e=true)(d:szT P e=sz)(h0:0<sz)(f:∀x∈xs,x.length=sz)(a:xs.length*wr P e<=lim)(c:xs.length<=lim):
  qg P true nid t (.sl sz [] .full) (.sl sz xs tk) h=if xs.length=0 then some (.sl sz [] .full,h)else some (.rs nid sz 0 xs.length,h.new nid (oH P e xs.flatten)):=by
 simp only[qg,b,g,d,Us,qK,uu f,u0 _ h0,tt];rw[ip (by simp only[qO,yP,zF,zP];exact⟨⟨trivial,a⟩,c⟩)];simp only[qO,yP,mJ,yL]
def Ud{e:TypeId}(a:P.underlying e=some (.int .i64)):oH P e cs=.row cs:=by simp[oH,a]
def pN{e:TypeId}{fs:Array Field}(a:P.underlying e=some (.struct fs)):oH P e cs=.row cs:=by simp[oH,a]
end
attribute[go_sem] yc LZ
attribute[go_sem ↓] Ai zNj De zDH zIg
open Go.RowKit (Below)
def WT(W:World)(b:Nat)(c':Array Value):Go.Sort.mapBlock W b (λ_=>c')=W.setRow b c':=by
 unfold Go.Sort.mapBlock World.setRow;congr 1
section
variable{w0:Base}{G:List Nat}{M:Imm}{ρ:Ren}{h:Heap}{w:World}
theorem Sim.ahead(a:Sim w0 G M ρ h w):∀q:Nat,Sim w0 G M ρ h (Go.Sort.ahead w q)
 |0=>a
 |q+1=>by
  have:=(Sim.ahead a q).drew
  rwa [Go.Sort.ahead_drew]at this
def Sim.putRow [Inhabited α]{enc:α->Value}{dd:α->D}(r:∀x,(dd x).flat=true)(B:Sim w0 G M ρ h w){pre post:List D}{xs ys:List α}(z:h.at' id=some (.row (pre++xs.map dd++post)))(A:ρ id=some l)
  (j:ys.length=xs.length) (J:∀y∈ys,rel M ρ (dd y) (enc y)):Sim w0 G M ρ (h.set id (.row (pre++ys.map dd++post))) (Go.Sort.putRow enc w l.blk pre.length ys.toArray):=by
 obtain⟨N,h1,_,hM,c,e,C,H,p,a⟩:=B.live id _ z;rw[A]at h1;cases h1;have F:(pre++xs.map dd++post).length=pre.length+xs.length+post.length:=jO;have o:(pre++ys.map dd++post).length=pre.length+xs.length+post.length:=by simp[j];omega
 unfold Go.Sort.putRow;rw[Go.Sort.mapBlock_congr w l.blk (Go.Sort.putCells enc pre.length ys.toArray) (λ_=>Go.Sort.putCells enc pre.length ys.toArray c) (λK e1 E h1=>by rw[C]at h1;cases h1;rfl),WT];have m:(Go.Sort.putCells enc pre.length ys.toArray c).size=c.size:=by simp[Go.Sort.putCells]
 refine B.setRow z A C m (by rw[m,o,<-F];exact p) (wT (by
  have e:(Go.Sort.putCells enc pre.length ys.toArray c).toList.length=c.size:=by rw[yX];exact m
  rw[yK,e];omega) λi d v b s=> ?_) ?_
 .have k:i<(pre++ys.map dd++post).length:=(zK.1 b).1
  rw[yI,ip k,qo]at s;simp only[Go.Sort.putCells,Array.getElem?_mapIdx]at s;obtain⟨v0,t,rfl⟩:=ze.1 s;by_cases f:pre.length<=i/\i<pre.length+ys.toArray.size
  .rw[ip f]
   have n:i-pre.length<ys.length:=by have:=f.2;simp only[qw]at this;omega
   rw[yY,yT f.1,yi (by simpa using n),zh,zB n]at b;cases b;rw[uF ys.toArray (i-pre.length) (by simpa using n)];exact J _ jS
  .rw[iq f]
   have q:(pre++xs.map dd++post)[i]? =some d:=by
    simp only[qw,not_and,Nat.not_lt]at f;by_cases I:i<pre.length
    .rw[yY,yi I]at b⊢;exact b
    .have L:=f ow
     rw[yT jO]at b⊢;simpa [j]using b
   obtain⟨_,u,e1,e2⟩:=a i d q;rw[t]at e1;cases e1;exact e2
 .rw[uO,uO]
  have h1:pre.all D.flat=true:=zb.2 λd b=>by
   obtain⟨i,g⟩:=yy.1 b;have k:=(zK.1 g).1;exact(a i d (by rw[yY,yi k];exact g)).1
  have h3:post.all D.flat=true:=zb.2 λd b=>by
   obtain⟨i,g⟩:=yy.1 b;exact(a (pre.length+xs.length+i) d (by rw[yT jS];simpa using g)).1
  rw[h1,h3,zb.2 λd b=>by obtain⟨y,_,rfl⟩:=zN.1 b;exact r y];rfl
end
variable{P:Program}{h:Heap}{fr:Frm}{n sz:Nat}{M:Imm}{Q:D->Heap->Prop}
def zE.of_row [Inhabited α]{enc:α->Value}{dd:α->D}(k:∀M ρ x v,rel M ρ (dd x) v->v=enc x)(F:∀x,(dd x).flat=true){xs ys:List α}{m:Nat}{rest:List D}{pre post:List D}
  (Z:pU P f=true) (p:h.at' id=some (.row (pre++xs.map dd++post))) (h0:0<xs.length) (t:ys.length=xs.length) (hm:m<=xs.length) (hy:∀y∈ys,y∈xs\/∀M ρ,rel M ρ (dd y) (enc y))
  (X:∀(b o cap:Nat)(w:World)(M:Imm)(ρ:Ren)(C:List Value),Go.Sort.Holds enc w b o xs.toArray->xs.length<=cap->cap<=9223372036854775807->wI M ρ rest C->
   Calls P f (.slice (some ⟨b,o,none⟩) xs.length cap::C).toArray w λe V=>e=.returned (.slice (some ⟨b,o,none⟩) m cap)/\∃q,V=Go.Sort.putRow enc (Go.Sort.ahead w q) b o ys.toArray):
  zE P f (.rs id 1 pre.length xs.length::rest) h λd h'=>d=.rs id 1 pre.length m/\h'=h.set id (.row (pre++ys.map dd++post)):=by
 refine⟨Z,λw0 G M ρ w C ad S H hr=> ?_⟩;simp only[wI]at hr;obtain⟨v,B,N,T,r⟩:=hr;simp only[rel]at T;obtain⟨_,R,l,cap,o,K,rfl,⟨E,s⟩,L,u⟩:=T;have u:o=pre.length:=by
  rcases u with hz|u
  .omega
  .exact u
 subst u;obtain⟨l',h1,J,hM,c,e,U,ag,Y,g⟩:=S.live id _ p;rw[K]at h1;cases h1;have a:∀(j:Nat)(n:j<xs.length),∃v,c[pre.length+j]? =some v/\rel M ρ (dd xs[j]) v:=λj n=>by
  obtain⟨_,v,e1,e2⟩:=g (pre.length+j) (dd xs[j]) (by
   rw[yY,yT ow,uR,yi (by simpa using n),zh,zB n];rfl)
  exact⟨v,e1,e2⟩
 have i:Go.Sort.Holds enc w l.blk pre.length xs.toArray:=λj n=>by
  have I:j<xs.length:=by simpa using n
  obtain⟨v,e1,e2⟩:=a j I;refine⟨?_,by simp[World.frozen?,U]⟩;rw[uF xs.toArray j n];simp only[World.cell?,U,sE,zf,yr,e1,k _ _ _ _ e2,List.getElem_toArray]
 have A:C=(.slice (some ⟨l.blk,pre.length,none⟩) xs.length cap::B).toArray:=sY (by simpa using N);rw[A];refine(X l.blk pre.length cap w M ρ B i E (by simpa [maxLen]using s) r).mono λe V hq=> ?_;obtain⟨rfl,q,rfl⟩:=hq;have z:∀y∈ys,rel M ρ (dd y) (enc y):=λy Q=>by
  rcases hy y Q with O|O
  .obtain⟨j,n,rfl⟩:=zy.1 O
   obtain⟨v,_,e2⟩:=a j n;have:=k _ _ _ _ e2;rw[<-this];exact e2
  .exact O M ρ
 have W:=(S.ahead q).putRow F (enc:=enc) p K t z;refine⟨_,M,ρ,.rs id 1 pre.length m,_,rfl,MLe.refl _,RLe.refl _,W,H,?_,rfl,rfl⟩;simp only[rel];exact⟨ow,ow,l,cap,pre.length,K,rfl,⟨ow,s⟩,L,.inr rfl⟩
def zGI{x:Int}(h:rel M ρ (.int .i64 x) v):v=.int .i64 x:=by
 simp only[rel]at h;exact h.1
abbrev Way:=Nat×Fl×Bool
def onO(o:Option Oper)(k:Oper->Prop):Prop:=
 match o with
 |some o=>k o
 |none=>False
def W4(P:Program)(h0:Heap)(o:Op)(ev:Operand->D)(k:D->Prop):Prop:=
 match o with
 |.load t a=>onS (jT P t (ev a) h0) k
 |o=>∃d,Fg P h0 o ev d/\k d
def Ge(P:Program)(h0:Heap)(o:Op)(ev:Operand->D)(k:D->Prop):Prop:=(uy o).isSome=true/\∃S:D->Prop,(∃e,S e)/\Kb P h0 o ev S/\∀d,S d->k d
def FC(P:Program)(mu:Tmp->Bool)(h0:Heap)(st:Fl)(ops:Array Oper)(o:Oper)(fr:Frm)(h:Heap)(k:D->Heap->Prop):Prop:=
 match uf ops fr o.guard with
 |false=>k rJ h
 |true=>match st with
  |.st=>W4 P h0 o.op (qz fr) λd=>k d h
  |.sq=>Ge P h0 o.op (qz fr) λd=>k d h
  |.no=>rK P (ZS mu o.dst) h.next o.op (qz fr) h k
  |.qu=>rK P (ZS mu o.dst) h.next o.op (qz fr) h λd h'=>h'=h/\k d h
  |.al i=>rK P (ZS mu o.dst) (h0.next+i) o.op (qz fr) h k
def dB(P:Program)(mu:Tmp->Bool)(h0:Heap)(ops:Array Oper):List Way->(Frm->Heap->Prop)->Frm->Heap->Prop
 | [],K,fr,h=>K fr h
 |w::rest,K,fr,h=>onO ops[w.1]? λo=>FC P mu h0 w.2.1 ops o fr h λd h'=>(w.2.2=true->HLe h0 h')/\dB P mu h0 ops rest K (nz fr o.dst d) h'
def VH(bk:Nat->Bool):Bool->List (Nat×Fl)->List Way->Bool
 |_,[],[]=>true
 |fl,x::xs,w::ws=>Nat.beq x.1 w.1&&(match x.2 with
  |.no=>match w.2.1 with
   |.no=>true
   |_=>false
  |.st=>match w.2.1 with
   |.st=>true
   |_=>false
  |.sq=>match w.2.1 with
   |.sq=>true
   |_=>false
  |.qu=>match w.2.1 with
   |.qu=>true
   |_=>false
  |.al i=>match w.2.1 with
   |.al j=>Nat.beq i j
   |_=>false)&&(w.2.2|| !(fl&& !bk x.1))&&VH bk (fl&& !bk x.1) xs ws
 |_,_,_=>false
section
variable{P:Program}{g:Cfg}{n:Nat}{ro:Option Nat}{Q:Exit->Frm->Heap->Prop}{fr:Frm}{h:Heap}{mu:Tmp->Bool}{h0:Heap}
def Gi{a:Operand}(c:jT P t (ev a) h0=some d):Fg P h0 (.load t a) ev d:=by
 intro h' b;simp only[rK,uy,vop,KP b c,qt];exact⟨trivial,trivial⟩
def zCo{st:Fl}{ops:Array Oper}{k:D->Heap->Prop}(b:FC P mu h0 st ops o fr h k):ux P mu h0 st ops o fr h k:=by
 unfold FC at b;unfold ux;split at b
 .rename_i c;rw[c];exact b
 .rename_i c
  rw[c];cases st with
  |st=>
   simp only at b⊢;unfold W4 at b;split at b
   .rename_i t a f
    rw[f];unfold onS at b;split at b
    .rename_i d e
     exact⟨d,Gi e,b⟩
    .exact b.elim
   .exact b
  |_=>exact b
theorem YE{ops:Array Oper}{K:Frm->Heap->Prop} :∀{l:List (Nat×Fl)}{g:List Way}{fl:Bool}{fr:Frm}{h:Heap},VH bk fl l g=true->dB P mu h0 ops g K fr h->mF P mu h0 bk ops fl l K fr h
 | [],[],_,fr,h,_,a=>a
 | [],_::_,_,_,_,c,_=>by simp[VH]at c
 |_::_,[],_,_,_,c,_=>by simp[VH]at c
 |(i,st)::l,(j,e,b)::g,fl,fr,h,c,a=>by
  simp only[VH,zF]at c;obtain⟨⟨⟨q,f⟩,m⟩,r⟩:=c;have e1:i=j:=yZ q;have e2:st=e:=by
   cases st<;>cases e<;>simp only at f<;>(first|rfl|(cases f;done)|skip)
   rw[yZ f]
  subst e1;subst e2;simp only[dB]at a;simp only[mF];unfold onO at a;split at a
  .rename_i o p
   rw[p];refine bZ (λd h' k=>⟨λn=>k.1 ?_,YE r k.2⟩) (zCo a);cases b with
   |true=>rfl
   |false=>rw[n]at m;simp at m
  .exact a.elim
def yp(h0:Heap)(c:List Way){l:List Oper}(e:VH (J6 P g.mu l.toArray (g.dr id) (Zo l 0 [])) ((g.dr id).any (·.2.isSt)) (g.dr id) c=true)(a:Nat.beq (alN (g.dr id)) 0=true)(b:HLe h0 h)
  (d:dB P g.mu h0 l.toArray c (Q .normal) fr h):vwp P g n ro (.region id l.toArray true) Q fr h:=by
 rw[Rc];refine⟨h0,b,?_⟩;rw[ZI (yZ a)];exact YE e d
def FD(m:Nat)(c:Nat->Option Obj)(e:List Way){l:List Oper}(j:VH (J6 P g.mu l.toArray (g.dr id) (Zo l 0 [])) ((g.dr id).any (·.2.isSt)) (g.dr id) e=true)(a:Nat.beq (alN (g.dr id)) (m+1)=true)(b:∀i d,c i=some d->h.at' i=some d)
  (f:dB P g.mu ⟨h.next,c⟩ l.toArray e (Q .normal) fr (h.bump (m+1))):vwp P g n ro (.region id l.toArray true) Q fr h:=by
 rw[Rc];refine⟨⟨h.next,c⟩,b,?_⟩;rw[Pj (yZ a)];exact⟨rfl,YE j f⟩
def pj:Nat->List (Nat×Fl)->List Oper->Bool
 |_,[],[]=>true
 |k,x::xs,_::os=>Nat.beq x.1 k&&x.2.isNo&&pj (k+1) xs os
 |_,_,_=>false
variable{h0:Heap}
theorem Uq{ops:Array Oper}{K:Frm->Heap->Prop} :∀{l:List (Nat×Fl)}{c pre:List Oper}{fr:Frm}{h:Heap},ops.toList=pre++c->pj pre.length l c=true->VO P mu ops c K fr h->mF P mu h0 bk ops false l K fr h
 | [],[],_,fr,h,_,_,a=>a
 | [],_::_,_,_,_,_,b,_=>by simp[pj]at b
 |_::_,[],_,_,_,_,b,_=>by simp[pj]at b
 |(i,st)::l,o::c,pre,fr,h,j,b,a=>by
  simp only[pj,zF]at b;obtain⟨⟨p,q⟩,r⟩:=b;have e1:i=pre.length:=yZ p;subst e1;have m:ops[pre.length]? =some o:=by rw[<-qo,j];simp
  have g:st=.no:=by cases st<;>simp[Fl.isNo]at q<;>rfl
  subst g;simp only[mF,m,wR];simp only[VO]at a;have k:∀fr h,VO P mu ops c K fr h->mF P mu h0 bk ops false l K fr h:=λfr h a=>Uq (pre:=pre++ [o]) (by simp[j]) (by simpa using r) a;unfold ux;split at a
  .rename_i f
   rw[f];exact dA (λd h' n=>⟨λe=>(by cases e),k _ _ n⟩) a
  .rename_i f
   rw[f];exact⟨λe=>(by cases e),k _ _ a⟩
theorem Yk:∀{l:List (Nat×Fl)}{c:List Oper}{k:Nat},pj k l c=true->l.any (·.2.isSt)=false/\alN l=0
 | [],[],_,_=>⟨rfl,rfl⟩
 | [],_::_,_,a=>by simp[pj]at a
 |_::_,[],_,a=>by simp[pj]at a
 |(i,st)::l,o::c,k,a=>by
  simp only[pj,zF]at a;obtain⟨h1,d⟩:=Yk a.2;have b:st=.no:=by have:=a.1.2;cases st<;>simp[Fl.isNo]at this<;>rfl
  subst b;exact⟨by rw[bf,h1];rfl,by simp only[alN,d]⟩
def yF{l:List Oper}(a:pj 0 (g.dr id) l=true)(c:VO P g.mu l.toArray l (Q .normal) fr h):vwp P g n ro (.region id l.toArray true) Q fr h:=by
 obtain⟨h1,b⟩:=Yk a;rw[Rc];refine⟨⟨0,λ_=>none⟩,λi d e=>(by cases e),?_⟩;rw[ZI b,h1];exact Uq (pre:=[]) rfl a c
end
section
variable{P:Program}{mu:Tmp->Bool}{h0:Heap}{ops:Array Oper}{l:List Oper}{K:Frm->Heap->Prop}{k:D->Heap->Prop}{fr:Frm}{h:Heap}{dst:Option Tmp}{ty:TypeId}{pos:String}{after:Array Edge}{rest:List Way}
@[congr] theorem zIQ{o o':Option Oper}{k:Oper->Prop}(h:o=o'):onO o k=onO o' k:=by rw[h]
def pwf:List Nat->List Way->List Way
 | [],r=>r
 |a::l,r=>(a,.no,false)::pwf l r
def pwt:List Nat->List Way->List Way
 | [],r=>r
 |a::l,r=>(a,.no,true)::pwt l r
def zJE(a:Nat)(r:List Way)(q:List Nat):dB P mu h0 l.toArray (pwf (a::q) r) K fr h=dB P mu h0 l.toArray ((a,.no,false)::pwf q r) K fr h:=(rfl)
def zDf(r:List Way):dB P mu h0 l.toArray (pwf [] r) K fr h=dB P mu h0 l.toArray r K fr h:=(rfl)
def zJF(a:Nat)(r:List Way)(q:List Nat):dB P mu h0 l.toArray (pwt (a::q) r) K fr h=dB P mu h0 l.toArray ((a,.no,true)::pwt q r) K fr h:=(rfl)
def zDg(r:List Way):dB P mu h0 l.toArray (pwt [] r) K fr h=dB P mu h0 l.toArray r K fr h:=(rfl)
def zJD:dB P mu h0 ops [] K fr h=K fr h:=(rfl)
def zDe(w:Way):dB P mu h0 l.toArray (w::rest) K fr h=onO l[w.1]? λo=>FC P mu h0 w.2.1 l.toArray o fr h λd h'=>(w.2.2=true->HLe h0 h')/\dB P mu h0 l.toArray rest K (nz fr o.dst d) h':=by
 simp only[dB,t9]
def zJx(o:Oper)(k:Oper->Prop):onO (some o) k=k o:=(rfl)
def zNb(op:Op):FC P mu h0 .no ops ⟨dst,op,ty,pos,after,none⟩ fr h k=rK P (ZS mu dst) h.next op (qz fr) h k:=(rfl)
def zNa(i:Nat)(op:Op):FC P mu h0 (.al i) ops ⟨dst,op,ty,pos,after,none⟩ fr h k=rK P (ZS mu dst) (h0.next+i) op (qz fr) h k:=(rfl)
def zNd(op:Op):FC P mu h0 .st ops ⟨dst,op,ty,pos,after,none⟩ fr h k=W4 P h0 op (qz fr) λd=>k d h:=(rfl)
def zNc(op:Op):FC P mu h0 .sq ops ⟨dst,op,ty,pos,after,none⟩ fr h k=Ge P h0 op (qz fr) λd=>k d h:=(rfl)
def zCa(t:TypeId)(a:Operand)(k:D->Prop):W4 P h0 (.load t a) (qz fr) k=onS (jT P t (qz fr a) h0) k:=(rfl)
def zDi(st:Fl)(op:Op)(j:Nat)(b:Bool):FC P mu h0 st ops ⟨dst,op,ty,pos,after,some (j,b)⟩ fr h k =
  gif (uf ops fr (some (j,b))) (FC P mu h0 st ops ⟨dst,op,ty,pos,after,none⟩ fr h k) (k rJ h):=by
 unfold FC gif;cases uf ops fr (some (j,b))<;>rfl
end
def HW:D->Bool
 |.nilsl=>true
 |_=>false
section
variable{P:Program}{t e:TypeId}{c:Bool}{sz:Nat}{xs:List (List D)}{d:D}
def uj(a:yg sz xs d)(b:P.underlying t=some (.slice e)):jR P .eql t c d .nilsl=some (.bool (HW d)):=by
 rcases a with⟨rfl,rfl⟩ | ⟨tk,rfl⟩ <;>simp[jR,Da,nD,veq,b,HW]
def VA{id off len:Nat}(a:P.underlying t=some (.slice e)):jR P .eql t c (.rs id sz off len) .nilsl=some (.bool false):=by
 simp[jR,Da,nD,veq,a]
variable{h:Heap}
def wa(c:ur P t=some e)(f:uw P e=some z)(d:szT P e=sz)(b:z.notTuple=true)(a:z.cells.length=sz)(h0:0<sz):yA P false nid t 0 [] h=some (.sl sz [] .full,h):=by
 simp only[yA,c,f,d];rw[ip (by simp[b,a,h0])];simp[uc,wP]
end
variable{sz n k:Nat}{xs:List (List D)}{d:D}{fr:Frm}{h h0:Heap}{P:Program}{t:TypeId}{K Q:D->Heap->Prop}{l:Loc}
def UA(a:yg sz xs d):(HW d=true/\d=.nilsl/\xs= [])\/(HW d=false/\∃tk,d=.sl sz xs tk):=by
 rcases a with⟨rfl,rfl⟩ | ⟨tk,rfl⟩
 .exact .inl ⟨rfl,rfl,rfl⟩
 .exact .inr ⟨rfl,tk,rfl⟩
mutual
theorem dX(id:Nat)(cs:List D):∀d:D,below 0 d->frz id cs d=d
 |.bool _,_=>rfl
 |.int _ _,_=>rfl
 |.str _,_=>rfl
 |.nilptr,_=>rfl
 |.ptr _ _,h=>absurd h (ym _)
 |.iptr b off,h=>by simp only[frz,rm id cs b h]
 |.nilsl,_=>rfl
 |.sl sz xs tk,h=>by
  simp only[below]at h;cases tk with
  |own t=>exact absurd h.2 (ym _)
  |_=>simp only[frz,X6 id cs xs h.1]
 |.rs _ _ _ _,h=>absurd h (ym _)
 |.nilmap,_=>rfl
 |.map _,h=>absurd h (ym _)
 |.fn f a c,h=>by simp only[frz,rm id cs a h.1,rm id cs c h.2]
 |.yld _,h=>absurd h (ym _)
 |.nilfn,_=>rfl
 |.agg b,h=>by simp only[frz,rm id cs b h]
 |.tuple b,h=>by simp only[frz,rm id cs b h]
 |.iface t d,h=>by simp only[frz,dX id cs d h]
 |.niliface,_=>rfl
theorem rm(id:Nat)(cs:List D):∀ds:List D,qM 0 ds->cR id cs ds=ds
 | [],_=>rfl
 |d::ds,h=>by simp only[cR,dX id cs d h.1,rm id cs ds h.2]
theorem X6(id:Nat)(cs:List D):∀xs:List (List D),nC 0 xs->En id cs xs=xs
 | [],_=>rfl
 |x::xs,h=>by simp only[En,rm id cs x h.1,X6 id cs xs h.2]
end
theorem Yb{id sz len:Nat}(a:∀x∈xs,x.length=sz)(c:xs.length=len)(b:cs=xs.flatten):frz id cs (.rs id sz 0 len)=.sl sz xs .no:=by
 subst b c;simp only[frz];rw[ip ⟨trivial,by rw[uu a];omega⟩,wS,yO (by rw[uu a];omega),p4 a]
def Heap.Ok(h:Heap):Prop:=∀i,h.next<=i->h.at' i=none
def zE.known(e:pU P f=true)(j:qM h.next args->h.Ok->zE P f args h Q):zE P f args h Q:=by
 refine⟨e,λw0 G M ρ w n b d a hr=>(j (nT a _ _ hr) λi g=> ?_).2 w0 G M ρ w n b d a hr⟩;cases k:h.at' i with
 |none=>rfl
 |some m=>
  obtain⟨l,c,_⟩:=d.live i m k;rw[a i g]at c;cases c
def Ext.hle(a:h.Ok)(b:Ext h h'):HLe h h':=λi d e=>by
 by_cases c:i<h.next
 .rw[b.2 i c];exact e
 .rw[a i ow]at e;cases e
def xU{Q:D->Prop}(c:pU P f=true)(e:h.Ok->zE P f args h λd h'=>Ext h h'/\below h.next d/\Q d):zE P f args h λd h'=>h'=h/\Q d:=
 zE.known c λ_ a=>zE.gc (λ_=>(e a).mono λ_ _ b=>⟨b.1.hle a,b.2.1,b.2.2⟩) c
def yh(a:∀x∈xs,wl x)(tk:Tk):qC (.sl sz xs tk)=.sl sz xs .no/\below 0 (.sl sz xs .no):=by
 have b:oJ xs=xs:=W5 λx h=>(a x h).2.2;simp only[qC,b,below,zT,zQ];exact bm λx h=>(a x h).2.1
section
variable{P:Program}{k:Nat}{t e:TypeId}{c:List D}
def p7{q:IntKind}(a:P.underlying t=some (.int q))(h:Shp P k t c):∃n,c= [.int q n]/\fits q n:=by
 cases k with
 |zero=>simp only[Shp]at h
 |succ k=>simpa only[Shp,a]using h
def Lz(a:P.underlying t=some .bool)(h:Shp P k t c):∃b,c= [.bool b]:=by
 cases k with
 |zero=>simp only[Shp]at h
 |succ k=>simpa only[Shp,a]using h
def rR(a:P.underlying t=some .string)(h:Shp P k t c):∃s,c= [.str s]/\s.length<=1048576:=by
 cases k with
 |zero=>simp only[Shp]at h
 |succ k=>simpa only[Shp,a]using h
def cV(f:P.underlying t=some (.slice e))(b:szT P e=sz)(h:Shp P k t c):∃d xs j,c= [d]/\j<k/\yg sz xs d/\(d=.nilsl\/d=.sl sz xs .no)/\xs.length<=1048576/\∀x∈xs,Shp P j e x:=by
 cases k with
 |zero=>simp only[Shp]at h
 |succ k=>
  simp only[Shp,f]at h;rcases h with rfl| ⟨xs,rfl,h1,a⟩
  .exact⟨_,[],k,rfl,s9 _,yg.nil,.inl rfl,jS,jS⟩
  .have:P.cellsOf e=sz:=b
   rw[this];exact⟨_,xs,k,rfl,s9 _,yg.mk _,.inr rfl,h1,a⟩
def pO{fs:Array Field}(a:P.underlying t=some (.struct fs))(h:Shp P k t c):∃j,j<k/\Ff P (Shp P j) fs.toList c:=by
 cases k with
 |zero=>simp only[Shp]at h
 |succ k=>exact⟨k,s9 _,by simpa only[Shp,a]using h⟩
def qA{r:TypeId->List D->Prop}{f:Field}{fs:List Field}(h:Ff P r (f::fs) cs):∃c cs',cs=c++cs'/\r f.type c/\Ff P r fs cs':=h
def mb{r:TypeId->List D->Prop}(h:Ff P r [] cs):cs= []:=h
end
def faO(P:Program)(k:Nat->D):Option (Nat×TypeId)->Option D
 |some (off,ft)=>if szT P ft=0 then none else some (k off)
 |none=>none
section
variable{P:Program}
def FZ(s:TypeId)(id o f:Nat):oM P s (.ptr id o) f=faO P (λoff=>.ptr id (o+off)) (qT P s f):=by
 unfold oM faO;cases qT P s f<;>rfl
def zJZ(k:Nat->D)(off:Nat)(ft:TypeId):faO P k (some (off,ft))=if szT P ft=0 then none else some (k off):=(rfl)
variable{t:TypeId}
def yM{id off:Nat}(b:h.at' id=some (.row cs))(e:szT P t=1)(c:off<cs.length)(a:x.cells= [x])(hf:x.flat=true):yR P t (.ptr id off) x h=some (h.set id (.row (cs.set off x))):=by
 have d:wg cs [x] off=cs.set off x:=by
  simp only[wg,wX];rw[List.set_eq_take_append_cons_drop,ip c];simp
 simp only[yR,b,e,a,d];rw[ip];simp[hf];omega
end
def zJf(h:Heap):HLe h h=True:=eq_true λ_ _ e=>e
attribute [go_sem] true_and and_true true_implies implies_true false_implies
variable{P:Program}{t:TypeId}{k:Nat}
def Vj{t e:TypeId}(a:yg sz xs d)(b:ur P t=some e)(f:szT P e=sz){k:IntKind}{n:Int}(h0:0<=n){x:List D}(c:xs[n.toNat]? =some x):yj P t d (.int k n)=some (.iptr x 0):=by
 obtain⟨m,rfl⟩:=tI h0;exact yW a b f (by simpa using c)
def uU{o:Obj}(c:h.at' i=some o):h.set i o=h:=by
 cases h with
 |mk n a=>
  simp only[Heap.set,Heap.mk.injEq,zQ]
  funext j
  by_cases b:j=i
  .subst b;rw[ip rfl];exact c.symm
  .rw[iq b]
def bK(h:Heap)(i:Nat)(o a:Obj):(h.new i o).set i a=h.new i a:=by
 simp only[Heap.set,Heap.new,Heap.mk.injEq,zQ]
 funext j
 by_cases b:j=i<;>simp[b]
def MX{id off n:Nat}(e:h.at' id=some (.row cs))(k:szT P t=n)(a:yQ true n cs off=some x)(hf:cs.all D.flat=true):yR P t (.ptr id off) x h=some h:=by
 simp only[yQ,qK]at a;split at a
 .cases a
 .rename_i i
  split at a
  .rename_i c
   cases a;have f:((cs.drop off).take n).length=n:=by rw[yK,tC];omega
   have j:wg cs ((cs.drop off).take n) off=cs:=by
    simp only[wg,f];rw[yY,<-uM,yk,yk]
   have b:((cs.drop off).take n).all D.flat=true:=zb.2 λd g=>zb.1 hf d (dz (sV g));simp only[yR,e,D.cells,k,f,j];rw[ip (by simp[i,c,b]),uU e]
  .cases a
def Pn{id off:Nat}(c:h.at' id=some (.row cs))(e:szT P t=1)(b:cs[off]? =some x)(d:x.cells= [x])(hf:cs.all D.flat=true):yR P t (.ptr id off) x h=some h:=by
 have a:=(zK.1 b).1;rw[yM c e a d (zb.1 hf x (zj b))]
 have:cs.set off x=cs:=by
  obtain⟨_,rfl⟩:=zK.1 b;exact gi a
 rw[this,uU c]
def yo{cs cs':List D}(d:szT P t=n)(c:0<n)(b:cs.length=n)(a:cs'.length=n)(hf:cs'.all D.flat=true):yR P t (.ptr id 0) (.agg cs') (h.new id (.row cs))=some (h.new id (.row cs')):=by
 subst a;rw[qh (z5 _ _ _) d b c hf,bK]
def sQ:D->Nat->Prop
 |.sl _ _ (.own t),i=>i=t
 |_,_=>False
def rY.app2{t e:TypeId}(o:rY h sz xs d)(n:ur P t=some e)(r:ZU P e=true)(p:szT P e=sz)(h0:0<sz)(a:∀y∈ys,y.length=sz)(k:ys≠[])
  (g:(xs.length+ys.length)*wr P e<=lim) (j:xs.length+ys.length<=lim) (l:∀b h',rY h' sz (xs++ys) b->h.next<=h'.next->(∀i,i<h.next->¬sQ d i->h'.at' i=h.at' i)->(∀i,sQ b i->h.next<=i)->b.cells= [b]->b.flat=true->K b h'):onR (qg P false h.next t d (.sl sz ys tk) h) K:=by
 have m:0<ys.length:=z7.2 k;simp only[qg,n,r,p,Us,qK,uu a,u0 _ h0];rcases o with⟨rfl,rfl⟩ | ⟨q,rfl,h1,s⟩
 .simp only[tt]
  rw[iq ow,ip (by simp only[zF,zP];simp only[qO,yP]at g j;exact⟨g,j⟩)];simp only[zf,yr,p4 a,dm];refine l _ _ (.inr ⟨h.next,jS,z5 _ _ _,zl (s9 _) (gH _ _)⟩) (sW _ _ _) (λi c _=>zg ow) (λi c=> ?_) rfl rfl;simp only[sQ]at c;omega
 .simp only[tt]
  rw[ip (by simp only[zF,zP];exact⟨⟨trivial,g⟩,j⟩)];simp only[h1,zf,yr,p4 a,dm];refine l _ _ (.inr ⟨h.next,rfl,z5 _ _ _,zl (s9 _) (gH _ _)⟩) (sW (h.del q) _ _) (λi c f=> ?_) (λi c=> ?_) rfl rfl
  .simp only[sQ]at f
   rw[zg ow,wQ f]
  .simp only[sQ]at c;omega
def zAD(n0 sz:Nat)(L:LRec)(ps:List (List D))(k:Nat)(S:Nat->Prop)(h:Heap):Prop:=
 n0+1<h.next/\h.at' (n0+1)=some (.loop L)/\∃d,h.at' n0=some (.row [d])/\rY h sz (ps.take k) d/\∀i,S i↔(i=n0\/i=n0+1\/sQ d i)
def rY.tok(c:rY h sz xs d)(a:sQ d i):i<h.next/\h.at' i=some .tok:=by
 rcases c with⟨rfl,_⟩ | ⟨t,rfl,h1,b⟩
 .exact a.elim
 .simp only[sQ]at a;subst a;exact⟨b,h1⟩
def rY.loc(b:rY h sz xs d)(e:h.next<=h'.next)(a:∀i,sQ d i->h'.at' i=h.at' i):rY h' sz xs d:=by
 rcases b with h1| ⟨t,rfl,h1,c⟩
 .exact .inl h1
 .exact .inr ⟨t,rfl,by rw[a t rfl];exact h1,ow⟩
def zAD.here{e sz:Nat}{L:LRec}(y:zAD e sz L X k S h)(i:Nat)(b:S i):i<h.next:=by
 obtain⟨h1,_,d,_,h3,a⟩:=y;rcases(a i).1 b with rfl|rfl|c
 .omega
 .omega
 .exact(h3.tok c).1
def zAD.loc{b sz:Nat}{L:LRec}(y:zAD b sz L X k S h)(g:h.next<=h'.next)(a:∀i,S i->h'.at' i=h.at' i):zAD b sz L X k S h':=by
 obtain⟨h1,c,d,h3,e,h5⟩:=y;exact⟨ow,by rw[a _ ((h5 _).2 (.inr (.inl rfl)))];exact c,d,by rw[a _ ((h5 _).2 (.inl rfl))];exact h3,e.loc g λi f=>a i ((h5 i).2 (.inr (.inr f))),h5⟩
def Ext.of_but{h h1 c:Heap}(a:Ext h h1)(b:But S h1 c)(f:∀i,S i->h.next<=i):Ext h c:=
 ⟨zY a.1 b.1,λi d=>by rw[b.2 i (by have:=a.1;omega) λe=>by have:=f i e;omega,a.2 i d]⟩
def Fin(sz:Nat)(xs:List (List D))(d:D):Prop:=(d=.nilsl/\xs= [])\/d=.sl sz xs .no
def Fin.isSl(hf:Fin sz xs d):yg sz xs d:=by
 rcases hf with⟨rfl,rfl⟩ |rfl
 .exact yg.nil
 .exact yg.mk _
def rY.fin(b:rY h sz xs d)(a:∀x∈xs,wl x):below 0 (qC d)/\Fin sz xs (qC d):=by
 rcases b with⟨rfl,rfl⟩ | ⟨t,rfl,_⟩
 .exact⟨trivial,.inl ⟨rfl,rfl⟩⟩
 .rw[(yh a _).1]
  exact⟨(yh a .no).2,.inr rfl⟩
def zGe(a:Oper)(l m:List Oper):List.append (a::l) m=a::List.append l m:=(rfl)
def zJg(m:List Oper):List.append [] m=m:=(rfl)
def zJn(a:Oper)(l:List Oper):(a::l)[0]? =some a:=(rfl)
def zJm(a:Oper)(l:List Oper)(n:Nat):(a::l)[n+1]? =l[n]? :=(rfl)
def gdB:D->Bool->Bool
 |.bool x,b=>x==b
 |_,_=>false
def zGP:Option Oper->Frm->Bool->Bool
 |some o,fr,b=>match o.dst with
  |some t=>gdB (fr t) b
  |none=>false
 |none,_,_=>false
def zBd(l:List Oper)(fr:Frm)(j:Nat)(b:Bool):uf l.toArray fr (some (j,b))=zGP l[j]? fr b:=by
 unfold uf zGP;simp only[t9];cases l[j]? with
 |none=>rfl
 |some o=>
  simp only[rC];cases o.dst with
  |none=>rfl
  |some t=>
   simp only;cases fr t<;>rfl
@[congr] theorem zC3{o o':Option Oper}(h:o=o'):zGP o fr b=zGP o' fr b:=by rw[h]
def zGQ(t:Tmp)(op:Op)(ty:TypeId)(pos:String)(after:Array Edge)(gd:Option (Nat×Bool))(fr:Frm)(b:Bool):zGP (some ⟨some t,op,ty,pos,after,gd⟩) fr b=gdB (fr t) b:=(rfl)
def zJa(x b:Bool):gdB (.bool x) b=(x==b):=(rfl)
def zGO(b:Bool):gdB rJ b=false:=(rfl)
def zN8:(true==true)=true:=(rfl)
def zN7:(true==false)=false:=(rfl)
def zN6:(false==true)=false:=(rfl)
def zN5:(false==false)=true:=(rfl)
def gD{g:Cfg}{ro:Option Nat}{c:Code}{K:Frm->Heap->Prop}{Q:Exit->Frm->Heap->Prop}(R:Frm->Heap->Prop)(h1:vwp P g n ro c (bX R λ_ _ _=>False) fr h)(b:∀fr h,R fr h->K fr h):vwp P g n ro c (bX K Q) fr h:=
 rW c (λe fr h a=>by
  cases e with
  |normal=>exact b fr h a
  |_=>exact a.elim) fr h h1
attribute[go_sem ↓] zJE zDf zJF zDg zJD zDe zJx zNb zNa zNd zNc zCa zDi zGe zJg zJn zJm zBd zGQ zJa zGO
attribute[go_sem] FZ zJZ zJf zN8 zN7 zN6 zN5
end Go.V
