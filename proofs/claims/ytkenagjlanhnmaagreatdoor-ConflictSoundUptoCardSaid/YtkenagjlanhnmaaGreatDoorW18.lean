/- Rules of the machine of abstract values, part 2. No condition. -/
import Derived.Test.YtkenagjlanhnmaaGreatDoorW16
import Derived.Test.YtkenagjlanhnmaaGreatDoorW17
import Derived.Shelf.SlGeneric
import Derived.Shelf.Strings.Builder1
import Derived.Shelf.Strconv.Atoi
import Derived.Shelf.Strings.Search2
import Derived.Shelf.Strings.Search3
import Derived.Shelf.Sort.Plain
import Derived.Ground.Names2Prog
import Derived.Shelf.Slices.Delete
import Derived.Test.YtkenagjlanhnmaaGreatDoorW05
import Derived.Sort.Row
set_option linter.all false
set_option maxHeartbeats 8000000
namespace Go.V
def gJ{α:Type _}(a b:α):(some a).getD b=a:=rfl
section
variable{P:Program}{g:Cfg}{n:Nat}{mu:Tmp->Bool}{h0:Heap}{bk:Nat->Bool}{ops:Array Oper}
theorem WN:∀(l:List Oper){K c:Frm->Heap->Prop}(_:∀fr h,K fr h->c fr h)(fr:Frm)(h:Heap),WT P mu ops l K fr h->WT P mu ops l c fr h
 | [],_,_,b,fr,h,a=>b fr h a
 |o::rest,K,c,b,fr,h,a=>by
  simp only[WT]at a⊢;cases e:uS ops fr o.guard with
  |true=>
   rw[e]at a;exact fF (λd h' f=>WN rest b _ _ f) a
  |false=>
   rw[e]at a;exact WN rest b _ _ a
theorem ZP:∀(l:List (Nat×Fl)){K b:Frm->Heap->Prop}(_:∀fr h,K fr h->b fr h)(fl:Bool)(fr:Frm)(h:Heap),nR P mu h0 bk ops fl l K fr h->nR P mu h0 bk ops fl l b fr h
 | [],_,_,c,_,fr,h,a=>c fr h a
 |(i,st)::rest,K,b,c,fl,fr,h,a=>by
  simp only[nR]at a⊢;cases e:ops[i]? with
  |none=>rw[e]at a;exact a
  |some o=>
   rw[e]at a;exact ox (λd h' f=>⟨f.1,ZP rest c _ _ _ f.2⟩) a
variable{fr:Frm}{h:Heap}
def NE{l:List (Nat×Fl)}{K b:Frm->Heap->Prop}(c:∀fr h,K fr h->b fr h){fl:Bool}(a:dw P mu h0 bk ops fl l K fr h):dw P mu h0 bk ops fl l b fr h:=by
 unfold dw at a⊢;split at a
 .exact ZP _ c _ _ _ a
 .exact⟨a.1,ZP _ c _ _ _ a.2⟩
theorem rH:∀(c:Code){ro:Option Nat}{Q p:Exit->Frm->Heap->Prop}(_:∀e fr h,Q e fr h->p e fr h)(fr:Frm)(h:Heap),vwp P g n ro c Q fr h->vwp P g n ro c p fr h
 |.skip,_,_,_,m,fr,h,j=>m _ _ _ j
 |.exit _,_,_,_,m,fr,h,j=>m _ _ _ j
 |.ret,_,_,_,m,fr,h,j=>m _ _ _ j
 |.region id ops s,_,_,_,m,fr,h,j=>by
  simp only[vwp]at j⊢;cases s with
  |false=>exact WN _ (λfr h=>m _ fr h) _ _ j
  |true=>
   obtain⟨h0,h1,q⟩:=j;exact⟨h0,h1,NE (λfr h=>m _ fr h) q⟩
 |.seq a b,ro,Q,p,m,fr,h,j=>by
  simp only[vwp]at j⊢;refine rH a (λe fr h o=> ?_) fr h j;cases e with
  |normal=>exact rH b m fr h o
  |_=>exact m _ _ _ o
 |.cond c a b,ro,Q,p,m,fr,h,j=>by
  simp only[vwp]at j⊢;split at j
  .split at j
   .exact rH a m fr h j
   .exact rH b m fr h j
  .exact j
 |.block id c,ro,Q,p,m,fr,h,j=>by
  simp only[vwp]at j⊢;refine rH c (λe fr h o=> ?_) fr h j;cases e with
  |exit i=>
   simp only[jk]at o⊢;split at o
   .rename_i t;rw[ip t];exact m _ _ _ o
   .rename_i t;rw[iq t];exact m _ _ _ o
  |_=>exact m _ _ _ o
 |.loop c,ro,Q,p,m,fr,h,j=>by
  simp only[vwp]at j⊢;obtain⟨I,h1,q⟩:=j;refine⟨I,h1,λk fr h w=>rH c (λe fr h o=> ?_) fr h (q k fr h w)⟩;cases e with
  |normal=>exact o
  |_=>exact m _ _ _ o
 |.rangeFunc f x u body,ro,Q,p,m,fr,h,j=>by
  simp only[vwp]at j⊢;refine⟨j.1,?_⟩;have q:=j.2;cases hf:qy fr f<;>rw[hf]at q<;>simp only[VFn]at q⊢;rename_i v first cap
  cases v<;>simp only at q⊢;refine zD.mono q λd h' o=> ?_;obtain⟨r,r1,r2,r3⟩:=o;refine⟨r,r1,r2,?_⟩;unfold Wd at r3⊢;split at r3
  .exact m _ _ _ r3
  .split at r3
   .exact m _ _ _ r3
   .exact m _ _ _ r3
   .exact r3
 |.label _,_,_,_,m,fr,h,j=>m _ _ _ j
 |.goto _,_,_,_,_,_,_,j=>j
 |.scope c,ro,Q,p,m,fr,h,j=>by
  simp only[vwp]at j⊢;refine rH c (λe fr h o=> ?_) fr h j;cases e with
  |goto l=>exact o
  |_=>exact m _ _ _ o
 |.refuse ..,_,_,_,_,_,_,j=>j
end
section
variable{P:Program}{g:Cfg}{n:Nat}{ro:Option Nat}{c:Code}{Q:Exit->Frm->Heap->Prop}{fr:Frm}{h:Heap}
variable{f:FuncId}{args:List D}
def xO(b:P.follows .mixedOrders=true){fn:Func}{co:Code}{R:D->Heap->Prop}(hf:P.funcs[f]? =some fn)(a:Pb P g fn=true)(c:fn.body=some co)(d:Nat.ble args.length fn.ntmps=true)
  (e:vwp P g fn.ntmps none co (Hi P fn.results.toList R) (V.UX args) h):zD P f args h R:=by
 unfold Pb at a;rw[c]at a;simp only[zF,qI]at a;exact zD.of_body b hf c a.2 a.1 (rO d) e
def zHy(m:List Nat)(d:List (Nat×List (Nat×Fl)))(t:Tmp):(zi m d).mu t=List.contains (α:=Nat) m t:=(rfl)
def qn(J:Nat->Frm->Heap->Prop)(len:Nat)(b:J 0 fr h)(step:∀i fr h,i<=len->J i fr h->vwp P g n ro c (lr (λfr h=>i<len/\J (i+1) fr h) Q) fr h):vwp P g n ro (.loop c) Q fr h:=by
 refine Mp (λk fr h=>∃i,k=len-i/\i<=len/\J i fr h) len ⟨0,jS,yM _,b⟩ ?_;rintro k fr h ⟨i,rfl,j,f⟩;refine rH c ?_ fr h (step i fr h j f);intro e d h' a;cases e with
 |normal=>exact⟨len- (i+1),by have:=a.1;omega,i+1,rfl,a.1,a.2⟩
 |_=>exact a
end
def qP{x:Int}(h1: -9223372036854775808<=x)(a:x<9223372036854775808):IntKind.i64.wrap x=x:=by
 unfold IntKind.wrap;simp[IntKind.signed,IntKind.bits];split<;>omega
variable{i id n nid sz k:Nat}{fr:Frm}{h h' h0:Heap}{f:FuncId}{args cs:List D}{P:Program}{t:TypeId}{z x d:D}{xs ys Y:List (List D)}{S S':Nat->Prop}{K Q:D->Heap->Prop}{tk:Tk}{α:Type}{l:Loc}{M:Imm}{ρ:Ren}{v:Value}{ev:Operand->D}{o:Oper}{bk:Nat->Bool}{b:Bool}
theorem qH(h:i<=lim):IntKind.i64.wrap ((i:Int)+1)=((i+1:Nat):Int):=by
 rw[qP ow (by unfold lim at h;omega)];norm_cast
def zE1(mu:Tmp->Bool)(t:Tmp):aS mu (some t)=mu t:=(rfl)
attribute [go_sem] List.contains_nil List.map_cons List.map_nil List.nil_append List.append_nil List.cons_append Bool.false_eq_true Bool.or_false Bool.or_true Bool.true_or Bool.false_or Bool.not_true Bool.not_false List.getElem?_cons_zero List.getElem?_cons_succ
def zJp(t:Tmp):isC (.tmp t)=false:=(rfl)
def zEp(v:Value):isC (.const v)=true:=(rfl)
def zAC(h:Heap)(i:Nat)(o:Obj):(h.new i o).at' i=some o:=z5 h i o
def zW(h:Heap)(i:Nat)(o:Obj):(h.set i o).at' i=some o:=by simp[Heap.set]
def zBE(P:Program)(nid:Nat)(t:TypeId)(x:Operand)(fr:Frm)(h:Heap):vop P false nid (.box t x) (qy fr) h=if(qy fr x).notTuple then some (.iptr (qy fr x).cells 0,h)else none:=by
 simp[vop]
def zBF(P:Program)(nid:Nat)(t:TypeId)(x:Operand)(fr:Frm)(h:Heap):vop P true nid (.box t x) (qy fr) h=if(qy fr x).notTuple then some (.ptr nid 0,h.new nid (.row (qy fr x).cells))else none:=by
 simp[vop]
def dS(t:TypeId)(nid:Nat)(h:Heap):Option D->VR
 |some z=>if z.notTuple then some (.ptr nid 0,h.new nid (ZB t z.cells))else none
 |none=>none
def zHZ(P:Program)(m:Bool)(nid:Nat)(t:TypeId)(fr:Frm)(h:Heap):vop P m nid (.alloc t) (qy fr) h=dS t nid h (uo P t):=by
 simp only[vop,dS];cases uo P t<;>rfl
def zBM(t:TypeId)(nid:Nat)(h:Heap)(cs:List D):dS t nid h (some (.agg cs))=some (.ptr nid 0,h.new nid (ZB t cs)):=(rfl)
def zBN(t:TypeId)(nid:Nat)(h:Heap)(k:IntKind)(n:Int):dS t nid h (some (.int k n))=some (.ptr nid 0,h.new nid (.row [.int k n])):=(rfl)
def zBO(t:TypeId)(nid:Nat)(h:Heap)(s:List UInt8):dS t nid h (some (.str s))=some (.ptr nid 0,h.new nid (.row [.str s])):=(rfl)
def F0(t:TypeId)(nid:Nat)(h:Heap):dS t nid h (some .nilsl)=some (.ptr nid 0,h.new nid (.row [.nilsl])):=(rfl)
def zE3(t:TypeId)(k:IntKind)(n:Int)(cs:List D):ZB t (.int k n::cs)=.row (.int k n::cs):=(rfl)
def zE4(t:TypeId)(s:List UInt8)(cs:List D):ZB t (.str s::cs)=.row (.str s::cs):=(rfl)
def zBY(t:TypeId)(b:Bool)(cs:List D):ZB t (.bool b::cs)=.row (.bool b::cs):=(rfl)
def zAE(t:TypeId)(cs:List D):ZB t (.nilsl::cs)=.row (.nilsl::cs):=(rfl)
def Zm(cs:List D):(D.agg cs).notTuple=true:=(rfl)
def R9(s:List UInt8):(D.str s).notTuple=true:=(rfl)
def RM(cs:List D):(D.agg cs).cells=cs:=(rfl)
def JF(s:List UInt8):(D.str s).cells= [.str s]:=(rfl)
def ql{cs cs':List D}(b:h.at' id=some (.row cs))(d:szT P t=cs'.length)(a:cs.length=cs'.length)(h0:0<cs'.length)(hf:cs'.all D.flat=true):yW P t (.ptr id 0) (.agg cs') h=some (h.set id (.row cs')):=by
 have c:wS cs cs' 0=cs':=by simp[wS,a]
 simp only[yW,b,D.cells,d,c];rw[ip];simp only[zF,zO,ne_eq,yH];exact⟨⟨⟨λe=>by omega,trivial⟩,Nat.le_of_eq a.symm⟩,hf⟩
def zJ(a:cs.length=n)(h0:0<n):yO true n cs 0=some (.agg cs):=by
 subst a;simp only[yO];rw[ip trivial,iq ow,ip ow];simp
def IX(ag:Bool)(n off:Nat):Option Obj->Option D
 |some (.row cs)=>yO ag n cs off
 |some (.trow _ _ cs)=>yO ag n cs off
 |_=>none
def zHW(P:Program)(t:TypeId)(id off:Nat)(h:Heap):kT P t (.ptr id off) h=(match agT P t with
 |none=>none
 |some ag=>IX ag (szT P t) off (h.at' id)):=by
 unfold kT;cases agT P t with
 |none=>rfl
 |some ag=>
  simp only;cases h.at' id with
  |none=>rfl
  |some o=>cases o<;>rfl
def zAe(ag:Bool)(n off:Nat)(cs:List D):IX ag n off (some (.row cs))=yO ag n cs off:=(rfl)
def qd{t e:TypeId}(j:uu P t=some e)(l:uo P e=some z)(k:szT P e=sz)(g:z.notTuple=true)(b:z.cells.length=sz)(h0:0<sz)(i:sz<=16777216)
  (f:x.notTuple=true) (a:x.cells.length=sz):yD P false nid t 1 [(0,x)] h=some (.sl sz [x.cells] .full,h):=by
 simp only[yD,j,l,k];have d:mw 1 z.cells=z.cells:=by simp[mw]
 have c:wS z.cells x.cells 0=x.cells:=by simp[wS,b,a]
 rw[ip (by simp[g,b,h0];omega)];simp only[ua,d];rw[ip (by simp[f,a,b])];simp only[sK,c];simp[wK,<-a]
def rJ(h:Heap)(sz:Nat)(xs:List (List D))(d:D):Prop:=(d=.nilsl/\xs= [])\/∃t,d=.sl sz xs (.own t)/\h.at' t=some .tok/\t<h.next
def rJ.isSl(a:rJ h sz xs d):yZ sz xs d:=by
 rcases a with⟨rfl,rfl⟩ | ⟨t,rfl,_⟩
 .exact yZ.nil
 .exact yZ.mk _
def rJ.keep(c:rJ h sz xs d)(b:∀i,i<h.next->h'.at' i=h.at' i)(e:h.next<=h'.next):rJ h' sz xs d:=by
 rcases c with h1| ⟨t,h1,a,h3⟩
 .exact .inl h1
 .exact .inr ⟨t,h1,by rw[b t h3];exact a,ow⟩
attribute[go_sem] zHy zE1 zJp zEp zAC zW zBE zBF zHZ zBM zBN zBO F0 zE3 zE4 zBY zAE Zm R9 RM JF zAe
attribute[go_sem ↓] zHW
open Go.Proofs.Tryz
open Go.Proofs
set_option maxRecDepth 100000
noncomputable def tab:List (Nat× (Func×Cfg)):=[(8,(f8,zMV)),(11,(f11,zCh)),(13,(f13,zCl)),(14,(f14,zOL)),(18,(f18,zCq)),(19,(f19,zOL)),(20,(f20,zDC)),(21,(f21,zOL)),(26,(f26,zDB)),(27,(f27,zDC)),(32,(f32,zOL)),(33,(f33,zOL)),(34,(f34,zOL)),(40,(f40,zOL)),(41,(f41,zOL)),(42,(f42,zOL)),(43,(f43,zOL)),(47,(f47,zD1)),(48,(f48,zD2)),(49,(f49,zD3)),(50,(f50,zOL)),(51,(f51,zOL)),(52,(f52,zOL)),(53,(f53,zOL)),(58,(f58,zOL)),(59,(f59,zOL)),(60,(f60,zOL)),(61,(f61,zOL)),(62,(f62,zOL)),(63,(f63,zOL)),(65,(f65,zOL)),(67,(f67,zOL)),(69,(f69,zOL)),(73,(f73,AK)),(74,(f74,zOL)),(75,(f75,zEI)),(76,(f76,zOL)),(77,(f77,zOL)),(79,(f79,Eh)),(86,(f86,zOL)),(87,(f87,zOL)),(88,(f88,zEN)),(89,(f89,zEO)),(90,(f90,zOL)),(91,(f91,zOL)),(92,(f92,zOL)),(93,(f93,zES)),(94,(f94,zET)),(97,(f97,zOL)),(98,(f98,zOL)),(101,(f101,F9)),(102,(f102,zOL)),(103,(f103,zOL)),(104,(f104,EC)),(106,(f106,ED)),(108,(f108,zOL)),(109,(f109,zOL)),(110,(f110,zOL)),(111,(f111,zOL)),(112,(f112,zOL)),(113,(f113,zOL)),(114,(f114,zOL)),(115,(f115,EM)),(116,(f116,zOL)),(118,(f118,EO)),(121,(f121,EP)),(122,(f122,zOL)),(123,(f123,zOL)),(124,(f124,zOL)),(125,(f125,zOL)),(126,(f126,zDC)),(127,(f127,zOL)),(128,(f128,zOL)),(129,(f129,zOL)),(130,(f130,zOL)),(131,(f131,EZ)),(132,(f132,Ea)),(133,(f133,Eh)),(148,(f148,zOL)),(149,(f149,zOL)),(150,(f150,Ee)),(151,(f151,Ef)),(152,(f152,Eh)),(153,(f153,Eh)),(155,(f155,zOL)),(158,(f158,zOL)),(160,(f160,zOL)),(161,(f161,El)),(162,(f162,zOL)),(163,(f163,zOL)),(164,(f164,zOL)),(165,(f165,zOL)),(166,(f166,zOL)),(167,(f167,Es)),(169,(f169,Es)),(171,(f171,Es)),(173,(f173,zOL)),(174,(f174,Es)),(176,(f176,zOL)),(177,(f177,zOL)),(179,(f179,zOL)),(181,(f181,zCr)),(184,(f184,zEN)),(185,(f185,E7)),(186,(f186,zOL)),(187,(f187,zOL)),(188,(f188,zOL)),(189,(f189,zOL)),(190,(f190,zOL)),(191,(f191,zOL)),(192,(f192,zOL)),(193,(f193,zOL)),(194,(f194,DF)),(195,(f195,zOL)),(196,(f196,zDY)),(197,(f197,zOL)),(198,(f198,DJ)),(199,(f199,DK)),(200,(f200,Eh)),(207,(f207,DM)),(208,(f208,zOL)),(209,(f209,zOL)),(215,(f215,zOL)),(226,(f226,zOL)),(227,(f227,zOL)),(228,(f228,JJ)),(229,(f229,Nh)),(230,(f230,Ni)),(231,(f231,Nj)),(232,(f232,zOL)),(233,(f233,DQ)),(234,(f234,zOL)),(235,(f235,DS)),(236,(f236,zOL)),(243,(f243,zOL)),(244,(f244,zOL)),(245,(f245,zOL)),(246,(f246,zOL)),(247,(f247,zOL)),(248,(f248,zOL)),(249,(f249,zOL)),(267,(f267,zOL)),(282,(f282,zOL)),(283,(f283,Dc)),(285,(f285,zOL)),(286,(f286,zOL)),(288,(f288,Df)),(289,(f289,zOL)),(290,(f290,Dh)),(292,(f292,Di)),(298,(f298,zOL)),(302,(f302,zOL)),(303,(f303,Es)),(317,(f317,zOL)),(318,(f318,zOL)),(319,(f319,zOL)),(320,(f320,zOL)),(321,(f321,zOL)),(322,(f322,zOL)),(323,(f323,zOL)),(324,(f324,zOL)),(325,(f325,zOL)),(326,(f326,zOL)),(361,(f361,Nk)),(362,(f362,zOL)),(363,(f363,Dh)),(364,(f364,zOL)),(365,(f365,zOL)),(366,(f366,zOL)),(375,(f375,zOL)),(376,(f376,zOL)),(377,(f377,zOL)),(396,(f396,zOL)),(399,(f399,zOL)),(430,(f430,zDz)),(431,(f431,zOL))]
def zHE:aU prog tab:=⟨⟨func8,kr⟩,zIE,zNb,zJ5,⟨func18,kr⟩,zNc,⟨func20,kr⟩,⟨func21,kr⟩,⟨func26,kr⟩,⟨func27,kr⟩,zIF,zNe,zK6,zLO,zNf,zLP,zNg,⟨func47,kr⟩,⟨func48,kr⟩,⟨func49,kr⟩,zNh,zNi,⟨func52,kr⟩,⟨func53,kr⟩,zNj,⟨func59,kr⟩,⟨func60,kr⟩,⟨func61,kr⟩,zNk,⟨func63,kr⟩,⟨func65,kr⟩,⟨func67,kr⟩,zNl,zLS,zNm,zNn,zNo,zNp,zLT,zLU,zNq,zNr,zIG,zNs,zNt,zLV,zNu,zNv,zNx,zNy,zE7,⟨func102,kr⟩,⟨func103,kr⟩,⟨func104,kr⟩,⟨func106,kr⟩,⟨func108,kr⟩,zE8,⟨func110,kr⟩,⟨func111,kr⟩,zE9,zFA,⟨func114,kr⟩,zFB,zFC,zFD,zFE,zAG,zFF,zFG,zFH,zFI,zFJ,zFK,zFL,zFM,zFN,zAH,⟨func133,kr⟩,zFO,zFP,zFQ,zAI,⟨func152,kr⟩,zFR,zFS,⟨func158,kr⟩,zFT,⟨func161,kr⟩,⟨func162,kr⟩,zFU,⟨func164,kr⟩,⟨func165,kr⟩,⟨func166,kr⟩,⟨func167,kr⟩,⟨func169,kr⟩,⟨func171,kr⟩,zFV,⟨func174,kr⟩,zFW,zFX,zFY,zFZ,zFa,FD,zFb,zFc,zFd,zFe,zFf,zFg,zFh,zFi,zFj,⟨func195,kr⟩,zFk,zFl,zFm,zAJ,zFn,zFo,zFp,FE,⟨func215,kr⟩,zFq,zFr,zFs,zFt,zFu,zFw,zFx,⟨func233,kr⟩,⟨func234,kr⟩,zFy,zFz,zF0,zF1,zF2,zF3,zF4,zF5,zF6,⟨func267,kr⟩,zF7,zF8,zF9,zGA,zGB,zGC,zGD,⟨func292,kr⟩,⟨func298,kr⟩,⟨func302,kr⟩,zGE,zGF,zGG,zGH,zGI,zGJ,zGK,zGL,zGM,zGN,zGO,zGP,zGQ,zGR,zGS,zGT,zGU,zGV,zGW,zGX,zGY,zGZ,zGa,zGb,trivial⟩
def mix:prog.follows .mixedOrders=true:=kr
def zj{fn:Func}{g:Cfg}{co:Code}{R:D->Heap->Prop}(e:Fo prog f fn g)(c:vwp prog g fn.ntmps none co (Hi prog fn.results.toList R) (V.UX args) h)(a:fn.body=some co:=by rfl)(b:Nat.ble args.length fn.ntmps=true:=by rfl):zD prog f args h R:=xO mix e.1 e.2 a b c
end Go.V
namespace Go.Proofs
def bears_k{P:Program}{i:Nat}{B:Func}(h1:(P.funcs[i]?).any (λf=> !(f.name== "runtime.NumGoroutine"))=true)(a:(P.funcs[i]?).map (λf=> { B with name:=f.name })=P.funcs[i]?):Bears P i B:=by
 cases h:P.funcs[i]? with
 |none=>rw[h]at h1;cases h1
 |some f=>
  rw[h]at h1 a;exact⟨f.name,by simpa using h1,h.trans a.symm⟩
def lay_k{p:Prop}(h:p:=by first|kernel_rfl|(show _=_;kernel_rfl)|(refine bears_k ?_ ?_<;>kernel_rfl)):p:=h
open Go.Shelf
def Tryz.lays160_ren:Go.Shelf.Ren:=⟨fun|160=>214|232=>261|231=>260|227=>262|234=>264|233=>263|236=>266|235=>265|228=>341|271=>343|151=>342|197=>211|120=>387|152=>386|260=>255|137=>425|119=>426|224=>258|225=>257|217=>256|266=>339|n=>n,fun|9=>9|4=>4|3=>3|5=>5|117=>327|116=>326|0=>0|124=>330|21=>21|105=>284|46=>299|119=>375|139=>378|138=>377|n=>n,fun|3=>1|4=>2|n=>n⟩
def Tryz.lays160:Go.Proofs.Lays.n160 Tryz.prog Tryz.lays160_ren:=by constructor<;>intros<;>exact lay_k
def Tryz.lays172_ren:Go.Shelf.Ren:=⟨fun|172=>215|244=>267|245=>268|247=>344|279=>345|280=>346|281=>347|282=>348|287=>388|316=>389|171=>391|205=>390|321=>427|322=>428|243=>429|246=>441|283=>445|284=>446|285=>447|286=>448|129=>302|317=>449|318=>450|319=>451|320=>452|337=>453|338=>454|n=>n,fun|9=>9|3=>3|75=>289|76=>290|4=>4|5=>5|167=>383|37=>255|0=>0|85=>384|2=>2|168=>386|53=>357|175=>415|46=>299|210=>419|127=>332|145=>449|143=>447|21=>21|171=>462|173=>464|212=>467|51=>355|20=>20|213=>468|232=>469|233=>470|80=>296|n=>n,fun|15=>3|16=>4|17=>5|18=>6|19=>7|n=>n⟩
def Tryz.lays172:Go.Proofs.Lays.n172 Tryz.prog Tryz.lays172_ren:=by constructor<;>intros<;>exact lay_k
open Go.RowKit in
def Tryz.strconv_Atoi(s:ByteArray)(n:Int)(a:s.size<=18)(h:Lib.atoi s.data.toList=some n)(w:World):
  Calls Tryz.prog 215 #[.string s] w λe b=>e=.returned (.tuple #[.int .i64 n,.nilIface])/\∃t,b=Lib.bytesWorld w 5 t:=Any.strconv_Atoi Tryz.lays172 s n a h w
def Tryz.laysM171_ren:Go.Shelf.Ren:=⟨fun|171=>391|243=>429|246=>441|283=>445|284=>446|285=>447|286=>448|129=>302|317=>449|318=>450|319=>451|320=>452|337=>453|338=>454|n=>n,fun|3=>3|9=>9|2=>2|4=>4|171=>462|0=>0|53=>357|37=>255|5=>5|173=>464|212=>467|51=>355|20=>20|213=>468|46=>299|232=>469|233=>470|n=>n,fun|17=>5|18=>6|19=>7|n=>n⟩
def Tryz.laysM171:Go.Proofs.LaysM.n171 Tryz.prog Tryz.laysM171_ren:=by constructor<;>intros<;>first|exact lay_k|(constructor<;>intros<;>exact lay_k)
def Tryz.lays219_ren:Go.Shelf.Ren:=⟨fun|219=>213|217=>256|225=>257|224=>258|267=>259|266=>339|314=>340|n=>n,fun|9=>9|3=>3|4=>4|5=>5|46=>299|146=>379|51=>355|n=>n,fun|1=>0|n=>n⟩
def Tryz.lays219:Go.Proofs.Lays.n219 Tryz.prog Tryz.lays219_ren:=by constructor<;>intros<;>exact lay_k
open Go.RowKit Go.Lib in
def Tryz.stringslite_Index_one(s:ByteArray)(c:UInt8)(w:World):
  Calls Tryz.prog 213 #[.string s,.string ⟨#[c]⟩] w λe a=>e=.returned (.int .i64 (Lib.indexByte s.data.toList c))/\a=w:=Any.stringslite_Index_one Tryz.lays219 s c w
def Tryz.lays143_ren:Go.Shelf.Ren:=⟨fun|143=>159|219=>213|217=>256|225=>257|224=>258|267=>259|266=>339|314=>340|n=>n,fun|9=>9|3=>3|4=>4|5=>5|46=>299|146=>379|51=>355|n=>n,fun|1=>0|n=>n⟩
def Tryz.lays143:Go.Proofs.Lays.n143 Tryz.prog Tryz.lays143_ren:=by constructor<;>intros<;>exact lay_k
open Go.RowKit Go.Lib in
def Tryz.strings_Index_one(s:ByteArray)(c:UInt8)(w:World):
  Calls Tryz.prog 159 #[.string s,.string ⟨#[c]⟩] w λe a=>e=.returned (.int .i64 (Lib.indexByte s.data.toList c))/\a=w:=Any.strings_Index_one Tryz.lays143 s c w
def Tryz.lays138_ren:Go.Shelf.Ren:=⟨fun|138=>158|195=>210|218=>212|143=>159|219=>213|217=>256|225=>257|224=>258|267=>259|266=>339|314=>340|n=>n,fun|9=>9|3=>3|4=>4|5=>5|0=>0|46=>299|146=>379|51=>355|n=>n,fun|1=>0|n=>n⟩
def Tryz.lays138:Go.Proofs.Lays.n138 Tryz.prog Tryz.lays138_ren:=by constructor<;>intros<;>exact lay_k
open Go.RowKit Go.Lib in
def Tryz.strings_Count_one(s:ByteArray)(c:UInt8)(w:World):
  Calls Tryz.prog 158 #[.string s,.string ⟨#[c]⟩] w λe a=>e=.returned (.int .i64 (Lib.countByte s.data.toList c))/\a=w:=Any.strings_Count_one Tryz.lays138 s c w
end Go.Proofs
namespace Go.V
section
variable{P:Program}
variable{k:Nat}
theorem bB:∀{xs:List (List D)},(∀x∈xs,qC k x)->oG k xs
 | [],_=>by simp only[oG]
 |x::xs,h=>by
  simp only[oG];exact⟨h x jS,bB λy a=>h y (by simp[a])⟩
theorem bC:∀{d vs:List D},qC k d->qC k vs->qC k (d++vs)
 | [],_,_,c=>c
 |a::d,vs,b,c=>by
  simp only[qC,yG]at b⊢;exact⟨b.1,bC b.2 c⟩
theorem b0:∀b vs:List D,qU (b++vs)=qU b++qU vs
 | [],_=>by simp[qU]
 |a::b,vs=>by simp[qU,b0 b vs]
theorem WE:∀{xs:List (List D)},(∀x∈xs,qU x=x)->oJ xs=xs
 | [],_=>by simp only[oJ]
 |x::xs,h=>by
  simp only[oJ];rw[h x jS,WE λy a=>h y (by simp[a])]
def uA(cs:List D):Prop:=cs.all D.flat=true/\qC 0 cs/\qU cs=cs
def uA.append{c vs:List D}(a:uA c)(b:uA vs):uA (c++vs):=
 ⟨by rw[uD,a.1,b.1];rfl,bC a.2.1 b.2.1,by rw[b0,a.2.2,b.2.2]⟩
def uA.nil:uA []:=⟨rfl,by simp only[qC],by simp only[qU]⟩
theorem Wq{r:TypeId->List D->Prop}(hr:∀t cs,r t cs->uA cs):∀(fs:List Field)(cs:List D),Hu P r fs cs->uA cs
 | [],cs,h=>by
  simp only[Hu]at h;subst h;exact uA.nil
 |f::fs,cs,h=>by
  obtain⟨c,cs',rfl,h1,a⟩:=h;exact uA.append (hr _ _ h1) (Wq hr fs cs' a)
theorem pF:∀(k:Nat)(t:TypeId)(cs:List D),Shp P k t cs->uA cs
 |0,_,_,h=>by simp only[Shp]at h
 |k+1,t,cs,h=>by
  simp only[Shp]at h;split at h
  .obtain⟨b,rfl⟩:=h
   exact⟨rfl,by simp[qC,below],by simp[qU,qM]⟩
  .obtain⟨n,rfl,_⟩:=h
   exact⟨rfl,by simp[qC,below],by simp[qU,qM]⟩
  .obtain⟨s,rfl,_⟩:=h
   exact⟨rfl,by simp[qC,below],by simp[qU,qM]⟩
  .rcases h with rfl| ⟨xs,rfl,_,a⟩
   .exact⟨rfl,by simp[qC,below],by simp[qU,qM]⟩
   .refine⟨rfl,?_,?_⟩
    .simp only[qC,below,zV]
     exact bB λx h=>(pF k _ x (a x h)).2.1
    .simp only[qU,qM]
     rw[WE λx h=>(pF k _ x (a x h)).2.2]
  .exact Wq (λt cs=>pF k t cs) _ _ h
  .exact h.elim
end
def Ext(h h':Heap):Prop:=h.next<=h'.next/\∀i,i<h.next->h'.at' i=h.at' i
def But(S:Nat->Prop)(h h':Heap):Prop:=h.next<=h'.next/\∀i,i<h.next->¬S i->h'.at' i=h.at' i
theorem Ext.refl(h:Heap):Ext h h:=⟨zC _,λ_ _=>rfl⟩
def Ext.trans{h1 c h3:Heap}(a:Ext h1 c)(b:Ext c h3):Ext h1 h3:=⟨zb a.1 b.1,λi d=>by rw[b.2 i (by have:=a.1;omega),a.2 i d]⟩
variable{id i n nid sz k:Nat}{fr:Frm}{h h' h0:Heap}{f:FuncId}{args cs:List D}{P:Program}{t:TypeId}{z x d:D}{xs ys Y:List (List D)}{S S':Nat->Prop}{K Q:D->Heap->Prop}{tk:Tk}{α:Type}{l:Loc}{M:Imm}{ρ:Ren}{v:Value}{ev:Operand->D}{o:Oper}{bk:Nat->Bool}{b:Bool}
def Ext.new{h h1:Heap}(a:Ext h h1)(hid:h.next<=id)(o:Obj):Ext h (h1.new id o):=⟨zb a.1 (t9 _ _ _),λi b=>by rw[zf ow,a.2 i b]⟩
def Ext.set{h h1:Heap}(a:Ext h h1)(hid:h.next<=id)(o:Obj):Ext h (h1.set id o):=⟨a.1,λi b=>by rw[zX ow,a.2 i b]⟩
def Ext.del{h h1:Heap}(a:Ext h h1)(hid:h.next<=id):Ext h (h1.del id):=⟨a.1,λi b=>by rw[wM ow,a.2 i b]⟩
def Ext.but{h h1:Heap}(a:Ext h h1)(S:Nat->Prop):But S h h1:=⟨a.1,λi b _=>a.2 i b⟩
def But.refl(S:Nat->Prop)(h:Heap):But S h h:=⟨zC _,λ_ _ _=>rfl⟩
def But.trans{h1 c h3:Heap}(a:But S h1 c)(b:But S' c h3)(f:∀i,S' i->S i\/h1.next<=i):But S h1 h3:=
 ⟨zb a.1 b.1,λi e d=>by rw[b.2 i (by have:=a.1;omega) (λh=>(f i h).elim d ow),a.2 i e d]⟩
def But.set{h h1:Heap}(a:But S h h1)(hid:S id\/h.next<=id)(o:Obj):But S h (h1.set id o):=⟨a.1,λi c b=>by rw[zX (λe=>by subst e;exact hid.elim b ow),a.2 i c b]⟩
def yY(h:Heap)(i:Nat)(o:Obj):(h.set i o).next=h.next:=(rfl)
def MH(h:Heap)(i:Nat):(h.del i).next=h.next:=(rfl)
theorem za(h:Heap)(o:Obj):(h.new h.next o).next=h.next+1:=by simp[Heap.new]
theorem qG(h:Heap)(a:h.next<=i)(o:Obj):(h.new i o).next=i+1:=by simp[Heap.new];omega
section
variable{P:Program}{g:Cfg}{n:Nat}{ro:Option Nat}{Q:Exit->Frm->Heap->Prop}{fr:Frm}{h:Heap}
def PT(ro:Option Nat)(h:Heap):Prop:=
 match ro with
 |none=>True
 |some id=>∃r,h.at' id=some (.loop r)
def C3:PT none h=True:=(rfl)
def zL6(f:FuncId)(a c args:List D)(K:D->Heap->Prop):VFn P (.fn (.func f) a c) args h K=zD P f (a++args++c) h K:=(rfl)
def Fp(f:Operand)(ps:Array Tmp)(asg body:Code):vwp P g n ro (.rangeFunc f ps asg body) Q fr h =
  (PT ro h/\VFn P (qy fr f) [.yld h.next] (h.new h.next (.loop ⟨.ready,none,fr,ps,asg,body,n⟩)) λ_ h'=>∃r,h'.at' h.next=some (.loop r)/\r.st≠ .busy/\Wd r.pending Q fr (h'.del h.next)):=by
 cases ro<;>simp only[vwp,PT]
def rp:Wd none Q fr h=Q .normal fr h:=(rfl)
def bl:Wd (some .ret) Q fr h=Q .ret fr h:=(rfl)
def zBg(t:Tmp)(ts:List Tmp)(d:D)(ds:List D):ZL fr (t::ts) (d::ds)=ZL (pv fr (some t) d) ts ds:=(rfl)
def zG2:ZL fr [] []=fr:=(rfl)
def sf(K:D->Heap->Prop)(id:Nat)(e:Exit)(_:Frm)(h2:Heap):Prop:=∃L2,h2.at' id=some (.loop L2)/\U5 K id L2 e h2
def tj{L:LRec}(a:h.at' id=some (.loop L))(b:K (.bool true) (h.set id (.loop { L with st:=.ready,pending:=none }))):sf K id .normal fr h:=⟨L,a,b⟩
def ZI{L:LRec}(a:h.at' id=some (.loop L))(b:K (.bool false) (h.set id (.loop { L with st:=.done,pending:=some .ret }))):sf K id .ret fr h:=⟨L,a,b⟩
def wo.round(f:P.follows .mixedOrders=true){b:Array Tmp}{a body:Code}(m:h.at' id=some (.loop ⟨.ready,none,fr,b,a,body,n⟩))(d:args.length=b.size)
  (i:b.toList.all (λt=>decide (t<n))=true) (k:tO P g n a=true) (l:tO P g n body=true)
  (o:vwp P g n (some id) a (lr (λc h1=>h1.at' id=some (.loop ⟨.ready,none,fr,b,a,body,n⟩)/\vwp P g n (some id) body (sf K id) c (h1.set id (.loop ⟨.busy,none,fr,b,a,body,n⟩))) (λ_ _ _=>False)) (ZL fr b.toList args) h):wo P id args h K:=by
 refine wo.of_round (g:=g) f m d i k l (rH a (λe c h1 j=> ?_) _ _ o);cases e with
 |normal=>exact⟨_,j.1,rfl,j.2⟩
 |_=>exact j.elim
structure Yld(P:Program)(id:Nat)(len:Nat)(el:Nat->List D)(Y:Nat->(Nat->Prop)->Heap->Prop)(Z:(Nat->Prop)->Heap->Prop):Prop where
 here:∀k S h,Y k S h->∀i,S i->i<h.next
 loc:∀k S h h',Y k S h->h.next<=h'.next->(∀i,S i->h'.at' i=h.at' i)->Y k S h'
 hereZ:∀S h,Z S h->∀i,S i->i<h.next
 locZ:∀S h h',Z S h->h.next<=h'.next->(∀i,S i->h'.at' i=h.at' i)->Z S h'
 go:∀k S h,k<len->Y k S h->wo P id (el k) h λr h'=>∃S',(∀i,S' i->S i\/h.next<=i)/\But S h h'/\((r=.bool true/\Y (k+1) S' h')\/(r=.bool false/\Z S' h'))
variable{h:Heap}
def Yld.ext{id len:Nat}{el:Nat->List D}{Y:Nat->(Nat->Prop)->Heap->Prop}{Z:(Nat->Prop)->Heap->Prop}(y:Yld P id len el Y Z)(b:Y k S h)(a:Ext h h'):Y k S h':=
 y.loc k S h h' b a.1 λi c=>a.2 i (y.here k S h b i c)
end
section
variable{P:Program}{sz:Nat}
def uP(a:∀x∈xs,x.length=sz):xs.flatten.length=xs.length*sz:=by
 induction xs with
 |nil=>simp
 |cons x xs c=>rw[yT,zQ,a x jS,c (λy b=>a y (by simp[b])),zx,qh];omega
theorem XJ:∀{xs:List (List D)}(_:∀x∈xs,x.length=sz){i:Nat}{x:List D}(_:xs[i]? =some x),(xs.flatten.drop (i*sz)).take sz=x
 | [],_,i,x,h=>by simp at h
 |y::xs,a,0,x,h=>by
  simp only[wW,wX]at h;subst h;rw[sK,wN,yT,qt (by rw[a y jS];exact zC _),yP (by rw[a y jS];exact zC _)]
 |y::xs,a,i+1,x,h=>by
  simp only[uz]at h;have c:=a y jS;rw[yT,qh,gA,nU,uQ ow,yU,show sz+i*sz-y.length=i*sz by omega];exact XJ (λz b=>a z (by simp[b])) h
theorem Nw:∀{xs:List (List D)}(_:∀x∈xs,x.length=sz){i:Nat}(_:i<xs.length){x:List D}(_:x.length=sz),wS xs.flatten x (i*sz)=(xs.set i x).flatten
 | [],_,i,h,x,_=>by simp at h
 |y::xs,a,0,h,x,b=>by
  have d:=a y jS;simp only[wS,sK,lS,yU,yH,yT,tY];rw[nU,uQ ow,yU,show x.length-y.length=0 by omega,wN]
 |y::xs,a,i+1,h,x,b=>by
  have d:=a y jS;have c:=Nw (xs:=xs) (λz e=>a z (z8 _ e)) (i:=i) (by simpa using h) b;simp only[wS]at c⊢;rw[yT,lG,yT,<-c,qh,gA (i*sz) sz,je,yP ow,show sz+i*sz-y.length=i*sz by omega,nU,uQ ow,yU,show sz+i*sz+x.length-y.length=i*sz+x.length by omega];simp
def qX{t e:TypeId}{id len:Nat}(a:uu P t=some e)(c:szT P e=sz){k:IntKind}(b:i<len):yc P t (.rs id sz 0 len) (.int k (i:Int))=some (.ptr id (i*sz)):=by
 simp[yc,a,c,b]
variable{h:Heap}
def oz{t e:TypeId}{id off len:Nat}(a:P.underlying t=some (.slice e)):o9 P t (.rs id sz off len) h=some (.int .i64 len):=by simp[o9,a]
def o5(c:∀x∈xs,x.length=sz)(h0:0<sz){x:List D}(b:xs[i]? =some x):yO true sz xs.flatten (i*sz)=some (.agg x):=by
 have a:i<xs.length:=(zK.1 b).1;have h1:i*sz+sz<=xs.length*sz:=by rw[<-qh];exact yg _ a
 simp only[yO,qF];rw[iq ow,ip (by rw[uP c];exact h1),XJ c b]
def cj(hr:h.at' id=some (.row xs.flatten))(c:∀x∈xs,x.length=sz)(h0:0<sz)(d:szT P t=sz)(a:i<xs.length){x:List D}(b:x.length=sz)(hf:x.all D.flat=true):
  yW P t (.ptr id (i*sz)) (.agg x) h=some (h.set id (.row (xs.set i x).flatten)):=by
 have h1:i*sz+sz<=xs.length*sz:=by rw[<-qh];exact yg _ a
 simp only[yW,hr,D.cells,d,b];rw[ip,Nw c a b];simp only[zF,zO,ne_eq];refine⟨⟨⟨ow,trivial⟩,by rw[uP c];exact h1⟩,hf⟩
def pX(a:∀x∈xs,x.length=sz):wK sz xs.length xs.flatten=xs:=by
 have:=np sz xs [] 0 a;simpa [wK]using this
def gy{t e:TypeId}(c:uu P t=some e)(g:YE P e=true)(f:szT P e=sz)(h0:0<sz)(a:∀x∈xs,x.length=sz)(b:xs.length*uF P e<=lim)(d:xs.length<=lim):
  qS P false nid t (.sl sz [] .full) (.sl sz xs tk) h=if xs.length=0 then some (.sl sz [] .full,h)else some (.sl sz xs (.own nid),h.new nid .tok):=by
 simp only[qS,c,g,f,TR,qF,uP a,ue _ h0,tB];rw[ip (by simp only[qD,yH,zF,zO];exact⟨⟨trivial,b⟩,d⟩)];simp only[zg,yp,pX a,yU]
def oE{t e:TypeId}(b:uu P t=some e)(g:YE P e=true)(d:szT P e=sz)(h0:0<sz)(f:∀x∈xs,x.length=sz)(a:xs.length*uF P e<=lim)(c:xs.length<=lim):
  qS P true nid t (.sl sz [] .full) (.sl sz xs tk) h=if xs.length=0 then some (.sl sz [] .full,h)else some (.rs nid sz 0 xs.length,h.new nid (oI P e xs.flatten)):=by
 simp only[qS,b,g,d,TR,qF,uP f,ue _ h0,tB];rw[ip (by simp only[qD,yH,zF,zO];exact⟨⟨trivial,a⟩,c⟩)];simp only[qD,yH,List.flatten_nil,yU]
def Vg{e:TypeId}(a:P.underlying e=some (.int .i64)):oI P e cs=.row cs:=by simp[oI,a]
def sV{e:TypeId}{fs:Array Field}(a:P.underlying e=some (.struct fs)):oI P e cs=.row cs:=by simp[oI,a]
end
attribute[go_sem] yY MH
attribute[go_sem ↓] C3 zL6 Fp zBg zG2
open Go.RowKit (Below)
def Xf(W:World)(b:Nat)(c':Array Value):Go.Sort.mapBlock W b (λ_=>c')=W.setRow b c':=by
 unfold Go.Sort.mapBlock World.setRow;congr 1
section
variable{w0:Base}{G:List Nat}{M:Imm}{ρ:Ren}{h:Heap}{w:World}
theorem Sim.ahead(a:Sim w0 G M ρ h w):∀q:Nat,Sim w0 G M ρ h (Go.Sort.ahead w q)
 |0=>a
 |q+1=>by
  have:=(Sim.ahead a q).drew
  rwa [Go.Sort.ahead_drew]at this
def Sim.putRow [Inhabited α]{enc:α->Value}{dd:α->D}(r:∀x,(dd x).flat=true)(B:Sim w0 G M ρ h w){pre post:List D}{xs ys:List α}(z:h.at' id=some (.row (pre++xs.map dd++post)))(A:ρ id=some l)
  (j:ys.length=xs.length) (J:∀y∈ys,rel M ρ (dd y) (enc y)):Sim w0 G M ρ (h.set id (.row (pre++ys.map dd++post))) (Go.Sort.putRow enc w l.blk pre.length ys.toArray):=by
 obtain⟨N,h1,_,hM,c,e,C,H,p,a⟩:=B.live id _ z;rw[A]at h1;cases h1;have F:(pre++xs.map dd++post).length=pre.length+xs.length+post.length:=jO;have o:(pre++ys.map dd++post).length=pre.length+xs.length+post.length:=by simp[j];omega
 unfold Go.Sort.putRow;rw[Go.Sort.mapBlock_congr w l.blk (Go.Sort.putCells enc pre.length ys.toArray) (λ_=>Go.Sort.putCells enc pre.length ys.toArray c) (λK e1 E h1=>by rw[C]at h1;cases h1;rfl),Xf];have m:(Go.Sort.putCells enc pre.length ys.toArray c).size=c.size:=by simp[Go.Sort.putCells]
 refine B.setRow z A C m (by rw[m,o,<-F];exact p) (wF (by
  have e:(Go.Sort.putCells enc pre.length ys.toArray c).toList.length=c.size:=by rw[yI];exact m
  rw[yB,e];omega) λi d v b s=> ?_) ?_
 .have k:i<(pre++ys.map dd++post).length:=(zK.1 b).1
  rw[zu,ip k,qA]at s;simp only[Go.Sort.putCells,Array.getElem?_mapIdx]at s;obtain⟨v0,t,rfl⟩:=ze.1 s;by_cases f:pre.length<=i/\i<pre.length+ys.toArray.size
  .rw[ip f]
   have n:i-pre.length<ys.length:=by have:=f.2;simp only[qr]at this;omega
   rw[qV,yf f.1,yj (by simpa using n),zm,zB n]at b;cases b;rw[wr ys.toArray (i-pre.length) (by simpa using n)];exact J _ jS
  .rw[iq f]
   have q:(pre++xs.map dd++post)[i]? =some d:=by
    simp only[qr,not_and,Nat.not_lt]at f;by_cases I:i<pre.length
    .rw[qV,yj I]at b⊢;exact b
    .have L:=f ow
     rw[yf jO]at b⊢;simpa [j]using b
   obtain⟨_,u,e1,e2⟩:=a i d q;rw[t]at e1;cases e1;exact e2
 .rw[uD,uD]
  have h1:pre.all D.flat=true:=zT.2 λd b=>by
   obtain⟨i,g⟩:=yh.1 b;have k:=(zK.1 g).1;exact(a i d (by rw[qV,yj k];exact g)).1
  have h3:post.all D.flat=true:=zT.2 λd b=>by
   obtain⟨i,g⟩:=yh.1 b;exact(a (pre.length+xs.length+i) d (by rw[yf jS];simpa using g)).1
  rw[h1,h3,zT.2 λd b=>by obtain⟨y,_,rfl⟩:=zS.1 b;exact r y];rfl
end
variable{P:Program}{h:Heap}{fr:Frm}{n sz:Nat}{M:Imm}{Q:D->Heap->Prop}
def zD.of_row [Inhabited α]{enc:α->Value}{dd:α->D}(k:∀M ρ x v,rel M ρ (dd x) v->v=enc x)(F:∀x,(dd x).flat=true){xs ys:List α}{m:Nat}{rest:List D}{pre post:List D}
  (Z:rP P f=true) (p:h.at' id=some (.row (pre++xs.map dd++post))) (h0:0<xs.length) (t:ys.length=xs.length) (hm:m<=xs.length) (hy:∀y∈ys,y∈xs\/∀M ρ,rel M ρ (dd y) (enc y))
  (X:∀(b o cap:Nat)(w:World)(M:Imm)(ρ:Ren)(C:List Value),Go.Sort.Holds enc w b o xs.toArray->xs.length<=cap->cap<=9223372036854775807->wG M ρ rest C->
   Calls P f (.slice (some ⟨b,o,none⟩) xs.length cap::C).toArray w λe V=>e=.returned (.slice (some ⟨b,o,none⟩) m cap)/\∃q,V=Go.Sort.putRow enc (Go.Sort.ahead w q) b o ys.toArray):
  zD P f (.rs id 1 pre.length xs.length::rest) h λd h'=>d=.rs id 1 pre.length m/\h'=h.set id (.row (pre++ys.map dd++post)):=by
 refine⟨Z,λw0 G M ρ w C ad S H hr=> ?_⟩;simp only[wG]at hr;obtain⟨v,B,N,T,r⟩:=hr;simp only[rel]at T;obtain⟨_,R,l,cap,o,K,rfl,⟨E,s⟩,L,u⟩:=T;have u:o=pre.length:=by
  rcases u with hz|u
  .omega
  .exact u
 subst u;obtain⟨l',h1,J,hM,c,e,U,ag,Y,g⟩:=S.live id _ p;rw[K]at h1;cases h1;have a:∀(j:Nat)(n:j<xs.length),∃v,c[pre.length+j]? =some v/\rel M ρ (dd xs[j]) v:=λj n=>by
  obtain⟨_,v,e1,e2⟩:=g (pre.length+j) (dd xs[j]) (by
   rw[qV,yf ow,u0,yj (by simpa using n),zm,zB n];rfl)
  exact⟨v,e1,e2⟩
 have i:Go.Sort.Holds enc w l.blk pre.length xs.toArray:=λj n=>by
  have I:j<xs.length:=by simpa using n
  obtain⟨v,e1,e2⟩:=a j I;refine⟨?_,by simp[World.frozen?,U]⟩;rw[wr xs.toArray j n];simp only[World.cell?,U,tZ,zg,yp,e1,k _ _ _ _ e2,List.getElem_toArray]
 have A:C=(.slice (some ⟨l.blk,pre.length,none⟩) xs.length cap::B).toArray:=tU (by simpa using N);rw[A];refine(X l.blk pre.length cap w M ρ B i E (by simpa [maxLen]using s) r).mono λe V hq=> ?_;obtain⟨rfl,q,rfl⟩:=hq;have z:∀y∈ys,rel M ρ (dd y) (enc y):=λy Q=>by
  rcases hy y Q with O|O
  .obtain⟨j,n,rfl⟩:=zz.1 O
   obtain⟨v,_,e2⟩:=a j n;have:=k _ _ _ _ e2;rw[<-this];exact e2
  .exact O M ρ
 have W:=(S.ahead q).putRow F (enc:=enc) p K t z;refine⟨_,M,ρ,.rs id 1 pre.length m,_,rfl,MLe.refl _,RLe.refl _,W,H,?_,rfl,rfl⟩;simp only[rel];exact⟨ow,ow,l,cap,pre.length,K,rfl,⟨ow,s⟩,L,.inr rfl⟩
def zEX{x:Int}(h:rel M ρ (.int .i64 x) v):v=.int .i64 x:=by
 simp only[rel]at h;exact h.1
abbrev Way:=Nat×Fl×Bool
def onO(o:Option Oper)(k:Oper->Prop):Prop:=
 match o with
 |some o=>k o
 |none=>False
def WD(P:Program)(h0:Heap)(o:Op)(ev:Operand->D)(k:D->Prop):Prop:=
 match o with
 |.load t a=>onS (kT P t (ev a) h0) k
 |o=>∃d,Hv P h0 o ev d/\k d
def Iq(P:Program)(h0:Heap)(o:Op)(ev:Operand->D)(k:D->Prop):Prop:=(uZ o).isSome=true/\∃S:D->Prop,(∃e,S e)/\Mv P h0 o ev S/\∀d,S d->k d
def KS(P:Program)(mu:Tmp->Bool)(h0:Heap)(st:Fl)(ops:Array Oper)(o:Oper)(fr:Frm)(h:Heap)(k:D->Heap->Prop):Prop:=
 match uS ops fr o.guard with
 |false=>k si h
 |true=>match st with
  |.st=>WD P h0 o.op (qy fr) λd=>k d h
  |.sq=>Iq P h0 o.op (qy fr) λd=>k d h
  |.no=>su P (aS mu o.dst) h.next o.op (qy fr) h k
  |.qu=>su P (aS mu o.dst) h.next o.op (qy fr) h λd h'=>h'=h/\k d h
  |.al i=>su P (aS mu o.dst) (h0.next+i) o.op (qy fr) h k
def dN(P:Program)(mu:Tmp->Bool)(h0:Heap)(ops:Array Oper):List Way->(Frm->Heap->Prop)->Frm->Heap->Prop
 | [],K,fr,h=>K fr h
 |w::rest,K,fr,h=>onO ops[w.1]? λo=>KS P mu h0 w.2.1 ops o fr h λd h'=>(w.2.2=true->HLe h0 h')/\dN P mu h0 ops rest K (pv fr o.dst d) h'
def V2(bk:Nat->Bool):Bool->List (Nat×Fl)->List Way->Bool
 |_,[],[]=>true
 |fl,x::xs,w::ws=>Nat.beq x.1 w.1&&(match x.2 with
  |.no=>match w.2.1 with
   |.no=>true
   |_=>false
  |.st=>match w.2.1 with
   |.st=>true
   |_=>false
  |.sq=>match w.2.1 with
   |.sq=>true
   |_=>false
  |.qu=>match w.2.1 with
   |.qu=>true
   |_=>false
  |.al i=>match w.2.1 with
   |.al j=>Nat.beq i j
   |_=>false)&&(w.2.2|| !(fl&& !bk x.1))&&V2 bk (fl&& !bk x.1) xs ws
 |_,_,_=>false
section
variable{P:Program}{g:Cfg}{n:Nat}{ro:Option Nat}{Q:Exit->Frm->Heap->Prop}{fr:Frm}{h:Heap}{mu:Tmp->Bool}{h0:Heap}
def Iv{a:Operand}(c:kT P t (ev a) h0=some d):Hv P h0 (.load t a) ev d:=by
 intro h' b;simp only[su,uZ,vop,Ml b c,qZ];exact⟨trivial,trivial⟩
def HN{st:Fl}{ops:Array Oper}{k:D->Heap->Prop}(b:KS P mu h0 st ops o fr h k):ux P mu h0 st ops o fr h k:=by
 unfold KS at b;unfold ux;split at b
 .rename_i c;rw[c];exact b
 .rename_i c
  rw[c];cases st with
  |st=>
   simp only at b⊢;unfold WD at b;split at b
   .rename_i t a f
    rw[f];unfold onS at b;split at b
    .rename_i d e
     exact⟨d,Iv e,b⟩
    .exact b.elim
   .exact b
  |_=>exact b
theorem Vz{ops:Array Oper}{K:Frm->Heap->Prop} :∀{l:List (Nat×Fl)}{g:List Way}{fl:Bool}{fr:Frm}{h:Heap},V2 bk fl l g=true->dN P mu h0 ops g K fr h->nR P mu h0 bk ops fl l K fr h
 | [],[],_,fr,h,_,a=>a
 | [],_::_,_,_,_,c,_=>by simp[V2]at c
 |_::_,[],_,_,_,c,_=>by simp[V2]at c
 |(i,st)::l,(j,e,b)::g,fl,fr,h,c,a=>by
  simp only[V2,zF]at c;obtain⟨⟨⟨q,f⟩,m⟩,r⟩:=c;have e1:i=j:=z6 q;have e2:st=e:=by
   cases st<;>cases e<;>simp only at f<;>(first|rfl|(cases f;done)|skip)
   rw[z6 f]
  subst e1;subst e2;simp only[dN]at a;simp only[nR];unfold onO at a;split at a
  .rename_i o p
   rw[p];refine ox (λd h' k=>⟨λn=>k.1 ?_,Vz r k.2⟩) (HN a);cases b with
   |true=>rfl
   |false=>rw[n]at m;simp at m
  .exact a.elim
def yq(h0:Heap)(c:List Way){l:List Oper}(e:V2 (Hf P g.mu l.toArray (g.dr id) (Z9 l 0 [])) ((g.dr id).any (·.2.isSt)) (g.dr id) c=true)(a:Nat.beq (alN (g.dr id)) 0=true)(b:HLe h0 h)
  (d:dN P g.mu h0 l.toArray c (Q .normal) fr h):vwp P g n ro (.region id l.toArray true) Q fr h:=by
 rw[Mo];refine⟨h0,b,?_⟩;rw[aL (z6 a)];exact Vz e d
def pL:Nat->List (Nat×Fl)->List Oper->Bool
 |_,[],[]=>true
 |k,x::xs,_::os=>Nat.beq x.1 k&&x.2.isNo&&pL (k+1) xs os
 |_,_,_=>false
variable{h0:Heap}
theorem Vt{ops:Array Oper}{K:Frm->Heap->Prop} :∀{l:List (Nat×Fl)}{c pre:List Oper}{fr:Frm}{h:Heap},ops.toList=pre++c->pL pre.length l c=true->WT P mu ops c K fr h->nR P mu h0 bk ops false l K fr h
 | [],[],_,fr,h,_,_,a=>a
 | [],_::_,_,_,_,_,b,_=>by simp[pL]at b
 |_::_,[],_,_,_,_,b,_=>by simp[pL]at b
 |(i,st)::l,o::c,pre,fr,h,j,b,a=>by
  simp only[pL,zF]at b;obtain⟨⟨p,q⟩,r⟩:=b;have e1:i=pre.length:=z6 p;subst e1;have m:ops[pre.length]? =some o:=by rw[<-qA,j];simp
  have g:st=.no:=by cases st<;>simp[Fl.isNo]at q<;>rfl
  subst g;simp only[nR,m,wi];simp only[WT]at a;have k:∀fr h,WT P mu ops c K fr h->nR P mu h0 bk ops false l K fr h:=λfr h a=>Vt (pre:=pre++ [o]) (by simp[j]) (by simpa using r) a;unfold ux;split at a
  .rename_i f
   rw[f];exact fF (λd h' n=>⟨λe=>(by cases e),k _ _ n⟩) a
  .rename_i f
   rw[f];exact⟨λe=>(by cases e),k _ _ a⟩
theorem Zw:∀{l:List (Nat×Fl)}{c:List Oper}{k:Nat},pL k l c=true->l.any (·.2.isSt)=false/\alN l=0
 | [],[],_,_=>⟨rfl,rfl⟩
 | [],_::_,_,a=>by simp[pL]at a
 |_::_,[],_,a=>by simp[pL]at a
 |(i,st)::l,o::c,k,a=>by
  simp only[pL,zF]at a;obtain⟨h1,d⟩:=Zw a.2;have b:st=.no:=by have:=a.1.2;cases st<;>simp[Fl.isNo]at this<;>rfl
  subst b;exact⟨by rw[cr,h1];rfl,by simp only[alN,d]⟩
def yJ{l:List Oper}(a:pL 0 (g.dr id) l=true)(c:WT P g.mu l.toArray l (Q .normal) fr h):vwp P g n ro (.region id l.toArray true) Q fr h:=by
 obtain⟨h1,b⟩:=Zw a;rw[Mo];refine⟨⟨0,λ_=>none⟩,λi d e=>(by cases e),?_⟩;rw[aL b,h1];exact Vt (pre:=[]) rfl a c
end
section
variable{P:Program}{mu:Tmp->Bool}{h0:Heap}{ops:Array Oper}{l:List Oper}{K:Frm->Heap->Prop}{k:D->Heap->Prop}{fr:Frm}{h:Heap}{dst:Option Tmp}{ty:TypeId}{pos:String}{after:Array Edge}{rest:List Way}
@[congr] theorem zGk{o o':Option Oper}{k:Oper->Prop}(h:o=o'):onO o k=onO o' k:=by rw[h]
def pwf:List Nat->List Way->List Way
 | [],r=>r
 |a::l,r=>(a,.no,false)::pwf l r
def pwt:List Nat->List Way->List Way
 | [],r=>r
 |a::l,r=>(a,.no,true)::pwt l r
def zHb(a:Nat)(r:List Way)(q:List Nat):dN P mu h0 l.toArray (pwf (a::q) r) K fr h=dN P mu h0 l.toArray ((a,.no,false)::pwf q r) K fr h:=(rfl)
def zB2(r:List Way):dN P mu h0 l.toArray (pwf [] r) K fr h=dN P mu h0 l.toArray r K fr h:=(rfl)
def zHc(a:Nat)(r:List Way)(q:List Nat):dN P mu h0 l.toArray (pwt (a::q) r) K fr h=dN P mu h0 l.toArray ((a,.no,true)::pwt q r) K fr h:=(rfl)
def zB3(r:List Way):dN P mu h0 l.toArray (pwt [] r) K fr h=dN P mu h0 l.toArray r K fr h:=(rfl)
def zHa:dN P mu h0 ops [] K fr h=K fr h:=(rfl)
def zB1(w:Way):dN P mu h0 l.toArray (w::rest) K fr h=onO l[w.1]? λo=>KS P mu h0 w.2.1 l.toArray o fr h λd h'=>(w.2.2=true->HLe h0 h')/\dN P mu h0 l.toArray rest K (pv fr o.dst d) h':=by
 simp only[dN,uX]
def zIM(o:Oper)(k:Oper->Prop):onO (some o) k=k o:=(rfl)
def zLy(op:Op):KS P mu h0 .no ops ⟨dst,op,ty,pos,after,none⟩ fr h k=su P (aS mu dst) h.next op (qy fr) h k:=(rfl)
def zL0(op:Op):KS P mu h0 .st ops ⟨dst,op,ty,pos,after,none⟩ fr h k=WD P h0 op (qy fr) λd=>k d h:=(rfl)
def zLz(op:Op):KS P mu h0 .sq ops ⟨dst,op,ty,pos,after,none⟩ fr h k=Iq P h0 op (qy fr) λd=>k d h:=(rfl)
def zA3(t:TypeId)(a:Operand)(k:D->Prop):WD P h0 (.load t a) (qy fr) k=onS (kT P t (qy fr a) h0) k:=(rfl)
def zB5(st:Fl)(op:Op)(j:Nat)(b:Bool):KS P mu h0 st ops ⟨dst,op,ty,pos,after,some (j,b)⟩ fr h k =
  gif (uS ops fr (some (j,b))) (KS P mu h0 st ops ⟨dst,op,ty,pos,after,none⟩ fr h k) (k si h):=by
 unfold KS gif;cases uS ops fr (some (j,b))<;>rfl
end
def Jp:D->Bool
 |.nilsl=>true
 |_=>false
section
variable{P:Program}{t e:TypeId}{c:Bool}{sz:Nat}{xs:List (List D)}{d:D}
def um(a:yZ sz xs d)(b:P.underlying t=some (.slice e)):kW P .eql t c d .nilsl=some (.bool (Jp d)):=by
 rcases a with⟨rfl,rfl⟩ | ⟨tk,rfl⟩ <;>simp[kW,Fi,oH,veq,b,Jp]
def P9{id off len:Nat}(a:P.underlying t=some (.slice e)):kW P .eql t c (.rs id sz off len) .nilsl=some (.bool false):=by
 simp[kW,Fi,oH,veq,a]
variable{h:Heap}
def wT(c:uu P t=some e)(f:uo P e=some z)(d:szT P e=sz)(b:z.notTuple=true)(a:z.cells.length=sz)(h0:0<sz):yD P false nid t 0 [] h=some (.sl sz [] .full,h):=by
 simp only[yD,c,f,d];rw[ip (by simp[b,a,h0])];simp[ua,wK]
end
variable{sz n k:Nat}{xs:List (List D)}{d:D}{fr:Frm}{h h0:Heap}{P:Program}{t:TypeId}{K Q:D->Heap->Prop}{l:Loc}
def VC(a:yZ sz xs d):(Jp d=true/\d=.nilsl/\xs= [])\/(Jp d=false/\∃tk,d=.sl sz xs tk):=by
 rcases a with⟨rfl,rfl⟩ | ⟨tk,rfl⟩
 .exact .inl ⟨rfl,rfl,rfl⟩
 .exact .inr ⟨rfl,tk,rfl⟩
mutual
theorem ao(id:Nat)(cs:List D):∀d:D,below 0 d->frz id cs d=d
 |.bool _,_=>rfl
 |.int _ _,_=>rfl
 |.str _,_=>rfl
 |.nilptr,_=>rfl
 |.ptr _ _,h=>absurd h (yX _)
 |.iptr b off,h=>by simp only[frz,sT id cs b h]
 |.nilsl,_=>rfl
 |.sl sz xs tk,h=>by
  simp only[below]at h;cases tk with
  |own t=>exact absurd h.2 (yX _)
  |_=>simp only[frz,XK id cs xs h.1]
 |.rs _ _ _ _,h=>absurd h (yX _)
 |.nilmap,_=>rfl
 |.map _,h=>absurd h (yX _)
 |.fn f a c,h=>by simp only[frz,sT id cs a h.1,sT id cs c h.2]
 |.yld _,h=>absurd h (yX _)
 |.nilfn,_=>rfl
 |.agg b,h=>by simp only[frz,sT id cs b h]
 |.tuple b,h=>by simp only[frz,sT id cs b h]
 |.iface t d,h=>by simp only[frz,ao id cs d h]
 |.niliface,_=>rfl
theorem sT(id:Nat)(cs:List D):∀ds:List D,qC 0 ds->cq id cs ds=ds
 | [],_=>rfl
 |d::ds,h=>by simp only[cq,ao id cs d h.1,sT id cs ds h.2]
theorem XK(id:Nat)(cs:List D):∀xs:List (List D),oG 0 xs->Gy id cs xs=xs
 | [],_=>rfl
 |x::xs,h=>by simp only[Gy,sT id cs x h.1,XK id cs xs h.2]
end
theorem XM{id sz len:Nat}(a:∀x∈xs,x.length=sz)(c:xs.length=len)(b:cs=xs.flatten):frz id cs (.rs id sz 0 len)=.sl sz xs .no:=by
 subst b c;simp only[frz];rw[ip ⟨trivial,by rw[uP a];omega⟩,wN,yP (by rw[uP a];omega),pX a]
def Heap.Ok(h:Heap):Prop:=∀i,h.next<=i->h.at' i=none
def zD.known(e:rP P f=true)(j:qC h.next args->h.Ok->zD P f args h Q):zD P f args h Q:=by
 refine⟨e,λw0 G M ρ w n b d a hr=>(j (om a _ _ hr) λi g=> ?_).2 w0 G M ρ w n b d a hr⟩;cases k:h.at' i with
 |none=>rfl
 |some m=>
  obtain⟨l,c,_⟩:=d.live i m k;rw[a i g]at c;cases c
def Ext.hle(a:h.Ok)(b:Ext h h'):HLe h h':=λi d e=>by
 by_cases c:i<h.next
 .rw[b.2 i c];exact e
 .rw[a i ow]at e;cases e
def xU{Q:D->Prop}(c:rP P f=true)(e:h.Ok->zD P f args h λd h'=>Ext h h'/\below h.next d/\Q d):zD P f args h λd h'=>h'=h/\Q d:=
 zD.known c λ_ a=>zD.gc (λ_=>(e a).mono λ_ _ b=>⟨b.1.hle a,b.2.1,b.2.2⟩) c
def qY(a:∀x∈xs,uA x)(tk:Tk):qM (.sl sz xs tk)=.sl sz xs .no/\below 0 (.sl sz xs .no):=by
 have b:oJ xs=xs:=WE λx h=>(a x h).2.2;simp only[qM,b,below,zV,zM];exact bB λx h=>(a x h).2.1
section
variable{P:Program}{k:Nat}{t e:TypeId}{c:List D}
def sx{q:IntKind}(a:P.underlying t=some (.int q))(h:Shp P k t c):∃n,c= [.int q n]/\fits q n:=by
 cases k with
 |zero=>simp only[Shp]at h
 |succ k=>simpa only[Shp,a]using h
def MX(a:P.underlying t=some .bool)(h:Shp P k t c):∃b,c= [.bool b]:=by
 cases k with
 |zero=>simp only[Shp]at h
 |succ k=>simpa only[Shp,a]using h
def tt(a:P.underlying t=some .string)(h:Shp P k t c):∃s,c= [.str s]/\s.length<=1048576:=by
 cases k with
 |zero=>simp only[Shp]at h
 |succ k=>simpa only[Shp,a]using h
def nh(f:P.underlying t=some (.slice e))(b:szT P e=sz)(h:Shp P k t c):∃d xs j,c= [d]/\j<k/\yZ sz xs d/\(d=.nilsl\/d=.sl sz xs .no)/\xs.length<=1048576/\∀x∈xs,Shp P j e x:=by
 cases k with
 |zero=>simp only[Shp]at h
 |succ k=>
  simp only[Shp,f]at h;rcases h with rfl| ⟨xs,rfl,h1,a⟩
  .exact⟨_,[],k,rfl,sX _,yZ.nil,.inl rfl,jS,jS⟩
  .have:P.cellsOf e=sz:=b
   rw[this];exact⟨_,xs,k,rfl,sX _,yZ.mk _,.inr rfl,h1,a⟩
def ui{fs:Array Field}(a:P.underlying t=some (.struct fs))(h:Shp P k t c):∃j,j<k/\Hu P (Shp P j) fs.toList c:=by
 cases k with
 |zero=>simp only[Shp]at h
 |succ k=>exact⟨k,sX _,by simpa only[Shp,a]using h⟩
def yQ{r:TypeId->List D->Prop}{f:Field}{fs:List Field}(h:Hu P r (f::fs) cs):∃c cs',cs=c++cs'/\r f.type c/\Hu P r fs cs':=h
def rG{r:TypeId->List D->Prop}(h:Hu P r [] cs):cs= []:=h
end
def faO(P:Program)(k:Nat->D):Option (Nat×TypeId)->Option D
 |some (off,ft)=>if szT P ft=0 then none else some (k off)
 |none=>none
section
variable{P:Program}
def Hn(s:TypeId)(id o f:Nat):pk P s (.ptr id o) f=faO P (λoff=>.ptr id (o+off)) (qK P s f):=by
 unfold pk faO;cases qK P s f<;>rfl
def zH0(k:Nat->D)(off:Nat)(ft:TypeId):faO P k (some (off,ft))=if szT P ft=0 then none else some (k off):=(rfl)
variable{t:TypeId}
def yN{id off:Nat}(b:h.at' id=some (.row cs))(e:szT P t=1)(c:off<cs.length)(a:x.cells= [x])(hf:x.flat=true):yW P t (.ptr id off) x h=some (h.set id (.row (cs.set off x))):=by
 have d:wS cs [x] off=cs.set off x:=by
  simp only[wS,tX];rw[List.set_eq_take_append_cons_drop,ip c];simp
 simp only[yW,b,e,a,d];rw[ip];simp[hf];omega
end
def zH6(h:Heap):HLe h h=True:=eq_true λ_ _ e=>e
attribute [go_sem] true_and and_true true_implies implies_true false_implies
variable{P:Program}{t:TypeId}{k:Nat}
def Wl{t e:TypeId}(a:yZ sz xs d)(b:uu P t=some e)(f:szT P e=sz){k:IntKind}{n:Int}(h0:0<=n){x:List D}(c:xs[n.toNat]? =some x):yc P t d (.int k n)=some (.iptr x 0):=by
 obtain⟨m,rfl⟩:=uy h0;exact yR a b f (by simpa using c)
def sC{o:Obj}(c:h.at' i=some o):h.set i o=h:=by
 cases h with
 |mk n a=>
  simp only[Heap.set,Heap.mk.injEq,zM]
  funext j
  by_cases b:j=i
  .subst b;rw[ip rfl];exact c.symm
  .rw[iq b]
def cO(h:Heap)(i:Nat)(o a:Obj):(h.new i o).set i a=h.new i a:=by
 simp only[Heap.set,Heap.new,Heap.mk.injEq,zM]
 funext j
 by_cases b:j=i<;>simp[b]
def NJ{id off n:Nat}(e:h.at' id=some (.row cs))(k:szT P t=n)(a:yO true n cs off=some x)(hf:cs.all D.flat=true):yW P t (.ptr id off) x h=some h:=by
 simp only[yO,qF]at a;split at a
 .cases a
 .rename_i i
  split at a
  .rename_i c
   cases a;have f:((cs.drop off).take n).length=n:=by rw[yB,qJ];omega
   have j:wS cs ((cs.drop off).take n) off=cs:=by
    simp only[wS,f];rw[qV,<-uC,qg,qg]
   have b:((cs.drop off).take n).all D.flat=true:=zT.2 λd g=>zT.1 hf d (t7 (nb g));simp only[yW,e,D.cells,k,f,j];rw[ip (by simp[i,c,b]),sC e]
  .cases a
def Qf{id off:Nat}(c:h.at' id=some (.row cs))(e:szT P t=1)(b:cs[off]? =some x)(d:x.cells= [x])(hf:cs.all D.flat=true):yW P t (.ptr id off) x h=some h:=by
 have a:=(zK.1 b).1;rw[yN c e a d (zT.1 hf x (zh b))]
 have:cs.set off x=cs:=by
  obtain⟨_,rfl⟩:=zK.1 b;exact hP a
 rw[this,sC c]
def ym{cs cs':List D}(d:szT P t=n)(c:0<n)(b:cs.length=n)(a:cs'.length=n)(hf:cs'.all D.flat=true):yW P t (.ptr id 0) (.agg cs') (h.new id (.row cs))=some (h.new id (.row cs')):=by
 subst a;rw[ql (z5 _ _ _) d b c hf,cO]
def tu:D->Nat->Prop
 |.sl _ _ (.own t),i=>i=t
 |_,_=>False
def rJ.app2{t e:TypeId}(o:rJ h sz xs d)(n:uu P t=some e)(r:YE P e=true)(p:szT P e=sz)(h0:0<sz)(a:∀y∈ys,y.length=sz)(k:ys≠[])
  (g:(xs.length+ys.length)*uF P e<=lim) (j:xs.length+ys.length<=lim) (l:∀b h',rJ h' sz (xs++ys) b->h.next<=h'.next->(∀i,i<h.next->¬tu d i->h'.at' i=h.at' i)->(∀i,tu b i->h.next<=i)->b.cells= [b]->b.flat=true->K b h'):onR (qS P false h.next t d (.sl sz ys tk) h) K:=by
 have m:0<ys.length:=zy.2 k;simp only[qS,n,r,p,TR,qF,uP a,ue _ h0];rcases o with⟨rfl,rfl⟩ | ⟨q,rfl,h1,s⟩
 .simp only[tB]
  rw[iq ow,ip (by simp only[zF,zO];simp only[qD,yH]at g j;exact⟨g,j⟩)];simp only[zg,yp,pX a,fo];refine l _ _ (.inr ⟨h.next,jS,z5 _ _ _,zl (sX _) (jh _ _)⟩) (t9 _ _ _) (λi c _=>zf ow) (λi c=> ?_) rfl rfl;simp only[tu]at c;omega
 .simp only[tB]
  rw[ip (by simp only[zF,zO];exact⟨⟨trivial,g⟩,j⟩)];simp only[h1,zg,yp,pX a,fo];refine l _ _ (.inr ⟨h.next,rfl,z5 _ _ _,zl (sX _) (jh _ _)⟩) (t9 (h.del q) _ _) (λi c f=> ?_) (λi c=> ?_) rfl rfl
  .simp only[tu]at f
   rw[zf ow,wM f]
  .simp only[tu]at c;omega
def BV(n0 sz:Nat)(L:LRec)(ps:List (List D))(k:Nat)(S:Nat->Prop)(h:Heap):Prop:=
 n0+1<h.next/\h.at' (n0+1)=some (.loop L)/\∃d,h.at' n0=some (.row [d])/\rJ h sz (ps.take k) d/\∀i,S i↔(i=n0\/i=n0+1\/tu d i)
def rJ.tok(c:rJ h sz xs d)(a:tu d i):i<h.next/\h.at' i=some .tok:=by
 rcases c with⟨rfl,_⟩ | ⟨t,rfl,h1,b⟩
 .exact a.elim
 .simp only[tu]at a;subst a;exact⟨b,h1⟩
def rJ.loc(b:rJ h sz xs d)(e:h.next<=h'.next)(a:∀i,tu d i->h'.at' i=h.at' i):rJ h' sz xs d:=by
 rcases b with h1| ⟨t,rfl,h1,c⟩
 .exact .inl h1
 .exact .inr ⟨t,rfl,by rw[a t rfl];exact h1,ow⟩
def BV.here{e sz:Nat}{L:LRec}(y:BV e sz L Y k S h)(i:Nat)(b:S i):i<h.next:=by
 obtain⟨h1,_,d,_,h3,a⟩:=y;rcases(a i).1 b with rfl|rfl|c
 .omega
 .omega
 .exact(h3.tok c).1
def BV.loc{b sz:Nat}{L:LRec}(y:BV b sz L Y k S h)(g:h.next<=h'.next)(a:∀i,S i->h'.at' i=h.at' i):BV b sz L Y k S h':=by
 obtain⟨h1,c,d,h3,e,h5⟩:=y;exact⟨ow,by rw[a _ ((h5 _).2 (.inr (.inl rfl)))];exact c,d,by rw[a _ ((h5 _).2 (.inl rfl))];exact h3,e.loc g λi f=>a i ((h5 i).2 (.inr (.inr f))),h5⟩
def Ext.of_but{h h1 c:Heap}(a:Ext h h1)(b:But S h1 c)(f:∀i,S i->h.next<=i):Ext h c:=
 ⟨zb a.1 b.1,λi d=>by rw[b.2 i (by have:=a.1;omega) λe=>by have:=f i e;omega,a.2 i d]⟩
def Fin(sz:Nat)(xs:List (List D))(d:D):Prop:=(d=.nilsl/\xs= [])\/d=.sl sz xs .no
def Fin.isSl(hf:Fin sz xs d):yZ sz xs d:=by
 rcases hf with⟨rfl,rfl⟩ |rfl
 .exact yZ.nil
 .exact yZ.mk _
def rJ.fin(b:rJ h sz xs d)(a:∀x∈xs,uA x):below 0 (qM d)/\Fin sz xs (qM d):=by
 rcases b with⟨rfl,rfl⟩ | ⟨t,rfl,_⟩
 .exact⟨trivial,.inl ⟨rfl,rfl⟩⟩
 .rw[(qY a _).1]
  exact⟨(qY a .no).2,.inr rfl⟩
def zEw(a:Oper)(l m:List Oper):List.append (a::l) m=a::List.append l m:=(rfl)
def zH7(m:List Oper):List.append [] m=m:=(rfl)
def zID(a:Oper)(l:List Oper):(a::l)[0]? =some a:=(rfl)
def zIC(a:Oper)(l:List Oper)(n:Nat):(a::l)[n+1]? =l[n]? :=(rfl)
def gdB:D->Bool->Bool
 |.bool x,b=>x==b
 |_,_=>false
def zEf:Option Oper->Frm->Bool->Bool
 |some o,fr,b=>match o.dst with
  |some t=>gdB (fr t) b
  |none=>false
 |none,_,_=>false
def A0(l:List Oper)(fr:Frm)(j:Nat)(b:Bool):uS l.toArray fr (some (j,b))=zEf l[j]? fr b:=by
 unfold uS zEf;simp only[uX];cases l[j]? with
 |none=>rfl
 |some o=>
  simp only[sY];cases o.dst with
  |none=>rfl
  |some t=>
   simp only;cases fr t<;>rfl
@[congr] theorem zBT{o o':Option Oper}(h:o=o'):zEf o fr b=zEf o' fr b:=by rw[h]
def zEg(t:Tmp)(op:Op)(ty:TypeId)(pos:String)(after:Array Edge)(gd:Option (Nat×Bool))(fr:Frm)(b:Bool):zEf (some ⟨some t,op,ty,pos,after,gd⟩) fr b=gdB (fr t) b:=(rfl)
def zH1(x b:Bool):gdB (.bool x) b=(x==b):=(rfl)
def zEe(b:Bool):gdB si b=false:=(rfl)
def zMU:(true==true)=true:=(rfl)
def zMT:(true==false)=false:=(rfl)
def zMS:(false==true)=false:=(rfl)
def zMR:(false==false)=true:=(rfl)
def fI{g:Cfg}{ro:Option Nat}{c:Code}{K:Frm->Heap->Prop}{Q:Exit->Frm->Heap->Prop}(R:Frm->Heap->Prop)(h1:vwp P g n ro c (lr R λ_ _ _=>False) fr h)(b:∀fr h,R fr h->K fr h):vwp P g n ro c (lr K Q) fr h:=
 rH c (λe fr h a=>by
  cases e with
  |normal=>exact b fr h a
  |_=>exact a.elim) fr h h1
attribute[go_sem ↓] zHb zB2 zHc zB3 zHa zB1 zIM zLy zL0 zLz zA3 zB5 zEw zH7 zID zIC A0 zEg zH1 zEe
attribute[go_sem] Hn zH0 zH6 zMU zMT zMS zMR
end Go.V
