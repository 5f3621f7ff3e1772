/- Rules of the machine of abstract values, part 6. No condition. -/
import Derived.Test.YtkenagjlanhnmaaGreatDoorW28
import Derived.Test.YtkenagjlanhnmaaGreatDoorW20
set_option linter.all false
set_option maxHeartbeats 8000000
namespace Go.V
attribute [go_sem_proc] Nat.reduceEqDiff Int.reduceBEq Int.reduceLT Int.reduceLE Int.reduceGT Int.reduceGE Nat.reduceAdd Nat.reduceBEq
attribute [go_sem_proc ↓] reduceIte
attribute [go_sem] Nat.zero_add List.contains_cons wM kE decide_true decide_false bne Bool.or_self Bool.false_and Bool.true_and Bool.and_false Bool.and_true Bool.and_self Bool.not_not oM D.notTuple D.cells
section
variable{b:Bool}{x y:Prop}
@[go_sem] def zJc(w:HidP x y):zGR (b==true) x y w=E8 (.bool b) x y w:=by cases b<;>rfl
@[go_sem] def zJb(w:HidP x y):zGR (b==false) x y w=E8 (.bool b) y x ⟨⟩:=by cases b<;>rfl
@[go_sem] def zJs(w:HidP x y):E8 (.bool (!b)) x y w=E8 (.bool b) y x ⟨⟩:=by cases b<;>rfl
def bc{w:HidP x y}(h1:b=true->x)(a:b=false->y):E8 (.bool b) x y w:=Hq h1 a
end
theorem vp4(a b c e:D):yQ true 4 [a,b,c,e] 0=some (.agg [a,b,c,e]):=rfl
theorem vp2(a b:D):yQ true 2 [a,b] 0=some (.agg [a,b]):=rfl
theorem au{p:Prop}(h:p:=by repeat' first|simp only[go_sem, *]|apply bc<;>intro):p:=h
attribute[go_sem] vp2 vp4
open Go.Proofs.Tryz
open Go.Proofs
set_option maxRecDepth 100000
def WD(b:UInt8)(r:List UInt8):nP (b::r)=(!(decide (((b::r).length:Int)>32)||decide ((b.toNat:Int)<97)||decide ((b.toNat:Int)>122)||((b::r:List UInt8)== [97,110,100])||((b::r:List UInt8)== [111,114])||((b::r:List UInt8)== [119,105,116,104]))&&(Lib.trimS (b::r) Zq== [])):=by
 have e:decide (((b::r).length:Int)>32)=decide ((b::r).length>32):=zA3 _ 32;rw[e];rfl
variable{s:List UInt8}{i sz id:Nat}{d:D}{α:Type}{f:FuncId}{cap:List D}{xs:List (List D)}{h g h0:Heap}
def Xg(d:s.length<=1048576)(g:Heap):zE prog 176 [.str s] g λr h'=>h'=g/\r=.bool (nP s):=by
 have e:∀h,zE prog 214 [.str s,.str [97,98,99,100,101,102,103,104,105,106,107,108,109,110,111,112,113,114,115,116,117,118,119,120,121,122,48,49,50,51,52,53,54,55,56,57,45,46]] h λr h'=>h'=h/\r=.str (Lib.trimS s Zq):=λh=>Al d (c:=Zq) jD jD h;refine zo zHC ?_;simp only[f176,zA];cases s with
 |nil=>
  have e1:decide ((([]:List UInt8).length:Int)<1)=true:=rfl
  repeat' first|simp only[go_sem, *]|apply bc<;>intro a
  rfl
 |cons b r=>
  have e1:decide (((b::r).length:Int)<1)=false:=zO (by simp only[zu];omega);have f:mG prog 9 (.str (b::r)) (.int .i64 0)=some (.int .u8 b.toNat):=rP (n:=0) underlying9 rfl;have i:=WD b r;generalize j:b::r=s at *
  repeat' first|simp only[go_sem, *]|apply bc<;>intro a|refine zE.use (e _) ?_
def Kl(d:s.length<=1048576)(g:Heap):zE prog 177 [.str s] g λr h'=>h'=g/\Fin 1 (wh (UG s)) r:=by
 have a:=Io d 10;refine zo zHD ?_;simp only[f177,zA];cases h1:(s== [])with
 |true=>
  have:s= []:=by simpa using h1
  subst this
  repeat' first|simp only[go_sem, *]|apply bc<;>intro c
  exact .inl ⟨rfl,rfl⟩
 |false=>
  have b:s≠[]:=by simpa using h1
  have h3:UG s=qr 10 s:=by rw[UG,iq b]
  repeat' first|simp only[go_sem, *]|apply bc<;>intro c|refine zE.use (a _) ?_
  exact .inr rfl
def Ml(n:Int)(g:Heap):zE prog 179 [.int .i64 n] g λr h'=>h'=g/\r=.bool (decide (n>=0)&&decide (n<=5)):=by
 refine zo zHE ?_;simp only[f179,zA];exact au
def leB(a b:List UInt8):Bool:=VN a b||a==b
def ZN(a b:List UInt8):Fa .leq a b=some (.bool (leB a b)):=rfl
def Wt(l:List (List UInt8)):Bool:=decide (∀i,i<l.length-1->leB (l.getD (i+1) []) (l.getD i [])=false)
def Lr(l:List Int):Bool:=decide (∀i,i<l.length-1->l.getD i 0<l.getD (i+1) 0)
def Qg{l:List (List UInt8)}(h:i<l.length):l.getD i []=l[i]:=by simp[h]
def Eo{l:List Int}(h:i<l.length):l.getD i 0=l[i]:=by simp[h]
def tr{l:List Int}(a:yg 1 (wC l) d)(h:Heap):o5 prog 30 d h=some (.int .i64 l.length):=by rw[wL a underlying30,wG]
def oe{l:List Int}(a:yg 1 (wC l) d)(b:i<l.length):yj prog 30 d (.int .i64 (i:Int))=some (.iptr [.int .i64 l[i]] 0):=yW a qS uz (dY b)
def R2{l:List (List UInt8)}(b:yg 1 (wh l) d)(x:l.length<=1048576)(g:Heap):zE prog 181 [d] g λr h'=>h'=g/\r=.bool (Wt l):=by
 have f:=wU b;refine zo zHG ?_;simp only[f181,zA];simp only[go_sem, *];refine ql (λi fr h=>fr 0=d/\fr 3=.int .i64 ((i+1:Nat):Int)/\h=g/\∀j,j<i->j<l.length-1->leB (l.getD (j+1) []) (l.getD j [])=false) l.length ?_ ?_
 .simp only[go_sem,zQ,zT,zG]
  exact⟨rfl,λj c=>by omega⟩
 rintro i fr h w ⟨u,v,rfl,c⟩;by_cases a:i+1<l.length
 .have e1:decide (((i+1:Nat):Int)<(l.length:Int))=true:=zR ow
  have t:IntKind.i64.wrap (((i+1:Nat):Int)+1)=((i+2:Nat):Int):=qR jL;have k:IntKind.i64.wrap (((i+1:Nat):Int)-1)=((i:Nat):Int):=by rw[qJ ow ow];omega
  have o:=sw b a;have p:=sw b (show i<l.length by omega);have s:=ZN l[i+1] l[i];cases e:leB l[i+1] l[i]with
  |true=>
   have hr:Wt l=false:=zO λq=>by
    have:=q i ow;rw[Qg a,Qg ow,e]at this;cases this
   simp only[go_sem, *];refine yF kr ?_;simp only[go_sem, *]
  |false=>
   have n:∀j,j<i+1->j<l.length-1->leB (l.getD (j+1) []) (l.getD j [])=false:=λj h1 m=>by
    rcases zx.1 h1 with q|rfl
    .exact c j q m
    .rw[Qg a,Qg ow,e]
   simp only[go_sem, *];refine yF kr ?_;simp only[go_sem, *];exact⟨ow,n⟩
 .have e1:decide (((i+1:Nat):Int)<(l.length:Int))=false:=zO ow
  have hr:Wt l=true:=zR λj h=>c j ow h;exact au
def R1{l:List Int}(b:yg 1 (wC l) d)(w:l.length<=1048576)(g:Heap):zE prog 180 [d] g λr h'=>h'=g/\r=.bool (Lr l):=by
 have f:=tr b;refine zo zLy ?_;simp only[f180,zA];simp only[go_sem, *];refine ql (λi fr h=>fr 0=d/\fr 3=.int .i64 ((i+1:Nat):Int)/\h=g/\∀j,j<i->j<l.length-1->l.getD j 0<l.getD (j+1) 0) l.length ?_ ?_
 .simp only[go_sem,zQ,zT,zG]
  exact⟨rfl,λj c=>by omega⟩
 rintro i fr h v ⟨t,u,rfl,c⟩;by_cases a:i+1<l.length
 .have e1:decide (((i+1:Nat):Int)<(l.length:Int))=true:=zR ow
  have s:IntKind.i64.wrap (((i+1:Nat):Int)+1)=((i+2:Nat):Int):=qR jL;have k:IntKind.i64.wrap (((i+1:Nat):Int)-1)=((i:Nat):Int):=by rw[qJ ow ow];omega
  have o:=oe b a;have p:=oe b (show i<l.length by omega);cases e:decide (l[i+1]<=l[i])with
  |true=>
   have hr:Lr l=false:=zO λq=>by
    have:=q i ow;rw[Eo a,Eo ow]at this;have:=yB e;omega
   simp only[go_sem, *];refine yF kr ?_;simp only[go_sem, *]
  |false=>
   have n:∀j,j<i+1->j<l.length-1->l.getD j 0<l.getD (j+1) 0:=λj h1 m=>by
    rcases zx.1 h1 with q|rfl
    .exact c j q m
    .rw[Eo a,Eo ow]
     have:=yJ e;omega
   simp only[go_sem, *];refine yF kr ?_;simp only[go_sem, *];exact⟨ow,n⟩
 .have e1:decide (((i+1:Nat):Int)<(l.length:Int))=false:=zO ow
  have hr:Lr l=true:=zR λj h=>c j ow h;exact au
def d7(a b:List UInt8):Int:=if VN a b=true then -1 else if a==b then 0 else 1
def Mm(a:List UInt8)(g:Heap):zE prog 109 [.str a] g λr h'=>h'=g/\r=.bool false:=by
 have b:(a==a)=true:=jS;refine zo zGo ?_;simp only[f109,zA];exact au
def Rz(a b:List UInt8)(g:Heap):zE prog 62 [.str a,.str b] g λr h'=>h'=g/\r=.int .i64 (d7 a b):=by
 have ca:=Mm a;have cb:=Mm b;refine zo zPP ?_;simp only[f62,zA];cases h1:VN a b with
 |true=>
  have e:d7 a b= -1:=ip h1
  repeat' first|simp only[go_sem, *]|apply bc<;>intro d|refine zE.use (ca _) ?_|refine zE.use (cb _) ?_
 |false=>
  cases c:(a==b)with
  |true=>
   have e:d7 a b=0:=by rw[d7,iq (by rw[h1];exact zV),ip c]
   repeat' first|simp only[go_sem, *]|apply bc<;>intro d|refine zE.use (ca _) ?_|refine zE.use (cb _) ?_
  |false=>
   have e:d7 a b=1:=by rw[d7,iq (by rw[h1];exact zV),iq (by rw[c];exact zV)]
   repeat' first|simp only[go_sem, *]|apply bc<;>intro d|refine zE.use (ca _) ?_|refine zE.use (cb _) ?_
abbrev KN:=List (List UInt8×Int)
def knD(m:KN):List (D×D):=m.map λp=>(.str p.1,.int .i64 p.2)
def cC(k:List UInt8):KN->Option Int
 | []=>none
 |(k',v)::m=>if k==k' then some v else cC k m
def VX(k:List UInt8)(v:Int):KN->KN
 | []=>[(k,v)]
 |(k',v')::m=>if k==k' then(k,v)::m else(k',v')::VX k v m
def XB(p:List UInt8×Int)(m:KN):knD (p::m)=(.str p.1,.int .i64 p.2)::knD m:=rfl
theorem Tn(k:List UInt8):∀m:KN,kQ [.s] (.str k) (knD m)=some ((cC k m).map (D.int .i64))
 | []=>rfl
 |(k',v)::m=>by
  have a:=Tn k m;rw[XB,kQ,fH];cases h:(k==k')with
  |true=>simp[cC,h]
  |false=>simp only[cC,h,a];rfl
theorem Hi(k:List UInt8)(v:Int):∀m:KN,LY [.s] (.str k) (.int .i64 v) (knD m)=some (knD (VX k v m))
 | []=>rfl
 |(k',b)::m=>by
  have a:=Hi k v m;rw[XB,LY,fH];cases h:(k==k')with
  |true=>simp[VX,h,XB]
  |false=>simp[VX,h,XB,a]
def Qs(m:KN):(knD m).all (λx=>yz false x.1)=true:=by
 rw[zb];intro x a;obtain⟨p,_,rfl⟩:=zN.1 a;rfl
theorem Qt(k k':List UInt8)(v:Int):∀m:KN,cC k (VX k' v m)=if k==k' then some v else cC k m
 | []=>by simp[VX,cC]
 |(k2,c)::m=>by
  have b:=Qt k k' v m;simp only[VX];by_cases h:k'=k2
  .subst h
   simp only[po,qK,cC];by_cases g:k=k'
   .subst g;simp
   .simp[g]
  .have a:(k'==k2)=false:=by simp[h]
   simp only[a,zf,yr,cC,b];by_cases g:k=k2
   .subst g
    have:(k==k')=false:=by simp;exact λe=>h e.symm
    simp[this]
   .simp[g]
section
variable{P:Program}{t kt e:TypeId}{id:Nat}{h:Heap}{m:KN}
def Uu(a:h.at' id=some (.map (knD m)))(c:No P t=some (kt,e))(b:LH P kt=some (false,[.s]))(d:uw P e=some (.int .i64 0))(k:List UInt8)(ok:Bool):
  uW P t (.map id) (.str k) ok h=some (gO ok (.int .i64 0) ((cC k m).map (D.int .i64))):=by
 simp only[uW,c,b,d,VZ,a,fw,Qs,fH,Tn,show yz false (.str k)=true from rfl,sF,wt,qK]
def RX(a:h.at' id=some (.map (knD m)))(c:No P t=some (kt,e))(b:LH P kt=some (false,[.s]))(k:List UInt8)(v:Int):
  uH P t (.map id) (.str k) (.int .i64 v) h=some (h.set id (.map (knD (VX k v m)))):=by
 simp only[uH,c,b,a,Qs,fH,Tn,Hi,show yz false (.str k)=true from rfl,sF,wt,qK]
end
structure Lic where
 name:List UInt8
 fam:List UInt8
 ver:Int
 text:List UInt8
def Lic.cells(l:Lic):List D:=[.str l.name,.str l.fam,.int .i64 l.ver,.str l.text]
def gU(l:List Lic):List (List D):=l.map Lic.cells
def lI(l:List Lic):(gU l).length=l.length:=zH ..
def LN{l:List Lic}(h:i<l.length):(gU l)[i]? =some l[i].cells:=by simp[gU,h]
def Lic.Sm(l:Lic):Prop:=l.name.length<=1048576/\l.fam.length<=1048576/\l.text.length<=1048576
def rV{l:List Lic}(a:yg 4 (gU l) d)(h:Heap):o5 prog 22 d h=some (.int .i64 l.length):=by rw[wL a underlying22,lI]
def p0{l:List Lic}(a:yg 4 (gU l) d)(b:i<l.length):yj prog 22 d (.int .i64 (i:Int))=some (.iptr l[i].cells 0):=yW a aB j8 (LN b)
abbrev ZT:List D:=[.str [],.str [],.int .i64 0,.str []]
def gL(x:Lic)(h:Heap)(id:Nat):yR prog 117 (.ptr id 0) (.agg [.str x.name,.str x.fam,.int .i64 x.ver,.str x.text]) (h.new id (.row ZT))=some (h.new id (.row [.str x.name,.str x.fam,.int .i64 x.ver,.str x.text])):=yo j8 ow rfl rfl rfl
def zBe{l:List Lic}(c:yg 4 (gU l) d)(b:i<l.length):∃a,(∀h,ww prog 22 d none (some (.int .i64 (i:Int))) none h=some a)/\yg 4 (gU (l.take i)) a:=by
 rcases c with⟨rfl,f⟩ | ⟨tk,rfl⟩
 .have e:l= []:=ue.1 f
  subst e;simp at b
 .refine⟨.sl 4 ((gU l).take i) (NV i (gU l).length tk),λh=> ?_,?_⟩
  .simp[ww,zAH,dC,aB,j8,rT,V8,Ri,lI,Nat.le_of_lt b]
  .simp_all [gU,jZ,yg.mk]
def XF(l:List Lic)(i:Nat)(x:Lic):Bool:=(l.take i).any λy=>y.fam==x.fam&&y.ver==x.ver
def aQ(l:List Lic)(i:Nat)(x:Lic):Int:=
 if(!nP x.name|| !nP x.fam)=true then 2
 else if x.ver<0\/x.ver>999 then 3
 else if x.text.length>4096\/(UG x.text).length>999 then 10
 else if x.text.any j9=true then 4
 else if 0<i/\leB x.name ((l.map Lic.name).getD (i-1) [])=true then 5
 else if XF l i x=true then 6 else 0
theorem VS{l:List Lic}(hd:yg 4 (gU l) d)(hl:l.length<=1048576)(hs:∀x∈l,x.Sm)(hi:i<l.length)(g:Heap):
  zE prog 115 [d,.int .i64 (i:Int)] g λr h'=>h'=g/\r=.int .i64 (aQ l i l[i]):=by
 refine xU kr λb0=> ?_;have U:=hs _ (zI hi);have a6:=p0 hd hi;have bk:=rV hd;have bb:∀k:Int,below g.next (.int .i64 k):=λk=>trivial;generalize hx:l[i]=x at *
 obtain⟨w,f,n,b⟩:=x;have ag:=gL ⟨w,f,n,b⟩;simp only[Lic.cells]at a6 ag;have T:=(Ext.refl g).new (zD _) (.row [.str w,.str f,.int .i64 n,.str b]);have D:=Xg (s:=w) U.1;have E:=Xg (s:=f) U.2.1;have aj:=Kl (s:=b) U.2.2;refine zo zGr ?_;simp only[f115,zA];obtain⟨R,o⟩:∃R,aQ l i ⟨w,f,n,b⟩ =R:=⟨_,rfl⟩;rw[o];unfold aQ at o;simp only at o;cases n1:nP w with
 |false=>
  rw[ip (by rw[n1];rfl)]at o;subst o
  repeat' first|simp only[go_sem,z5, *]|apply bc<;>intro t|refine zE.use (D _) ?_|refine zE.use (E _) ?_
 |true=>
 cases n2:nP f with
 |false=>
  rw[ip (by rw[n1,n2];rfl)]at o;subst o
  repeat' first|simp only[go_sem,z5, *]|apply bc<;>intro t|refine zE.use (D _) ?_|refine zE.use (E _) ?_
 |true=>
 rw[iq (by rw[n1,n2];decide)]at o;cases v1:decide (n<0)with
 |true=>
  rw[ip (.inl (yB v1))]at o;subst o
  repeat' first|simp only[go_sem,z5, *]|apply bc<;>intro t|refine zE.use (D _) ?_|refine zE.use (E _) ?_
 |false=>
 cases v2:decide (n>999)with
 |true=>
  rw[ip (.inr (yB v2))]at o;subst o
  repeat' first|simp only[go_sem,z5, *]|apply bc<;>intro t|refine zE.use (D _) ?_|refine zE.use (E _) ?_
 |false=>
 rw[iq (λq=>q.elim (yJ v1) (yJ v2))]at o;cases t1:decide ((b.length:Int)>4096)with
 |true=>
  have a9:=yB t1;rw[ip (.inl ow)]at o;subst o
  repeat' first|simp only[go_sem,z5, *]|apply bc<;>intro t|refine zE.use (D _) ?_|refine zE.use (E _) ?_
 |false=>
 have a9:=yJ t1;cases t2:decide (((UG b).length:Int)>999)with
 |true=>
  have ba:=yB t2;rw[ip (.inr ow)]at o;subst o
  repeat' first|simp only[go_sem,z5,wU hr.isSl, *]|simp only[go_sem,z5, *]|apply bc<;>intro t|refine zE.use (D _) ?_|refine zE.use (E _) ?_|(refine zE.mono (aj _) ?_;rintro r h ⟨rfl,hr⟩)
 |false=>
 have ba:=yJ t2;rw[iq ow]at o;have bx:=K6 b;have bs:∀h,o5 prog 255 (.sl 1 (YQ b) .no) h=some (.int .i64 b.length):=λh=>by rw[wL (yg.mk .no) underlying255,TB]
 repeat' first|simp only[go_sem,z5,wU hr.isSl, *]|simp only[go_sem,z5, *]|apply bc<;>intro t|refine zE.use (D _) ?_|refine zE.use (E _) ?_|(refine zE.mono (aj _) ?_;rintro r h ⟨rfl,hr⟩)
 rename Fin 1 (wh (UG b)) _=>hr
 obtain⟨H,hH,a,G,B⟩:∃H,g.new g.next (.row [.str w,.str f,.int .i64 n,.str b])=H/\H.at' g.next=some (.row [.str w,.str f,.int .i64 n,.str b])/\Ext g H/\H.next=g.next+1:=⟨_,rfl,z5 _ _ _,T,za _ _⟩;rw[hH];have a8:=U.2.2;simp only at a8;have a0:∀k (hk:k<b.length),j9 b[k]=true->R=4:=λk hk C=>by
  rw[ip (qF.2 ⟨_,zI hk,C⟩)]at o;exact o.symm
 refine zZ (λk fr h=>fr 0=d/\fr 1=.int .i64 (i:Int)/\fr 5=.ptr g.next 0/\fr 48=.sl 1 (YQ b) .no/\fr 49=.int .i64 (b.length:Int)/\fr 50=.int .i64 (k:Int)/\h=H/\∀j (I:j<b.length),j<k->j9 b[j]=false) b.length ow ?_ ?_ ?_
 .simp only[go_sem,zQ,zT,zG]
  exact λj I h0=>by omega
 .rintro k fr h Q e1 ew ⟨f0,f1,O,M,N,P,rfl,I⟩
  have a1:yj prog 255 (.sl 1 (YQ b) .no) (.int .i64 (k:Int))=some (.iptr [.int .u8 (b[k].toNat:Int)] 0):=yW (yg.mk .no) I7 zNL (Kg Q);have tb:j9 b[k]=(!((b[k].toNat:Int)==10)&&(decide ((b[k].toNat:Int)<32)||decide ((b[k].toNat:Int)>126))):=rfl;have v:=a0 k Q;have c:=λC=>uq (p:=j9) (l:=b) Q I C;generalize(b[k].toNat:Int)=y at *
  generalize j9 b[k]=b5 at *
  cases K:(y==10)with
  |true=>
   have u:=c (by rw[tb,K];rfl)
   repeat' first|simp only[go_sem, *]|apply bc<;>intro t
   exact u
  |false=>
   cases S:decide (y<32)with
   |true=>
    have u:=v (by rw[tb,K,S];rfl);subst u
    repeat' first|simp only[go_sem, *]|apply bc<;>intro t
   |false=>
    cases b3:decide (y>126)with
    |true=>
     have u:=v (by rw[tb,K,S,b3];rfl);subst u
     repeat' first|simp only[go_sem, *]|apply bc<;>intro t
    |false=>
     have u:=c (by rw[tb,K,S,b3];rfl)
     repeat' first|simp only[go_sem, *]|apply bc<;>intro t
     exact u
 .rintro fr h e1 ⟨f0,f1,O,M,N,P,rfl,I⟩
  have A:¬b.any j9=true:=by
   rw[cL λj J _=>I j J J];exact zV
  rw[iq A]at o;have Z:i<=l.length:=ow;obtain⟨d',b4,Y⟩:=zBe hd hi;have ad:=rV Y;rw[yK,oU Z]at ad;have ai:(0<i/\leB w ((l.map Lic.name).getD (i-1) [])=true->R=5)/\(¬(0<i/\leB w ((l.map Lic.name).getD (i-1) [])=true)->R=if XF l i ⟨w,f,n,b⟩ =true then 6 else 0):=by
   refine⟨λq=> ?_,λq=> ?_⟩
   .rw[ip q]at o;exact o.symm
   .rw[iq q]at o;exact o.symm
  have ak:¬(0<i/\leB w ((l.map Lic.name).getD (i-1) [])=true)->R=if(l.take i).any (λy=>y.fam==f&&y.ver==n)=true then 6 else 0:=ai.2
  have bo:∀{fr:Frm}{k:Heap},R=(if XF l i ⟨w,f,n,b⟩ =true then 6 else 0)->True:=λ_=>trivial
  have tw:∀L:List Lic,L=l.take i->XF l i ⟨w,f,n,b⟩ =L.any λy=>y.fam==f&&y.ver==n:=λL e=>by rw[e];rfl
  by_cases h0:0<i
  .have e0:decide ((i:Int)>0)=true:=zR ow
   have ew:IntKind.i64.wrap ((i:Int)-1)=((i-1:Nat):Int):=by rw[qJ ow ow];omega
   have a2:=p0 hd (show i-1<l.length by omega);simp only[Lic.cells]at a2;have gn:(l.map Lic.name).getD (i-1) []=(l[i-1]'ow).name:=by simp[show i-1<l.length by omega]
   have a3:=ZN w (l[i-1]'ow).name;rw[gn]at ai;by_cases C:leB w (l[i-1]'ow).name=true
   .have u:=ai.1 ⟨h0,C⟩
    subst u
    repeat' first|simp only[go_sem, *]|apply bc<;>intro t
    refine yF kr ?_;exact au
   have C:leB w (l[i-1]'ow).name=false:=by simpa using C
   have z:=(ak (λq=>by rw[gn,C]at q;exact zV q.2)).symm
   repeat' first|simp only[go_sem, *]|apply bc<;>intro t
   refine yF kr ?_
   repeat' first|simp only[go_sem, *]|apply bc<;>intro t
   generalize hL:l.take i=L at *
   have a5:L.length=i:=by rw[<-hL,yK,oU Z]
   refine zZ (λj fr h=>fr 5=.ptr g.next 0/\fr 80=d'/\fr 81=.int .i64 (i:Int)/\fr 82=.int .i64 (j:Int)/\h.at' g.next=some (.row [.str w,.str f,.int .i64 n,.str b])/\Ext g h/\g.next<h.next/\∀m (hm:m<L.length),m<j->(L[m].fam==f&&L[m].ver==n)=false) i ow ?_ ?_ ?_
   .simp only[go_sem,zQ,zT,zG]
    exact⟨O,a,G,ow,λm hm h0=>by omega⟩
   .clear f0 f1 O M N P a G B e1
    rintro j fr h Q e1 ew ⟨O,V,W,X,a,T,B,I⟩;have F:j<L.length:=ow;have a1:=p0 Y F;have ag:=gL L[j] h h.next;have hk:(h.new h.next (.row [.str L[j].name,.str L[j].fam,.int .i64 L[j].ver,.str L[j].text])).at' g.next=some (.row [.str w,.str f,.int .i64 n,.str b]):=by rw[zg ow];exact a
    have a4:=T.new T.1 (.row [.str L[j].name,.str L[j].fam,.int .i64 L[j].ver,.str L[j].text]);have a7:g.next<(h.new h.next (.row [.str L[j].name,.str L[j].fam,.int .i64 L[j].ver,.str L[j].text])).next:=by rw[za];omega
    have c:=λC=>uq (p:=λy:Lic=>y.fam==f&&y.ver==n) (l:=L) F I C;have v:(L[j].fam==f&&L[j].ver==n)=true->R=6:=λC=>by
     rw[ip (qF.2 ⟨_,zI F,C⟩)]at z;exact z.symm
    simp only[Lic.cells]at a1;cases K:(L[j].fam==f)with
    |false=>
     have u:=c (by simp only[K,wR])
     repeat' first|simp only[go_sem,z5, *]|apply bc<;>intro t
     exact λm hm h=>u m ow h
    |true=>
     cases S:(L[j].ver==n)with
     |false=>
      have u:=c (by simp only[K,S,pZ])
      repeat' first|simp only[go_sem,z5, *]|apply bc<;>intro t
      exact λm hm h=>u m ow h
     |true=>
      have u:=v (by simp only[K,S,wt]);subst u
      repeat' first|simp only[go_sem,z5, *]|apply bc<;>intro t
   .clear f0 f1 O M N P a G B e1
    rintro fr h e1 ⟨O,V,W,X,a,T,B,I⟩;have A:¬(L.any λy=>y.fam==f&&y.ver==n)=true:=by
     rw[cL λj J _=>I j J ow];exact zV
    rw[iq A]at z;subst z;exact au
  .have e0:decide ((i:Int)>0)=false:=zO ow
   have z:=(ak (λq=>h0 q.1)).symm
   repeat' first|simp only[go_sem, *]|apply bc<;>intro t
   refine yF kr ?_
   repeat' first|simp only[go_sem, *]|apply bc<;>intro t
   generalize hL:l.take i=L at *
   have a5:L.length=i:=by rw[<-hL,yK,oU Z]
   refine zZ (λj fr h=>fr 5=.ptr g.next 0/\fr 80=d'/\fr 81=.int .i64 (i:Int)/\fr 82=.int .i64 (j:Int)/\h.at' g.next=some (.row [.str w,.str f,.int .i64 n,.str b])/\Ext g h/\g.next<h.next/\∀m (hm:m<L.length),m<j->(L[m].fam==f&&L[m].ver==n)=false) i ow ?_ ?_ ?_
   .simp only[go_sem,zQ,zT,zG]
    exact⟨O,a,G,ow,λm hm h0=>by omega⟩
   .clear f0 f1 O M N P a G B e1
    rintro j fr h Q e1 ew ⟨O,V,W,X,a,T,B,I⟩;have F:j<L.length:=ow;have a1:=p0 Y F;have ag:=gL L[j] h h.next;have hk:(h.new h.next (.row [.str L[j].name,.str L[j].fam,.int .i64 L[j].ver,.str L[j].text])).at' g.next=some (.row [.str w,.str f,.int .i64 n,.str b]):=by rw[zg ow];exact a
    have a4:=T.new T.1 (.row [.str L[j].name,.str L[j].fam,.int .i64 L[j].ver,.str L[j].text]);have a7:g.next<(h.new h.next (.row [.str L[j].name,.str L[j].fam,.int .i64 L[j].ver,.str L[j].text])).next:=by rw[za];omega
    have c:=λC=>uq (p:=λy:Lic=>y.fam==f&&y.ver==n) (l:=L) F I C;have v:(L[j].fam==f&&L[j].ver==n)=true->R=6:=λC=>by
     rw[ip (qF.2 ⟨_,zI F,C⟩)]at z;exact z.symm
    simp only[Lic.cells]at a1;cases K:(L[j].fam==f)with
    |false=>
     have u:=c (by simp only[K,wR])
     repeat' first|simp only[go_sem,z5, *]|apply bc<;>intro t
     exact λm hm h=>u m ow h
    |true=>
     cases S:(L[j].ver==n)with
     |false=>
      have u:=c (by simp only[K,S,pZ])
      repeat' first|simp only[go_sem,z5, *]|apply bc<;>intro t
      exact λm hm h=>u m ow h
     |true=>
      have u:=v (by simp only[K,S,wt]);subst u
      repeat' first|simp only[go_sem,z5, *]|apply bc<;>intro t
   .clear f0 f1 O M N P a G B e1
    rintro fr h e1 ⟨O,V,W,X,a,T,B,I⟩;have A:¬(L.any λy=>y.fam==f&&y.ver==n)=true:=by
     rw[cL λj J _=>I j J ow];exact zV
    rw[iq A]at z;subst z;exact au
def Y7{α:Type}(p:α->Bool)(l:List α):Int:=match l.findIdx? p with
 |some i=>(i:Int)
 |none=> -1
def fJ{l:List α}{p:α->Bool} :decide (Y7 p l>=0)=l.any p:=by
 rw[<-Zi];rfl
def kL{l:List α}{p:α->Bool}(c:i<l.length)(b:∀j (b:j<l.length),j<i->p l[j]=false)(d:p l[i]=true):Y7 p l=(i:Int):=by
 have:l.findIdx? p=some i:=by
  rw[qi];exact⟨c,d,λj a=>by rw[b j ow a];exact zV⟩
 simp only[Y7,this]
def kM{l:List α}{p:α->Bool}(b:∀j (b:j<l.length),p l[j]=false):Y7 p l= -1:=by
 have:l.findIdx? p=none:=by
  rw[wq];intro n c;obtain⟨j,a,rfl⟩:=zy.1 c;exact b j a
 simp only[Y7,this]
def R4{l:List Int}(n:yg 1 (wC l) d)(C:l.length<=1048576){p:Int->Bool}(y:∀s∈l,∀h,zE prog f ([]++ [.int .i64 s]++cap) h λr h'=>h'=h/\r=.bool (p s))(g:Heap):
  zE prog 86 [d,.fn (.func f) [] cap] g λr h'=>h'=g/\r=.int .i64 (Y7 p l):=by
 have o:=tr n;refine zo zJq ?_;simp only[f86,zA]
 repeat' first|simp only[go_sem, *]|apply bc<;>intro m
 refine zZ (λi fr h=>fr 1=.fn (.func f) [] cap/\fr 0=d/\fr 6=d/\fr 7=.int .i64 (l.length:Int)/\fr 8=.int .i64 (i:Int)/\h=g/\∀j (b:j<l.length),j<i->p l[j]=false) l.length ow ?_ ?_ ?_
 .simp only[go_sem,zQ,zT,zG]
  exact λj b h0=>by omega
 .rintro i fr h a e1 B ⟨t,q,u,v,w,rfl,b⟩
  have A:=oe n a;have e:=y _ (zI a);simp only[yL,zq]at e;cases k:p l[i]with
  |true=>
   have z:=kL a b k;rw[k]at e
   repeat' first|simp only[go_sem, *]|apply bc<;>intro m|refine zE.use (e _) ?_
  |false=>
   have x:=uq (p:=p) a b k;rw[k]at e
   repeat' first|simp only[go_sem, *]|apply bc<;>intro m|refine zE.use (e _) ?_
   exact x
 .rintro fr h e1 ⟨t,q,u,v,w,rfl,b⟩
  have z:=kM (p:=p) λj c=>b j c c;exact au
def Xi{l:List Int}(b:yg 1 (wC l) d)(e:l.length<=1048576){p:Int->Bool}(i:∀s∈l,∀h,zE prog f ([]++ [.int .i64 s]++cap) h λr h'=>h'=h/\r=.bool (p s))(g:Heap):
  zE prog 40 [d,.fn (.func f) [] cap] g λr h'=>h'=g/\r=.bool (l.any p):=by
 have a:=R4 b e i;have c:=fJ (l:=l) (p:=p);refine zo zM2 ?_;simp only[f40,zA]
 repeat' first|simp only[go_sem, *]|apply bc<;>intro j|refine zE.use (a _) ?_
def zD8(n:Int)(g:Heap):zE prog 178 [.int .i64 n] g λr h'=>h'=g/\r=.bool (!(decide (n>=0)&&decide (n<=5))):=by
 have a:=Ml n;refine zo zLx ?_;simp only[f178,zA]
 repeat' first|simp only[go_sem, *]|apply bc<;>intro b|refine zE.use (a _) ?_
def Qk(l:List Lic):Nat->KN
 |0=>[]
 |i+1=>VX ((l.map Lic.name).getD i []) (i:Int) (Qk l i)
def Vv{l:List Lic}{d e1 e2 e3:D}(o:yg 4 (gU l) d)(J:l.length<=1048576)(g:Heap):
  zE prog 116 [.agg [d,e1,e2,e3]] g λr h'=>∃id,r=.map id/\g.next<=id/\id<h'.next/\h'.at' id=some (.map (knD (Qk l l.length)))/\Ext g h':=by
 have z:=rV o;refine zo zGs ?_;simp only[f116,zA];simp only[go_sem, *];obtain⟨H,x,c,b,e⟩:∃H,g.new g.next (.map [])=H/\H.at' g.next=some (.map (knD (Qk l 0)))/\Ext g H/\g.next<H.next:=⟨_,rfl,z5 _ _ _,(Ext.refl g).new (zD _) _,by rw[za];omega⟩;rw[x];clear x;refine zZ (λi fr h=>fr 3=.map g.next/\fr 8=d/\fr 9=.int .i64 (l.length:Int)/\fr 10=.int .i64 (i:Int)/\h.at' g.next=some (.map (knD (Qk l i)))/\Ext g h/\g.next<h.next) l.length ow ?_ ?_ ?_
 .simp only[go_sem,zQ,zT,zG]
  exact⟨c,b,e⟩
 .clear c b e
  rintro i fr h j e1 I ⟨B,C,E,p,k,f,s⟩;have A:=p0 o j;have u:=gL l[i] h h.next;have m:(l.map Lic.name).getD i []=l[i].name:=by simp[j]
  simp only[Lic.cells]at A;obtain⟨a,q,m2,r2,w,F⟩:∃a,h.new h.next (.row [.str l[i].name,.str l[i].fam,.int .i64 l[i].ver,.str l[i].text])=a/\a.at' g.next=some (.map (knD (Qk l i)))/\a.at' h.next=some (.row [.str l[i].name,.str l[i].fam,.int .i64 l[i].ver,.str l[i].text])/\Ext g a/\g.next<a.next:=
   ⟨_,rfl,by rw[zg ow];exact k,z5 _ _ _,f.new f.1 _,by rw[za];omega⟩
  rw[q]at u;have v:=RX (P:=prog) (t:=189) m2 Tj Qo l[i].name (i:Int);have n:VX l[i].name (i:Int) (Qk l i)=Qk l (i+1):=by rw[Qk,m]
  rw[n]at v;have m3:=zU a g.next (.map (knD (Qk l (i+1))));have G:=w.set (id:=g.next) (zD _) (.map (knD (Qk l (i+1))));have K:g.next<(a.set g.next (.map (knD (Qk l (i+1))))).next:=F;clear k f m n o w;exact au
 .clear c b e
  rintro fr h e1 ⟨B,C,E,p,k,f,s⟩;have y:∃id,D.map g.next=.map id/\g.next<=id/\id<h.next/\h.at' id=some (.map (knD (Qk l l.length)))/\Ext g h:=⟨_,rfl,zD _,s,k,f⟩;clear k f s o;exact au
structure Exc where
 name:List UInt8
 lic:List UInt8
 lifts:List Int
 d:D
def Exc.cells(l:Exc):List D:=[.str l.name,.str l.lic,l.d]
def Exc.Ok(l:Exc):Prop:=yg 1 (wC l.lifts) l.d/\l.lifts.length<=1048576/\l.name.length<=1048576
def zA7(l:List Exc):List (List D):=l.map Exc.cells
def Nb(l:List Exc):(zA7 l).length=l.length:=zH ..
def Eh{l:List Exc}(h:i<l.length):(zA7 l)[i]? =some l[i].cells:=by simp[zA7,h]
def dc{l:List Exc}(a:yg 3 (zA7 l) d)(h:Heap):o5 prog 23 d h=some (.int .i64 l.length):=by rw[wL a underlying23,Nb]
def bA{l:List Exc}(a:yg 3 (zA7 l) d)(b:i<l.length):yj prog 23 d (.int .i64 (i:Int))=some (.iptr l[i].cells 0):=yW a Ee W8 (Eh b)
structure Cla where
 lic:List UInt8
 way:Int
 rel:Int
 duty:Int
 list:List (List UInt8)
 d:D
def Cla.cells(l:Cla):List D:=[.str l.lic,.int .i64 l.way,.int .i64 l.rel,.int .i64 l.duty,l.d]
def Cla.Ok(l:Cla):Prop:=yg 1 (wh l.list) l.d/\l.list.length<=1048576
def QP(l:List Cla):List (List D):=l.map Cla.cells
def bB(l:List Cla):(QP l).length=l.length:=zH ..
def Eb{l:List Cla}(h:i<l.length):(QP l)[i]? =some l[i].cells:=by simp[QP,h]
def ju{l:List Cla}(a:yg 5 (QP l) d)(h:Heap):o5 prog 24 d h=some (.int .i64 l.length):=by rw[wL a underlying24,bB]
def gy{l:List Cla}(a:yg 5 (QP l) d)(b:i<l.length):yj prog 24 d (.int .i64 (i:Int))=some (.iptr l[i].cells 0):=yW a TP fi (Eb b)
structure Apt where
 a:List UInt8
 b:List UInt8
def Apt.cells(l:Apt):List D:=[.str l.a,.str l.b]
def Fq(l:List Apt):List (List D):=l.map Apt.cells
def Pz(l:List Apt):(Fq l).length=l.length:=zH ..
def Fs{l:List Apt}(h:i<l.length):(Fq l)[i]? =some l[i].cells:=by simp[Fq,h]
def aO{l:List Apt}(a:yg 2 (Fq l) d)(h:Heap):o5 prog 25 d h=some (.int .i64 l.length):=by rw[wL a underlying25,Pz]
def Za{l:List Apt}(a:yg 2 (Fq l) d)(b:i<l.length):yj prog 25 d (.int .i64 (i:Int))=some (.iptr l[i].cells 0):=yW a Ef RM (Fs b)
def I3(a b:Cla):Int:=orL [d7 a.lic b.lic,tD a.way b.way,tD a.rel b.rel,tD a.duty b.duty]
def I2(a b:Apt):Int:=orL [d7 a.a b.a,d7 a.b b.b]
def zJ6(a b:Int)(nid:Nat)(h:Heap):yA prog false nid 30 2 [(0,.int .i64 a),(1,.int .i64 b)] h=some (.sl 1 (wC [a,b]) .full,h):=by
 simp[yA,qS,s8,uz,ma,D.notTuple,D.cells,wP,uc,wg,wC]
def zQU(a b c e:Int)(nid:Nat)(h:Heap):yA prog false nid 30 4 [(0,.int .i64 a),(1,.int .i64 b),(2,.int .i64 c),(3,.int .i64 e)] h=some (.sl 1 (wC [a,b,c,e]) .full,h):=by
 simp[yA,qS,s8,uz,ma,D.notTuple,D.cells,wP,uc,wg,wC]
def VV(a b:Apt)(g:Heap):zE prog 68 [.agg a.cells,.agg b.cells] g λr h'=>h'=g/\r=.int .i64 (I2 a b):=by
 have h1:=Rz a.a b.a;have f:=Rz a.b b.b;have h3:=zED (l:=[d7 a.a b.a,d7 a.b b.b]) (yg.mk .full) jS;have hr:=λnid=>zJ6 (d7 a.a b.a) (d7 a.b b.b) nid;have c:orL [d7 a.a b.a,d7 a.b b.b]=I2 a b:=rfl;rw[c]at h3;have d:∀h:Heap,HLe Heap.emp h:=λh i j e=>by cases e
 refine zo zQM ?_;simp only[f68,zA];simp only[Apt.cells]
 repeat' first|simp only[go_sem, *]|apply bc<;>intro c
 refine yp Heap.emp (pwt [0,1,2,3,5] ((6,.st,true)::(pwt [7] ((8,.st,true)::(pwt [4,9,10,11,12] []))))) kr kr (λi j e=>by cases e) ?_
 repeat' first|simp only[go_sem, *]|apply bc<;>intro c|refine zE.use (h1 _) ?_|refine zE.use (f _) ?_|refine zE.use (h3 _) ?_
def Ys(a b:Cla)(g:Heap):zE prog 66 [.agg a.cells,.agg b.cells] g λr h'=>h'=g/\r=.int .i64 (I3 a b):=by
 have h1:=Rz a.lic b.lic;have f:=Xh a.way b.way;have j:=Xh a.rel b.rel;have h5:=Xh a.duty b.duty;have h3:=zED (l:=[d7 a.lic b.lic,tD a.way b.way,tD a.rel b.rel,tD a.duty b.duty]) (yg.mk .full) jS;have hr:=λnid=>zQU (d7 a.lic b.lic) (tD a.way b.way) (tD a.rel b.rel) (tD a.duty b.duty) nid;have c:orL [d7 a.lic b.lic,tD a.way b.way,tD a.rel b.rel,tD a.duty b.duty]=I3 a b:=rfl;rw[c]at h3;have d:∀h:Heap,HLe Heap.emp h:=λh i k e=>by cases e
 refine zo zQK ?_;simp only[f66,zA];simp only[Cla.cells]
 repeat' first|simp only[go_sem, *]|apply bc<;>intro c
 refine yp Heap.emp (pwt [0,1,2,3,5] ((6,.st,true)::(pwt [7] ((8,.st,true)::(pwt [10] ((11,.st,true)::(pwt [12] ((13,.st,true)::(pwt [15] ((16,.st,true)::(pwt [17] ((18,.st,true)::(pwt [4,9,14,19,20,21,22] []))))))))))))) kr kr (λi k e=>by cases e) ?_
 repeat' first|simp only[go_sem, *]|apply bc<;>intro c|refine zE.use (h1 _) ?_|refine zE.use (f _) ?_|refine zE.use (h3 _) ?_|refine zE.use (j _) ?_|refine zE.use (h5 _) ?_
def kP(a:yg sz xs d):d.flat=true:=by rcases a with⟨rfl,_⟩ | ⟨tk,rfl⟩ <;>rfl
def gT(m:KN)(k:List UInt8):Bool:=(cC k m).isSome
variable{id:Nat}{h:Heap}
def Tg{m:KN}(a:h.at' id=some (.map (knD m)))(k:List UInt8):∃v,uW prog 189 (.map id) (.str k) true h=some (.tuple [.int .i64 v,.bool (gT m k)]):=by
 have:=Uu (P:=prog) (t:=189) a Tj Qo s8 k true;rw[this];unfold gT;cases cC k m with
 |none=>exact⟨0,rfl⟩
 |some v=>exact⟨v,rfl⟩
def YX(m:KN)(l:List Exc)(i:Nat)(x:Exc):Int:=
 if(!nP x.name)=true then 2
 else if(!gT m x.lic)=true then 7
 else if(x.lifts.any λn=> !(decide (n>=0)&&decide (n<=5)))=true then 3
 else if(((x.lifts.length:Int)==0)||(!Lr x.lifts||(decide ((i:Int)>0)&&leB x.name ((l.map Exc.name).getD (i-1) []))))=true then 5 else 0
def Yr{l:List Exc}(F:yg 3 (zA7 l) d)(V:l.length<=1048576)(Q:∀x∈l,x.Ok)(G:i<l.length){m:KN}(t:g.at' id=some (.map (knD m))):
  zE prog 117 [d,.int .i64 (i:Int),.map id] g λr h'=>h'=g/\r=.int .i64 (YX m l i l[i]):=by
 refine xU kr λw=> ?_;have P:id<g.next:=by
  by_cases h:id<g.next
  .exact h
  .rw[w id ow]at t;cases t
 obtain⟨o1,o2,T⟩:=Q _ (zI G);have q:=bA F G;have E:∀k:Int,below g.next (.int .i64 k):=λk=>trivial;have S:∀a b c:D,yQ true 3 [a,b,c] 0=some (.agg [a,b,c]):=λa b c=>zJ rfl ow;have B:=Xg T;have C:=Xi o1 o2 (f:=178) (cap:=[]) λn _ h=>zD8 n h;have o:=R1 o1 o2;have O:=tr o1;have e:i-1<l.length:=ow;obtain⟨R,j⟩:∃R,YX m l i l[i]=R:=⟨_,rfl⟩;rw[j];unfold YX at j;have z:(l.map Exc.name).getD (i-1) []=(l[i-1]'e).name:=by simp[e]
 have p:=bA F e;have M:=ZN l[i].name (l[i-1]'e).name;rw[z]at j;generalize l[i]=x at *
 simp only[Exc.cells]at q p;have A:yR prog 122 (.ptr g.next 0) (.agg [.str x.name,.str x.lic,x.d]) (g.new g.next (.row [.str [],.str [],.nilsl]))=some (g.new g.next (.row [.str x.name,.str x.lic,x.d])):=yo W8 ow rfl rfl (by show(true&&(true&&(x.d.flat&&true)))=true;rw[kP o1];rfl);obtain⟨H,L,I,K,u⟩:∃H,g.new g.next (.row [.str x.name,.str x.lic,x.d])=H/\H.at' g.next=some (.row [.str x.name,.str x.lic,x.d])/\Ext g H/\H.at' id=some (.map (knD m)):=⟨_,rfl,z5 _ _ _,(Ext.refl g).new (zD _) _,by rw[zg ow];exact t⟩;rw[L]at A;obtain⟨v,N⟩:=Tg u x.lic;refine zo zLd ?_;simp only[f117,zA]
 by_cases h0:0<i
 .have J:decide ((i:Int)>0)=true:=zR ow
  have U:IntKind.i64.wrap ((i:Int)-1)=((i-1:Nat):Int):=by rw[qJ ow ow];omega
  subst j;generalize l[i-1]=y at *
  repeat' first|simp only[go_sem, *]|apply bc<;>intro s|refine zE.use (B _) ?_|refine zE.use (C _) ?_|refine zE.use (o _) ?_
  all_goals
   refine yF kr ?_
   repeat' first|simp only[go_sem, *]|apply bc<;>intro s|refine zE.use (o _) ?_
 .have J:decide ((i:Int)>0)=false:=zO ow
  subst j
  repeat' first|simp only[go_sem, *]|apply bc<;>intro s|refine zE.use (B _) ?_|refine zE.use (C _) ?_|refine zE.use (o _) ?_
  all_goals
   refine yF kr ?_
   repeat' first|simp only[go_sem, *]|apply bc<;>intro s|refine zE.use (o _) ?_
def Fx(p q c:Bool):jR prog .neq 4 c (.bool p) (.bool q)=some (.bool (p !=q)):=by cases p<;>cases q<;>simp[jR,Da,nD,veq,underlying4]
def YT(m:KN)(l:List Cla)(i:Nat)(x:Cla):Int:=
 if(!gT m x.lic)=true then 7
 else if(decide (x.way<0)||decide (x.way>2)||decide (x.rel<0)||decide (x.rel>2)|| !(decide (x.duty>=0)&&decide (x.duty<=5)))=true then 3
 else if(!(decide ((x.list.length:Int)>0)==(x.duty==4)))=true then 1
 else if(x.list.any λs=> !gT m s)=true then 7
 else if(!Wt x.list||(decide ((i:Int)>0)&&decide (I3 (l.getD (i-1) x) x>=0)))=true then 5 else 0
def TE{l:List Cla}(T:yg 5 (QP l) d)(hl:l.length<=1048576)(hs:∀x∈l,x.Ok)(U:i<l.length){m:KN}(I:g.at' id=some (.map (knD m))):
  zE prog 118 [d,.int .i64 (i:Int),.map id] g λr h'=>h'=g/\r=.int .i64 (YT m l i l[i]):=by
 refine xU kr λK=> ?_;have o:id<g.next:=by
  by_cases h:id<g.next
  .exact h
  .rw[K id ow]at I;cases I
 obtain⟨o1,o2⟩:=hs _ (zI U);have G:=gy T U;have S:∀k:Int,below g.next (.int .i64 k):=λk=>trivial;have ak:∀a b c e f:D,yQ true 5 [a,b,c,e,f] 0=some (.agg [a,b,c,e,f]):=λa b c e f=>zJ rfl ow;have n:i-1<l.length:=ow;have O:=R2 o1 o2;have ai:=wU o1;have aj:=Fx;obtain⟨R,u⟩:∃R,YT m l i l[i]=R:=⟨_,rfl⟩;rw[u];unfold YT at u;have M:∀x,l.getD (i-1) x=l[i-1]'n:=λx=>by simp[n]
 have F:=gy T n;have P:=Ys (l[i-1]'n) l[i];rw[M]at u;generalize l[i]=x at *
 have W:=Ml x.duty;simp only[Cla.cells]at G F P;have N:yR prog 126 (.ptr g.next 0) (.agg [.str x.lic,.int .i64 x.way,.int .i64 x.rel,.int .i64 x.duty,x.d]) (g.new g.next (.row [.str [],.int .i64 0,.int .i64 0,.int .i64 0,.nilsl]))=some (g.new g.next (.row [.str x.lic,.int .i64 x.way,.int .i64 x.rel,.int .i64 x.duty,x.d])):=yo fi ow rfl rfl (by show(true&&(true&&(true&&(true&&(x.d.flat&&true)))))=true;rw[kP o1];rfl)
 obtain⟨H,hH,V,ad,J⟩:∃H,g.new g.next (.row [.str x.lic,.int .i64 x.way,.int .i64 x.rel,.int .i64 x.duty,x.d])=H/\H.at' g.next=some (.row [.str x.lic,.int .i64 x.way,.int .i64 x.rel,.int .i64 x.duty,x.d])/\Ext g H/\H.at' id=some (.map (knD m)):=⟨_,rfl,z5 _ _ _,(Ext.refl g).new (zD _) _,by rw[zg ow];exact I⟩;rw[hH]at N;have UH:=λk=>Tg J k;obtain⟨v,ag⟩:=UH x.lic;refine zo zGt ?_;simp only[f118,zA];obtain⟨L,E⟩:∃L,(x.list.any λs=> !gT m s)=L:=⟨_,rfl⟩;rw[E]at u;subst u
 repeat' first|simp only[go_sem, *]|apply bc<;>intro t|refine zE.use (W _) ?_
 all_goals
  rename Heap=>H
  refine zZ (λk fr h=>fr 0=d/\fr 1=.int .i64 (i:Int)/\fr 2=.map id/\fr 7=.ptr g.next 0/\fr 62=x.d/\fr 63=.int .i64 (x.list.length:Int)/\fr 64=.int .i64 (k:Int)/\h=H/\∀j (z:j<x.list.length),j<k->(!gT m x.list[j])=false) x.list.length ow ?_ ?_ ?_
  .simp only[go_sem,zQ,zT,zG]
   exact λj z h0=>by omega
  .rintro k fr h o e1 Y ⟨Z,f1,f2,f7,B,C,f64,rfl,z⟩
   have a1:=sw o1 o;obtain⟨w,hw⟩:=UH x.list[k];cases Q:gT m x.list[k]with
   |false=>
    have q:L=true:=by rw[<-E];exact Xa (p:=λs=> !gT m s) o (by simp only[Q];rfl)
    subst q
    repeat' first|simp only[go_sem, *]|apply bc<;>intro t
   |true=>
    have hn:=uq (p:=λs=> !gT m s) o z (by simp only[Q];rfl)
    repeat' first|simp only[go_sem, *]|apply bc<;>intro t
    exact hn
  .rintro fr h e1 ⟨Z,f1,f2,f7,B,C,f64,rfl,z⟩
   have q:L=false:=by rw[<-E];exact cL λj A _=>z j A A
   subst q;by_cases h0:0<i
   .have X:decide ((i:Int)>0)=true:=zR ow
    have Y:IntKind.i64.wrap ((i:Int)-1)=((i-1:Nat):Int):=by rw[qJ ow ow];omega
    generalize l[i-1]=y at *
    repeat' first|simp only[go_sem, *]|apply bc<;>intro t
    refine yp Heap.emp (pwf [0,1,2,3,4,5,6,7,13,8,9,10,11,12,14,15,16,17] []) kr kr (λi ob e=>by cases e) ?_
    repeat' first|simp only[go_sem, *]|apply bc<;>intro t|refine zE.use (O _) ?_|refine zE.use (P _) ?_
   .have X:decide ((i:Int)>0)=false:=zO ow
    repeat' first|simp only[go_sem, *]|apply bc<;>intro t
    refine yp Heap.emp (pwf [0,1,2,3,4,5,6,7,13,8,9,10,11,12,14,15,16,17] []) kr kr (λi ob e=>by cases e) ?_
    repeat' first|simp only[go_sem, *]|apply bc<;>intro t|refine zE.use (O _) ?_
def YO(m:KN)(l:List Apt)(i:Nat)(x:Apt):Int:=
 if([x.a,x.b].any λs=> !gT m s)=true then 7
 else if(!VN x.a x.b||(decide ((i:Int)>0)&&decide (I2 (l.getD (i-1) x) x>=0)))=true then 5 else 0
def zQV(a b:List UInt8)(nid:Nat)(h:Heap):yA prog false nid 45 2 [(0,.str a),(1,.str b)] h=some (.sl 1 (wh [a,b]) .full,h):=by
 simp[yA,uI,dG,p9,ma,D.notTuple,D.cells,wP,uc,wg,wh]
def P4{l:List Apt}(W:yg 2 (Fq l) d)(hl:l.length<=1048576)(hi:i<l.length){m:KN}(E:g.at' id=some (.map (knD m))):
  zE prog 119 [d,.int .i64 (i:Int),.map id] g λr h'=>h'=g/\r=.int .i64 (YO m l i l[i]):=by
 refine xU kr λQ=> ?_;have P:id<g.next:=by
  by_cases h:id<g.next
  .exact h
  .rw[Q id ow]at E;cases E
 have K:=Za W hi;have V:∀k:Int,below g.next (.int .i64 k):=λk=>trivial;have n:i-1<l.length:=ow;obtain⟨R,v⟩:∃R,YO m l i l[i]=R:=⟨_,rfl⟩;rw[v];unfold YO at v;have D:∀x,l.getD (i-1) x=l[i-1]'n:=λx=>by simp[n]
 have z:=Za W n;have F:=VV (l[i-1]'n) l[i];rw[D]at v;clear D;generalize l[i]=x at *
 simp only[Apt.cells]at K z F;have S:yR prog 130 (.ptr g.next 0) (.agg [.str x.a,.str x.b]) (g.new g.next (.row [.str [],.str []]))=some (g.new g.next (.row [.str x.a,.str x.b])):=yo RM ow rfl rfl rfl;obtain⟨H,T,X,ad,C⟩:∃H,g.new g.next (.row [.str x.a,.str x.b])=H/\H.at' g.next=some (.row [.str x.a,.str x.b])/\Ext g H/\H.at' id=some (.map (knD m)):=⟨_,rfl,z5 _ _ _,(Ext.refl g).new (zD _) _,by rw[zg ow];exact E⟩;rw[T]at S;have UH:=λk=>Tg C k;have M:=zQV x.a x.b;obtain⟨c,f⟩:∃c,[x.a,x.b]=c:=⟨_,rfl⟩;have o:c.length=2:=by rw[<-f];rfl
 have o1:yg 1 (wh c) (.sl 1 (wh c) .full):=yg.mk _;have B:=wU o1;rw[o]at B;rw[f]at M v;clear T E C;refine zo zLe ?_;simp only[f119,zA];obtain⟨L,u⟩:∃L,(c.any λs=> !gT m s)=L:=⟨_,rfl⟩;rw[u]at v;subst v;clear f
 repeat' first|simp only[go_sem, *]|apply bc<;>intro A
 refine zZ (λk fr h=>fr 0=d/\fr 1=.int .i64 (i:Int)/\fr 2=.map id/\fr 7=.ptr g.next 0/\fr 20=.sl 1 (wh c) .full/\fr 21=.int .i64 ((2:Nat):Int)/\fr 22=.int .i64 (k:Int)/\h=H/\∀j (q:j<c.length),j<k->(!gT m c[j])=false) 2 ow ?_ ?_ ?_
 .simp only[go_sem,zQ,zT,zG]
  exact λj q h0=>by omega
 .rintro k fr h P e1 Z ⟨f0,f1,f2,f7,G,I,J,rfl,q⟩
  have O:k<c.length:=ow;have a1:=sw o1 O;obtain⟨w,hw⟩:=UH c[k];cases U:gT m c[k]with
  |false=>
   have t:L=true:=by rw[<-u];exact Xa (p:=λs=> !gT m s) O (by simp only[U];rfl)
   subst t;clear q u UH o1 o
   repeat' first|simp only[go_sem, *]|apply bc<;>intro A
  |true=>
   have hn:=uq (p:=λs=> !gT m s) O q (by simp only[U];rfl);clear q u UH o1 o
   repeat' first|simp only[go_sem, *]|apply bc<;>intro A
   exact hn
 .rintro fr h e1 ⟨f0,f1,f2,f7,G,I,J,rfl,q⟩
  have t:L=false:=by rw[<-u];exact cL λj N _=>q j N ow
  subst t;clear q u UH o1 o;by_cases h0:0<i
  .have Y:decide ((i:Int)>0)=true:=zR ow
   have Z:IntKind.i64.wrap ((i:Int)-1)=((i-1:Nat):Int):=by rw[qJ ow ow];omega
   generalize l[i-1]=y at *
   repeat' first|simp only[go_sem, *]|apply bc<;>intro A
   refine yp Heap.emp (pwf [0,1,2,3,4,5,6,7,8,14,9,10,11,12,13,15,16,17,18] []) kr kr (λi ob e=>by cases e) ?_
   repeat' first|simp only[go_sem, *]|apply bc<;>intro A|refine zE.use (F _) ?_
  .have Y:decide ((i:Int)>0)=false:=zO ow
   clear z F
   repeat' first|simp only[go_sem, *]|apply bc<;>intro A
   refine yp Heap.emp (pwf [0,1,2,3,4,5,6,7,8,14,9,10,11,12,13,15,16,17,18] []) kr kr (λi ob e=>by cases e) ?_;exact au
structure Cat where
 ls:List Lic
 es:List Exc
 cs:List Cla
 ps:List Apt
structure Cat.Sm(c:Cat):Prop where
 ls:c.ls.length<=1048576/\∀x∈c.ls,x.Sm
 es:c.es.length<=1048576/\∀x∈c.es,x.Ok
 cs:c.cs.length<=1048576/\∀x∈c.cs,x.Ok
 ps:c.ps.length<=1048576
def uL(c:Cat)(d:D):Prop:=∃a b e p,d=.agg [a,b,e,p]/\yg 4 (gU c.ls) a/\yg 3 (zA7 c.es) b/\yg 5 (QP c.cs) e/\yg 2 (Fq c.ps) p
def gI(f:Nat->Int):Nat->Int
 |0=>0
 |n+1=>if(gI f n==0)=true then f n else gI f n
theorem tg{f:Nat->Int} :∀{n:Nat},(∀i,i<n->f i=0)->gI f n=0
 |0,_=>rfl
 |n+1,h=>by
  have a:=tg (n:=n) λi b=>h i ow;simp[gI,a,h n ow]
theorem jr{f:Nat->Int} :∀{n i:Nat},i<n->(∀j,j<i->f j=0)->f i≠0->gI f n=f i
 |n+1,i,b,a,h0=>by
  rcases zx.1 b with q|rfl
  .have c:=jr q a h0
   simp only[gI,c];rw[iq (by simpa using h0)]
  .simp[gI,tg a]
def pd{f:Nat->Int}(b:∀j,j<i->f j=0)(h:f i=0):∀j,j<i+1->f j=0:=λj a=>by
 rcases zx.1 a with q|rfl
 .exact b j q
 .exact h
def atE{α:Type}(f:Nat->α->Int)(l:List α)(i:Nat):Int:=match l[i]? with
 |some x=>f i x
 |none=>0
def Mg{f:Nat->α->Int}{l:List α}(h:i<l.length):atE f l i=f i l[i]:=by simp[atE,h]
def Cat.m(c:Cat):KN:=Qk c.ls c.ls.length
def Cat.big(c:Cat):Bool:=decide ((c.ls.length:Int)>32)||decide ((c.es.length:Int)>16)||decide ((c.cs.length:Int)>128)||decide ((c.ps.length:Int)>64)
def Cat.e1(c:Cat):Int:=gI (atE (aQ c.ls) c.ls) c.ls.length
def Cat.e2(c:Cat):Int:=gI (atE (YX c.m c.es) c.es) c.es.length
def Cat.e3(c:Cat):Int:=gI (atE (YT c.m c.cs) c.cs) c.cs.length
def Cat.e4(c:Cat):Int:=gI (atE (YO c.m c.ps) c.ps) c.ps.length
def pR(c:Cat):Int:=
 if c.big=true then 10
 else if(!(c.e1==0))=true then c.e1
 else if(!(c.e2==0))=true then c.e2
 else if(!(c.e3==0))=true then c.e3
 else c.e4
variable{c:Cat}
theorem dK(x:uL c d)(C:c.Sm)(g:Heap):zE prog 69 [d] g λr h'=>h'=g/\r=.int .i64 (pR c):=by
 refine xU kr λP=> ?_;obtain⟨a,b,e,p,rfl,F,J,L,M⟩:=x;have V:=rV F;have W:=dc J;have le:=ju L;have N:=aO M;have s1:=C.ls.1;have s2:=C.es.1;have s3:=C.cs.1;have s4:=C.ps;have K:∀k:Int,below g.next (.int .i64 k):=λk=>trivial;have O:Ext g g:=Ext.refl g;refine zo zPQ ?_;simp only[f69,zA];cases q:c.big with
 |true=>
  have t:pR c=10:=ip q;unfold Cat.big at q
  repeat' first|simp only[go_sem, *]|apply bc<;>intro x
  all_goals(simp only[bC,decide_false,bne,pH,nh,t7,oD,ln,wR,tH,pZ,pF,wt,oQ,sN,Bool.not_not,Bool.true_eq_false,zf, *]at q;done)
 |false=>
 have t:pR c=if(!(c.e1==0))=true then c.e1 else if(!(c.e2==0))=true then c.e2 else if(!(c.e3==0))=true then c.e3 else c.e4:=iq (by rw[q];exact zV)
 obtain⟨R,I⟩:∃R,pR c=R:=⟨_,rfl⟩;rw[I]at t⊢;have D:=t.symm;clear t;have t:=D;clear D;clear I;unfold Cat.big at q;simp only[sT]at q;obtain⟨⟨⟨Q,X⟩,Y⟩,Z⟩:=q
 repeat' first|simp only[go_sem, *]|apply bc<;>intro x
 refine zZ (λk fr h=>fr 1=.iptr [a,b,e,p] 0/\fr 36=.int .i64 (c.ls.length:Int)/\fr 37=.int .i64 (k:Int)/\h=g/\∀j,j<k->atE (aQ c.ls) c.ls j=0) c.ls.length ow ?_ ?_ ?_
 .simp only[go_sem,zQ,zT,zG]
  exact λj l=>absurd l (ym _)
 .rintro k fr h n y E ⟨w,fl,z,rfl,l⟩
  have s:=VS F ow C.ls.2 n;have i:=Mg (f:=aQ c.ls) n;generalize aQ c.ls k c.ls[k]=v at *
  cases u:(v==0)with
  |false=>
   have o:gI (atE (aQ c.ls) c.ls) c.ls.length=v:=by rw[jr n l (by rw[i];simpa using u),i]
   have o:c.e1=v:=o;rw[o,ip (by rw[u];rfl)]at t;subst t;clear l i o
   repeat' first|simp only[go_sem, *]|apply bc<;>intro x|refine zE.use (s _) ?_
  |true=>
   have B:=pd l (by rw[i];simpa using u);clear l i
   repeat' first|simp only[go_sem, *]|apply bc<;>intro x|refine zE.use (s _) ?_
   exact B
 rintro fr h y ⟨w,fl,z,rfl,l⟩;have o:c.e1=0:=tg l;rw[o,iq jD]at t;clear l o Q
 rename Heap=>g
 simp only[go_sem,w,fl,z,y];refine(Vv F ow _).mono ?_;rintro r H ⟨id,rfl,T,U,G,S⟩
 repeat' first|simp only[go_sem, *]|apply bc<;>intro x
 refine zZ (λk fr h=>fr 1=.iptr [a,b,e,p] 0/\fr 5=.map id/\fr 52=.int .i64 (c.es.length:Int)/\fr 53=.int .i64 (k:Int)/\h=H/\∀j,j<k->atE (YX c.m c.es) c.es j=0) c.es.length ow ?_ ?_ ?_
 .simp only[go_sem,zQ,zT,zG]
  exact⟨w,λj l=>absurd l (ym _)⟩
 .rintro k fr h n y E ⟨w,A,fl,z,rfl,l⟩
  have s:=Yr J ow C.es.2 n (m:=c.m) G;have i:=Mg (f:=YX c.m c.es) n;generalize YX c.m c.es k c.es[k]=v at *
  cases u:(v==0)with
  |false=>
   have o:gI (atE (YX c.m c.es) c.es) c.es.length=v:=by rw[jr n l (by rw[i];simpa using u),i]
   have o:c.e2=v:=o;rw[o,ip (by rw[u];rfl)]at t;subst t;clear l i o
   repeat' first|simp only[go_sem, *]|apply bc<;>intro x|refine zE.use s ?_
  |true=>
   have B:=pd l (by rw[i];simpa using u);clear l i
   repeat' first|simp only[go_sem, *]|apply bc<;>intro x|refine zE.use s ?_
   exact B
 rintro fr h y ⟨w,A,fl,z,rfl,l⟩;have o:c.e2=0:=tg l;rw[o,iq jD]at t;clear l o
 rename Heap=>H
 simp only[go_sem,w,A,fl,z,y,le,N];refine zZ (λk fr h=>fr 1=.iptr [a,b,e,p] 0/\fr 5=.map id/\fr 67=.int .i64 (c.cs.length:Int)/\fr 68=.int .i64 (k:Int)/\h=H/\∀j,j<k->atE (YT c.m c.cs) c.cs j=0) c.cs.length ow ?_ ?_ ?_
 .simp only[go_sem,zQ,zT,zG]
  exact⟨w,A,λj l=>absurd l (ym _)⟩
 .rintro k fr h n y E ⟨w,A,fl,z,rfl,l⟩
  have s:=TE L ow C.cs.2 n (m:=c.m) G;have i:=Mg (f:=YT c.m c.cs) n;generalize YT c.m c.cs k c.cs[k]=v at *
  cases u:(v==0)with
  |false=>
   have o:gI (atE (YT c.m c.cs) c.cs) c.cs.length=v:=by rw[jr n l (by rw[i];simpa using u),i]
   have o:c.e3=v:=o;rw[o,ip (by rw[u];rfl)]at t;subst t;clear l i o
   repeat' first|simp only[go_sem, *]|apply bc<;>intro x|refine zE.use s ?_
  |true=>
   have B:=pd l (by rw[i];simpa using u);clear l i
   repeat' first|simp only[go_sem, *]|apply bc<;>intro x|refine zE.use s ?_
   exact B
 rintro fr h y ⟨w,A,fl,z,rfl,l⟩;have o:c.e3=0:=tg l;rw[o,iq jD]at t;clear l o
 rename Heap=>H
 simp only[go_sem,w,A,fl,z,y,le,N];refine zZ (λk fr h=>fr 1=.iptr [a,b,e,p] 0/\fr 5=.map id/\fr 82=.int .i64 (c.ps.length:Int)/\fr 83=.int .i64 (k:Int)/\h=H/\∀j,j<k->atE (YO c.m c.ps) c.ps j=0) c.ps.length ow ?_ ?_ ?_
 .simp only[go_sem,zQ,zT,zG]
  exact⟨w,A,λj l=>absurd l (ym _)⟩
 .rintro k fr h n y E ⟨w,A,fl,z,rfl,l⟩
  have s:=P4 M ow n (m:=c.m) G;have i:=Mg (f:=YO c.m c.ps) n;generalize YO c.m c.ps k c.ps[k]=v at *
  cases u:(v==0)with
  |false=>
   have o:gI (atE (YO c.m c.ps) c.ps) c.ps.length=v:=by rw[jr n l (by rw[i];simpa using u),i]
   have o:c.e4=v:=o;rw[o]at t;subst t;clear l i o
   repeat' first|simp only[go_sem, *]|apply bc<;>intro x|refine zE.use s ?_
  |true=>
   have B:=pd l (by rw[i];simpa using u);clear l i
   repeat' first|simp only[go_sem, *]|apply bc<;>intro x|refine zE.use s ?_
   exact B
 rintro fr h y ⟨w,A,fl,z,rfl,l⟩;have o:c.e4=0:=tg l;rw[o]at t;subst t;clear l o;exact au
theorem LC{l:List Lic}{k:List UInt8}{v:Int} :∀{i:Nat},cC k (Qk l i)=some v->∃j:Nat,j<i/\v=(j:Int)/\(l.map Lic.name).getD j []=k
 |0,h=>by cases h
 |i+1,h=>by
  rw[Qk,Qt]at h;split at h
  .rename_i q
   have q:k=(l.map Lic.name).getD i []:=by simpa using q
   exact⟨i,ow,(oW h).symm,q.symm⟩
  .obtain⟨j,h1,a,h3⟩:=LC h
   exact⟨j,ow,a,h3⟩
def mY(c:Cat)(k:List UInt8):Option Lic:=if(!(pR c==0))=true then none else match cC k c.m with
 |some v=>c.ls[v.toNat]?
 |none=>none
def fK(c:Cat)(k:List UInt8):D:=match mY c k with
 |some x=>.tuple [.agg [.str x.name,.str x.fam,.int .i64 x.ver,.str x.text],.bool true]
 |none=>.tuple [.agg ZT,.bool false]
def IP(u:uL c d)(Q:c.Sm)(k:List UInt8)(g:Heap):zE prog 246 [d,.str k] g λr h'=>h'=g/\r=fK c k:=by
 refine xU kr λW=> ?_;have n:=dK u Q;obtain⟨a,b,e,p,rfl,L,hb,he,hp⟩:=u;have s1:=Q.ls.1;have o:=λh=>Vv (e1:=b) (e2:=e) (e3:=p) L s1 h;have U:qX prog 117 []=some (.agg ZT):=by simp[qX,Wh,VL,uc,D.notTuple,D.cells]
 have l:∀(x:Lic)(H:Heap),H.at' g.next=some (.row ZT)->yR prog 117 (.ptr g.next 0) (.agg [.str x.name,.str x.fam,.int .i64 x.ver,.str x.text]) H=some (H.set g.next (.row [.str x.name,.str x.fam,.int .i64 x.ver,.str x.text])):=λx H h=>qh h j8 rfl jS rfl;have f:∀H:Heap,H.at' g.next=some (.row ZT)->yR prog 117 (.ptr g.next 0) (.agg ZT) H=some (H.set g.next (.row ZT)):=λH h=>l ⟨[],[],0,[]⟩ H h;obtain⟨G,hG,E,A,X⟩:∃G,g.new g.next (.row ZT)=G/\G.at' g.next=some (.row ZT)/\Ext g G/\g.next<G.next:=⟨_,rfl,z5 _ _ _,(Ext.refl g).new (zD _) _,by rw[za];omega⟩;have S:=f G E
 have J:=A.set (id:=g.next) (zD _) (.row ZT);have q:∀(x:Lic)(b:Bool),below g.next (.tuple [.agg [.str x.name,.str x.fam,.int .i64 x.ver,.str x.text],.bool b]):=λx b=>by simp[below,qM]
 have y:below g.next (.tuple [.agg ZT,.bool false]):=q ⟨[],[],0,[]⟩ false;refine zo zHj ?_;simp only[f246,zA];cases R:(pR c==0)with
 |false=>
  have K:fK c k=.tuple [.agg ZT,.bool false]:=by unfold fK mY;rw[ip (by rw[R];rfl)]
  clear o l f
  repeat' first|simp only[go_sem,zU, *]|apply bc<;>intro u|refine zE.use (n _) ?_
 |true=>
 have hf:mY c k=(match cC k c.m with
  |some v=>c.ls[v.toNat]?
  |none=>none):=iq (by rw[R];decide)
 clear y
 repeat' first|simp only[go_sem, *]|apply bc<;>intro u|refine zE.use (n _) ?_
 rename Heap=>G
 refine(o _).mono ?_;rintro r H ⟨id,rfl,i1,i2,O,C⟩;have s:H.at' g.next=some (.row ZT):=by rw[C.2 _ X];exact E
 have B:=A.trans C;obtain⟨v,I⟩:=Tg O k;have y:below g.next (.tuple [.agg ZT,.bool false]):=q ⟨[],[],0,[]⟩ false;have T:=B.set (id:=g.next) (zD _) (.row ZT);have Y:=f H s;cases z:cC k (Qk c.ls c.ls.length)with
 |none=>
  have K:fK c k=.tuple [.agg ZT,.bool false]:=by
   unfold fK;rw[hf];unfold Cat.m;rw[z]
  have hh:gT (Qk c.ls c.ls.length) k=false:=by unfold gT;rw[z];rfl
  clear hf l f o n C B J S E A
  repeat' first|simp only[go_sem,zU, *]|apply bc<;>intro u
 |some w=>
  obtain⟨j,M,rfl,V⟩:=LC z;have i:=Uu (P:=prog) (t:=189) O Tj Qo s8 k true;rw[z]at i;have N:uW prog 189 (.map id) (.str k) true H=some (.tuple [.int .i64 (j:Int),.bool true]):=i;clear i;have F:=p0 L M;simp only[Lic.cells]at F;have K:fK c k=.tuple [.agg [.str c.ls[j].name,.str c.ls[j].fam,.int .i64 c.ls[j].ver,.str c.ls[j].text],.bool true]:=by
   unfold fK;rw[hf];unfold Cat.m;rw[z];simp only[wE,zB M]
  have s2:=l c.ls[j] H s;have Z:=B.set (id:=g.next) (zD _) (.row [.str c.ls[j].name,.str c.ls[j].fam,.int .i64 c.ls[j].ver,.str c.ls[j].text]);clear hf l f o n C B J S E A I Y T
  repeat' first|simp only[go_sem,zU, *]|apply bc<;>intro u
def TS(c:Cat)(lic exc:List UInt8):Option Exc:=c.es.find? λx=>x.name==exc&&x.lic==lic
def aR(c:Cat)(lic exc:List UInt8):D:=
 if(mY c lic).isSome=false then .tuple [.nilsl,.bool false]
 else if(exc== [])=true then .tuple [.nilsl,.bool true]
 else match TS c lic exc with
  |some x=>.tuple [x.d,.bool true]
  |none=>.tuple [.nilsl,.bool false]
def zBa{p:α->Bool}{l:List α}(c:i<l.length)(b:∀j (b:j<l.length),j<i->p l[j]=false)(d:p l[i]=true):l.find? p=some l[i]:=by
 rw[sn];exact⟨d,i,c,rfl,λj a=>by rw[b j ow a];rfl⟩
def HC{p:α->Bool}{l:List α}(b:∀j (b:j<l.length),p l[j]=false):l.find? p=none:=by
 rw[lq];intro x c;obtain⟨j,a,rfl⟩:=zy.1 c;rw[b j a];exact zV
def IS(z:uL c d)(P:c.Sm)(f i:List UInt8)(g:Heap):zE prog 326 [d,.agg [.str f,.str i]] g λr h'=>Ext g h'/\r=aR c f i:=by
 have v:=IP z P f;obtain⟨a,b,e,p,rfl,ha,U,he,hp⟩:=z;have s2:=P.es.1;have lb:=dc U;have ai:∀a b c:D,yQ true 3 [a,b,c] 0=some (.agg [a,b,c]):=λa b c=>zJ rfl ow;have s:∀(x:Lic)(h:Heap),yR prog 117 (.ptr h.next 0) (.agg [.str x.name,.str x.fam,.int .i64 x.ver,.str x.text]) (h.new h.next (.row ZT))=some (h.new h.next (.row [.str x.name,.str x.fam,.int .i64 x.ver,.str x.text])):=λx h=>gL x h h.next;have I:∀o,Ext g (g.new g.next o):=λo=>(Ext.refl g).new (zD _) o;refine zo zH4 ?_;simp only[f326,zA];cases hf:mY c f with
 |none=>
  have J:fK c f=.tuple [.agg ZT,.bool false]:=by unfold fK;rw[hf]
  have hR:aR c f i=.tuple [.nilsl,.bool false]:=by unfold aR;rw[hf];rfl
  have F:=λh=>s ⟨[],[],0,[]⟩ h;clear s
  repeat' first|simp only[go_sem, *]|apply bc<;>intro z|refine zE.use (v _) ?_
 |some x=>
  have J:fK c f=.tuple [.agg [.str x.name,.str x.fam,.int .i64 x.ver,.str x.text],.bool true]:=by unfold fK;rw[hf]
  have F:=λh=>s x h;clear s;cases W:(i== [])with
  |true=>
   have hR:aR c f i=.tuple [.nilsl,.bool true]:=by unfold aR;rw[hf,W];rfl
   repeat' first|simp only[go_sem, *]|apply bc<;>intro z|refine zE.use (v _) ?_
  |false=>
  have C:aR c f i=match TS c f i with
   |some x=>.tuple [x.d,.bool true]
   |none=>.tuple [.nilsl,.bool false]:=by unfold aR;rw[hf,W];rfl
  obtain⟨R,S⟩:∃R,aR c f i=R:=⟨_,rfl⟩;rw[S]at C⊢;have t:=C.symm;clear S C
  repeat' first|simp only[go_sem, *]|apply bc<;>intro z|refine zE.use (v _) ?_
  rename Heap=>G
  obtain⟨H,T,B⟩:∃H,G.new G.next (.row [.str x.name,.str x.fam,.int .i64 x.ver,.str x.text])=H/\Ext G H:=⟨_,rfl,I _⟩;rw[T];clear T F I v J;refine zZ (λk fr h=>fr 3=.iptr [.str f,.str i] 0/\fr 23=b/\fr 24=.int .i64 (c.es.length:Int)/\fr 25=.int .i64 (k:Int)/\Ext G h/\∀j (A:j<c.es.length),j<k->(c.es[j].name==i&&c.es[j].lic==f)=false) c.es.length ow ?_ ?_ ?_
  .simp only[go_sem,zQ,zT,zG]
   exact⟨B,λj A h0=>absurd h0 (ym _)⟩
  .clear B
   rintro k fr h w Y ew ⟨Z,M,N,O,B,A⟩;have X:=bA U w;have V:=(P.es.2 _ (zI w)).1;have n:=λq=>uq (p:=λy:Exc=>y.name==i&&y.lic==f) (l:=c.es) w A q;have m:=λq=>zBa (p:=λy:Exc=>y.name==i&&y.lic==f) (l:=c.es) w A q;have u:TS c f i=some c.es[k]->.tuple [c.es[k].d,.bool true]=R:=λq=>by rw[<-t,q]
   generalize c.es[k]=y at *
   simp only[Exc.cells]at X;have F:yR prog 122 (.ptr h.next 0) (.agg [.str y.name,.str y.lic,y.d]) (h.new h.next (.row [.str [],.str [],.nilsl]))=some (h.new h.next (.row [.str y.name,.str y.lic,y.d])):=yo W8 ow rfl rfl (by show(true&&(true&&(y.d.flat&&true)))=true;rw[kP V];rfl);have ad:=B.new B.1 (.row [.str y.name,.str y.lic,y.d]);clear A t V;cases L:(y.name==i)with
   |false=>
    have E:=n (by simp only[L,wR]);clear n m u
    repeat' first|simp only[go_sem,z5, *]|apply bc<;>intro z
    exact E
   |true=>
    cases Q:(y.lic==f)with
    |false=>
     have E:=n (by simp only[L,Q,pZ]);clear n m u
     repeat' first|simp only[go_sem,z5, *]|apply bc<;>intro z
     exact E
    |true=>
     have E:=u (m (by simp only[L,Q,wt]));clear n m u
     repeat' first|simp only[go_sem,z5, *]|apply bc<;>intro z
  .clear B
   rintro fr h Y ⟨Z,M,N,O,B,A⟩;have E:TS c f i=none:=HC λj K=>A j K K;rw[E]at t;have ag: .tuple [.nilsl,.bool false]=R:=t;clear A E t;exact au
def VY(c:Cat)(lic exc:List UInt8):Bool:=(mY c lic).isSome&&((exc== [])||(TS c lic exc).isSome)
def Nn(c:Cat)(b a:List UInt8):∃q,aR c b a=.tuple [q,.bool (VY c b a)]:=by
 unfold aR VY;cases mY c b with
 |none=>exact⟨_,rfl⟩
 |some x=>
  cases h:(a== [])with
  |true=>exact⟨_,rfl⟩
  |false=>
   cases TS c b a with
   |none=>exact⟨_,rfl⟩
   |some y=>exact⟨_,rfl⟩
def zAV(l:uL c d)(o:c.Sm)(i f:List UInt8)(g:Heap):zE prog 249 [d,.agg [.str i,.str f]] g λr h'=>h'=g/\r=.bool (VY c i f):=by
 refine xU kr λm=> ?_;have j:=IS l o i f;obtain⟨q,n⟩:=Nn c i f;rw[n]at j;obtain⟨a,b,e,p,rfl,t,u,v,w⟩:=l;have k:∀b:Bool,below g.next (.bool b):=λb=>trivial;refine zo zHm ?_;simp only[f249,zA];simp only[go_sem, *];refine(j _).mono ?_;rintro r h ⟨s,rfl⟩;exact au
def EA{l:List Int}(e:yg 1 (wC l) d)(B:l.length<=1048576)(n:Int)(g:Heap):
  zE prog 155 [d,.int .i64 n] g λr h'=>h'=g/\r=.int .i64 (Y7 (λx=>x==n) l):=by
 have o:=tr e;obtain⟨p,k⟩:∃p:Int->Bool,(λx=>x==n)=p:=⟨_,rfl⟩;have a:∀x,p x=(n==x):=λx=>by rw[<-k];exact jY
 rw[k];clear k;refine zo zG8 ?_;simp only[f155,zA];simp only[go_sem, *];refine zZ (λi fr h=>fr 1=.int .i64 n/\fr 0=d/\fr 6=d/\fr 7=.int .i64 (l.length:Int)/\fr 8=.int .i64 (i:Int)/\h=g/\∀j (b:j<l.length),j<i->p l[j]=false) l.length ow ?_ ?_ ?_
 .simp only[go_sem,zQ,zT,zG]
  exact λj b h0=>absurd h0 (ym _)
 .rintro i fr h c e1 A ⟨s,q,t,u,v,rfl,b⟩
  have z:=oe e c;cases m:(n==l[i])with
  |true=>
   have y:=kL (p:=p) c b (by rw[a,m]);clear b e a;simp only[go_sem, *]
  |false=>
   have w:=uq (p:=p) c b (by rw[a,m]);clear b e a;simp only[go_sem, *];exact w
 .rintro fr h e1 ⟨s,q,t,u,v,rfl,b⟩
  have y:=kM (p:=p) λj f=>b j f f;clear b e a;exact au
def Xo{l:List Int}(b:yg 1 (wC l) d)(e:l.length<=1048576)(n:Int)(g:Heap):
  zE prog 98 [d,.int .i64 n] g λr h'=>h'=g/\r=.bool (l.any λx=>x==n):=by
 have a:=EA b e n;have c:=fJ (l:=l) (p:=λx=>x==n);refine zo zPd ?_;simp only[f98,zA]
 repeat' first|simp only[go_sem, *]|apply bc<;>intro f|refine zE.use (a _) ?_
noncomputable def K4:Cfg:=⟨λt=>List.contains (α:=Nat) [] t,λi=>(UH (α:=List (Nat×Fl)) [] i).getD []⟩
def zJk(t:Tmp):K4.mu t=false:=(rfl)
def zPe:PC prog K4 f133=true:=kr
def Gk(l:List (List UInt8)):∀x∈wh l,x.length=1:=λx a=>by
 obtain⟨s,_,rfl⟩:=zN.1 a;rfl
def F0{l:List (List UInt8)}(j:yg 1 (wh l) d)(k:l.length<=1048576)(g:Heap):
  zE prog 133 [d] g λr h'=>h'=g/\Fin 1 (wh l) r:=by
 refine xU kr λn=>xS ?_;have e:Ext g g:=Ext.refl g;rcases j with⟨rfl,i⟩ | ⟨tk,rfl⟩
 .have h0:l= []:=ue.1 i
  subst h0;refine xO mix func133 zPe rfl rfl ?_;simp only[f133,zA];have m:jR prog .eql 45 true .nilsl .nilsl=some (.bool true):=by rw[uj (sz:=1) yg.nil underlying45];rfl
  have b:below g.next (qC .nilsl)/\Fin 1 (wh []) (qC .nilsl):=⟨trivial,.inl ⟨rfl,rfl⟩⟩;clear k i;simp only[go_sem,zJk, *]
 .refine xO mix func133 zPe rfl rfl ?_
  simp only[f133,zA];have m:jR prog .eql 45 true (.sl 1 (wh l) tk) .nilsl=some (.bool false):=by rw[uj (yg.mk tk) underlying45];rfl
  have o:=λnid h=>wa (P:=prog) (nid:=nid) (h:=h) uI dG p9 rfl rfl (by omega:0<1);have c:qg prog false g.next 45 (.sl 1 [] .full) (.sl 1 (wh l) tk) g=if(wh l).length=0 then some (.sl 1 [] .full,g)else some (.sl 1 (wh l) (.own g.next),g.new g.next .tok):=kD uI ZR p9 ow (Gk l) (by rw[oo,qv];unfold lim;omega) (by rw[qv];unfold lim;omega)
  have f:=e.new (zD _) .tok;have a:=yh (sz:=1) (xs:=wh l) uh;by_cases h0:l= []
  .subst h0
   rw[ip (by rw[qv];rfl)]at c;have b:below g.next (qC (.sl 1 [] .full))/\Fin 1 (wh []) (qC (.sl 1 [] .full)):=by
    have:=a .full;exact⟨by rw[show([]:List (List D))=wh []from rfl,this.1];exact yw (yD _) _ this.2,.inr this.1⟩
   clear a f;simp only[go_sem,zJk, *]
  .rw[iq (by rw[qv];exact λq=>h0 (yN.1 q))]at c
   have b:below g.next (qC (.sl 1 (wh l) (.own g.next)))/\Fin 1 (wh l) (qC (.sl 1 (wh l) (.own g.next))):=by
    have:=a (.own g.next);exact⟨by rw[this.1];exact yw (yD _) _ this.2,.inr this.1⟩
   clear a h0;simp only[go_sem,zJk, *]
def JL(c:Cat)(lic exc:List UInt8):Option (List Int):=
 if(mY c lic).isSome=false then none else if(exc== [])=true then some []else(TS c lic exc).map Exc.lifts
def JJ{b a:List UInt8}(h:JL c b a=none):aR c b a=.tuple [.nilsl,.bool false]:=by
 unfold JL at h;unfold aR;split at h
 .rename_i q;rw[ip q]
 rename_i q;rw[iq q];split at h
 .cases h
 .rename_i e
  rw[iq e];cases d:TS c b a with
  |none=>rfl
  |some x=>rw[d]at h;cases h
def JK(g:c.Sm){b a:List UInt8}{L:List Int}(h:JL c b a=some L):∃q,aR c b a=.tuple [q,.bool true]/\yg 1 (wC L) q/\L.length<=1048576:=by
 unfold JL at h;unfold aR;split at h
 .cases h
 rename_i q;rw[iq q];split at h
 .rename_i e
  rw[ip e];cases h;exact⟨_,rfl,yg.nil,jS⟩
 .rename_i e
  rw[iq e];cases d:TS c b a with
  |none=>rw[d]at h;cases h
  |some x=>
   rw[d]at h;cases h;have f:=g.es.2 x (List.mem_of_find?_eq_some d);exact⟨_,rfl,f.1,f.2.1⟩
def Cla.key(x:Cla):List UInt8×Int×Int×Int×List (List UInt8):=(x.lic,x.way,x.rel,x.duty,x.list)
def I1(L:List Int)(lic:List UInt8)(way rel:Int)(x:Cla):Bool:=x.lic==lic&&x.way==way&&x.rel==rel&& !(L.any λz=>z==x.duty)
def jh(c:Cat)(lic exc:List UInt8)(way rel:Int):List Cla:=match JL c lic exc with
 |none=>[]
 |some L=>c.cs.filter (I1 L lic way rel)
def Cla.Fine(x:Cla):Prop:=Fin 1 (wh x.list) x.d/\x.list.length<=1048576
def Cla.Fine.plain{x:Cla}(h:x.Fine):wl x.cells:=by
 rcases h.1 with⟨e,_⟩ |e
 .unfold Cla.cells;rw[e];exact⟨rfl,by simp[qM,below],by simp[qW,qC]⟩
 .have:=yh (sz:=1) (xs:=wh x.list) uh .no
  obtain⟨h1,a⟩:=this;simp only[qC,D.sl.injEq,zQ,zT]at h1;simp only[below]at a;unfold Cla.cells;rw[e];exact⟨rfl,by simp[qM,below,a],by simp[qW,qC,h1]⟩
def zKV(S:List Cla)(r:D):Prop:=∃cs:List Cla,yg 5 (QP cs) r/\(∀y∈cs,y.Fine)/\cs.map Cla.key=S.map Cla.key
def Own.setRow(a:Own h0 h sz xs d){o:Obj}(c:h0.next<=id)(hr:h.at' id=some o)(b:o≠ .tok)(g:Obj):Own h0 (h.set id g) sz xs d:=
 ⟨a.1.set c _,a.2.1.loc (zD _) λi f=>zW λe=>by subst e;have:=(a.2.1.tok f).2;rw[hr]at this;exact b (oW this),a.2.2⟩
def zB4(x:Cla)(nid:Nat)(h:Heap):yA prog false nid 24 1 [(0,.agg x.cells)] h=some (.sl 5 [x.cells] .full,h):=qD TP FI fi rfl rfl ow ow rfl rfl
theorem ID(E:uL c d)(hs:c.Sm)(n v:List UInt8)(t rel:Int)(g:Heap):
  zE prog 364 [d,.agg [.str n,.str v],.int .i64 t,.int .i64 rel] g λr h'=>h'=g/\zKV (jh c n v t rel) r:=by
 refine xU kr λa7=>xS ?_;have F:=IS E hs n v;obtain⟨a,b,e,p,rfl,ha,hb,he,hp⟩:=E;have s3:=hs.cs.1;have le:=ju he;have a8:∀a b c e f:D,yQ true 5 [a,b,c,e,f] 0=some (.agg [a,b,c,e,f]):=λa b c e f=>zJ rfl ow;refine zo zH8 ?_;simp only[f364,zA];cases U:JL c n v with
 |none=>
  rw[JJ U]at F;have hR:jh c n v t rel= []:=by unfold jh;rw[U]
  rw[hR]
  repeat' first|simp only[go_sem, *]|apply bc<;>intro E
  refine(F _).mono ?_;rintro r h ⟨hE,rfl⟩;have V:below g.next (qC .nilsl)/\zKV [] (qC .nilsl):=⟨trivial,[],.inl ⟨rfl,rfl⟩,λy N=>absurd N wu,rfl⟩
  repeat' first|simp only[go_sem, *]|apply bc<;>intro E
 |some L=>
  obtain⟨q,hq,a2,a3⟩:=JK hs U;rw[hq]at F;have hR:jh c n v t rel=c.cs.filter (I1 L n t rel):=by unfold jh;rw[U]
  rw[hR]
  repeat' first|simp only[go_sem, *]|apply bc<;>intro E
  refine(F _).mono ?_;rintro r h0 ⟨hE,rfl⟩
  repeat' first|simp only[go_sem, *]|apply bc<;>intro E
  obtain⟨m,J⟩:∃m,I1 L n t rel=m:=⟨_,rfl⟩;rw[J];clear F U hq hR;refine zZ (λk fr h=>fr 2=.int .i64 t/\fr 3=.int .i64 rel/\fr 5=.iptr [.str n,.str v] 0/\fr 9=q/\fr 23=e/\fr 24=.int .i64 (c.cs.length:Int)/\fr 25=.int .i64 (k:Int)/\∃u out,fr 11=u/\Own g h 5 (QP out) u/\out.length<=k/\(∀y∈out,y.Fine)/\out.map Cla.key=((c.cs.take k).filter m).map Cla.key) c.cs.length ow ?_ ?_ ?_
  .simp only[go_sem,zQ,zT,zG]
   exact⟨_,[],rfl,Own.start hE 5,jS,λy N=>absurd N wu,jS⟩
  .clear hE
   rintro k fr h K ec ew ⟨f2,f3,f5,f9,ag,ai,aj,u,out,ad,P,G,i,j⟩;have a1:=gy he K;obtain⟨o1,o2⟩:=hs.cs.2 _ (zI K);have B:(c.cs.take (k+1)).filter m=(c.cs.take k).filter m++ [c.cs[k]].filter m:=by
    rw[zM K,t8]
   have s:m c.cs[k]=(c.cs[k].lic==n&&c.cs[k].way==t&&c.cs[k].rel==rel&& !(L.any λz=>z==c.cs[k].duty)):=by rw[<-J];rfl
   generalize c.cs[k]=y at *
   have S:=Xo a2 a3 y.duty;have c2:=F0 o1 o2;simp only[Cla.cells]at a1;have M:yR prog 126 (.ptr h.next 0) (.agg [.str y.lic,.int .i64 y.way,.int .i64 y.rel,.int .i64 y.duty,y.d]) (h.new h.next (.row [.str [],.int .i64 0,.int .i64 0,.int .i64 0,.nilsl]))=some (h.new h.next (.row [.str y.lic,.int .i64 y.way,.int .i64 y.rel,.int .i64 y.duty,y.d])):=yo fi ow rfl rfl (by show(true&&(true&&(true&&(true&&(y.d.flat&&true)))))=true;rw[kP o1];rfl)
   obtain⟨H,hH,C,A,a0⟩:∃H,h.new h.next (.row [.str y.lic,.int .i64 y.way,.int .i64 y.rel,.int .i64 y.duty,y.d])=H/\H.at' h.next=some (.row [.str y.lic,.int .i64 y.way,.int .i64 y.rel,.int .i64 y.duty,y.d])/\Own g H 5 (QP out) u/\h.next<H.next:=⟨_,rfl,z5 _ _ _,P.ext ((Ext.refl h).new (zD _) _),by rw[za];omega⟩;rw[hH]at M;have W:g.next<=h.next:=P.1.1;obtain⟨Q,ak⟩:∃Q,h.next=Q:=⟨_,rfl⟩;rw[ak]at M C a0 W;have no:m y=false->∃u' l,u=u'/\Own g H 5 (QP l) u'/\l.length<=k+1/\(∀z∈l,z.Fine)/\l.map Cla.key=((c.cs.take (k+1)).filter m).map Cla.key:=λq=>⟨u,out,rfl,A,ow,i,by rw[B,j];simp[q]⟩
   clear hH P;cases R:(y.lic==n)with
   |false=>
    have hn:=no (by rw[s,R];rfl);clear no s j i B G A
    repeat' first|simp only[go_sem, *]|apply bc<;>intro E
   |true=>
   cases b2:(y.way==t)with
   |false=>
    have hn:=no (by rw[s,R,b2];rfl);clear no s j i B G A
    repeat' first|simp only[go_sem, *]|apply bc<;>intro E
   |true=>
   cases b3:(y.rel==rel)with
   |false=>
    have hn:=no (by rw[s,R,b2,b3];rfl);clear no s j i B G A
    repeat' first|simp only[go_sem, *]|apply bc<;>intro E
   |true=>
   cases O:(L.any λz=>z==y.duty)with
   |true=>
    have hn:=no (by rw[s,R,b2,b3,O];rfl);rw[O]at S;clear no s j i B G A O
    repeat' first|simp only[go_sem, *]|apply bc<;>intro E|refine zE.use (S _) ?_
   |false=>
    have N:m y=true:=by rw[s,R,b2,b3,O];rfl
    rw[O]at S;clear no s O
    repeat' first|simp only[go_sem, *]|apply bc<;>intro E|refine zE.use (S _) ?_
    rename Heap=>H
    refine(c2 _).mono ?_;rintro z H' ⟨rfl,hz⟩;have a5:=kP hz.isSl;have a4:z.cells= [z]:=by rcases hz with⟨rfl,_⟩ |rfl<;>rfl
    have Y:yR prog 45 (.ptr Q 4) z H'=some (H'.set Q (.row [.str y.lic,.int .i64 y.way,.int .i64 y.rel,.int .i64 y.duty,z])):=by
     rw[yM C KD jS a4 a5];rfl
    obtain⟨H2,T,r2,O2⟩:∃H2,H'.set Q (.row [.str y.lic,.int .i64 y.way,.int .i64 y.rel,.int .i64 y.duty,z])=H2/\H2.at' Q=some (.row [.str y.lic,.int .i64 y.way,.int .i64 y.rel,.int .i64 y.duty,z])/\Own g H2 5 (QP out) u:=⟨_,rfl,zU _ _ _,A.setRow W C jS _⟩;rw[T]at Y;have I:=zB4 ⟨y.lic,y.way,y.rel,y.duty,y.list,z⟩;simp only[Cla.cells]at I;clear T C M S c2 A a1
    repeat' first|simp only[go_sem, *]|apply bc<;>intro E
    refine O2.appH TP Dj fi ow jS jS (by simp only[bB,Ki,zu,qO];unfold lim;omega) (by simp only[bB,zu,qO];unfold lim;omega) λd' h' o=> ?_;have a6:∃u' l,d'=u'/\Own g h' 5 (QP l) u'/\l.length<=k+1/\(∀z∈l,z.Fine)/\l.map Cla.key=((c.cs.take (k+1)).filter m).map Cla.key:=by
     refine⟨d',out++ [⟨y.lic,y.way,y.rel,y.duty,y.list,z⟩],rfl,?_,jO,λw Z=> ?_,?_⟩
     .have:QP (out++ [⟨y.lic,y.way,y.rel,y.duty,y.list,z⟩])=QP out++ [[.str y.lic,.int .i64 y.way,.int .i64 y.rel,.int .i64 y.duty,z]]:=by simp[QP,Cla.cells]
      rw[this];exact o
     .rcases yv.1 Z with Z|Z
      .exact i w Z
      .rw[zi.1 Z];exact⟨hz,o2⟩
     .rw[B,qf,qf,j];simp[N,Cla.key]
    clear O2 o j i B hz Y r2 I;exact au
  .clear hE
   rintro fr h ec ⟨f2,f3,f5,f9,ag,ai,aj,u,out,ad,P,G,i,j⟩;rw[zt]at j;have X:∀x∈QP out,wl x:=λx hx=>by
    obtain⟨y,N,rfl⟩:=zN.1 hx;exact(i y N).plain
   have hf:=P.fin X;have V:Ext g h/\below g.next (qC u)/\zKV (c.cs.filter m) (qC u):=⟨hf.1,hf.2.1,out,hf.2.2.isSl,i,j⟩;clear hf P i j X;exact au
end Go.V
