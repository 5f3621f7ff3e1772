/- Rules of the machine of abstract values, part 6. No condition. -/
import Derived.Test.YtkenagjlanhnmaaGreatDoorW30
set_option linter.all false
set_option maxHeartbeats 8000000
namespace Go.V
attribute [go_sem_proc] Nat.reduceEqDiff Int.reduceBEq Int.reduceLT Int.reduceLE Int.reduceGT Int.reduceGE Nat.reduceAdd Nat.reduceBEq
attribute [go_sem_proc ↓] reduceIte
attribute [go_sem] Nat.zero_add List.contains_cons wO l9 decide_true decide_false bne Bool.or_self Bool.false_and Bool.true_and Bool.and_false Bool.and_true Bool.and_self Bool.not_not p7 D.notTuple D.cells
section
variable{b:Bool}{x y:Prop}
@[go_sem] theorem zHY(w:HidP x y):zEb (b==true) x y w=G5 (.bool b) x y w:=by cases b<;>rfl
@[go_sem] theorem zHX(w:HidP x y):zEb (b==false) x y w=G5 (.bool b) y x ⟨⟩:=by cases b<;>rfl
@[go_sem] theorem zHi(w:HidP x y):G5 (.bool (!b)) x y w=G5 (.bool b) y x ⟨⟩:=by cases b<;>rfl
def bc{w:HidP x y}(h1:b=true->x)(a:b=false->y):G5 (.bool b) x y w:=IC h1 a
end
theorem vp4(a b c e:D):yW true 4 [a,b,c,e] 0=some (.agg [a,b,c,e]):=rfl
theorem vp2(a b:D):yW true 2 [a,b] 0=some (.agg [a,b]):=rfl
theorem au{p:Prop}(h:p:=by repeat' first|simp only[go_sem, *]|apply bc<;>intro):p:=h
attribute[go_sem] vp2 vp4
open Go.Proofs.Tryz
open Go.Proofs
set_option maxRecDepth 100000
def XS(b:UInt8)(r:List UInt8):nC (b::r)=(!(decide (((b::r).length:Int)>32)||decide ((b.toNat:Int)<97)||decide ((b.toNat:Int)>122)||((b::r:List UInt8)== [97,110,100])||((b::r:List UInt8)== [111,114])||((b::r:List UInt8)== [119,105,116,104]))&&(Lib.trimS (b::r) av== [])):=by
 have e:decide (((b::r).length:Int)>32)=decide ((b::r).length>32):=AL _ 32;rw[e];rfl
variable{s:List UInt8}{i sz id:Nat}{d:D}{α:Type}{f:FuncId}{cap:List D}{xs:List (List D)}{h g h0:Heap}
def Yq(d:s.length<=1048576)(g:Heap):zE prog 176 [.str s] g λr h'=>h'=g/\r=.bool (nC s):=by
 have e:∀h,zE prog 214 [.str s,.str [97,98,99,100,101,102,103,104,105,106,107,108,109,110,111,112,113,114,115,116,117,118,119,120,121,122,48,49,50,51,52,53,54,55,56,57,45,46]] h λr h'=>h'=h/\r=.str (Lib.trimS s av):=λh=>Cw d (c:=av) (by decide) (by decide) h;refine zu zFL ?_;simp only[f176,zA];cases s with
 |nil=>
  have e1:decide ((([]:List UInt8).length:Int)<1)=true:=rfl
  repeat' first|simp only[go_sem, *]|apply bc<;>intro a
  rfl
 |cons b r=>
  have e1:decide (((b::r).length:Int)<1)=false:=zP (by simp only[zm];omega);have f:nn prog 9 (.str (b::r)) (.int .i64 0)=some (.int .u8 b.toNat):=rK (n:=0) underlying9 rfl;have i:=XS b r;generalize j:b::r=s at *
  repeat' first|simp only[go_sem, *]|apply bc<;>intro a|refine zE.use (e _) ?_
def M9(d:s.length<=1048576)(g:Heap):zE prog 177 [.str s] g λr h'=>h'=g/\Fin 1 (wn (VH s)) r:=by
 have a:=JD d 10;refine zu zFM ?_;simp only[f177,zA];cases h1:(s== [])with
 |true=>
  have:s= []:=by simpa using h1
  subst this
  repeat' first|simp only[go_sem, *]|apply bc<;>intro c
  exact .inl ⟨rfl,rfl⟩
 |false=>
  have b:s≠[]:=by simpa using h1
  have h3:VH s=qo 10 s:=by rw[VH,iq b]
  repeat' first|simp only[go_sem, *]|apply bc<;>intro c|refine zE.use (a _) ?_
  exact .inr rfl
def NU(n:Int)(g:Heap):zE prog 179 [.int .i64 n] g λr h'=>h'=g/\r=.bool (decide (n>=0)&&decide (n<=5)):=by
 refine zu zFN ?_;simp only[f179,zA];exact au
def leB(a b:List UInt8):Bool:=WS a b||a==b
def aQ(a b:List UInt8):Hm .leq a b=some (.bool (leB a b)):=rfl
def X0(l:List (List UInt8)):Bool:=decide (∀i,i<l.length-1->leB (l.getD (i+1) []) (l.getD i [])=false)
def MT(l:List Int):Bool:=decide (∀i,i<l.length-1->l.getD i 0<l.getD (i+1) 0)
def RZ{l:List (List UInt8)}(h:i<l.length):l.getD i []=l[i]:=by simp[h]
def Gr{l:List Int}(h:i<l.length):l.getD i 0=l[i]:=by simp[h]
def nQ{l:List Int}(a:yi 1 (wY l) d)(h:Heap):mC prog 30 d h=some (.int .i64 l.length):=by rw[wa a underlying30,wI]
def gV{l:List Int}(a:yi 1 (wY l) d)(b:i<l.length):yt prog 30 d (.int .i64 (i:Int))=some (.iptr [.int .i64 l[i]] 0):=yn a qv sI (fp b)
def Ty{l:List (List UInt8)}(b:yi 1 (wn l) d)(x:l.length<=1048576)(g:Heap):zE prog 181 [d] g λr h'=>h'=g/\r=.bool (X0 l):=by
 have f:=wh b;refine zu zFP ?_;simp only[f181,zA];simp only[go_sem, *];refine qx (λi fr h=>fr 0=d/\fr 3=.int .i64 ((i+1:Nat):Int)/\h=g/\∀j,j<i->j<l.length-1->leB (l.getD (j+1) []) (l.getD j [])=false) l.length ?_ ?_
 ·simp only[go_sem,zT,zV,zI];exact⟨rfl,λj c=>by omega⟩
 rintro i fr h w ⟨u,v,rfl,c⟩;by_cases a:i+1<l.length
 ·have e1:decide (((i+1:Nat):Int)<(l.length:Int))=true:=zS ow;have t:IntKind.i64.wrap (((i+1:Nat):Int)+1)=((i+2:Nat):Int):=qR (by unfold lim;omega);have k:IntKind.i64.wrap (((i+1:Nat):Int)-1)=((i:Nat):Int):=by rw[qU ow ow];omega
  have o:=rP b a;have p:=rP b (show i<l.length by omega);have s:=aQ l[i+1] l[i];cases e:leB l[i+1] l[i]with
  |true=>
   have hr:X0 l=false:=zP λq=>by
    have:=q i ow;rw[RZ a,RZ ow,e]at this;cases this
   simp only[go_sem, *];refine yI kr ?_;simp only[go_sem, *]
  |false=>
   have n:∀j,j<i+1->j<l.length-1->leB (l.getD (j+1) []) (l.getD j [])=false:=λj h1 m=>by
    rcases z7.1 h1 with q|rfl
    ·exact c j q m
    ·rw[RZ a,RZ ow,e]
   simp only[go_sem, *];refine yI kr ?_;simp only[go_sem, *];exact⟨by omega,n⟩
 ·have e1:decide (((i+1:Nat):Int)<(l.length:Int))=false:=zP ow;have hr:X0 l=true:=zS λj h=>c j ow h;exact au
def Tx{l:List Int}(b:yi 1 (wY l) d)(w:l.length<=1048576)(g:Heap):zE prog 180 [d] g λr h'=>h'=g/\r=.bool (MT l):=by
 have f:=nQ b;refine zu zKX ?_;simp only[f180,zA];simp only[go_sem, *];refine qx (λi fr h=>fr 0=d/\fr 3=.int .i64 ((i+1:Nat):Int)/\h=g/\∀j,j<i->j<l.length-1->l.getD j 0<l.getD (j+1) 0) l.length ?_ ?_
 ·simp only[go_sem,zT,zV,zI];exact⟨rfl,λj c=>by omega⟩
 rintro i fr h v ⟨t,u,rfl,c⟩;by_cases a:i+1<l.length
 ·have e1:decide (((i+1:Nat):Int)<(l.length:Int))=true:=zS ow;have s:IntKind.i64.wrap (((i+1:Nat):Int)+1)=((i+2:Nat):Int):=qR (by unfold lim;omega);have k:IntKind.i64.wrap (((i+1:Nat):Int)-1)=((i:Nat):Int):=by rw[qU ow ow];omega
  have o:=gV b a;have p:=gV b (show i<l.length by omega);cases e:decide (l[i+1]<=l[i])with
  |true=>
   have hr:MT l=false:=zP λq=>by
    have:=q i ow;rw[Gr a,Gr ow]at this;have:=yK e;omega
   simp only[go_sem, *];refine yI kr ?_;simp only[go_sem, *]
  |false=>
   have n:∀j,j<i+1->j<l.length-1->l.getD j 0<l.getD (j+1) 0:=λj h1 m=>by
    rcases z7.1 h1 with q|rfl
    ·exact c j q m
    ·rw[Gr a,Gr ow];have:=yO e;omega
   simp only[go_sem, *];refine yI kr ?_;simp only[go_sem, *];exact⟨by omega,n⟩
 ·have e1:decide (((i+1:Nat):Int)<(l.length:Int))=false:=zP ow;have hr:MT l=true:=zS λj h=>c j ow h;exact au
def dH(a b:List UInt8):Int:=if WS a b=true then -1 else if a==b then 0 else 1
def NV(a:List UInt8)(g:Heap):zE prog 109 [.str a] g λr h'=>h'=g/\r=.bool false:=by
 have b:(a==a)=true:=by simp
 refine zu zEz ?_;simp only[f109,zA];exact au
def Tv(a b:List UInt8)(g:Heap):zE prog 62 [.str a,.str b] g λr h'=>h'=g/\r=.int .i64 (dH a b):=by
 have ca:=NV a;have cb:=NV b;refine zu zM1 ?_;simp only[f62,zA];cases h1:WS a b with
 |true=>
  have e:dH a b= -1:=ip h1
  repeat' first|simp only[go_sem, *]|apply bc<;>intro d|refine zE.use (ca _) ?_|refine zE.use (cb _) ?_
 |false=>
  cases c:(a==b)with
  |true=>
   have e:dH a b=0:=by rw[dH,iq (by rw[h1];exact zZ),ip c]
   repeat' first|simp only[go_sem, *]|apply bc<;>intro d|refine zE.use (ca _) ?_|refine zE.use (cb _) ?_
  |false=>
   have e:dH a b=1:=by rw[dH,iq (by rw[h1];exact zZ),iq (by rw[c];exact zZ)]
   repeat' first|simp only[go_sem, *]|apply bc<;>intro d|refine zE.use (ca _) ?_|refine zE.use (cb _) ?_
abbrev KN:=List (List UInt8×Int)
def knD(m:KN):List (D×D):=m.map λp=>(.str p.1,.int .i64 p.2)
def dK(k:List UInt8):KN->Option Int
 | []=>none
 |(k',v)::m=>if k==k' then some v else dK k m
def WZ(k:List UInt8)(v:Int):KN->KN
 | []=>[(k,v)]
 |(k',v')::m=>if k==k' then(k,v)::m else(k',v')::WZ k v m
def YP(p:List UInt8×Int)(m:KN):knD (p::m)=(.str p.1,.int .i64 p.2)::knD m:=rfl
theorem Ui(k:List UInt8):∀m:KN,kJ [.s] (.str k) (knD m)=some ((dK k m).map (D.int .i64))
 | []=>rfl
 |(k',v)::m=>by
  have a:=Ui k m;rw[YP,kJ,gY];cases h:(k==k')with
  |true=>simp[dK,h]
  |false=>simp only[dK,h,a];rfl
theorem J3(k:List UInt8)(v:Int):∀m:KN,MG [.s] (.str k) (.int .i64 v) (knD m)=some (knD (WZ k v m))
 | []=>rfl
 |(k',b)::m=>by
  have a:=J3 k v m;rw[YP,MG,gY];cases h:(k==k')with
  |true=>simp[WZ,h,YP]
  |false=>simp[WZ,h,YP,a]
def Rk(m:KN):(knD m).all (λx=>yz false x.1)=true:=by
 rw[zo];intro x a;obtain⟨p,_,rfl⟩:=zM.1 a;rfl
theorem Rl(k k':List UInt8)(v:Int):∀m:KN,dK k (WZ k' v m)=if k==k' then some v else dK k m
 | []=>by simp[WZ,dK]
 |(k2,c)::m=>by
  have b:=Rl k k' v m;simp only[WZ];by_cases h:k'=k2
  ·subst h;simp only[nz,qS,dK];by_cases g:k=k'
   ·subst g;simp
   ·simp[g]
  ·have a:(k'==k2)=false:=by simp[h]
   simp only[a,zl,yy,dK,b];by_cases g:k=k2
   ·subst g
    have:(k==k')=false:=by simp;exact λe=>h e.symm
    simp[this]
   ·simp[g]
section
variable{P:Program}{t kt e:TypeId}{id:Nat}{h:Heap}{m:KN}
def Vt(a:h.at' id=some (.map (knD m)))(c:MA P t=some (kt,e))(b:N3 P kt=some (false,[.s]))(d:tJ P e=some (.int .i64 0))(k:List UInt8)(ok:Bool):
  uY P t (.map id) (.str k) ok h=some (dw ok (.int .i64 0) ((dK k m).map (D.int .i64))):=by
 simp only[uY,c,b,d,Wa,a,fN,Rk,gY,Ui,show yz false (.str k)=true from rfl,sD,wu,qS]
def TS(a:h.at' id=some (.map (knD m)))(c:MA P t=some (kt,e))(b:N3 P kt=some (false,[.s]))(k:List UInt8)(v:Int):
  uJ P t (.map id) (.str k) (.int .i64 v) h=some (h.set id (.map (knD (WZ k v m)))):=by
 simp only[uJ,c,b,a,Rk,gY,Ui,J3,show yz false (.str k)=true from rfl,sD,wu,qS]
end
structure Lic where
 name:List UInt8
 fam:List UInt8
 ver:Int
 text:List UInt8
def Lic.cells(l:Lic):List D:=[.str l.name,.str l.fam,.int .i64 l.ver,.str l.text]
def jc(l:List Lic):List (List D):=l.map Lic.cells
def mz(l:List Lic):(jc l).length=l.length:=zG ..
def N7{l:List Lic}(h:i<l.length):(jc l)[i]? =some l[i].cells:=by simp[jc,h]
def Lic.Sm(l:Lic):Prop:=l.name.length<=1048576/\l.fam.length<=1048576/\l.text.length<=1048576
def rS{l:List Lic}(a:yi 4 (jc l) d)(h:Heap):mC prog 22 d h=some (.int .i64 l.length):=by rw[wa a underlying22,mz]
def pu{l:List Lic}(a:yi 4 (jc l) d)(b:i<l.length):yt prog 22 d (.int .i64 (i:Int))=some (.iptr l[i].cells 0):=yn a bJ jr (N7 b)
abbrev aV:List D:=[.str [],.str [],.int .i64 0,.str []]
def hA(x:Lic)(h:Heap)(id:Nat):yX prog 117 (.ptr id 0) (.agg [.str x.name,.str x.fam,.int .i64 x.ver,.str x.text]) (h.new id (.row aV))=some (h.new id (.row [.str x.name,.str x.fam,.int .i64 x.ver,.str x.text])):=qK jr ow rfl rfl rfl
def Ay{l:List Lic}(c:yi 4 (jc l) d)(b:i<l.length):∃a,(∀h,uZ prog 22 d none (some (.int .i64 (i:Int))) none h=some a)/\yi 4 (jc (l.take i)) a:=by
 rcases c with⟨rfl,f⟩ | ⟨tk,rfl⟩
 ·have e:l= []:=wv.1 f;subst e;simp at b
 ·refine⟨.sl 4 ((jc l).take i) (PE i (jc l).length tk),λh=> ?_,?_⟩
  ·simp[uZ,BT,fR,bJ,jr,rR,VA,Td,mz,Nat.le_of_lt b]
  ·have:(jc l).take i=jc (l.take i):=by simp[jc,jL]
   rw[this];exact yi.mk _
def YS(l:List Lic)(i:Nat)(x:Lic):Bool:=(l.take i).any λy=>y.fam==x.fam&&y.ver==x.ver
def bV(l:List Lic)(i:Nat)(x:Lic):Int:=
 if(!nC x.name|| !nC x.fam)=true then 2
 else if x.ver<0\/x.ver>999 then 3
 else if x.text.length>4096\/(VH x.text).length>999 then 10
 else if x.text.any jt=true then 4
 else if 0<i/\leB x.name ((l.map Lic.name).getD (i-1) [])=true then 5
 else if YS l i x=true then 6 else 0
theorem WV{l:List Lic}(hd:yi 4 (jc l) d)(hl:l.length<=1048576)(hs:∀x∈l,x.Sm)(hi:i<l.length)(g:Heap):
  zE prog 115 [d,.int .i64 (i:Int)] g λr h'=>h'=g/\r=.int .i64 (bV l i l[i]):=by
 refine xU kr λb4=> ?_;have U:=hs _ (zH hi);have a7:=pu hd hi;have bo:=rS hd;have bk:∀k:Int,below g.next (.int .i64 k):=λk=>trivial;generalize hx:l[i]=x at *
 obtain⟨w,f,n,b⟩:=x;have ag:=hA ⟨w,f,n,b⟩;simp only[Lic.cells]at a7 ag;have T:=(Ext.refl g).new (zD _) (.row [.str w,.str f,.int .i64 n,.str b]);have D:=Yq (s:=w) U.1;have E:=Yq (s:=f) U.2.1;have ak:=M9 (s:=b) U.2.2;refine zu zE2 ?_;simp only[f115,zA];obtain⟨R,o⟩:∃R,bV l i ⟨w,f,n,b⟩ =R:=⟨_,rfl⟩;rw[o];unfold bV at o;simp only at o;cases n1:nC w with
 |false=>
  rw[ip (by rw[n1];rfl)]at o;subst o
  repeat' first|simp only[go_sem,z8, *]|apply bc<;>intro t|refine zE.use (D _) ?_|refine zE.use (E _) ?_
 |true=>
 cases n2:nC f with
 |false=>
  rw[ip (by rw[n1,n2];rfl)]at o;subst o
  repeat' first|simp only[go_sem,z8, *]|apply bc<;>intro t|refine zE.use (D _) ?_|refine zE.use (E _) ?_
 |true=>
 rw[iq (by rw[n1,n2];decide)]at o;cases v1:decide (n<0)with
 |true=>
  rw[ip (.inl (yK v1))]at o;subst o
  repeat' first|simp only[go_sem,z8, *]|apply bc<;>intro t|refine zE.use (D _) ?_|refine zE.use (E _) ?_
 |false=>
 cases v2:decide (n>999)with
 |true=>
  rw[ip (.inr (yK v2))]at o;subst o
  repeat' first|simp only[go_sem,z8, *]|apply bc<;>intro t|refine zE.use (D _) ?_|refine zE.use (E _) ?_
 |false=>
 rw[iq (λq=>q.elim (yO v1) (yO v2))]at o;cases t1:decide ((b.length:Int)>4096)with
 |true=>
  have ba:=yK t1;rw[ip (.inl ow)]at o;subst o
  repeat' first|simp only[go_sem,z8, *]|apply bc<;>intro t|refine zE.use (D _) ?_|refine zE.use (E _) ?_
 |false=>
 have ba:=yO t1;cases t2:decide (((VH b).length:Int)>999)with
 |true=>
  have bb:=yK t2;rw[ip (.inr ow)]at o;subst o
  repeat' first|simp only[go_sem,z8,wh hr.isSl, *]|simp only[go_sem,z8, *]|apply bc<;>intro t|refine zE.use (D _) ?_|refine zE.use (E _) ?_|(refine zE.mono (ak _) ?_;rintro r h ⟨rfl,hr⟩)
 |false=>
 have bb:=yO t2;rw[iq ow]at o;have b0:=LO b;have bx:∀h,mC prog 255 (.sl 1 (Zf b) .no) h=some (.int .i64 b.length):=λh=>by rw[wa (yi.mk .no) underlying255,UB]
 repeat' first|simp only[go_sem,z8,wh hr.isSl, *]|simp only[go_sem,z8, *]|apply bc<;>intro t|refine zE.use (D _) ?_|refine zE.use (E _) ?_|(refine zE.mono (ak _) ?_;rintro r h ⟨rfl,hr⟩)
 rename Fin 1 (wn (VH b)) _=>hr
 obtain⟨H,hH,a,G,B⟩:∃H,g.new g.next (.row [.str w,.str f,.int .i64 n,.str b])=H/\H.at' g.next=some (.row [.str w,.str f,.int .i64 n,.str b])/\Ext g H/\H.next=g.next+1:=⟨_,rfl,z8 _ _ _,T,za _ _⟩;rw[hH];have a9:=U.2.2;simp only at a9;have a4:∀k (hk:k<b.length),jt b[k]=true->R=4:=λk hk C=>by
  rw[ip (yu.2 ⟨_,zH hk,C⟩)]at o;exact o.symm
 refine zd (λk fr h=>fr 0=d/\fr 1=.int .i64 (i:Int)/\fr 5=.ptr g.next 0/\fr 48=.sl 1 (Zf b) .no/\fr 49=.int .i64 (b.length:Int)/\fr 50=.int .i64 (k:Int)/\h=H/\∀j (I:j<b.length),j<k->jt b[j]=false) b.length ow ?_ ?_ ?_
 ·simp only[go_sem,zT,zV,zI];exact λj I h0=>by omega
 ·rintro k fr h Q e1 ew ⟨f0,f1,O,M,N,P,rfl,I⟩;have a1:yt prog 255 (.sl 1 (Zf b) .no) (.int .i64 (k:Int))=some (.iptr [.int .u8 (b[k].toNat:Int)] 0):=yn (yi.mk .no) JY zLy (M4 Q);have tb:jt b[k]=(!((b[k].toNat:Int)==10)&&(decide ((b[k].toNat:Int)<32)||decide ((b[k].toNat:Int)>126))):=rfl;have v:=a4 k Q;have c:=λC=>tB (p:=jt) (l:=b) Q I C;generalize(b[k].toNat:Int)=y at *
  generalize jt b[k]=b6 at *
  cases K:(y==10)with
  |true=>
   have u:=c (by rw[tb,K];rfl)
   repeat' first|simp only[go_sem, *]|apply bc<;>intro t
   exact u
  |false=>
   cases S:decide (y<32)with
   |true=>
    have u:=v (by rw[tb,K,S];rfl);subst u
    repeat' first|simp only[go_sem, *]|apply bc<;>intro t
   |false=>
    cases b3:decide (y>126)with
    |true=>
     have u:=v (by rw[tb,K,S,b3];rfl);subst u
     repeat' first|simp only[go_sem, *]|apply bc<;>intro t
    |false=>
     have u:=c (by rw[tb,K,S,b3];rfl)
     repeat' first|simp only[go_sem, *]|apply bc<;>intro t
     exact u
 ·rintro fr h e1 ⟨f0,f1,O,M,N,P,rfl,I⟩;have A:¬b.any jt=true:=by
   rw[dT λj J _=>I j J J];exact zZ
  rw[iq A]at o;have Z:i<=l.length:=ow;obtain⟨d',b5,Y⟩:=Ay hd hi;have ad:=rS Y;rw[yR,mh Z]at ad;have ai:(0<i/\leB w ((l.map Lic.name).getD (i-1) [])=true->R=5)/\(¬(0<i/\leB w ((l.map Lic.name).getD (i-1) [])=true)->R=if YS l i ⟨w,f,n,b⟩ =true then 6 else 0):=by
   refine⟨λq=> ?_,λq=> ?_⟩
   ·rw[ip q]at o;exact o.symm
   ·rw[iq q]at o;exact o.symm
  have a0:¬(0<i/\leB w ((l.map Lic.name).getD (i-1) [])=true)->R=if(l.take i).any (λy=>y.fam==f&&y.ver==n)=true then 6 else 0:=ai.2
  have bs:∀{fr:Frm}{k:Heap},R=(if YS l i ⟨w,f,n,b⟩ =true then 6 else 0)->True:=λ_=>trivial
  have tw:∀L:List Lic,L=l.take i->YS l i ⟨w,f,n,b⟩ =L.any λy=>y.fam==f&&y.ver==n:=λL e=>by rw[e];rfl
  by_cases h0:0<i
  ·have e0:decide ((i:Int)>0)=true:=zS ow;have ew:IntKind.i64.wrap ((i:Int)-1)=((i-1:Nat):Int):=by rw[qU ow ow];omega
   have a2:=pu hd (show i-1<l.length by omega);simp only[Lic.cells]at a2;have gn:(l.map Lic.name).getD (i-1) []=(l[i-1]'ow).name:=by simp[show i-1<l.length by omega]
   have a3:=aQ w (l[i-1]'ow).name;rw[gn]at ai;by_cases C:leB w (l[i-1]'ow).name=true
   ·have u:=ai.1 ⟨h0,C⟩;subst u
    repeat' first|simp only[go_sem, *]|apply bc<;>intro t
    refine yI kr ?_;exact au
   have C:leB w (l[i-1]'ow).name=false:=by simpa using C
   have z:=(a0 (λq=>by rw[gn,C]at q;exact zZ q.2)).symm
   repeat' first|simp only[go_sem, *]|apply bc<;>intro t
   refine yI kr ?_
   repeat' first|simp only[go_sem, *]|apply bc<;>intro t
   generalize hL:l.take i=L at *
   have a6:L.length=i:=by rw[<-hL,yR,mh Z]
   refine zd (λj fr h=>fr 5=.ptr g.next 0/\fr 80=d'/\fr 81=.int .i64 (i:Int)/\fr 82=.int .i64 (j:Int)/\h.at' g.next=some (.row [.str w,.str f,.int .i64 n,.str b])/\Ext g h/\g.next<h.next/\∀m (hm:m<L.length),m<j->(L[m].fam==f&&L[m].ver==n)=false) i ow ?_ ?_ ?_
   ·simp only[go_sem,zT,zV,zI];exact⟨O,a,G,by omega,λm hm h0=>by omega⟩
   ·clear f0 f1 O M N P a G B e1;rintro j fr h Q e1 ew ⟨O,V,W,X,a,T,B,I⟩;have F:j<L.length:=ow;have a1:=pu Y F;have ag:=hA L[j] h h.next;have hk:(h.new h.next (.row [.str L[j].name,.str L[j].fam,.int .i64 L[j].ver,.str L[j].text])).at' g.next=some (.row [.str w,.str f,.int .i64 n,.str b]):=by rw[zi ow];exact a
    have a5:=T.new T.1 (.row [.str L[j].name,.str L[j].fam,.int .i64 L[j].ver,.str L[j].text]);have a8:g.next<(h.new h.next (.row [.str L[j].name,.str L[j].fam,.int .i64 L[j].ver,.str L[j].text])).next:=by rw[za];omega
    have c:=λC=>tB (p:=λy:Lic=>y.fam==f&&y.ver==n) (l:=L) F I C;have v:(L[j].fam==f&&L[j].ver==n)=true->R=6:=λC=>by
     rw[ip (yu.2 ⟨_,zH F,C⟩)]at z;exact z.symm
    simp only[Lic.cells]at a1;cases K:(L[j].fam==f)with
    |false=>
     have u:=c (by simp only[K,wV])
     repeat' first|simp only[go_sem,z8, *]|apply bc<;>intro t
     exact λm hm h=>u m ow h
    |true=>
     cases S:(L[j].ver==n)with
     |false=>
      have u:=c (by simp only[K,S,pU])
      repeat' first|simp only[go_sem,z8, *]|apply bc<;>intro t
      exact λm hm h=>u m ow h
     |true=>
      have u:=v (by simp only[K,S,wu]);subst u
      repeat' first|simp only[go_sem,z8, *]|apply bc<;>intro t
   ·clear f0 f1 O M N P a G B e1;rintro fr h e1 ⟨O,V,W,X,a,T,B,I⟩;have A:¬(L.any λy=>y.fam==f&&y.ver==n)=true:=by
     rw[dT λj J _=>I j J ow];exact zZ
    rw[iq A]at z;subst z;exact au
  ·have e0:decide ((i:Int)>0)=false:=zP ow;have z:=(a0 (λq=>h0 q.1)).symm
   repeat' first|simp only[go_sem, *]|apply bc<;>intro t
   refine yI kr ?_
   repeat' first|simp only[go_sem, *]|apply bc<;>intro t
   generalize hL:l.take i=L at *
   have a6:L.length=i:=by rw[<-hL,yR,mh Z]
   refine zd (λj fr h=>fr 5=.ptr g.next 0/\fr 80=d'/\fr 81=.int .i64 (i:Int)/\fr 82=.int .i64 (j:Int)/\h.at' g.next=some (.row [.str w,.str f,.int .i64 n,.str b])/\Ext g h/\g.next<h.next/\∀m (hm:m<L.length),m<j->(L[m].fam==f&&L[m].ver==n)=false) i ow ?_ ?_ ?_
   ·simp only[go_sem,zT,zV,zI];exact⟨O,a,G,by omega,λm hm h0=>by omega⟩
   ·clear f0 f1 O M N P a G B e1;rintro j fr h Q e1 ew ⟨O,V,W,X,a,T,B,I⟩;have F:j<L.length:=ow;have a1:=pu Y F;have ag:=hA L[j] h h.next;have hk:(h.new h.next (.row [.str L[j].name,.str L[j].fam,.int .i64 L[j].ver,.str L[j].text])).at' g.next=some (.row [.str w,.str f,.int .i64 n,.str b]):=by rw[zi ow];exact a
    have a5:=T.new T.1 (.row [.str L[j].name,.str L[j].fam,.int .i64 L[j].ver,.str L[j].text]);have a8:g.next<(h.new h.next (.row [.str L[j].name,.str L[j].fam,.int .i64 L[j].ver,.str L[j].text])).next:=by rw[za];omega
    have c:=λC=>tB (p:=λy:Lic=>y.fam==f&&y.ver==n) (l:=L) F I C;have v:(L[j].fam==f&&L[j].ver==n)=true->R=6:=λC=>by
     rw[ip (yu.2 ⟨_,zH F,C⟩)]at z;exact z.symm
    simp only[Lic.cells]at a1;cases K:(L[j].fam==f)with
    |false=>
     have u:=c (by simp only[K,wV])
     repeat' first|simp only[go_sem,z8, *]|apply bc<;>intro t
     exact λm hm h=>u m ow h
    |true=>
     cases S:(L[j].ver==n)with
     |false=>
      have u:=c (by simp only[K,S,pU])
      repeat' first|simp only[go_sem,z8, *]|apply bc<;>intro t
      exact λm hm h=>u m ow h
     |true=>
      have u:=v (by simp only[K,S,wu]);subst u
      repeat' first|simp only[go_sem,z8, *]|apply bc<;>intro t
   ·clear f0 f1 O M N P a G B e1;rintro fr h e1 ⟨O,V,W,X,a,T,B,I⟩;have A:¬(L.any λy=>y.fam==f&&y.ver==n)=true:=by
     rw[dT λj J _=>I j J ow];exact zZ
    rw[iq A]at z;subst z;exact au
def UO{α:Type}(p:α->Bool)(l:List α):Int:=match l.findIdx? p with
 |some i=>(i:Int)
 |none=> -1
def gb{l:List α}{p:α->Bool} :decide (UO p l>=0)=l.any p:=by
 rw[<-ae];rfl
def jV{l:List α}{p:α->Bool}(c:i<l.length)(b:∀j (b:j<l.length),j<i->p l[j]=false)(d:p l[i]=true):UO p l=(i:Int):=by
 have:l.findIdx? p=some i:=by
  rw[qi];exact⟨c,d,λj a=>by rw[b j ow a];exact zZ⟩
 simp only[UO,this]
def jW{l:List α}{p:α->Bool}(b:∀j (b:j<l.length),p l[j]=false):UO p l= -1:=by
 have:l.findIdx? p=none:=by
  rw[wq];intro n c;obtain⟨j,a,rfl⟩:=yD.1 c;exact b j a
 simp only[UO,this]
def T4{l:List Int}(n:yi 1 (wY l) d)(C:l.length<=1048576){p:Int->Bool}(y:∀s∈l,∀h,zE prog f ([]++ [.int .i64 s]++cap) h λr h'=>h'=h/\r=.bool (p s))(g:Heap):
  zE prog 86 [d,.fn (.func f) [] cap] g λr h'=>h'=g/\r=.int .i64 (UO p l):=by
 have o:=nQ n;refine zu zLm ?_;simp only[f86,zA]
 repeat' first|simp only[go_sem, *]|apply bc<;>intro m
 refine zd (λi fr h=>fr 1=.fn (.func f) [] cap/\fr 0=d/\fr 6=d/\fr 7=.int .i64 (l.length:Int)/\fr 8=.int .i64 (i:Int)/\h=g/\∀j (b:j<l.length),j<i->p l[j]=false) l.length ow ?_ ?_ ?_
 ·simp only[go_sem,zT,zV,zI];exact λj b h0=>by omega
 ·rintro i fr h a e1 B ⟨t,q,u,v,w,rfl,b⟩;have A:=gV n a;have e:=y _ (zH a);simp only[yc,yE]at e;cases k:p l[i]with
  |true=>
   have z:=jV a b k;rw[k]at e
   repeat' first|simp only[go_sem, *]|apply bc<;>intro m|refine zE.use (e _) ?_
  |false=>
   have x:=tB (p:=p) a b k;rw[k]at e
   repeat' first|simp only[go_sem, *]|apply bc<;>intro m|refine zE.use (e _) ?_
   exact x
 ·rintro fr h e1 ⟨t,q,u,v,w,rfl,b⟩;have z:=jW (p:=p) λj c=>b j c c;exact au
def Yt{l:List Int}(b:yi 1 (wY l) d)(e:l.length<=1048576){p:Int->Bool}(i:∀s∈l,∀h,zE prog f ([]++ [.int .i64 s]++cap) h λr h'=>h'=h/\r=.bool (p s))(g:Heap):
  zE prog 40 [d,.fn (.func f) [] cap] g λr h'=>h'=g/\r=.bool (l.any p):=by
 have a:=T4 b e i;have c:=gb (l:=l) (p:=p);refine zu zLh ?_;simp only[f40,zA]
 repeat' first|simp only[go_sem, *]|apply bc<;>intro j|refine zE.use (a _) ?_
def zCL(n:Int)(g:Heap):zE prog 178 [.int .i64 n] g λr h'=>h'=g/\r=.bool (!(decide (n>=0)&&decide (n<=5))):=by
 have a:=NU n;refine zu zKW ?_;simp only[f178,zA]
 repeat' first|simp only[go_sem, *]|apply bc<;>intro b|refine zE.use (a _) ?_
def Rb(l:List Lic):Nat->KN
 |0=>[]
 |i+1=>WZ ((l.map Lic.name).getD i []) (i:Int) (Rb l i)
def Wu{l:List Lic}{d e1 e2 e3:D}(o:yi 4 (jc l) d)(J:l.length<=1048576)(g:Heap):
  zE prog 116 [.agg [d,e1,e2,e3]] g λr h'=>∃id,r=.map id/\g.next<=id/\id<h'.next/\h'.at' id=some (.map (knD (Rb l l.length)))/\Ext g h':=by
 have z:=rS o;refine zu zE3 ?_;simp only[f116,zA];simp only[go_sem, *];obtain⟨H,x,c,b,e⟩:∃H,g.new g.next (.map [])=H/\H.at' g.next=some (.map (knD (Rb l 0)))/\Ext g H/\g.next<H.next:=⟨_,rfl,z8 _ _ _,(Ext.refl g).new (zD _) _,by rw[za];omega⟩;rw[x];clear x;refine zd (λi fr h=>fr 3=.map g.next/\fr 8=d/\fr 9=.int .i64 (l.length:Int)/\fr 10=.int .i64 (i:Int)/\h.at' g.next=some (.map (knD (Rb l i)))/\Ext g h/\g.next<h.next) l.length ow ?_ ?_ ?_
 ·simp only[go_sem,zT,zV,zI];exact⟨c,b,e⟩
 ·clear c b e;rintro i fr h j e1 I ⟨B,C,E,p,k,f,s⟩;have A:=pu o j;have u:=hA l[i] h h.next;have m:(l.map Lic.name).getD i []=l[i].name:=by simp[j]
  simp only[Lic.cells]at A;obtain⟨a,q,m2,r2,w,F⟩:∃a,h.new h.next (.row [.str l[i].name,.str l[i].fam,.int .i64 l[i].ver,.str l[i].text])=a/\a.at' g.next=some (.map (knD (Rb l i)))/\a.at' h.next=some (.row [.str l[i].name,.str l[i].fam,.int .i64 l[i].ver,.str l[i].text])/\Ext g a/\g.next<a.next:=
   ⟨_,rfl,by rw[zi ow];exact k,z8 _ _ _,f.new f.1 _,by rw[za];omega⟩
  rw[q]at u;have v:=TS (P:=prog) (t:=189) m2 Uf Rg l[i].name (i:Int);have n:WZ l[i].name (i:Int) (Rb l i)=Rb l (i+1):=by rw[Rb,m]
  rw[n]at v;have m3:=zW a g.next (.map (knD (Rb l (i+1))));have G:=w.set (id:=g.next) (zD _) (.map (knD (Rb l (i+1))));have K:g.next<(a.set g.next (.map (knD (Rb l (i+1))))).next:=F;clear k f m n o w;exact au
 ·clear c b e;rintro fr h e1 ⟨B,C,E,p,k,f,s⟩;have y:∃id,D.map g.next=.map id/\g.next<=id/\id<h.next/\h.at' id=some (.map (knD (Rb l l.length)))/\Ext g h:=⟨_,rfl,zD _,s,k,f⟩;clear k f s o;exact au
structure Exc where
 name:List UInt8
 lic:List UInt8
 lifts:List Int
 d:D
def Exc.cells(l:Exc):List D:=[.str l.name,.str l.lic,l.d]
def Exc.Ok(l:Exc):Prop:=yi 1 (wY l.lifts) l.d/\l.lifts.length<=1048576/\l.name.length<=1048576
def AP(l:List Exc):List (List D):=l.map Exc.cells
def PJ(l:List Exc):(AP l).length=l.length:=zG ..
def Gj{l:List Exc}(h:i<l.length):(AP l)[i]? =some l[i].cells:=by simp[AP,h]
def fw{l:List Exc}(a:yi 3 (AP l) d)(h:Heap):mC prog 23 d h=some (.int .i64 l.length):=by rw[wa a underlying23,PJ]
def cC{l:List Exc}(a:yi 3 (AP l) d)(b:i<l.length):yt prog 23 d (.int .i64 (i:Int))=some (.iptr l[i].cells 0):=yn a Gg WF (Gj b)
structure Cla where
 lic:List UInt8
 way:Int
 rel:Int
 duty:Int
 list:List (List UInt8)
 d:D
def Cla.cells(l:Cla):List D:=[.str l.lic,.int .i64 l.way,.int .i64 l.rel,.int .i64 l.duty,l.d]
def Cla.Ok(l:Cla):Prop:=yi 1 (wn l.list) l.d/\l.list.length<=1048576
def RM(l:List Cla):List (List D):=l.map Cla.cells
def cD(l:List Cla):(RM l).length=l.length:=zG ..
def Gd{l:List Cla}(h:i<l.length):(RM l)[i]? =some l[i].cells:=by simp[RM,h]
def jb{l:List Cla}(a:yi 5 (RM l) d)(h:Heap):mC prog 24 d h=some (.int .i64 l.length):=by rw[wa a underlying24,cD]
def gU{l:List Cla}(a:yi 5 (RM l) d)(b:i<l.length):yt prog 24 d (.int .i64 (i:Int))=some (.iptr l[i].cells 0):=yn a UL fI (Gd b)
structure Apt where
 a:List UInt8
 b:List UInt8
def Apt.cells(l:Apt):List D:=[.str l.a,.str l.b]
def Hx(l:List Apt):List (List D):=l.map Apt.cells
def Qm(l:List Apt):(Hx l).length=l.length:=zG ..
def Hy{l:List Apt}(h:i<l.length):(Hx l)[i]? =some l[i].cells:=by simp[Hx,h]
def bT{l:List Apt}(a:yi 2 (Hx l) d)(h:Heap):mC prog 25 d h=some (.int .i64 l.length):=by rw[wa a underlying25,Qm]
def aY{l:List Apt}(a:yi 2 (Hx l) d)(b:i<l.length):yt prog 25 d (.int .i64 (i:Int))=some (.iptr l[i].cells 0):=yn a Gh TE (Hy b)
def JQ(a b:Cla):Int:=orL [dH a.lic b.lic,tC a.way b.way,tC a.rel b.rel,tC a.duty b.duty]
def JP(a b:Apt):Int:=orL [dH a.a b.a,dH a.b b.b]
def zLu(a b:Int)(nid:Nat)(h:Heap):yB prog false nid 30 2 [(0,.int .i64 a),(1,.int .i64 b)] h=some (.sl 1 (wY [a,b]) .full,h):=by
 simp[yB,qv,rv,sI,lV,D.notTuple,D.cells,wR,ur,wo,wY]
def zPw(a b c e:Int)(nid:Nat)(h:Heap):yB prog false nid 30 4 [(0,.int .i64 a),(1,.int .i64 b),(2,.int .i64 c),(3,.int .i64 e)] h=some (.sl 1 (wY [a,b,c,e]) .full,h):=by
 simp[yB,qv,rv,sI,lV,D.notTuple,D.cells,wR,ur,wo,wY]
def WX(a b:Apt)(g:Heap):zE prog 68 [.agg a.cells,.agg b.cells] g λr h'=>h'=g/\r=.int .i64 (JP a b):=by
 have h1:=Tv a.a b.a;have f:=Tv a.b b.b;have h3:=zCR (l:=[dH a.a b.a,dH a.b b.b]) (yi.mk .full) (by simp);have hr:=λnid=>zLu (dH a.a b.a) (dH a.b b.b) nid;have c:orL [dH a.a b.a,dH a.b b.b]=JP a b:=rfl;rw[c]at h3;have d:∀h:Heap,HLe Heap.emp h:=λh i j e=>by cases e
 refine zu zOy ?_;simp only[f68,zA];simp only[Apt.cells]
 repeat' first|simp only[go_sem, *]|apply bc<;>intro c
 refine qH Heap.emp [(0,.no,true),(1,.no,true),(2,.no,true),(3,.no,true),(5,.no,true),(6,.st,true),(7,.no,true),(8,.st,true),(4,.no,true),(9,.no,true),(10,.no,true),(11,.no,true),(12,.no,true)] kr kr (λi j e=>by cases e) ?_
 repeat' first|simp only[go_sem, *]|apply bc<;>intro c|refine zE.use (h1 _) ?_|refine zE.use (f _) ?_|refine zE.use (h3 _) ?_
def Z6(a b:Cla)(g:Heap):zE prog 66 [.agg a.cells,.agg b.cells] g λr h'=>h'=g/\r=.int .i64 (JQ a b):=by
 have h1:=Tv a.lic b.lic;have f:=Yr a.way b.way;have j:=Yr a.rel b.rel;have h5:=Yr a.duty b.duty;have h3:=zCR (l:=[dH a.lic b.lic,tC a.way b.way,tC a.rel b.rel,tC a.duty b.duty]) (yi.mk .full) (by simp);have hr:=λnid=>zPw (dH a.lic b.lic) (tC a.way b.way) (tC a.rel b.rel) (tC a.duty b.duty) nid;have c:orL [dH a.lic b.lic,tC a.way b.way,tC a.rel b.rel,tC a.duty b.duty]=JQ a b:=rfl;rw[c]at h3;have d:∀h:Heap,HLe Heap.emp h:=λh i k e=>by cases e
 refine zu zOw ?_;simp only[f66,zA];simp only[Cla.cells]
 repeat' first|simp only[go_sem, *]|apply bc<;>intro c
 refine qH Heap.emp [(0,.no,true),(1,.no,true),(2,.no,true),(3,.no,true),(5,.no,true),(6,.st,true),(7,.no,true),(8,.st,true),(10,.no,true),(11,.st,true),(12,.no,true),(13,.st,true),(15,.no,true),(16,.st,true),(17,.no,true),(18,.st,true),(4,.no,true),(9,.no,true),(14,.no,true),(19,.no,true),(20,.no,true),(21,.no,true),(22,.no,true)] kr kr (λi k e=>by cases e) ?_
 repeat' first|simp only[go_sem, *]|apply bc<;>intro c|refine zE.use (h1 _) ?_|refine zE.use (f _) ?_|refine zE.use (h3 _) ?_|refine zE.use (j _) ?_|refine zE.use (h5 _) ?_
def kH(a:yi sz xs d):d.flat=true:=by rcases a with⟨rfl,_⟩ | ⟨tk,rfl⟩ <;>rfl
def gF(m:KN)(k:List UInt8):Bool:=(dK k m).isSome
variable{id:Nat}{h:Heap}
def Uc{m:KN}(a:h.at' id=some (.map (knD m)))(k:List UInt8):∃v,uY prog 189 (.map id) (.str k) true h=some (.tuple [.int .i64 v,.bool (gF m k)]):=by
 have:=Vt (P:=prog) (t:=189) a Uf Rg rv k true;rw[this];unfold gF;cases dK k m with
 |none=>exact⟨0,rfl⟩
 |some v=>exact⟨v,rfl⟩
def Zi(m:KN)(l:List Exc)(i:Nat)(x:Exc):Int:=
 if(!nC x.name)=true then 2
 else if(!gF m x.lic)=true then 7
 else if(x.lifts.any λn=> !(decide (n>=0)&&decide (n<=5)))=true then 3
 else if(((x.lifts.length:Int)==0)||(!MT x.lifts||(decide ((i:Int)>0)&&leB x.name ((l.map Exc.name).getD (i-1) []))))=true then 5 else 0
def Z5{l:List Exc}(F:yi 3 (AP l) d)(V:l.length<=1048576)(Q:∀x∈l,x.Ok)(G:i<l.length){m:KN}(t:g.at' id=some (.map (knD m))):
  zE prog 117 [d,.int .i64 (i:Int),.map id] g λr h'=>h'=g/\r=.int .i64 (Zi m l i l[i]):=by
 refine xU kr λw=> ?_;have P:id<g.next:=by
  by_cases h:id<g.next
  ·exact h
  ·rw[w id ow]at t;cases t
 obtain⟨o1,o2,T⟩:=Q _ (zH G);have q:=cC F G;have E:∀k:Int,below g.next (.int .i64 k):=λk=>trivial;have S:∀a b c:D,yW true 3 [a,b,c] 0=some (.agg [a,b,c]):=λa b c=>zJ rfl ow;have B:=Yq T;have C:=Yt o1 o2 (f:=178) (cap:=[]) λn _ h=>zCL n h;have o:=Tx o1 o2;have O:=nQ o1;have e:i-1<l.length:=ow;obtain⟨R,j⟩:∃R,Zi m l i l[i]=R:=⟨_,rfl⟩;rw[j];unfold Zi at j;have z:(l.map Exc.name).getD (i-1) []=(l[i-1]'e).name:=by simp[e]
 have p:=cC F e;have M:=aQ l[i].name (l[i-1]'e).name;rw[z]at j;generalize l[i]=x at *
 simp only[Exc.cells]at q p;have A:yX prog 122 (.ptr g.next 0) (.agg [.str x.name,.str x.lic,x.d]) (g.new g.next (.row [.str [],.str [],.nilsl]))=some (g.new g.next (.row [.str x.name,.str x.lic,x.d])):=qK WF ow rfl rfl (by show(true&&(true&&(x.d.flat&&true)))=true;rw[kH o1];rfl);obtain⟨H,L,I,K,u⟩:∃H,g.new g.next (.row [.str x.name,.str x.lic,x.d])=H/\H.at' g.next=some (.row [.str x.name,.str x.lic,x.d])/\Ext g H/\H.at' id=some (.map (knD m)):=⟨_,rfl,z8 _ _ _,(Ext.refl g).new (zD _) _,by rw[zi ow];exact t⟩;rw[L]at A;obtain⟨v,N⟩:=Uc u x.lic;refine zu zKA ?_;simp only[f117,zA]
 by_cases h0:0<i
 ·have J:decide ((i:Int)>0)=true:=zS ow;have U:IntKind.i64.wrap ((i:Int)-1)=((i-1:Nat):Int):=by rw[qU ow ow];omega
  subst j;generalize l[i-1]=y at *
  repeat' first|simp only[go_sem, *]|apply bc<;>intro s|refine zE.use (B _) ?_|refine zE.use (C _) ?_|refine zE.use (o _) ?_
  all_goals
   refine yI kr ?_
   repeat' first|simp only[go_sem, *]|apply bc<;>intro s|refine zE.use (o _) ?_
 ·have J:decide ((i:Int)>0)=false:=zP ow;subst j
  repeat' first|simp only[go_sem, *]|apply bc<;>intro s|refine zE.use (B _) ?_|refine zE.use (C _) ?_|refine zE.use (o _) ?_
  all_goals
   refine yI kr ?_
   repeat' first|simp only[go_sem, *]|apply bc<;>intro s|refine zE.use (o _) ?_
def H8(p q c:Bool):jI prog .neq 4 c (.bool p) (.bool q)=some (.bool (p !=q)):=by cases p<;>cases q<;>simp[jI,FZ,oe,veq,underlying4]
def Zh(m:KN)(l:List Cla)(i:Nat)(x:Cla):Int:=
 if(!gF m x.lic)=true then 7
 else if(decide (x.way<0)||decide (x.way>2)||decide (x.rel<0)||decide (x.rel>2)|| !(decide (x.duty>=0)&&decide (x.duty<=5)))=true then 3
 else if(!(decide ((x.list.length:Int)>0)==(x.duty==4)))=true then 1
 else if(x.list.any λs=> !gF m s)=true then 7
 else if(!X0 x.list||(decide ((i:Int)>0)&&decide (JQ (l.getD (i-1) x) x>=0)))=true then 5 else 0
theorem UE{l:List Cla}(T:yi 5 (RM l) d)(hl:l.length<=1048576)(hs:∀x∈l,x.Ok)(U:i<l.length){m:KN}(I:g.at' id=some (.map (knD m))):
  zE prog 118 [d,.int .i64 (i:Int),.map id] g λr h'=>h'=g/\r=.int .i64 (Zh m l i l[i]):=by
 refine xU kr λK=> ?_;have o:id<g.next:=by
  by_cases h:id<g.next
  ·exact h
  ·rw[K id ow]at I;cases I
 obtain⟨o1,o2⟩:=hs _ (zH U);have G:=gU T U;have S:∀k:Int,below g.next (.int .i64 k):=λk=>trivial;have au:∀a b c e f:D,yW true 5 [a,b,c,e,f] 0=some (.agg [a,b,c,e,f]):=λa b c e f=>zJ rfl ow;have n:i-1<l.length:=ow;have O:=Ty o1 o2;have ai:=wh o1;have ak:=H8;obtain⟨R,u⟩:∃R,Zh m l i l[i]=R:=⟨_,rfl⟩;rw[u];unfold Zh at u;have M:∀x,l.getD (i-1) x=l[i-1]'n:=λx=>by simp[n]
 have F:=gU T n;have P:=Z6 (l[i-1]'n) l[i];rw[M]at u;generalize l[i]=x at *
 have W:=NU x.duty;simp only[Cla.cells]at G F P;have N:yX prog 126 (.ptr g.next 0) (.agg [.str x.lic,.int .i64 x.way,.int .i64 x.rel,.int .i64 x.duty,x.d]) (g.new g.next (.row [.str [],.int .i64 0,.int .i64 0,.int .i64 0,.nilsl]))=some (g.new g.next (.row [.str x.lic,.int .i64 x.way,.int .i64 x.rel,.int .i64 x.duty,x.d])):=qK fI ow rfl rfl (by show(true&&(true&&(true&&(true&&(x.d.flat&&true)))))=true;rw[kH o1];rfl)
 obtain⟨H,hH,V,ad,J⟩:∃H,g.new g.next (.row [.str x.lic,.int .i64 x.way,.int .i64 x.rel,.int .i64 x.duty,x.d])=H/\H.at' g.next=some (.row [.str x.lic,.int .i64 x.way,.int .i64 x.rel,.int .i64 x.duty,x.d])/\Ext g H/\H.at' id=some (.map (knD m)):=⟨_,rfl,z8 _ _ _,(Ext.refl g).new (zD _) _,by rw[zi ow];exact I⟩;rw[hH]at N;have VI:=λk=>Uc J k;obtain⟨v,ag⟩:=VI x.lic;refine zu zE4 ?_;simp only[f118,zA];obtain⟨L,E⟩:∃L,(x.list.any λs=> !gF m s)=L:=⟨_,rfl⟩;rw[E]at u;subst u
 repeat' first|simp only[go_sem, *]|apply bc<;>intro t|refine zE.use (W _) ?_
 all_goals
  rename Heap=>H
  refine zd (λk fr h=>fr 0=d/\fr 1=.int .i64 (i:Int)/\fr 2=.map id/\fr 7=.ptr g.next 0/\fr 62=x.d/\fr 63=.int .i64 (x.list.length:Int)/\fr 64=.int .i64 (k:Int)/\h=H/\∀j (z:j<x.list.length),j<k->(!gF m x.list[j])=false) x.list.length ow ?_ ?_ ?_
  ·simp only[go_sem,zT,zV,zI];exact λj z h0=>by omega
  ·rintro k fr h o e1 Y ⟨Z,f1,f2,f7,B,C,f64,rfl,z⟩;have a1:=rP o1 o;obtain⟨w,hw⟩:=VI x.list[k];cases Q:gF m x.list[k]with
   |false=>
    have q:L=true:=by rw[<-E];exact Yl (p:=λs=> !gF m s) o (by simp only[Q];rfl)
    subst q
    repeat' first|simp only[go_sem, *]|apply bc<;>intro t
   |true=>
    have hn:=tB (p:=λs=> !gF m s) o z (by simp only[Q];rfl)
    repeat' first|simp only[go_sem, *]|apply bc<;>intro t
    exact hn
  ·rintro fr h e1 ⟨Z,f1,f2,f7,B,C,f64,rfl,z⟩;have q:L=false:=by rw[<-E];exact dT λj A _=>z j A A
   subst q;by_cases h0:0<i
   ·have X:decide ((i:Int)>0)=true:=zS ow;have Y:IntKind.i64.wrap ((i:Int)-1)=((i-1:Nat):Int):=by rw[qU ow ow];omega
    generalize l[i-1]=y at *
    repeat' first|simp only[go_sem, *]|apply bc<;>intro t
    refine qH Heap.emp [(0,.no,false),(1,.no,false),(2,.no,false),(3,.no,false),(4,.no,false),(5,.no,false),(6,.no,false),(7,.no,false),(13,.no,false),(8,.no,false),(9,.no,false),(10,.no,false),(11,.no,false),(12,.no,false),(14,.no,false),(15,.no,false),(16,.no,false),(17,.no,false)] kr kr (λi ob e=>by cases e) ?_
    repeat' first|simp only[go_sem, *]|apply bc<;>intro t|refine zE.use (O _) ?_|refine zE.use (P _) ?_
   ·have X:decide ((i:Int)>0)=false:=zP ow
    repeat' first|simp only[go_sem, *]|apply bc<;>intro t
    refine qH Heap.emp [(0,.no,false),(1,.no,false),(2,.no,false),(3,.no,false),(4,.no,false),(5,.no,false),(6,.no,false),(7,.no,false),(13,.no,false),(8,.no,false),(9,.no,false),(10,.no,false),(11,.no,false),(12,.no,false),(14,.no,false),(15,.no,false),(16,.no,false),(17,.no,false)] kr kr (λi ob e=>by cases e) ?_
    repeat' first|simp only[go_sem, *]|apply bc<;>intro t|refine zE.use (O _) ?_
def Zd(m:KN)(l:List Apt)(i:Nat)(x:Apt):Int:=
 if([x.a,x.b].any λs=> !gF m s)=true then 7
 else if(!WS x.a x.b||(decide ((i:Int)>0)&&decide (JP (l.getD (i-1) x) x>=0)))=true then 5 else 0
def zPx(a b:List UInt8)(nid:Nat)(h:Heap):yB prog false nid 45 2 [(0,.str a),(1,.str b)] h=some (.sl 1 (wn [a,b]) .full,h):=by
 simp[yB,uK,fV,pz,lV,D.notTuple,D.cells,wR,ur,wo,wn]
def Qs{l:List Apt}(W:yi 2 (Hx l) d)(hl:l.length<=1048576)(hi:i<l.length){m:KN}(E:g.at' id=some (.map (knD m))):
  zE prog 119 [d,.int .i64 (i:Int),.map id] g λr h'=>h'=g/\r=.int .i64 (Zd m l i l[i]):=by
 refine xU kr λQ=> ?_;have P:id<g.next:=by
  by_cases h:id<g.next
  ·exact h
  ·rw[Q id ow]at E;cases E
 have K:=aY W hi;have V:∀k:Int,below g.next (.int .i64 k):=λk=>trivial;have n:i-1<l.length:=ow;obtain⟨R,v⟩:∃R,Zd m l i l[i]=R:=⟨_,rfl⟩;rw[v];unfold Zd at v;have D:∀x,l.getD (i-1) x=l[i-1]'n:=λx=>by simp[n]
 have z:=aY W n;have F:=WX (l[i-1]'n) l[i];rw[D]at v;clear D;generalize l[i]=x at *
 simp only[Apt.cells]at K z F;have S:yX prog 130 (.ptr g.next 0) (.agg [.str x.a,.str x.b]) (g.new g.next (.row [.str [],.str []]))=some (g.new g.next (.row [.str x.a,.str x.b])):=qK TE ow rfl rfl rfl;obtain⟨H,T,X,ad,C⟩:∃H,g.new g.next (.row [.str x.a,.str x.b])=H/\H.at' g.next=some (.row [.str x.a,.str x.b])/\Ext g H/\H.at' id=some (.map (knD m)):=⟨_,rfl,z8 _ _ _,(Ext.refl g).new (zD _) _,by rw[zi ow];exact E⟩;rw[T]at S;have VI:=λk=>Uc C k;have M:=zPx x.a x.b;obtain⟨c,f⟩:∃c,[x.a,x.b]=c:=⟨_,rfl⟩;have o:c.length=2:=by rw[<-f];rfl
 have o1:yi 1 (wn c) (.sl 1 (wn c) .full):=yi.mk _;have B:=wh o1;rw[o]at B;rw[f]at M v;clear T E C;refine zu zKB ?_;simp only[f119,zA];obtain⟨L,u⟩:∃L,(c.any λs=> !gF m s)=L:=⟨_,rfl⟩;rw[u]at v;subst v;clear f
 repeat' first|simp only[go_sem, *]|apply bc<;>intro A
 refine zd (λk fr h=>fr 0=d/\fr 1=.int .i64 (i:Int)/\fr 2=.map id/\fr 7=.ptr g.next 0/\fr 20=.sl 1 (wn c) .full/\fr 21=.int .i64 ((2:Nat):Int)/\fr 22=.int .i64 (k:Int)/\h=H/\∀j (q:j<c.length),j<k->(!gF m c[j])=false) 2 ow ?_ ?_ ?_
 ·simp only[go_sem,zT,zV,zI];exact λj q h0=>by omega
 ·rintro k fr h P e1 Z ⟨f0,f1,f2,f7,G,I,J,rfl,q⟩;have O:k<c.length:=ow;have a1:=rP o1 O;obtain⟨w,hw⟩:=VI c[k];cases U:gF m c[k]with
  |false=>
   have t:L=true:=by rw[<-u];exact Yl (p:=λs=> !gF m s) O (by simp only[U];rfl)
   subst t;clear q u VI o1 o
   repeat' first|simp only[go_sem, *]|apply bc<;>intro A
  |true=>
   have hn:=tB (p:=λs=> !gF m s) O q (by simp only[U];rfl);clear q u VI o1 o
   repeat' first|simp only[go_sem, *]|apply bc<;>intro A
   exact hn
 ·rintro fr h e1 ⟨f0,f1,f2,f7,G,I,J,rfl,q⟩;have t:L=false:=by rw[<-u];exact dT λj N _=>q j N ow
  subst t;clear q u VI o1 o;by_cases h0:0<i
  ·have Y:decide ((i:Int)>0)=true:=zS ow;have Z:IntKind.i64.wrap ((i:Int)-1)=((i-1:Nat):Int):=by rw[qU ow ow];omega
   generalize l[i-1]=y at *
   repeat' first|simp only[go_sem, *]|apply bc<;>intro A
   refine qH Heap.emp [(0,.no,false),(1,.no,false),(2,.no,false),(3,.no,false),(4,.no,false),(5,.no,false),(6,.no,false),(7,.no,false),(8,.no,false),(14,.no,false),(9,.no,false),(10,.no,false),(11,.no,false),(12,.no,false),(13,.no,false),(15,.no,false),(16,.no,false),(17,.no,false),(18,.no,false)] kr kr (λi ob e=>by cases e) ?_
   repeat' first|simp only[go_sem, *]|apply bc<;>intro A|refine zE.use (F _) ?_
  ·have Y:decide ((i:Int)>0)=false:=zP ow;clear z F
   repeat' first|simp only[go_sem, *]|apply bc<;>intro A
   refine qH Heap.emp [(0,.no,false),(1,.no,false),(2,.no,false),(3,.no,false),(4,.no,false),(5,.no,false),(6,.no,false),(7,.no,false),(8,.no,false),(14,.no,false),(9,.no,false),(10,.no,false),(11,.no,false),(12,.no,false),(13,.no,false),(15,.no,false),(16,.no,false),(17,.no,false),(18,.no,false)] kr kr (λi ob e=>by cases e) ?_;exact au
structure Cat where
 ls:List Lic
 es:List Exc
 cs:List Cla
 ps:List Apt
structure Cat.Sm(c:Cat):Prop where
 ls:c.ls.length<=1048576/\∀x∈c.ls,x.Sm
 es:c.es.length<=1048576/\∀x∈c.es,x.Ok
 cs:c.cs.length<=1048576/\∀x∈c.cs,x.Ok
 ps:c.ps.length<=1048576
def uc(c:Cat)(d:D):Prop:=∃a b e p,d=.agg [a,b,e,p]/\yi 4 (jc c.ls) a/\yi 3 (AP c.es) b/\yi 5 (RM c.cs) e/\yi 2 (Hx c.ps) p
def j9(f:Nat->Int):Nat->Int
 |0=>0
 |n+1=>if(j9 f n==0)=true then f n else j9 f n
theorem tZ{f:Nat->Int} :∀{n:Nat},(∀i,i<n->f i=0)->j9 f n=0
 |0,_=>rfl
 |n+1,h=>by
  have a:=tZ (n:=n) λi b=>h i ow;simp[j9,a,h n ow]
theorem jZ{f:Nat->Int} :∀{n i:Nat},i<n->(∀j,j<i->f j=0)->f i≠0->j9 f n=f i
 |n+1,i,b,a,h0=>by
  rcases z7.1 b with q|rfl
  ·have c:=jZ q a h0;simp only[j9,c];rw[iq (by simpa using h0)]
  ·simp[j9,tZ a]
def pX{f:Nat->Int}(b:∀j,j<i->f j=0)(h:f i=0):∀j,j<i+1->f j=0:=λj a=>by
 rcases z7.1 a with q|rfl
 ·exact b j q
 ·exact h
def atE{α:Type}(f:Nat->α->Int)(l:List α)(i:Nat):Int:=match l[i]? with
 |some x=>f i x
 |none=>0
def NP{f:Nat->α->Int}{l:List α}(h:i<l.length):atE f l i=f i l[i]:=by simp[atE,h]
def Cat.m(c:Cat):KN:=Rb c.ls c.ls.length
def Cat.big(c:Cat):Bool:=decide ((c.ls.length:Int)>32)||decide ((c.es.length:Int)>16)||decide ((c.cs.length:Int)>128)||decide ((c.ps.length:Int)>64)
def Cat.e1(c:Cat):Int:=j9 (atE (bV c.ls) c.ls) c.ls.length
def Cat.e2(c:Cat):Int:=j9 (atE (Zi c.m c.es) c.es) c.es.length
def Cat.e3(c:Cat):Int:=j9 (atE (Zh c.m c.cs) c.cs) c.cs.length
def Cat.e4(c:Cat):Int:=j9 (atE (Zd c.m c.ps) c.ps) c.ps.length
def pJ(c:Cat):Int:=
 if c.big=true then 10
 else if(!(c.e1==0))=true then c.e1
 else if(!(c.e2==0))=true then c.e2
 else if(!(c.e3==0))=true then c.e3
 else c.e4
variable{c:Cat}
theorem fY(x:uc c d)(C:c.Sm)(g:Heap):zE prog 69 [d] g λr h'=>h'=g/\r=.int .i64 (pJ c):=by
 refine xU kr λP=> ?_;obtain⟨a,b,e,p,rfl,F,J,L,M⟩:=x;have V:=rS F;have W:=fw J;have le:=jb L;have N:=bT M;have s1:=C.ls.1;have s2:=C.es.1;have s3:=C.cs.1;have s4:=C.ps;have K:∀k:Int,below g.next (.int .i64 k):=λk=>trivial;have O:Ext g g:=Ext.refl g;refine zu zM2 ?_;simp only[f69,zA];cases q:c.big with
 |true=>
  have t:pJ c=10:=ip q;unfold Cat.big at q
  repeat' first|simp only[go_sem, *]|apply bc<;>intro x
  all_goals(simp only[cG,decide_false,bne,cj,gL,ry,lX,ZX,wV,tz,pU,rx,wu,Bool.not_true,nO,Bool.not_not,Bool.true_eq_false,zl, *]at q;done)
 |false=>
 have t:pJ c=if(!(c.e1==0))=true then c.e1 else if(!(c.e2==0))=true then c.e2 else if(!(c.e3==0))=true then c.e3 else c.e4:=iq (by rw[q];exact zZ)
 obtain⟨R,I⟩:∃R,pJ c=R:=⟨_,rfl⟩;rw[I]at t⊢;have D:=t.symm;clear t;have t:=D;clear D;clear I;unfold Cat.big at q;simp only[pM]at q;obtain⟨⟨⟨Q,X⟩,Y⟩,Z⟩:=q
 repeat' first|simp only[go_sem, *]|apply bc<;>intro x
 refine zd (λk fr h=>fr 1=.iptr [a,b,e,p] 0/\fr 36=.int .i64 (c.ls.length:Int)/\fr 37=.int .i64 (k:Int)/\h=g/\∀j,j<k->atE (bV c.ls) c.ls j=0) c.ls.length ow ?_ ?_ ?_
 ·simp only[go_sem,zT,zV,zI];exact λj l=>absurd l (yq _)
 ·rintro k fr h n y E ⟨w,fl,z,rfl,l⟩;have s:=WV F ow C.ls.2 n;have i:=NP (f:=bV c.ls) n;generalize bV c.ls k c.ls[k]=v at *
  cases u:(v==0)with
  |false=>
   have o:j9 (atE (bV c.ls) c.ls) c.ls.length=v:=by rw[jZ n l (by rw[i];simpa using u),i]
   have o:c.e1=v:=o;rw[o,ip (by rw[u];rfl)]at t;subst t;clear l i o
   repeat' first|simp only[go_sem, *]|apply bc<;>intro x|refine zE.use (s _) ?_
  |true=>
   have B:=pX l (by rw[i];simpa using u);clear l i
   repeat' first|simp only[go_sem, *]|apply bc<;>intro x|refine zE.use (s _) ?_
   exact B
 rintro fr h y ⟨w,fl,z,rfl,l⟩;have o:c.e1=0:=tZ l;rw[o,iq (by decide)]at t;clear l o Q
 rename Heap=>g
 simp only[go_sem,w,fl,z,y];refine(Wu F ow _).mono ?_;rintro r H ⟨id,rfl,T,U,G,S⟩
 repeat' first|simp only[go_sem, *]|apply bc<;>intro x
 refine zd (λk fr h=>fr 1=.iptr [a,b,e,p] 0/\fr 5=.map id/\fr 52=.int .i64 (c.es.length:Int)/\fr 53=.int .i64 (k:Int)/\h=H/\∀j,j<k->atE (Zi c.m c.es) c.es j=0) c.es.length ow ?_ ?_ ?_
 ·simp only[go_sem,zT,zV,zI];exact⟨w,λj l=>absurd l (yq _)⟩
 ·rintro k fr h n y E ⟨w,A,fl,z,rfl,l⟩;have s:=Z5 J ow C.es.2 n (m:=c.m) G;have i:=NP (f:=Zi c.m c.es) n;generalize Zi c.m c.es k c.es[k]=v at *
  cases u:(v==0)with
  |false=>
   have o:j9 (atE (Zi c.m c.es) c.es) c.es.length=v:=by rw[jZ n l (by rw[i];simpa using u),i]
   have o:c.e2=v:=o;rw[o,ip (by rw[u];rfl)]at t;subst t;clear l i o
   repeat' first|simp only[go_sem, *]|apply bc<;>intro x|refine zE.use s ?_
  |true=>
   have B:=pX l (by rw[i];simpa using u);clear l i
   repeat' first|simp only[go_sem, *]|apply bc<;>intro x|refine zE.use s ?_
   exact B
 rintro fr h y ⟨w,A,fl,z,rfl,l⟩;have o:c.e2=0:=tZ l;rw[o,iq (by decide)]at t;clear l o
 rename Heap=>H
 simp only[go_sem,w,A,fl,z,y,le,N];refine zd (λk fr h=>fr 1=.iptr [a,b,e,p] 0/\fr 5=.map id/\fr 67=.int .i64 (c.cs.length:Int)/\fr 68=.int .i64 (k:Int)/\h=H/\∀j,j<k->atE (Zh c.m c.cs) c.cs j=0) c.cs.length ow ?_ ?_ ?_
 ·simp only[go_sem,zT,zV,zI];exact⟨w,A,λj l=>absurd l (yq _)⟩
 ·rintro k fr h n y E ⟨w,A,fl,z,rfl,l⟩;have s:=UE L ow C.cs.2 n (m:=c.m) G;have i:=NP (f:=Zh c.m c.cs) n;generalize Zh c.m c.cs k c.cs[k]=v at *
  cases u:(v==0)with
  |false=>
   have o:j9 (atE (Zh c.m c.cs) c.cs) c.cs.length=v:=by rw[jZ n l (by rw[i];simpa using u),i]
   have o:c.e3=v:=o;rw[o,ip (by rw[u];rfl)]at t;subst t;clear l i o
   repeat' first|simp only[go_sem, *]|apply bc<;>intro x|refine zE.use s ?_
  |true=>
   have B:=pX l (by rw[i];simpa using u);clear l i
   repeat' first|simp only[go_sem, *]|apply bc<;>intro x|refine zE.use s ?_
   exact B
 rintro fr h y ⟨w,A,fl,z,rfl,l⟩;have o:c.e3=0:=tZ l;rw[o,iq (by decide)]at t;clear l o
 rename Heap=>H
 simp only[go_sem,w,A,fl,z,y,le,N];refine zd (λk fr h=>fr 1=.iptr [a,b,e,p] 0/\fr 5=.map id/\fr 82=.int .i64 (c.ps.length:Int)/\fr 83=.int .i64 (k:Int)/\h=H/\∀j,j<k->atE (Zd c.m c.ps) c.ps j=0) c.ps.length ow ?_ ?_ ?_
 ·simp only[go_sem,zT,zV,zI];exact⟨w,A,λj l=>absurd l (yq _)⟩
 ·rintro k fr h n y E ⟨w,A,fl,z,rfl,l⟩;have s:=Qs M ow n (m:=c.m) G;have i:=NP (f:=Zd c.m c.ps) n;generalize Zd c.m c.ps k c.ps[k]=v at *
  cases u:(v==0)with
  |false=>
   have o:j9 (atE (Zd c.m c.ps) c.ps) c.ps.length=v:=by rw[jZ n l (by rw[i];simpa using u),i]
   have o:c.e4=v:=o;rw[o]at t;subst t;clear l i o
   repeat' first|simp only[go_sem, *]|apply bc<;>intro x|refine zE.use s ?_
  |true=>
   have B:=pX l (by rw[i];simpa using u);clear l i
   repeat' first|simp only[go_sem, *]|apply bc<;>intro x|refine zE.use s ?_
   exact B
 rintro fr h y ⟨w,A,fl,z,rfl,l⟩;have o:c.e4=0:=tZ l;rw[o]at t;subst t;clear l o;exact au
theorem Nx{l:List Lic}{k:List UInt8}{v:Int} :∀{i:Nat},dK k (Rb l i)=some v->∃j:Nat,j<i/\v=(j:Int)/\(l.map Lic.name).getD j []=k
 |0,h=>by cases h
 |i+1,h=>by
  rw[Rb,Rl]at h;split at h
  ·rename_i q;have q:k=(l.map Lic.name).getD i []:=by simpa using q
   exact⟨i,by omega,(oK h).symm,q.symm⟩
  ·obtain⟨j,h1,a,h3⟩:=Nx h;exact⟨j,by omega,a,h3⟩
def mv(c:Cat)(k:List UInt8):Option Lic:=if(!(pJ c==0))=true then none else match dK k c.m with
 |some v=>c.ls[v.toNat]?
 |none=>none
def gf(c:Cat)(k:List UInt8):D:=match mv c k with
 |some x=>.tuple [.agg [.str x.name,.str x.fam,.int .i64 x.ver,.str x.text],.bool true]
 |none=>.tuple [.agg aV,.bool false]
def Kv(u:uc c d)(Q:c.Sm)(k:List UInt8)(g:Heap):zE prog 246 [d,.str k] g λr h'=>h'=g/\r=gf c k:=by
 refine xU kr λW=> ?_;have n:=fY u Q;obtain⟨a,b,e,p,rfl,L,hb,he,hp⟩:=u;have s1:=Q.ls.1;have o:=λh=>Wu (e1:=b) (e2:=e) (e3:=p) L s1 h;have U:qd prog 117 []=some (.agg aV):=by simp[qd,Xq,WR,ur,D.notTuple,D.cells]
 have l:∀(x:Lic)(H:Heap),H.at' g.next=some (.row aV)->yX prog 117 (.ptr g.next 0) (.agg [.str x.name,.str x.fam,.int .i64 x.ver,.str x.text]) H=some (H.set g.next (.row [.str x.name,.str x.fam,.int .i64 x.ver,.str x.text])):=λx H h=>qp h jr rfl (by simp) rfl;have f:∀H:Heap,H.at' g.next=some (.row aV)->yX prog 117 (.ptr g.next 0) (.agg aV) H=some (H.set g.next (.row aV)):=λH h=>l ⟨[],[],0,[]⟩ H h;obtain⟨G,hG,E,A,X⟩:∃G,g.new g.next (.row aV)=G/\G.at' g.next=some (.row aV)/\Ext g G/\g.next<G.next:=⟨_,rfl,z8 _ _ _,(Ext.refl g).new (zD _) _,by rw[za];omega⟩;have S:=f G E
 have J:=A.set (id:=g.next) (zD _) (.row aV);have q:∀(x:Lic)(b:Bool),below g.next (.tuple [.agg [.str x.name,.str x.fam,.int .i64 x.ver,.str x.text],.bool b]):=λx b=>by simp[below,qO]
 have y:below g.next (.tuple [.agg aV,.bool false]):=q ⟨[],[],0,[]⟩ false;refine zu zFn ?_;simp only[f246,zA];cases R:(pJ c==0)with
 |false=>
  have K:gf c k=.tuple [.agg aV,.bool false]:=by unfold gf mv;rw[ip (by rw[R];rfl)]
  clear o l f
  repeat' first|simp only[go_sem,zW, *]|apply bc<;>intro u|refine zE.use (n _) ?_
 |true=>
 have hf:mv c k=(match dK k c.m with
  |some v=>c.ls[v.toNat]?
  |none=>none):=iq (by rw[R];decide)
 clear y
 repeat' first|simp only[go_sem, *]|apply bc<;>intro u|refine zE.use (n _) ?_
 rename Heap=>G
 refine(o _).mono ?_;rintro r H ⟨id,rfl,i1,i2,O,C⟩;have s:H.at' g.next=some (.row aV):=by rw[C.2 _ X];exact E
 have B:=A.trans C;obtain⟨v,I⟩:=Uc O k;have y:below g.next (.tuple [.agg aV,.bool false]):=q ⟨[],[],0,[]⟩ false;have T:=B.set (id:=g.next) (zD _) (.row aV);have Y:=f H s;cases z:dK k (Rb c.ls c.ls.length)with
 |none=>
  have K:gf c k=.tuple [.agg aV,.bool false]:=by
   unfold gf;rw[hf];unfold Cat.m;rw[z]
  have hh:gF (Rb c.ls c.ls.length) k=false:=by unfold gF;rw[z];rfl
  clear hf l f o n C B J S E A
  repeat' first|simp only[go_sem,zW, *]|apply bc<;>intro u
 |some w=>
  obtain⟨j,M,rfl,V⟩:=Nx z;have i:=Vt (P:=prog) (t:=189) O Uf Rg rv k true;rw[z]at i;have N:uY prog 189 (.map id) (.str k) true H=some (.tuple [.int .i64 (j:Int),.bool true]):=i;clear i;have F:=pu L M;simp only[Lic.cells]at F;have K:gf c k=.tuple [.agg [.str c.ls[j].name,.str c.ls[j].fam,.int .i64 c.ls[j].ver,.str c.ls[j].text],.bool true]:=by
   unfold gf;rw[hf];unfold Cat.m;rw[z];simp only[ui,zB M]
  have s2:=l c.ls[j] H s;have Z:=B.set (id:=g.next) (zD _) (.row [.str c.ls[j].name,.str c.ls[j].fam,.int .i64 c.ls[j].ver,.str c.ls[j].text]);clear hf l f o n C B J S E A I Y T
  repeat' first|simp only[go_sem,zW, *]|apply bc<;>intro u
def UN(c:Cat)(lic exc:List UInt8):Option Exc:=c.es.find? λx=>x.name==exc&&x.lic==lic
def bX(c:Cat)(lic exc:List UInt8):D:=
 if(mv c lic).isSome=false then .tuple [.nilsl,.bool false]
 else if(exc== [])=true then .tuple [.nilsl,.bool true]
 else match UN c lic exc with
  |some x=>.tuple [x.d,.bool true]
  |none=>.tuple [.nilsl,.bool false]
def Au{p:α->Bool}{l:List α}(c:i<l.length)(b:∀j (b:j<l.length),j<i->p l[j]=false)(d:p l[i]=true):l.find? p=some l[i]:=by
 rw[sX];exact⟨d,i,c,rfl,λj a=>by rw[b j ow a];rfl⟩
def Je{p:α->Bool}{l:List α}(b:∀j (b:j<l.length),p l[j]=false):l.find? p=none:=by
 rw[lZ];intro x c;obtain⟨j,a,rfl⟩:=yD.1 c;rw[b j a];exact zZ
def Kx(z:uc c d)(P:c.Sm)(f i:List UInt8)(g:Heap):zE prog 326 [d,.agg [.str f,.str i]] g λr h'=>Ext g h'/\r=bX c f i:=by
 have v:=Kv z P f;obtain⟨a,b,e,p,rfl,ha,U,he,hp⟩:=z;have s2:=P.es.1;have lb:=fw U;have ai:∀a b c:D,yW true 3 [a,b,c] 0=some (.agg [a,b,c]):=λa b c=>zJ rfl ow;have s:∀(x:Lic)(h:Heap),yX prog 117 (.ptr h.next 0) (.agg [.str x.name,.str x.fam,.int .i64 x.ver,.str x.text]) (h.new h.next (.row aV))=some (h.new h.next (.row [.str x.name,.str x.fam,.int .i64 x.ver,.str x.text])):=λx h=>hA x h h.next;have I:∀o,Ext g (g.new g.next o):=λo=>(Ext.refl g).new (zD _) o;refine zu zF8 ?_;simp only[f326,zA];cases hf:mv c f with
 |none=>
  have J:gf c f=.tuple [.agg aV,.bool false]:=by unfold gf;rw[hf]
  have hR:bX c f i=.tuple [.nilsl,.bool false]:=by unfold bX;rw[hf];rfl
  have F:=λh=>s ⟨[],[],0,[]⟩ h;clear s
  repeat' first|simp only[go_sem, *]|apply bc<;>intro z|refine zE.use (v _) ?_
 |some x=>
  have J:gf c f=.tuple [.agg [.str x.name,.str x.fam,.int .i64 x.ver,.str x.text],.bool true]:=by unfold gf;rw[hf]
  have F:=λh=>s x h;clear s;cases W:(i== [])with
  |true=>
   have hR:bX c f i=.tuple [.nilsl,.bool true]:=by unfold bX;rw[hf,W];rfl
   repeat' first|simp only[go_sem, *]|apply bc<;>intro z|refine zE.use (v _) ?_
  |false=>
  have C:bX c f i=match UN c f i with
   |some x=>.tuple [x.d,.bool true]
   |none=>.tuple [.nilsl,.bool false]:=by unfold bX;rw[hf,W];rfl
  obtain⟨R,S⟩:∃R,bX c f i=R:=⟨_,rfl⟩;rw[S]at C⊢;have t:=C.symm;clear S C
  repeat' first|simp only[go_sem, *]|apply bc<;>intro z|refine zE.use (v _) ?_
  rename Heap=>G
  obtain⟨H,T,B⟩:∃H,G.new G.next (.row [.str x.name,.str x.fam,.int .i64 x.ver,.str x.text])=H/\Ext G H:=⟨_,rfl,I _⟩;rw[T];clear T F I v J;refine zd (λk fr h=>fr 3=.iptr [.str f,.str i] 0/\fr 23=b/\fr 24=.int .i64 (c.es.length:Int)/\fr 25=.int .i64 (k:Int)/\Ext G h/\∀j (A:j<c.es.length),j<k->(c.es[j].name==i&&c.es[j].lic==f)=false) c.es.length ow ?_ ?_ ?_
  ·simp only[go_sem,zT,zV,zI];exact⟨B,λj A h0=>absurd h0 (yq _)⟩
  ·clear B;rintro k fr h w Y ew ⟨Z,M,N,O,B,A⟩;have X:=cC U w;have V:=(P.es.2 _ (zH w)).1;have n:=λq=>tB (p:=λy:Exc=>y.name==i&&y.lic==f) (l:=c.es) w A q;have m:=λq=>Au (p:=λy:Exc=>y.name==i&&y.lic==f) (l:=c.es) w A q;have u:UN c f i=some c.es[k]->.tuple [c.es[k].d,.bool true]=R:=λq=>by rw[<-t,q]
   generalize c.es[k]=y at *
   simp only[Exc.cells]at X;have F:yX prog 122 (.ptr h.next 0) (.agg [.str y.name,.str y.lic,y.d]) (h.new h.next (.row [.str [],.str [],.nilsl]))=some (h.new h.next (.row [.str y.name,.str y.lic,y.d])):=qK WF ow rfl rfl (by show(true&&(true&&(y.d.flat&&true)))=true;rw[kH V];rfl);have ad:=B.new B.1 (.row [.str y.name,.str y.lic,y.d]);clear A t V;cases L:(y.name==i)with
   |false=>
    have E:=n (by simp only[L,wV]);clear n m u
    repeat' first|simp only[go_sem,z8, *]|apply bc<;>intro z
    exact E
   |true=>
    cases Q:(y.lic==f)with
    |false=>
     have E:=n (by simp only[L,Q,pU]);clear n m u
     repeat' first|simp only[go_sem,z8, *]|apply bc<;>intro z
     exact E
    |true=>
     have E:=u (m (by simp only[L,Q,wu]));clear n m u
     repeat' first|simp only[go_sem,z8, *]|apply bc<;>intro z
  ·clear B;rintro fr h Y ⟨Z,M,N,O,B,A⟩;have E:UN c f i=none:=Je λj K=>A j K K;rw[E]at t;have ag: .tuple [.nilsl,.bool false]=R:=t;clear A E t;exact au
def Z9(c:Cat)(lic exc:List UInt8):Bool:=(mv c lic).isSome&&((exc== [])||(UN c lic exc).isSome)
def PT(c:Cat)(b a:List UInt8):∃q,bX c b a=.tuple [q,.bool (Z9 c b a)]:=by
 unfold bX Z9;cases mv c b with
 |none=>exact⟨_,rfl⟩
 |some x=>
  cases h:(a== [])with
  |true=>exact⟨_,rfl⟩
  |false=>
   cases UN c b a with
   |none=>exact⟨_,rfl⟩
   |some y=>exact⟨_,rfl⟩
def Bj(l:uc c d)(o:c.Sm)(i f:List UInt8)(g:Heap):zE prog 249 [d,.agg [.str i,.str f]] g λr h'=>h'=g/\r=.bool (Z9 c i f):=by
 refine xU kr λm=> ?_;have j:=Kx l o i f;obtain⟨q,n⟩:=PT c i f;rw[n]at j;obtain⟨a,b,e,p,rfl,t,u,v,w⟩:=l;have k:∀b:Bool,below g.next (.bool b):=λb=>trivial;refine zu zFq ?_;simp only[f249,zA];simp only[go_sem, *];refine(j _).mono ?_;rintro r h ⟨s,rfl⟩;exact au
def GG{l:List Int}(e:yi 1 (wY l) d)(B:l.length<=1048576)(n:Int)(g:Heap):
  zE prog 155 [d,.int .i64 n] g λr h'=>h'=g/\r=.int .i64 (UO (λx=>x==n) l):=by
 have o:=nQ e;obtain⟨p,k⟩:∃p:Int->Bool,(λx=>x==n)=p:=⟨_,rfl⟩;have a:∀x,p x=(n==x):=λx=>by rw[<-k];exact jJ
 rw[k];clear k;refine zu zFH ?_;simp only[f155,zA];simp only[go_sem, *];refine zd (λi fr h=>fr 1=.int .i64 n/\fr 0=d/\fr 6=d/\fr 7=.int .i64 (l.length:Int)/\fr 8=.int .i64 (i:Int)/\h=g/\∀j (b:j<l.length),j<i->p l[j]=false) l.length ow ?_ ?_ ?_
 ·simp only[go_sem,zT,zV,zI];exact λj b h0=>absurd h0 (yq _)
 ·rintro i fr h c e1 A ⟨s,q,t,u,v,rfl,b⟩;have z:=gV e c;cases m:(n==l[i])with
  |true=>
   have y:=jV (p:=p) c b (by rw[a,m]);clear b e a;simp only[go_sem, *]
  |false=>
   have w:=tB (p:=p) c b (by rw[a,m]);clear b e a;simp only[go_sem, *];exact w
 ·rintro fr h e1 ⟨s,q,t,u,v,rfl,b⟩;have y:=jW (p:=p) λj f=>b j f f;clear b e a;exact au
def Yy{l:List Int}(b:yi 1 (wY l) d)(e:l.length<=1048576)(n:Int)(g:Heap):
  zE prog 98 [d,.int .i64 n] g λr h'=>h'=g/\r=.bool (l.any λx=>x==n):=by
 have a:=GG b e n;have c:=gb (l:=l) (p:=λx=>x==n);refine zu zNF ?_;simp only[f98,zA]
 repeat' first|simp only[go_sem, *]|apply bc<;>intro f|refine zE.use (a _) ?_
noncomputable def LN:Cfg:=⟨λt=>List.contains (α:=Nat) [] t,λi=>(VI (α:=List (Nat×Fl)) [] i).getD []⟩
def zHe(t:Tmp):LN.mu t=false:=(rfl)
def zNG:Qg prog LN f133=true:=kr
def I2(l:List (List UInt8)):∀x∈wn l,x.length=1:=λx a=>by
 obtain⟨s,_,rfl⟩:=zM.1 a;rfl
def H9{l:List (List UInt8)}(j:yi 1 (wn l) d)(k:l.length<=1048576)(g:Heap):
  zE prog 133 [d] g λr h'=>h'=g/\Fin 1 (wn l) r:=by
 refine xU kr λn=>xS ?_;have e:Ext g g:=Ext.refl g;rcases j with⟨rfl,i⟩ | ⟨tk,rfl⟩
 ·have h0:l= []:=wv.1 i;subst h0;refine xO mix func133 zNG rfl rfl ?_;simp only[f133,zA];have m:jI prog .eql 45 true .nilsl .nilsl=some (.bool true):=by rw[tI (sz:=1) yi.nil underlying45];rfl
  have b:below g.next (qD .nilsl)/\Fin 1 (wn []) (qD .nilsl):=⟨trivial,.inl ⟨rfl,rfl⟩⟩;clear k i;simp only[go_sem,zHe, *]
 ·refine xO mix func133 zNG rfl rfl ?_;simp only[f133,zA];have m:jI prog .eql 45 true (.sl 1 (wn l) tk) .nilsl=some (.bool false):=by rw[tI (yi.mk tk) underlying45];rfl
  have o:=λnid h=>wc (P:=prog) (nid:=nid) (h:=h) uK fV pz rfl rfl (by omega:0<1);have c:qg prog false g.next 45 (.sl 1 [] .full) (.sl 1 (wn l) tk) g=if(wn l).length=0 then some (.sl 1 [] .full,g)else some (.sl 1 (wn l) (.own g.next),g.new g.next .tok):=l8 uK aU pz ow (I2 l) (by rw[oP,qw];unfold lim;omega) (by rw[qw];unfold lim;omega)
  have f:=e.new (zD _) .tok;have a:=yj (sz:=1) (xs:=wn l) uo;by_cases h0:l= []
  ·subst h0;rw[ip (by rw[qw];rfl)]at c;have b:below g.next (qD (.sl 1 [] .full))/\Fin 1 (wn []) (qD (.sl 1 [] .full)):=by
    have:=a .full;exact⟨by rw[show([]:List (List D))=wn []from rfl,this.1];exact qF (yC _) _ this.2,.inr this.1⟩
   clear a f;simp only[go_sem,zHe, *]
  ·rw[iq (by rw[qw];exact λq=>h0 (yM.1 q))]at c;have b:below g.next (qD (.sl 1 (wn l) (.own g.next)))/\Fin 1 (wn l) (qD (.sl 1 (wn l) (.own g.next))):=by
    have:=a (.own g.next);exact⟨by rw[this.1];exact qF (yC _) _ this.2,.inr this.1⟩
   clear a h0;simp only[go_sem,zHe, *]
def Lg(c:Cat)(lic exc:List UInt8):Option (List Int):=
 if(mv c lic).isSome=false then none else if(exc== [])=true then some []else(UN c lic exc).map Exc.lifts
def Ld{b a:List UInt8}(h:Lg c b a=none):bX c b a=.tuple [.nilsl,.bool false]:=by
 unfold Lg at h;unfold bX;split at h
 ·rename_i q;rw[ip q]
 rename_i q;rw[iq q];split at h
 ·cases h
 ·rename_i e;rw[iq e];cases d:UN c b a with
  |none=>rfl
  |some x=>rw[d]at h;cases h
def Lf(g:c.Sm){b a:List UInt8}{L:List Int}(h:Lg c b a=some L):∃q,bX c b a=.tuple [q,.bool true]/\yi 1 (wY L) q/\L.length<=1048576:=by
 unfold Lg at h;unfold bX;split at h
 ·cases h
 rename_i q;rw[iq q];split at h
 ·rename_i e;rw[ip e];cases h;exact⟨_,rfl,yi.nil,by simp⟩
 ·rename_i e;rw[iq e];cases d:UN c b a with
  |none=>rw[d]at h;cases h
  |some x=>
   rw[d]at h;cases h;have f:=g.es.2 x (List.mem_of_find?_eq_some d);exact⟨_,rfl,f.1,f.2.1⟩
def Cla.key(x:Cla):List UInt8×Int×Int×Int×List (List UInt8):=(x.lic,x.way,x.rel,x.duty,x.list)
def JO(L:List Int)(lic:List UInt8)(way rel:Int)(x:Cla):Bool:=x.lic==lic&&x.way==way&&x.rel==rel&& !(L.any λz=>z==x.duty)
def jS(c:Cat)(lic exc:List UInt8)(way rel:Int):List Cla:=match Lg c lic exc with
 |none=>[]
 |some L=>c.cs.filter (JO L lic way rel)
def Cla.Fine(x:Cla):Prop:=Fin 1 (wn x.list) x.d/\x.list.length<=1048576
def Cla.Fine.plain{x:Cla}(h:x.Fine):wr x.cells:=by
 rcases h.1 with⟨e,_⟩ |e
 ·unfold Cla.cells;rw[e];exact⟨rfl,by simp[qO,below],by simp[qY,qD]⟩
 ·have:=yj (sz:=1) (xs:=wn x.list) uo .no;obtain⟨h1,a⟩:=this;simp only[qD,D.sl.injEq,zT,zV]at h1;simp only[below]at a;unfold Cla.cells;rw[e];exact⟨rfl,by simp[qO,below,a],by simp[qY,qD,h1]⟩
def zIK(S:List Cla)(r:D):Prop:=∃cs:List Cla,yi 5 (RM cs) r/\(∀y∈cs,y.Fine)/\cs.map Cla.key=S.map Cla.key
def Own.setRow(a:Own h0 h sz xs d){o:Obj}(c:h0.next<=id)(hr:h.at' id=some o)(b:o≠ .tok)(g:Obj):Own h0 (h.set id g) sz xs d:=
 ⟨a.1.set c _,a.2.1.loc (zD _) λi f=>zY λe=>by subst e;have:=(a.2.1.tok f).2;rw[hr]at this;exact b (oK this),a.2.2⟩
def zAP(x:Cla)(nid:Nat)(h:Heap):yB prog false nid 24 1 [(0,.agg x.cells)] h=some (.sl 5 [x.cells] .full,h):=qW UL HU fI rfl rfl ow ow rfl rfl
theorem Kl(E:uc c d)(hs:c.Sm)(n v:List UInt8)(t rel:Int)(g:Heap):
  zE prog 364 [d,.agg [.str n,.str v],.int .i64 t,.int .i64 rel] g λr h'=>h'=g/\zIK (jS c n v t rel) r:=by
 refine xU kr λa8=>xS ?_;have F:=Kx E hs n v;obtain⟨a,b,e,p,rfl,ha,hb,he,hp⟩:=E;have s3:=hs.cs.1;have le:=jb he;have a9:∀a b c e f:D,yW true 5 [a,b,c,e,f] 0=some (.agg [a,b,c,e,f]):=λa b c e f=>zJ rfl ow;refine zu zGC ?_;simp only[f364,zA];cases U:Lg c n v with
 |none=>
  rw[Ld U]at F;have hR:jS c n v t rel= []:=by unfold jS;rw[U]
  rw[hR]
  repeat' first|simp only[go_sem, *]|apply bc<;>intro E
  refine(F _).mono ?_;rintro r h ⟨hE,rfl⟩;have V:below g.next (qD .nilsl)/\zIK [] (qD .nilsl):=⟨trivial,[],.inl ⟨rfl,rfl⟩,λy N=>absurd N qt,rfl⟩
  repeat' first|simp only[go_sem, *]|apply bc<;>intro E
 |some L=>
  obtain⟨q,hq,a3,a4⟩:=Lf hs U;rw[hq]at F;have hR:jS c n v t rel=c.cs.filter (JO L n t rel):=by unfold jS;rw[U]
  rw[hR]
  repeat' first|simp only[go_sem, *]|apply bc<;>intro E
  refine(F _).mono ?_;rintro r h0 ⟨hE,rfl⟩
  repeat' first|simp only[go_sem, *]|apply bc<;>intro E
  obtain⟨m,J⟩:∃m,JO L n t rel=m:=⟨_,rfl⟩;rw[J];clear F U hq hR;refine zd (λk fr h=>fr 2=.int .i64 t/\fr 3=.int .i64 rel/\fr 5=.iptr [.str n,.str v] 0/\fr 9=q/\fr 23=e/\fr 24=.int .i64 (c.cs.length:Int)/\fr 25=.int .i64 (k:Int)/\∃u out,fr 11=u/\Own g h 5 (RM out) u/\out.length<=k/\(∀y∈out,y.Fine)/\out.map Cla.key=((c.cs.take k).filter m).map Cla.key) c.cs.length ow ?_ ?_ ?_
  ·simp only[go_sem,zT,zV,zI];exact⟨_,[],rfl,Own.start hE 5,by simp,λy N=>absurd N qt,by simp⟩
  ·clear hE;rintro k fr h K ec ew ⟨f2,f3,f5,f9,ag,ai,ak,u,out,ad,P,G,i,j⟩;have a1:=gU he K;obtain⟨o1,o2⟩:=hs.cs.2 _ (zH K);have B:(c.cs.take (k+1)).filter m=(c.cs.take k).filter m++ [c.cs[k]].filter m:=by
    rw[zQ K,oG]
   have s:m c.cs[k]=(c.cs[k].lic==n&&c.cs[k].way==t&&c.cs[k].rel==rel&& !(L.any λz=>z==c.cs[k].duty)):=by rw[<-J];rfl
   generalize c.cs[k]=y at *
   have S:=Yy a3 a4 y.duty;have c2:=H9 o1 o2;simp only[Cla.cells]at a1;have M:yX prog 126 (.ptr h.next 0) (.agg [.str y.lic,.int .i64 y.way,.int .i64 y.rel,.int .i64 y.duty,y.d]) (h.new h.next (.row [.str [],.int .i64 0,.int .i64 0,.int .i64 0,.nilsl]))=some (h.new h.next (.row [.str y.lic,.int .i64 y.way,.int .i64 y.rel,.int .i64 y.duty,y.d])):=qK fI ow rfl rfl (by show(true&&(true&&(true&&(true&&(y.d.flat&&true)))))=true;rw[kH o1];rfl)
   obtain⟨H,hH,C,A,a2⟩:∃H,h.new h.next (.row [.str y.lic,.int .i64 y.way,.int .i64 y.rel,.int .i64 y.duty,y.d])=H/\H.at' h.next=some (.row [.str y.lic,.int .i64 y.way,.int .i64 y.rel,.int .i64 y.duty,y.d])/\Own g H 5 (RM out) u/\h.next<H.next:=⟨_,rfl,z8 _ _ _,P.ext ((Ext.refl h).new (zD _) _),by rw[za];omega⟩;rw[hH]at M;have W:g.next<=h.next:=P.1.1;obtain⟨Q,a0⟩:∃Q,h.next=Q:=⟨_,rfl⟩;rw[a0]at M C a2 W;have no:m y=false->∃u' l,u=u'/\Own g H 5 (RM l) u'/\l.length<=k+1/\(∀z∈l,z.Fine)/\l.map Cla.key=((c.cs.take (k+1)).filter m).map Cla.key:=λq=>⟨u,out,rfl,A,by omega,i,by rw[B,j];simp[q]⟩
   clear hH P;cases R:(y.lic==n)with
   |false=>
    have hn:=no (by rw[s,R];rfl);clear no s j i B G A
    repeat' first|simp only[go_sem, *]|apply bc<;>intro E
   |true=>
   cases b2:(y.way==t)with
   |false=>
    have hn:=no (by rw[s,R,b2];rfl);clear no s j i B G A
    repeat' first|simp only[go_sem, *]|apply bc<;>intro E
   |true=>
   cases b3:(y.rel==rel)with
   |false=>
    have hn:=no (by rw[s,R,b2,b3];rfl);clear no s j i B G A
    repeat' first|simp only[go_sem, *]|apply bc<;>intro E
   |true=>
   cases O:(L.any λz=>z==y.duty)with
   |true=>
    have hn:=no (by rw[s,R,b2,b3,O];rfl);rw[O]at S;clear no s j i B G A O
    repeat' first|simp only[go_sem, *]|apply bc<;>intro E|refine zE.use (S _) ?_
   |false=>
    have N:m y=true:=by rw[s,R,b2,b3,O];rfl
    rw[O]at S;clear no s O
    repeat' first|simp only[go_sem, *]|apply bc<;>intro E|refine zE.use (S _) ?_
    rename Heap=>H
    refine(c2 _).mono ?_;rintro z H' ⟨rfl,hz⟩;have a6:=kH hz.isSl;have a5:z.cells= [z]:=by rcases hz with⟨rfl,_⟩ |rfl<;>rfl
    have Y:yX prog 45 (.ptr Q 4) z H'=some (H'.set Q (.row [.str y.lic,.int .i64 y.way,.int .i64 y.rel,.int .i64 y.duty,z])):=by
     rw[yU C Mf (by simp) a5 a6];rfl
    obtain⟨H2,T,r2,O2⟩:∃H2,H'.set Q (.row [.str y.lic,.int .i64 y.way,.int .i64 y.rel,.int .i64 y.duty,z])=H2/\H2.at' Q=some (.row [.str y.lic,.int .i64 y.way,.int .i64 y.rel,.int .i64 y.duty,z])/\Own g H2 5 (RM out) u:=⟨_,rfl,zW _ _ _,A.setRow W C (by simp) _⟩;rw[T]at Y;have I:=zAP ⟨y.lic,y.way,y.rel,y.duty,y.list,z⟩;simp only[Cla.cells]at I;clear T C M S c2 A a1
    repeat' first|simp only[go_sem, *]|apply bc<;>intro E
    refine O2.appH UL Fh fI ow (by simp) (by simp) (by simp only[cD,M6,zm,yo];unfold lim;omega) (by simp only[cD,zm,yo];unfold lim;omega) λd' h' o=> ?_;have a7:∃u' l,d'=u'/\Own g h' 5 (RM l) u'/\l.length<=k+1/\(∀z∈l,z.Fine)/\l.map Cla.key=((c.cs.take (k+1)).filter m).map Cla.key:=by
     refine⟨d',out++ [⟨y.lic,y.way,y.rel,y.duty,y.list,z⟩],rfl,?_,by simp;omega,λw Z=> ?_,?_⟩
     ·have:RM (out++ [⟨y.lic,y.way,y.rel,y.duty,y.list,z⟩])=RM out++ [[.str y.lic,.int .i64 y.way,.int .i64 y.rel,.int .i64 y.duty,z]]:=by simp[RM,Cla.cells]
      rw[this];exact o
     ·rcases yp.1 Z with Z|Z
      ·exact i w Z
      ·rw[ze.1 Z];exact⟨hz,o2⟩
     ·rw[B,wH,wH,j];simp[N,Cla.key]
    clear O2 o j i B hz Y r2 I;exact au
  ·clear hE;rintro fr h ec ⟨f2,f3,f5,f9,ag,ai,ak,u,out,ad,P,G,i,j⟩;rw[z6]at j;have X:∀x∈RM out,wr x:=λx hx=>by
    obtain⟨y,N,rfl⟩:=zM.1 hx;exact(i y N).plain
   have hf:=P.fin X;have V:Ext g h/\below g.next (qD u)/\zIK (c.cs.filter m) (qD u):=⟨hf.1,hf.2.1,out,hf.2.2.isSl,i,j⟩;clear hf P i j X;exact au
end Go.V
