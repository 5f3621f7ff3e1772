/- Rules of the machine of abstract values, part 6. No condition. -/
import Derived.Test.YtkenagjlanhnmaaGreatDoorW28
import Derived.Test.YtkenagjlanhnmaaGreatDoorW20
set_option linter.all false
set_option maxHeartbeats 8000000
namespace Go.V
attribute [go_sem_proc] Nat.reduceEqDiff Int.reduceBEq Int.reduceLT Int.reduceLE Int.reduceGT Int.reduceGE Nat.reduceAdd Nat.reduceBEq
attribute [go_sem_proc ↓] reduceIte
attribute [go_sem] Nat.zero_add List.contains_cons wI lO decide_true decide_false bne Bool.or_self Bool.false_and Bool.true_and Bool.and_false Bool.and_true Bool.and_self Bool.not_not pk D.notTuple D.cells
section
variable{b:Bool}{x y:Prop}
@[go_sem] def zH3(w:HidP x y):zEh (b==true) x y w=FF (.bool b) x y w:=by cases b<;>rfl
@[go_sem] def zH2(w:HidP x y):zEh (b==false) x y w=FF (.bool b) y x ⟨⟩:=by cases b<;>rfl
@[go_sem] def zIH(w:HidP x y):FF (.bool (!b)) x y w=FF (.bool b) y x ⟨⟩:=by cases b<;>rfl
def bc{w:HidP x y}(h1:b=true->x)(a:b=false->y):FF (.bool b) x y w:=J9 h1 a
end
theorem vp4(a b c e:D):yO true 4 [a,b,c,e] 0=some (.agg [a,b,c,e]):=rfl
theorem vp2(a b:D):yO true 2 [a,b] 0=some (.agg [a,b]):=rfl
theorem au{p:Prop}(h:p:=by repeat' first|simp only[go_sem, *]|apply bc<;>intro):p:=h
attribute[go_sem] vp2 vp4
open Go.Proofs.Tryz
open Go.Proofs
set_option maxRecDepth 100000
def XT(b:UInt8)(r:List UInt8):oY (b::r)=(!(decide (((b::r).length:Int)>32)||decide ((b.toNat:Int)<97)||decide ((b.toNat:Int)>122)||((b::r:List UInt8)== [97,110,100])||((b::r:List UInt8)== [111,114])||((b::r:List UInt8)== [119,105,116,104]))&&(Lib.trimS (b::r) ay== [])):=by
 have e:decide (((b::r).length:Int)>32)=decide ((b::r).length>32):=AQ _ 32;rw[e];rfl
variable{s:List UInt8}{i sz id:Nat}{d:D}{α:Type}{f:FuncId}{cap:List D}{xs:List (List D)}{h g h0:Heap}
def Yq(d:s.length<=1048576)(g:Heap):zD prog 176 [.str s] g λr h'=>h'=g/\r=.bool (oY s):=by
 have e:∀h,zD prog 214 [.str s,.str [97,98,99,100,101,102,103,104,105,106,107,108,109,110,111,112,113,114,115,116,117,118,119,120,121,122,48,49,50,51,52,53,54,55,56,57,45,46]] h λr h'=>h'=h/\r=.str (Lib.trimS s ay):=λh=>C6 d (c:=ay) jD jD h;refine zj zFW ?_;simp only[f176,zA];cases s with
 |nil=>
  have e1:decide ((([]:List UInt8).length:Int)<1)=true:=rfl
  repeat' first|simp only[go_sem, *]|apply bc<;>intro a
  rfl
 |cons b r=>
  have e1:decide (((b::r).length:Int)<1)=false:=zN (by simp only[zx];omega);have f:nS prog 9 (.str (b::r)) (.int .i64 0)=some (.int .u8 b.toNat):=ss (n:=0) underlying9 rfl;have i:=XT b r;generalize j:b::r=s at *
  repeat' first|simp only[go_sem, *]|apply bc<;>intro a|refine zD.use (e _) ?_
def M6(d:s.length<=1048576)(g:Heap):zD prog 177 [.str s] g λr h'=>h'=g/\Fin 1 (wg (VH s)) r:=by
 have a:=JC d 10;refine zj zFX ?_;simp only[f177,zA];cases h1:(s== [])with
 |true=>
  have:s= []:=by simpa using h1
  subst this
  repeat' first|simp only[go_sem, *]|apply bc<;>intro c
  exact .inl ⟨rfl,rfl⟩
 |false=>
  have b:s≠[]:=by simpa using h1
  have h3:VH s=qj 10 s:=by rw[VH,iq b]
  repeat' first|simp only[go_sem, *]|apply bc<;>intro c|refine zD.use (a _) ?_
  exact .inr rfl
def Na(n:Int)(g:Heap):zD prog 179 [.int .i64 n] g λr h'=>h'=g/\r=.bool (decide (n>=0)&&decide (n<=5)):=by
 refine zj zFY ?_;simp only[f179,zA];exact au
def leB(a b:List UInt8):Bool:=WS a b||a==b
def aO(a b:List UInt8):Ho .leq a b=some (.bool (leB a b)):=rfl
def X0(l:List (List UInt8)):Bool:=decide (∀i,i<l.length-1->leB (l.getD (i+1) []) (l.getD i [])=false)
def MT(l:List Int):Bool:=decide (∀i,i<l.length-1->l.getD i 0<l.getD (i+1) 0)
def Re{l:List (List UInt8)}(h:i<l.length):l.getD i []=l[i]:=by simp[h]
def G5{l:List Int}(h:i<l.length):l.getD i 0=l[i]:=by simp[h]
def t8{l:List Int}(a:yZ 1 (wt l) d)(h:Heap):o9 prog 30 d h=some (.int .i64 l.length):=by rw[wL a underlying30,wE]
def lX{l:List Int}(a:yZ 1 (wt l) d)(b:i<l.length):yc prog 30 d (.int .i64 (i:Int))=some (.iptr [.int .i64 l[i]] 0):=yR a wA sG (fY b)
def T4{l:List (List UInt8)}(b:yZ 1 (wg l) d)(x:l.length<=1048576)(g:Heap):zD prog 181 [d] g λr h'=>h'=g/\r=.bool (X0 l):=by
 have f:=wO b;refine zj zFZ ?_;simp only[f181,zA];simp only[go_sem, *];refine qn (λi fr h=>fr 0=d/\fr 3=.int .i64 ((i+1:Nat):Int)/\h=g/\∀j,j<i->j<l.length-1->leB (l.getD (j+1) []) (l.getD j [])=false) l.length ?_ ?_
 .simp only[go_sem,zM,zV,zG]
  exact⟨rfl,λj c=>by omega⟩
 rintro i fr h w ⟨u,v,rfl,c⟩;by_cases a:i+1<l.length
 .have e1:decide (((i+1:Nat):Int)<(l.length:Int))=true:=zR ow
  have t:IntKind.i64.wrap (((i+1:Nat):Int)+1)=((i+2:Nat):Int):=qH jL;have k:IntKind.i64.wrap (((i+1:Nat):Int)-1)=((i:Nat):Int):=by rw[qP ow ow];omega
  have o:=sP b a;have p:=sP b (show i<l.length by omega);have s:=aO l[i+1] l[i];cases e:leB l[i+1] l[i]with
  |true=>
   have hr:X0 l=false:=zN λq=>by
    have:=q i ow;rw[Re a,Re ow,e]at this;cases this
   simp only[go_sem, *];refine yJ kr ?_;simp only[go_sem, *]
  |false=>
   have n:∀j,j<i+1->j<l.length-1->leB (l.getD (j+1) []) (l.getD j [])=false:=λj h1 m=>by
    rcases zp.1 h1 with q|rfl
    .exact c j q m
    .rw[Re a,Re ow,e]
   simp only[go_sem, *];refine yJ kr ?_;simp only[go_sem, *];exact⟨ow,n⟩
 .have e1:decide (((i+1:Nat):Int)<(l.length:Int))=false:=zN ow
  have hr:X0 l=true:=zR λj h=>c j ow h;exact au
def T0{l:List Int}(b:yZ 1 (wt l) d)(w:l.length<=1048576)(g:Heap):zD prog 180 [d] g λr h'=>h'=g/\r=.bool (MT l):=by
 have f:=t8 b;refine zj zKK ?_;simp only[f180,zA];simp only[go_sem, *];refine qn (λi fr h=>fr 0=d/\fr 3=.int .i64 ((i+1:Nat):Int)/\h=g/\∀j,j<i->j<l.length-1->l.getD j 0<l.getD (j+1) 0) l.length ?_ ?_
 .simp only[go_sem,zM,zV,zG]
  exact⟨rfl,λj c=>by omega⟩
 rintro i fr h v ⟨t,u,rfl,c⟩;by_cases a:i+1<l.length
 .have e1:decide (((i+1:Nat):Int)<(l.length:Int))=true:=zR ow
  have s:IntKind.i64.wrap (((i+1:Nat):Int)+1)=((i+2:Nat):Int):=qH jL;have k:IntKind.i64.wrap (((i+1:Nat):Int)-1)=((i:Nat):Int):=by rw[qP ow ow];omega
  have o:=lX b a;have p:=lX b (show i<l.length by omega);cases e:decide (l[i+1]<=l[i])with
  |true=>
   have hr:MT l=false:=zN λq=>by
    have:=q i ow;rw[G5 a,G5 ow]at this;have:=yE e;omega
   simp only[go_sem, *];refine yJ kr ?_;simp only[go_sem, *]
  |false=>
   have n:∀j,j<i+1->j<l.length-1->l.getD j 0<l.getD (j+1) 0:=λj h1 m=>by
    rcases zp.1 h1 with q|rfl
    .exact c j q m
    .rw[G5 a,G5 ow]
     have:=yA e;omega
   simp only[go_sem, *];refine yJ kr ?_;simp only[go_sem, *];exact⟨ow,n⟩
 .have e1:decide (((i+1:Nat):Int)<(l.length:Int))=false:=zN ow
  have hr:MT l=true:=zR λj h=>c j ow h;exact au
def dG(a b:List UInt8):Int:=if WS a b=true then -1 else if a==b then 0 else 1
def Nb(a:List UInt8)(g:Heap):zD prog 109 [.str a] g λr h'=>h'=g/\r=.bool false:=by
 have b:(a==a)=true:=jS;refine zj zE8 ?_;simp only[f109,zA];exact au
def Tx(a b:List UInt8)(g:Heap):zD prog 62 [.str a,.str b] g λr h'=>h'=g/\r=.int .i64 (dG a b):=by
 have ca:=Nb a;have cb:=Nb b;refine zj zNk ?_;simp only[f62,zA];cases h1:WS a b with
 |true=>
  have e:dG a b= -1:=ip h1
  repeat' first|simp only[go_sem, *]|apply bc<;>intro d|refine zD.use (ca _) ?_|refine zD.use (cb _) ?_
 |false=>
  cases c:(a==b)with
  |true=>
   have e:dG a b=0:=by rw[dG,iq (by rw[h1];exact zd),ip c]
   repeat' first|simp only[go_sem, *]|apply bc<;>intro d|refine zD.use (ca _) ?_|refine zD.use (cb _) ?_
  |false=>
   have e:dG a b=1:=by rw[dG,iq (by rw[h1];exact zd),iq (by rw[c];exact zd)]
   repeat' first|simp only[go_sem, *]|apply bc<;>intro d|refine zD.use (ca _) ?_|refine zD.use (cb _) ?_
abbrev KN:=List (List UInt8×Int)
def knD(m:KN):List (D×D):=m.map λp=>(.str p.1,.int .i64 p.2)
def dJ(k:List UInt8):KN->Option Int
 | []=>none
 |(k',v)::m=>if k==k' then some v else dJ k m
def Wa(k:List UInt8)(v:Int):KN->KN
 | []=>[(k,v)]
 |(k',v')::m=>if k==k' then(k,v)::m else(k',v')::Wa k v m
def YK(p:List UInt8×Int)(m:KN):knD (p::m)=(.str p.1,.int .i64 p.2)::knD m:=rfl
theorem Uo(k:List UInt8):∀m:KN,lg [.s] (.str k) (knD m)=some ((dJ k m).map (D.int .i64))
 | []=>rfl
 |(k',v)::m=>by
  have a:=Uo k m;rw[YK,lg,gN];cases h:(k==k')with
  |true=>simp[dJ,h]
  |false=>simp only[dJ,h,a];rfl
theorem J1(k:List UInt8)(v:Int):∀m:KN,MG [.s] (.str k) (.int .i64 v) (knD m)=some (knD (Wa k v m))
 | []=>rfl
 |(k',b)::m=>by
  have a:=J1 k v m;rw[YK,MG,gN];cases h:(k==k')with
  |true=>simp[Wa,h,YK]
  |false=>simp[Wa,h,YK,a]
def Ro(m:KN):(knD m).all (λx=>yo false x.1)=true:=by
 rw[zT];intro x a;obtain⟨p,_,rfl⟩:=zS.1 a;rfl
theorem Rp(k k':List UInt8)(v:Int):∀m:KN,dJ k (Wa k' v m)=if k==k' then some v else dJ k m
 | []=>by simp[Wa,dJ]
 |(k2,c)::m=>by
  have b:=Rp k k' v m;simp only[Wa];by_cases h:k'=k2
  .subst h
   simp only[pN,qF,dJ];by_cases g:k=k'
   .subst g;simp
   .simp[g]
  .have a:(k'==k2)=false:=by simp[h]
   simp only[a,zg,yp,dJ,b];by_cases g:k=k2
   .subst g
    have:(k==k')=false:=by simp;exact λe=>h e.symm
    simp[this]
   .simp[g]
section
variable{P:Program}{t kt e:TypeId}{id:Nat}{h:Heap}{m:KN}
def Vv(a:h.at' id=some (.map (knD m)))(c:MA P t=some (kt,e))(b:N5 P kt=some (false,[.s]))(d:uo P e=some (.int .i64 0))(k:List UInt8)(ok:Bool):
  uM P t (.map id) (.str k) ok h=some (dx ok (.int .i64 0) ((dJ k m).map (D.int .i64))):=by
 simp only[uM,c,b,d,Wc,a,fC,Ro,gN,Uo,show yo false (.str k)=true from rfl,tc,wU,qF]
def TV(a:h.at' id=some (.map (knD m)))(c:MA P t=some (kt,e))(b:N5 P kt=some (false,[.s]))(k:List UInt8)(v:Int):
  wv P t (.map id) (.str k) (.int .i64 v) h=some (h.set id (.map (knD (Wa k v m)))):=by
 simp only[wv,c,b,a,Ro,gN,Uo,J1,show yo false (.str k)=true from rfl,tc,wU,qF]
end
structure Lic where
 name:List UInt8
 fam:List UInt8
 ver:Int
 text:List UInt8
def Lic.cells(l:Lic):List D:=[.str l.name,.str l.fam,.int .i64 l.ver,.str l.text]
def jv(l:List Lic):List (List D):=l.map Lic.cells
def mX(l:List Lic):(jv l).length=l.length:=zI ..
def N6{l:List Lic}(h:i<l.length):(jv l)[i]? =some l[i].cells:=by simp[jv,h]
def Lic.Sm(l:Lic):Prop:=l.name.length<=1048576/\l.fam.length<=1048576/\l.text.length<=1048576
def rF{l:List Lic}(a:yZ 4 (jv l) d)(h:Heap):o9 prog 22 d h=some (.int .i64 l.length):=by rw[wL a underlying22,mX]
def pV{l:List Lic}(a:yZ 4 (jv l) d)(b:i<l.length):yc prog 22 d (.int .i64 (i:Int))=some (.iptr l[i].cells 0):=yR a bK jW (N6 b)
abbrev aT:List D:=[.str [],.str [],.int .i64 0,.str []]
def jo(x:Lic)(h:Heap)(id:Nat):yW prog 117 (.ptr id 0) (.agg [.str x.name,.str x.fam,.int .i64 x.ver,.str x.text]) (h.new id (.row aT))=some (h.new id (.row [.str x.name,.str x.fam,.int .i64 x.ver,.str x.text])):=ym jW ow rfl rfl rfl
def A1{l:List Lic}(c:yZ 4 (jv l) d)(b:i<l.length):∃a,(∀h,uN prog 22 d none (some (.int .i64 (i:Int))) none h=some a)/\yZ 4 (jv (l.take i)) a:=by
 rcases c with⟨rfl,f⟩ | ⟨tk,rfl⟩
 .have e:l= []:=uR.1 f
  subst e;simp at b
 .refine⟨.sl 4 ((jv l).take i) (PK i (jv l).length tk),λh=> ?_,?_⟩
  .simp[uN,BY,fG,bK,jW,s8,VA,Te,mX,Nat.le_of_lt b]
  .simp_all [jv,ka,yZ.mk]
def YP(l:List Lic)(i:Nat)(x:Lic):Bool:=(l.take i).any λy=>y.fam==x.fam&&y.ver==x.ver
def bY(l:List Lic)(i:Nat)(x:Lic):Int:=
 if(!oY x.name|| !oY x.fam)=true then 2
 else if x.ver<0\/x.ver>999 then 3
 else if x.text.length>4096\/(VH x.text).length>999 then 10
 else if x.text.any jX=true then 4
 else if 0<i/\leB x.name ((l.map Lic.name).getD (i-1) [])=true then 5
 else if YP l i x=true then 6 else 0
theorem WW{l:List Lic}(hd:yZ 4 (jv l) d)(hl:l.length<=1048576)(hs:∀x∈l,x.Sm)(hi:i<l.length)(g:Heap):
  zD prog 115 [d,.int .i64 (i:Int)] g λr h'=>h'=g/\r=.int .i64 (bY l i l[i]):=by
 refine xU kr λb4=> ?_;have U:=hs _ (zH hi);have a6:=pV hd hi;have bk:=rF hd;have bb:∀k:Int,below g.next (.int .i64 k):=λk=>trivial;generalize hx:l[i]=x at *
 obtain⟨w,f,n,b⟩:=x;have ag:=jo ⟨w,f,n,b⟩;simp only[Lic.cells]at a6 ag;have T:=(Ext.refl g).new (zC _) (.row [.str w,.str f,.int .i64 n,.str b]);have D:=Yq (s:=w) U.1;have E:=Yq (s:=f) U.2.1;have aj:=M6 (s:=b) U.2.2;refine zj zFB ?_;simp only[f115,zA];obtain⟨R,o⟩:∃R,bY l i ⟨w,f,n,b⟩ =R:=⟨_,rfl⟩;rw[o];unfold bY at o;simp only at o;cases n1:oY w with
 |false=>
  rw[ip (by rw[n1];rfl)]at o;subst o
  repeat' first|simp only[go_sem,z5, *]|apply bc<;>intro t|refine zD.use (D _) ?_|refine zD.use (E _) ?_
 |true=>
 cases n2:oY f with
 |false=>
  rw[ip (by rw[n1,n2];rfl)]at o;subst o
  repeat' first|simp only[go_sem,z5, *]|apply bc<;>intro t|refine zD.use (D _) ?_|refine zD.use (E _) ?_
 |true=>
 rw[iq (by rw[n1,n2];decide)]at o;cases v1:decide (n<0)with
 |true=>
  rw[ip (.inl (yE v1))]at o;subst o
  repeat' first|simp only[go_sem,z5, *]|apply bc<;>intro t|refine zD.use (D _) ?_|refine zD.use (E _) ?_
 |false=>
 cases v2:decide (n>999)with
 |true=>
  rw[ip (.inr (yE v2))]at o;subst o
  repeat' first|simp only[go_sem,z5, *]|apply bc<;>intro t|refine zD.use (D _) ?_|refine zD.use (E _) ?_
 |false=>
 rw[iq (λq=>q.elim (yA v1) (yA v2))]at o;cases t1:decide ((b.length:Int)>4096)with
 |true=>
  have a9:=yE t1;rw[ip (.inl ow)]at o;subst o
  repeat' first|simp only[go_sem,z5, *]|apply bc<;>intro t|refine zD.use (D _) ?_|refine zD.use (E _) ?_
 |false=>
 have a9:=yA t1;cases t2:decide (((VH b).length:Int)>999)with
 |true=>
  have ba:=yE t2;rw[ip (.inr ow)]at o;subst o
  repeat' first|simp only[go_sem,z5,wO hr.isSl, *]|simp only[go_sem,z5, *]|apply bc<;>intro t|refine zD.use (D _) ?_|refine zD.use (E _) ?_|(refine zD.mono (aj _) ?_;rintro r h ⟨rfl,hr⟩)
 |false=>
 have ba:=yA t2;rw[iq ow]at o;have bx:=LP b;have bs:∀h,o9 prog 255 (.sl 1 (Zc b) .no) h=some (.int .i64 b.length):=λh=>by rw[wL (yZ.mk .no) underlying255,UF]
 repeat' first|simp only[go_sem,z5,wO hr.isSl, *]|simp only[go_sem,z5, *]|apply bc<;>intro t|refine zD.use (D _) ?_|refine zD.use (E _) ?_|(refine zD.mono (aj _) ?_;rintro r h ⟨rfl,hr⟩)
 rename Fin 1 (wg (VH b)) _=>hr
 obtain⟨H,hH,a,G,B⟩:∃H,g.new g.next (.row [.str w,.str f,.int .i64 n,.str b])=H/\H.at' g.next=some (.row [.str w,.str f,.int .i64 n,.str b])/\Ext g H/\H.next=g.next+1:=⟨_,rfl,z5 _ _ _,T,za _ _⟩;rw[hH];have a8:=U.2.2;simp only at a8;have a0:∀k (hk:k<b.length),jX b[k]=true->R=4:=λk hk C=>by
  rw[ip (yu.2 ⟨_,zH hk,C⟩)]at o;exact o.symm
 refine zY (λk fr h=>fr 0=d/\fr 1=.int .i64 (i:Int)/\fr 5=.ptr g.next 0/\fr 48=.sl 1 (Zc b) .no/\fr 49=.int .i64 (b.length:Int)/\fr 50=.int .i64 (k:Int)/\h=H/\∀j (I:j<b.length),j<k->jX b[j]=false) b.length ow ?_ ?_ ?_
 .simp only[go_sem,zM,zV,zG]
  exact λj I h0=>by omega
 .rintro k fr h Q e1 ew ⟨f0,f1,O,M,N,P,rfl,I⟩
  have a1:yc prog 255 (.sl 1 (Zc b) .no) (.int .i64 (k:Int))=some (.iptr [.int .u8 (b[k].toNat:Int)] 0):=yR (yZ.mk .no) JW zLh (Mz Q);have tb:jX b[k]=(!((b[k].toNat:Int)==10)&&(decide ((b[k].toNat:Int)<32)||decide ((b[k].toNat:Int)>126))):=rfl;have v:=a0 k Q;have c:=λC=>ug (p:=jX) (l:=b) Q I C;generalize(b[k].toNat:Int)=y at *
  generalize jX b[k]=b6 at *
  cases K:(y==10)with
  |true=>
   have u:=c (by rw[tb,K];rfl)
   repeat' first|simp only[go_sem, *]|apply bc<;>intro t
   exact u
  |false=>
   cases S:decide (y<32)with
   |true=>
    have u:=v (by rw[tb,K,S];rfl);subst u
    repeat' first|simp only[go_sem, *]|apply bc<;>intro t
   |false=>
    cases b3:decide (y>126)with
    |true=>
     have u:=v (by rw[tb,K,S,b3];rfl);subst u
     repeat' first|simp only[go_sem, *]|apply bc<;>intro t
    |false=>
     have u:=c (by rw[tb,K,S,b3];rfl)
     repeat' first|simp only[go_sem, *]|apply bc<;>intro t
     exact u
 .rintro fr h e1 ⟨f0,f1,O,M,N,P,rfl,I⟩
  have A:¬b.any jX=true:=by
   rw[dU λj J _=>I j J J];exact zd
  rw[iq A]at o;have Z:i<=l.length:=ow;obtain⟨d',b5,Y⟩:=A1 hd hi;have ad:=rF Y;rw[yB,mN Z]at ad;have ai:(0<i/\leB w ((l.map Lic.name).getD (i-1) [])=true->R=5)/\(¬(0<i/\leB w ((l.map Lic.name).getD (i-1) [])=true)->R=if YP l i ⟨w,f,n,b⟩ =true then 6 else 0):=by
   refine⟨λq=> ?_,λq=> ?_⟩
   .rw[ip q]at o;exact o.symm
   .rw[iq q]at o;exact o.symm
  have ak:¬(0<i/\leB w ((l.map Lic.name).getD (i-1) [])=true)->R=if(l.take i).any (λy=>y.fam==f&&y.ver==n)=true then 6 else 0:=ai.2
  have bo:∀{fr:Frm}{k:Heap},R=(if YP l i ⟨w,f,n,b⟩ =true then 6 else 0)->True:=λ_=>trivial
  have tw:∀L:List Lic,L=l.take i->YP l i ⟨w,f,n,b⟩ =L.any λy=>y.fam==f&&y.ver==n:=λL e=>by rw[e];rfl
  by_cases h0:0<i
  .have e0:decide ((i:Int)>0)=true:=zR ow
   have ew:IntKind.i64.wrap ((i:Int)-1)=((i-1:Nat):Int):=by rw[qP ow ow];omega
   have a2:=pV hd (show i-1<l.length by omega);simp only[Lic.cells]at a2;have gn:(l.map Lic.name).getD (i-1) []=(l[i-1]'ow).name:=by simp[show i-1<l.length by omega]
   have a3:=aO w (l[i-1]'ow).name;rw[gn]at ai;by_cases C:leB w (l[i-1]'ow).name=true
   .have u:=ai.1 ⟨h0,C⟩
    subst u
    repeat' first|simp only[go_sem, *]|apply bc<;>intro t
    refine yJ kr ?_;exact au
   have C:leB w (l[i-1]'ow).name=false:=by simpa using C
   have z:=(ak (λq=>by rw[gn,C]at q;exact zd q.2)).symm
   repeat' first|simp only[go_sem, *]|apply bc<;>intro t
   refine yJ kr ?_
   repeat' first|simp only[go_sem, *]|apply bc<;>intro t
   generalize hL:l.take i=L at *
   have a5:L.length=i:=by rw[<-hL,yB,mN Z]
   refine zY (λj fr h=>fr 5=.ptr g.next 0/\fr 80=d'/\fr 81=.int .i64 (i:Int)/\fr 82=.int .i64 (j:Int)/\h.at' g.next=some (.row [.str w,.str f,.int .i64 n,.str b])/\Ext g h/\g.next<h.next/\∀m (hm:m<L.length),m<j->(L[m].fam==f&&L[m].ver==n)=false) i ow ?_ ?_ ?_
   .simp only[go_sem,zM,zV,zG]
    exact⟨O,a,G,ow,λm hm h0=>by omega⟩
   .clear f0 f1 O M N P a G B e1
    rintro j fr h Q e1 ew ⟨O,V,W,X,a,T,B,I⟩;have F:j<L.length:=ow;have a1:=pV Y F;have ag:=jo L[j] h h.next;have hk:(h.new h.next (.row [.str L[j].name,.str L[j].fam,.int .i64 L[j].ver,.str L[j].text])).at' g.next=some (.row [.str w,.str f,.int .i64 n,.str b]):=by rw[zf ow];exact a
    have a4:=T.new T.1 (.row [.str L[j].name,.str L[j].fam,.int .i64 L[j].ver,.str L[j].text]);have a7:g.next<(h.new h.next (.row [.str L[j].name,.str L[j].fam,.int .i64 L[j].ver,.str L[j].text])).next:=by rw[za];omega
    have c:=λC=>ug (p:=λy:Lic=>y.fam==f&&y.ver==n) (l:=L) F I C;have v:(L[j].fam==f&&L[j].ver==n)=true->R=6:=λC=>by
     rw[ip (yu.2 ⟨_,zH F,C⟩)]at z;exact z.symm
    simp only[Lic.cells]at a1;cases K:(L[j].fam==f)with
    |false=>
     have u:=c (by simp only[K,wi])
     repeat' first|simp only[go_sem,z5, *]|apply bc<;>intro t
     exact λm hm h=>u m ow h
    |true=>
     cases S:(L[j].ver==n)with
     |false=>
      have u:=c (by simp only[K,S,pD])
      repeat' first|simp only[go_sem,z5, *]|apply bc<;>intro t
      exact λm hm h=>u m ow h
     |true=>
      have u:=v (by simp only[K,S,wU]);subst u
      repeat' first|simp only[go_sem,z5, *]|apply bc<;>intro t
   .clear f0 f1 O M N P a G B e1
    rintro fr h e1 ⟨O,V,W,X,a,T,B,I⟩;have A:¬(L.any λy=>y.fam==f&&y.ver==n)=true:=by
     rw[dU λj J _=>I j J ow];exact zd
    rw[iq A]at z;subst z;exact au
  .have e0:decide ((i:Int)>0)=false:=zN ow
   have z:=(ak (λq=>h0 q.1)).symm
   repeat' first|simp only[go_sem, *]|apply bc<;>intro t
   refine yJ kr ?_
   repeat' first|simp only[go_sem, *]|apply bc<;>intro t
   generalize hL:l.take i=L at *
   have a5:L.length=i:=by rw[<-hL,yB,mN Z]
   refine zY (λj fr h=>fr 5=.ptr g.next 0/\fr 80=d'/\fr 81=.int .i64 (i:Int)/\fr 82=.int .i64 (j:Int)/\h.at' g.next=some (.row [.str w,.str f,.int .i64 n,.str b])/\Ext g h/\g.next<h.next/\∀m (hm:m<L.length),m<j->(L[m].fam==f&&L[m].ver==n)=false) i ow ?_ ?_ ?_
   .simp only[go_sem,zM,zV,zG]
    exact⟨O,a,G,ow,λm hm h0=>by omega⟩
   .clear f0 f1 O M N P a G B e1
    rintro j fr h Q e1 ew ⟨O,V,W,X,a,T,B,I⟩;have F:j<L.length:=ow;have a1:=pV Y F;have ag:=jo L[j] h h.next;have hk:(h.new h.next (.row [.str L[j].name,.str L[j].fam,.int .i64 L[j].ver,.str L[j].text])).at' g.next=some (.row [.str w,.str f,.int .i64 n,.str b]):=by rw[zf ow];exact a
    have a4:=T.new T.1 (.row [.str L[j].name,.str L[j].fam,.int .i64 L[j].ver,.str L[j].text]);have a7:g.next<(h.new h.next (.row [.str L[j].name,.str L[j].fam,.int .i64 L[j].ver,.str L[j].text])).next:=by rw[za];omega
    have c:=λC=>ug (p:=λy:Lic=>y.fam==f&&y.ver==n) (l:=L) F I C;have v:(L[j].fam==f&&L[j].ver==n)=true->R=6:=λC=>by
     rw[ip (yu.2 ⟨_,zH F,C⟩)]at z;exact z.symm
    simp only[Lic.cells]at a1;cases K:(L[j].fam==f)with
    |false=>
     have u:=c (by simp only[K,wi])
     repeat' first|simp only[go_sem,z5, *]|apply bc<;>intro t
     exact λm hm h=>u m ow h
    |true=>
     cases S:(L[j].ver==n)with
     |false=>
      have u:=c (by simp only[K,S,pD])
      repeat' first|simp only[go_sem,z5, *]|apply bc<;>intro t
      exact λm hm h=>u m ow h
     |true=>
      have u:=v (by simp only[K,S,wU]);subst u
      repeat' first|simp only[go_sem,z5, *]|apply bc<;>intro t
   .clear f0 f1 O M N P a G B e1
    rintro fr h e1 ⟨O,V,W,X,a,T,B,I⟩;have A:¬(L.any λy=>y.fam==f&&y.ver==n)=true:=by
     rw[dU λj J _=>I j J ow];exact zd
    rw[iq A]at z;subst z;exact au
def UT{α:Type}(p:α->Bool)(l:List α):Int:=match l.findIdx? p with
 |some i=>(i:Int)
 |none=> -1
def gQ{l:List α}{p:α->Bool} :decide (UT p l>=0)=l.any p:=by
 rw[<-ah];rfl
def jF{l:List α}{p:α->Bool}(c:i<l.length)(b:∀j (b:j<l.length),j<i->p l[j]=false)(d:p l[i]=true):UT p l=(i:Int):=by
 have:l.findIdx? p=some i:=by
  rw[qw];exact⟨c,d,λj a=>by rw[b j ow a];exact zd⟩
 simp only[UT,this]
def jG{l:List α}{p:α->Bool}(b:∀j (b:j<l.length),p l[j]=false):UT p l= -1:=by
 have:l.findIdx? p=none:=by
  rw[uV];intro n c;obtain⟨j,a,rfl⟩:=zz.1 c;exact b j a
 simp only[UT,this]
def T6{l:List Int}(n:yZ 1 (wt l) d)(C:l.length<=1048576){p:Int->Bool}(y:∀s∈l,∀h,zD prog f ([]++ [.int .i64 s]++cap) h λr h'=>h'=h/\r=.bool (p s))(g:Heap):
  zD prog 86 [d,.fn (.func f) [] cap] g λr h'=>h'=g/\r=.int .i64 (UT p l):=by
 have o:=t8 n;refine zj zLU ?_;simp only[f86,zA]
 repeat' first|simp only[go_sem, *]|apply bc<;>intro m
 refine zY (λi fr h=>fr 1=.fn (.func f) [] cap/\fr 0=d/\fr 6=d/\fr 7=.int .i64 (l.length:Int)/\fr 8=.int .i64 (i:Int)/\h=g/\∀j (b:j<l.length),j<i->p l[j]=false) l.length ow ?_ ?_ ?_
 .simp only[go_sem,zM,zV,zG]
  exact λj b h0=>by omega
 .rintro i fr h a e1 B ⟨t,q,u,v,w,rfl,b⟩
  have A:=lX n a;have e:=y _ (zH a);simp only[yU,yG]at e;cases k:p l[i]with
  |true=>
   have z:=jF a b k;rw[k]at e
   repeat' first|simp only[go_sem, *]|apply bc<;>intro m|refine zD.use (e _) ?_
  |false=>
   have x:=ug (p:=p) a b k;rw[k]at e
   repeat' first|simp only[go_sem, *]|apply bc<;>intro m|refine zD.use (e _) ?_
   exact x
 .rintro fr h e1 ⟨t,q,u,v,w,rfl,b⟩
  have z:=jG (p:=p) λj c=>b j c c;exact au
def Ys{l:List Int}(b:yZ 1 (wt l) d)(e:l.length<=1048576){p:Int->Bool}(i:∀s∈l,∀h,zD prog f ([]++ [.int .i64 s]++cap) h λr h'=>h'=h/\r=.bool (p s))(g:Heap):
  zD prog 40 [d,.fn (.func f) [] cap] g λr h'=>h'=g/\r=.bool (l.any p):=by
 have a:=T6 b e i;have c:=gQ (l:=l) (p:=p);refine zj zLO ?_;simp only[f40,zA]
 repeat' first|simp only[go_sem, *]|apply bc<;>intro j|refine zD.use (a _) ?_
def zCR(n:Int)(g:Heap):zD prog 178 [.int .i64 n] g λr h'=>h'=g/\r=.bool (!(decide (n>=0)&&decide (n<=5))):=by
 have a:=Na n;refine zj zKJ ?_;simp only[f178,zA]
 repeat' first|simp only[go_sem, *]|apply bc<;>intro b|refine zD.use (a _) ?_
def Rg(l:List Lic):Nat->KN
 |0=>[]
 |i+1=>Wa ((l.map Lic.name).getD i []) (i:Int) (Rg l i)
def Ww{l:List Lic}{d e1 e2 e3:D}(o:yZ 4 (jv l) d)(J:l.length<=1048576)(g:Heap):
  zD prog 116 [.agg [d,e1,e2,e3]] g λr h'=>∃id,r=.map id/\g.next<=id/\id<h'.next/\h'.at' id=some (.map (knD (Rg l l.length)))/\Ext g h':=by
 have z:=rF o;refine zj zFC ?_;simp only[f116,zA];simp only[go_sem, *];obtain⟨H,x,c,b,e⟩:∃H,g.new g.next (.map [])=H/\H.at' g.next=some (.map (knD (Rg l 0)))/\Ext g H/\g.next<H.next:=⟨_,rfl,z5 _ _ _,(Ext.refl g).new (zC _) _,by rw[za];omega⟩;rw[x];clear x;refine zY (λi fr h=>fr 3=.map g.next/\fr 8=d/\fr 9=.int .i64 (l.length:Int)/\fr 10=.int .i64 (i:Int)/\h.at' g.next=some (.map (knD (Rg l i)))/\Ext g h/\g.next<h.next) l.length ow ?_ ?_ ?_
 .simp only[go_sem,zM,zV,zG]
  exact⟨c,b,e⟩
 .clear c b e
  rintro i fr h j e1 I ⟨B,C,E,p,k,f,s⟩;have A:=pV o j;have u:=jo l[i] h h.next;have m:(l.map Lic.name).getD i []=l[i].name:=by simp[j]
  simp only[Lic.cells]at A;obtain⟨a,q,m2,r2,w,F⟩:∃a,h.new h.next (.row [.str l[i].name,.str l[i].fam,.int .i64 l[i].ver,.str l[i].text])=a/\a.at' g.next=some (.map (knD (Rg l i)))/\a.at' h.next=some (.row [.str l[i].name,.str l[i].fam,.int .i64 l[i].ver,.str l[i].text])/\Ext g a/\g.next<a.next:=
   ⟨_,rfl,by rw[zf ow];exact k,z5 _ _ _,f.new f.1 _,by rw[za];omega⟩
  rw[q]at u;have v:=TV (P:=prog) (t:=189) m2 Ul Rk l[i].name (i:Int);have n:Wa l[i].name (i:Int) (Rg l i)=Rg l (i+1):=by rw[Rg,m]
  rw[n]at v;have m3:=zW a g.next (.map (knD (Rg l (i+1))));have G:=w.set (id:=g.next) (zC _) (.map (knD (Rg l (i+1))));have K:g.next<(a.set g.next (.map (knD (Rg l (i+1))))).next:=F;clear k f m n o w;exact au
 .clear c b e
  rintro fr h e1 ⟨B,C,E,p,k,f,s⟩;have y:∃id,D.map g.next=.map id/\g.next<=id/\id<h.next/\h.at' id=some (.map (knD (Rg l l.length)))/\Ext g h:=⟨_,rfl,zC _,s,k,f⟩;clear k f s o;exact au
structure Exc where
 name:List UInt8
 lic:List UInt8
 lifts:List Int
 d:D
def Exc.cells(l:Exc):List D:=[.str l.name,.str l.lic,l.d]
def Exc.Ok(l:Exc):Prop:=yZ 1 (wt l.lifts) l.d/\l.lifts.length<=1048576/\l.name.length<=1048576
def AU(l:List Exc):List (List D):=l.map Exc.cells
def PQ(l:List Exc):(AU l).length=l.length:=zI ..
def Gs{l:List Exc}(h:i<l.length):(AU l)[i]? =some l[i].cells:=by simp[AU,h]
def fe{l:List Exc}(a:yZ 3 (AU l) d)(h:Heap):o9 prog 23 d h=some (.int .i64 l.length):=by rw[wL a underlying23,PQ]
def cE{l:List Exc}(a:yZ 3 (AU l) d)(b:i<l.length):yc prog 23 d (.int .i64 (i:Int))=some (.iptr l[i].cells 0):=yR a Gp WH (Gs b)
structure Cla where
 lic:List UInt8
 way:Int
 rel:Int
 duty:Int
 list:List (List UInt8)
 d:D
def Cla.cells(l:Cla):List D:=[.str l.lic,.int .i64 l.way,.int .i64 l.rel,.int .i64 l.duty,l.d]
def Cla.Ok(l:Cla):Prop:=yZ 1 (wg l.list) l.d/\l.list.length<=1048576
def RO(l:List Cla):List (List D):=l.map Cla.cells
def cG(l:List Cla):(RO l).length=l.length:=zI ..
def Gl{l:List Cla}(h:i<l.length):(RO l)[i]? =some l[i].cells:=by simp[RO,h]
def jM{l:List Cla}(a:yZ 5 (RO l) d)(h:Heap):o9 prog 24 d h=some (.int .i64 l.length):=by rw[wL a underlying24,cG]
def gF{l:List Cla}(a:yZ 5 (RO l) d)(b:i<l.length):yc prog 24 d (.int .i64 (i:Int))=some (.iptr l[i].cells 0):=yR a UQ gu (Gl b)
structure Apt where
 a:List UInt8
 b:List UInt8
def Apt.cells(l:Apt):List D:=[.str l.a,.str l.b]
def H6(l:List Apt):List (List D):=l.map Apt.cells
def Qt(l:List Apt):(H6 l).length=l.length:=zI ..
def H7{l:List Apt}(h:i<l.length):(H6 l)[i]? =some l[i].cells:=by simp[H6,h]
def bW{l:List Apt}(a:yZ 2 (H6 l) d)(h:Heap):o9 prog 25 d h=some (.int .i64 l.length):=by rw[wL a underlying25,Qt]
def aZ{l:List Apt}(a:yZ 2 (H6 l) d)(b:i<l.length):yc prog 25 d (.int .i64 (i:Int))=some (.iptr l[i].cells 0):=yR a Gq TI (H7 b)
def JQ(a b:Cla):Int:=orL [dG a.lic b.lic,uq a.way b.way,uq a.rel b.rel,uq a.duty b.duty]
def JP(a b:Apt):Int:=orL [dG a.a b.a,dG a.b b.b]
def zLc(a b:Int)(nid:Nat)(h:Heap):yD prog false nid 30 2 [(0,.int .i64 a),(1,.int .i64 b)] h=some (.sl 1 (wt [a,b]) .full,h):=by
 simp[yD,wA,pc,sG,mw,D.notTuple,D.cells,wK,ua,wS,wt]
def zOw(a b c e:Int)(nid:Nat)(h:Heap):yD prog false nid 30 4 [(0,.int .i64 a),(1,.int .i64 b),(2,.int .i64 c),(3,.int .i64 e)] h=some (.sl 1 (wt [a,b,c,e]) .full,h):=by
 simp[yD,wA,pc,sG,mw,D.notTuple,D.cells,wK,ua,wS,wt]
def WY(a b:Apt)(g:Heap):zD prog 68 [.agg a.cells,.agg b.cells] g λr h'=>h'=g/\r=.int .i64 (JP a b):=by
 have h1:=Tx a.a b.a;have f:=Tx a.b b.b;have h3:=zCW (l:=[dG a.a b.a,dG a.b b.b]) (yZ.mk .full) jS;have hr:=λnid=>zLc (dG a.a b.a) (dG a.b b.b) nid;have c:orL [dG a.a b.a,dG a.b b.b]=JP a b:=rfl;rw[c]at h3;have d:∀h:Heap,HLe Heap.emp h:=λh i j e=>by cases e
 refine zj zOp ?_;simp only[f68,zA];simp only[Apt.cells]
 repeat' first|simp only[go_sem, *]|apply bc<;>intro c
 refine yq Heap.emp (pwt [0,1,2,3,5] ((6,.st,true)::(pwt [7] ((8,.st,true)::(pwt [4,9,10,11,12] []))))) kr kr (λi j e=>by cases e) ?_
 repeat' first|simp only[go_sem, *]|apply bc<;>intro c|refine zD.use (h1 _) ?_|refine zD.use (f _) ?_|refine zD.use (h3 _) ?_
def Z5(a b:Cla)(g:Heap):zD prog 66 [.agg a.cells,.agg b.cells] g λr h'=>h'=g/\r=.int .i64 (JQ a b):=by
 have h1:=Tx a.lic b.lic;have f:=Yr a.way b.way;have j:=Yr a.rel b.rel;have h5:=Yr a.duty b.duty;have h3:=zCW (l:=[dG a.lic b.lic,uq a.way b.way,uq a.rel b.rel,uq a.duty b.duty]) (yZ.mk .full) jS;have hr:=λnid=>zOw (dG a.lic b.lic) (uq a.way b.way) (uq a.rel b.rel) (uq a.duty b.duty) nid;have c:orL [dG a.lic b.lic,uq a.way b.way,uq a.rel b.rel,uq a.duty b.duty]=JQ a b:=rfl;rw[c]at h3;have d:∀h:Heap,HLe Heap.emp h:=λh i k e=>by cases e
 refine zj zOn ?_;simp only[f66,zA];simp only[Cla.cells]
 repeat' first|simp only[go_sem, *]|apply bc<;>intro c
 refine yq Heap.emp (pwt [0,1,2,3,5] ((6,.st,true)::(pwt [7] ((8,.st,true)::(pwt [10] ((11,.st,true)::(pwt [12] ((13,.st,true)::(pwt [15] ((16,.st,true)::(pwt [17] ((18,.st,true)::(pwt [4,9,14,19,20,21,22] []))))))))))))) kr kr (λi k e=>by cases e) ?_
 repeat' first|simp only[go_sem, *]|apply bc<;>intro c|refine zD.use (h1 _) ?_|refine zD.use (f _) ?_|refine zD.use (h3 _) ?_|refine zD.use (j _) ?_|refine zD.use (h5 _) ?_
def lZ(a:yZ sz xs d):d.flat=true:=by rcases a with⟨rfl,_⟩ | ⟨tk,rfl⟩ <;>rfl
def ju(m:KN)(k:List UInt8):Bool:=(dJ k m).isSome
variable{id:Nat}{h:Heap}
def Ui{m:KN}(a:h.at' id=some (.map (knD m)))(k:List UInt8):∃v,uM prog 189 (.map id) (.str k) true h=some (.tuple [.int .i64 v,.bool (ju m k)]):=by
 have:=Vv (P:=prog) (t:=189) a Ul Rk pc k true;rw[this];unfold ju;cases dJ k m with
 |none=>exact⟨0,rfl⟩
 |some v=>exact⟨v,rfl⟩
def Zh(m:KN)(l:List Exc)(i:Nat)(x:Exc):Int:=
 if(!oY x.name)=true then 2
 else if(!ju m x.lic)=true then 7
 else if(x.lifts.any λn=> !(decide (n>=0)&&decide (n<=5)))=true then 3
 else if(((x.lifts.length:Int)==0)||(!MT x.lifts||(decide ((i:Int)>0)&&leB x.name ((l.map Exc.name).getD (i-1) []))))=true then 5 else 0
def Z4{l:List Exc}(F:yZ 3 (AU l) d)(V:l.length<=1048576)(Q:∀x∈l,x.Ok)(G:i<l.length){m:KN}(t:g.at' id=some (.map (knD m))):
  zD prog 117 [d,.int .i64 (i:Int),.map id] g λr h'=>h'=g/\r=.int .i64 (Zh m l i l[i]):=by
 refine xU kr λw=> ?_;have P:id<g.next:=by
  by_cases h:id<g.next
  .exact h
  .rw[w id ow]at t;cases t
 obtain⟨o1,o2,T⟩:=Q _ (zH G);have q:=cE F G;have E:∀k:Int,below g.next (.int .i64 k):=λk=>trivial;have S:∀a b c:D,yO true 3 [a,b,c] 0=some (.agg [a,b,c]):=λa b c=>zJ rfl ow;have B:=Yq T;have C:=Ys o1 o2 (f:=178) (cap:=[]) λn _ h=>zCR n h;have o:=T0 o1 o2;have O:=t8 o1;have e:i-1<l.length:=ow;obtain⟨R,j⟩:∃R,Zh m l i l[i]=R:=⟨_,rfl⟩;rw[j];unfold Zh at j;have z:(l.map Exc.name).getD (i-1) []=(l[i-1]'e).name:=by simp[e]
 have p:=cE F e;have M:=aO l[i].name (l[i-1]'e).name;rw[z]at j;generalize l[i]=x at *
 simp only[Exc.cells]at q p;have A:yW prog 122 (.ptr g.next 0) (.agg [.str x.name,.str x.lic,x.d]) (g.new g.next (.row [.str [],.str [],.nilsl]))=some (g.new g.next (.row [.str x.name,.str x.lic,x.d])):=ym WH ow rfl rfl (by show(true&&(true&&(x.d.flat&&true)))=true;rw[lZ o1];rfl);obtain⟨H,L,I,K,u⟩:∃H,g.new g.next (.row [.str x.name,.str x.lic,x.d])=H/\H.at' g.next=some (.row [.str x.name,.str x.lic,x.d])/\Ext g H/\H.at' id=some (.map (knD m)):=⟨_,rfl,z5 _ _ _,(Ext.refl g).new (zC _) _,by rw[zf ow];exact t⟩;rw[L]at A;obtain⟨v,N⟩:=Ui u x.lic;refine zj zJ0 ?_;simp only[f117,zA]
 by_cases h0:0<i
 .have J:decide ((i:Int)>0)=true:=zR ow
  have U:IntKind.i64.wrap ((i:Int)-1)=((i-1:Nat):Int):=by rw[qP ow ow];omega
  subst j;generalize l[i-1]=y at *
  repeat' first|simp only[go_sem, *]|apply bc<;>intro s|refine zD.use (B _) ?_|refine zD.use (C _) ?_|refine zD.use (o _) ?_
  all_goals
   refine yJ kr ?_
   repeat' first|simp only[go_sem, *]|apply bc<;>intro s|refine zD.use (o _) ?_
 .have J:decide ((i:Int)>0)=false:=zN ow
  subst j
  repeat' first|simp only[go_sem, *]|apply bc<;>intro s|refine zD.use (B _) ?_|refine zD.use (C _) ?_|refine zD.use (o _) ?_
  all_goals
   refine yJ kr ?_
   repeat' first|simp only[go_sem, *]|apply bc<;>intro s|refine zD.use (o _) ?_
def GC(p q c:Bool):kW prog .neq 4 c (.bool p) (.bool q)=some (.bool (p !=q)):=by cases p<;>cases q<;>simp[kW,Fi,oH,veq,underlying4]
def Ze(m:KN)(l:List Cla)(i:Nat)(x:Cla):Int:=
 if(!ju m x.lic)=true then 7
 else if(decide (x.way<0)||decide (x.way>2)||decide (x.rel<0)||decide (x.rel>2)|| !(decide (x.duty>=0)&&decide (x.duty<=5)))=true then 3
 else if(!(decide ((x.list.length:Int)>0)==(x.duty==4)))=true then 1
 else if(x.list.any λs=> !ju m s)=true then 7
 else if(!X0 x.list||(decide ((i:Int)>0)&&decide (JQ (l.getD (i-1) x) x>=0)))=true then 5 else 0
def UI{l:List Cla}(T:yZ 5 (RO l) d)(hl:l.length<=1048576)(hs:∀x∈l,x.Ok)(U:i<l.length){m:KN}(I:g.at' id=some (.map (knD m))):
  zD prog 118 [d,.int .i64 (i:Int),.map id] g λr h'=>h'=g/\r=.int .i64 (Ze m l i l[i]):=by
 refine xU kr λK=> ?_;have o:id<g.next:=by
  by_cases h:id<g.next
  .exact h
  .rw[K id ow]at I;cases I
 obtain⟨o1,o2⟩:=hs _ (zH U);have G:=gF T U;have S:∀k:Int,below g.next (.int .i64 k):=λk=>trivial;have ak:∀a b c e f:D,yO true 5 [a,b,c,e,f] 0=some (.agg [a,b,c,e,f]):=λa b c e f=>zJ rfl ow;have n:i-1<l.length:=ow;have O:=T4 o1 o2;have ai:=wO o1;have aj:=GC;obtain⟨R,u⟩:∃R,Ze m l i l[i]=R:=⟨_,rfl⟩;rw[u];unfold Ze at u;have M:∀x,l.getD (i-1) x=l[i-1]'n:=λx=>by simp[n]
 have F:=gF T n;have P:=Z5 (l[i-1]'n) l[i];rw[M]at u;generalize l[i]=x at *
 have W:=Na x.duty;simp only[Cla.cells]at G F P;have N:yW prog 126 (.ptr g.next 0) (.agg [.str x.lic,.int .i64 x.way,.int .i64 x.rel,.int .i64 x.duty,x.d]) (g.new g.next (.row [.str [],.int .i64 0,.int .i64 0,.int .i64 0,.nilsl]))=some (g.new g.next (.row [.str x.lic,.int .i64 x.way,.int .i64 x.rel,.int .i64 x.duty,x.d])):=ym gu ow rfl rfl (by show(true&&(true&&(true&&(true&&(x.d.flat&&true)))))=true;rw[lZ o1];rfl)
 obtain⟨H,hH,V,ad,J⟩:∃H,g.new g.next (.row [.str x.lic,.int .i64 x.way,.int .i64 x.rel,.int .i64 x.duty,x.d])=H/\H.at' g.next=some (.row [.str x.lic,.int .i64 x.way,.int .i64 x.rel,.int .i64 x.duty,x.d])/\Ext g H/\H.at' id=some (.map (knD m)):=⟨_,rfl,z5 _ _ _,(Ext.refl g).new (zC _) _,by rw[zf ow];exact I⟩;rw[hH]at N;have VI:=λk=>Ui J k;obtain⟨v,ag⟩:=VI x.lic;refine zj zFD ?_;simp only[f118,zA];obtain⟨L,E⟩:∃L,(x.list.any λs=> !ju m s)=L:=⟨_,rfl⟩;rw[E]at u;subst u
 repeat' first|simp only[go_sem, *]|apply bc<;>intro t|refine zD.use (W _) ?_
 all_goals
  rename Heap=>H
  refine zY (λk fr h=>fr 0=d/\fr 1=.int .i64 (i:Int)/\fr 2=.map id/\fr 7=.ptr g.next 0/\fr 62=x.d/\fr 63=.int .i64 (x.list.length:Int)/\fr 64=.int .i64 (k:Int)/\h=H/\∀j (z:j<x.list.length),j<k->(!ju m x.list[j])=false) x.list.length ow ?_ ?_ ?_
  .simp only[go_sem,zM,zV,zG]
   exact λj z h0=>by omega
  .rintro k fr h o e1 Y ⟨Z,f1,f2,f7,B,C,f64,rfl,z⟩
   have a1:=sP o1 o;obtain⟨w,hw⟩:=VI x.list[k];cases Q:ju m x.list[k]with
   |false=>
    have q:L=true:=by rw[<-E];exact Yl (p:=λs=> !ju m s) o (by simp only[Q];rfl)
    subst q
    repeat' first|simp only[go_sem, *]|apply bc<;>intro t
   |true=>
    have hn:=ug (p:=λs=> !ju m s) o z (by simp only[Q];rfl)
    repeat' first|simp only[go_sem, *]|apply bc<;>intro t
    exact hn
  .rintro fr h e1 ⟨Z,f1,f2,f7,B,C,f64,rfl,z⟩
   have q:L=false:=by rw[<-E];exact dU λj A _=>z j A A
   subst q;by_cases h0:0<i
   .have X:decide ((i:Int)>0)=true:=zR ow
    have Y:IntKind.i64.wrap ((i:Int)-1)=((i-1:Nat):Int):=by rw[qP ow ow];omega
    generalize l[i-1]=y at *
    repeat' first|simp only[go_sem, *]|apply bc<;>intro t
    refine yq Heap.emp (pwf [0,1,2,3,4,5,6,7,13,8,9,10,11,12,14,15,16,17] []) kr kr (λi ob e=>by cases e) ?_
    repeat' first|simp only[go_sem, *]|apply bc<;>intro t|refine zD.use (O _) ?_|refine zD.use (P _) ?_
   .have X:decide ((i:Int)>0)=false:=zN ow
    repeat' first|simp only[go_sem, *]|apply bc<;>intro t
    refine yq Heap.emp (pwf [0,1,2,3,4,5,6,7,13,8,9,10,11,12,14,15,16,17] []) kr kr (λi ob e=>by cases e) ?_
    repeat' first|simp only[go_sem, *]|apply bc<;>intro t|refine zD.use (O _) ?_
def Za(m:KN)(l:List Apt)(i:Nat)(x:Apt):Int:=
 if([x.a,x.b].any λs=> !ju m s)=true then 7
 else if(!WS x.a x.b||(decide ((i:Int)>0)&&decide (JP (l.getD (i-1) x) x>=0)))=true then 5 else 0
def zOx(a b:List UInt8)(nid:Nat)(h:Heap):yD prog false nid 45 2 [(0,.str a),(1,.str b)] h=some (.sl 1 (wg [a,b]) .full,h):=by
 simp[yD,ww,fM,pK,mw,D.notTuple,D.cells,wK,ua,wS,wg]
def Qz{l:List Apt}(W:yZ 2 (H6 l) d)(hl:l.length<=1048576)(hi:i<l.length){m:KN}(E:g.at' id=some (.map (knD m))):
  zD prog 119 [d,.int .i64 (i:Int),.map id] g λr h'=>h'=g/\r=.int .i64 (Za m l i l[i]):=by
 refine xU kr λQ=> ?_;have P:id<g.next:=by
  by_cases h:id<g.next
  .exact h
  .rw[Q id ow]at E;cases E
 have K:=aZ W hi;have V:∀k:Int,below g.next (.int .i64 k):=λk=>trivial;have n:i-1<l.length:=ow;obtain⟨R,v⟩:∃R,Za m l i l[i]=R:=⟨_,rfl⟩;rw[v];unfold Za at v;have D:∀x,l.getD (i-1) x=l[i-1]'n:=λx=>by simp[n]
 have z:=aZ W n;have F:=WY (l[i-1]'n) l[i];rw[D]at v;clear D;generalize l[i]=x at *
 simp only[Apt.cells]at K z F;have S:yW prog 130 (.ptr g.next 0) (.agg [.str x.a,.str x.b]) (g.new g.next (.row [.str [],.str []]))=some (g.new g.next (.row [.str x.a,.str x.b])):=ym TI ow rfl rfl rfl;obtain⟨H,T,X,ad,C⟩:∃H,g.new g.next (.row [.str x.a,.str x.b])=H/\H.at' g.next=some (.row [.str x.a,.str x.b])/\Ext g H/\H.at' id=some (.map (knD m)):=⟨_,rfl,z5 _ _ _,(Ext.refl g).new (zC _) _,by rw[zf ow];exact E⟩;rw[T]at S;have VI:=λk=>Ui C k;have M:=zOx x.a x.b;obtain⟨c,f⟩:∃c,[x.a,x.b]=c:=⟨_,rfl⟩;have o:c.length=2:=by rw[<-f];rfl
 have o1:yZ 1 (wg c) (.sl 1 (wg c) .full):=yZ.mk _;have B:=wO o1;rw[o]at B;rw[f]at M v;clear T E C;refine zj zJ1 ?_;simp only[f119,zA];obtain⟨L,u⟩:∃L,(c.any λs=> !ju m s)=L:=⟨_,rfl⟩;rw[u]at v;subst v;clear f
 repeat' first|simp only[go_sem, *]|apply bc<;>intro A
 refine zY (λk fr h=>fr 0=d/\fr 1=.int .i64 (i:Int)/\fr 2=.map id/\fr 7=.ptr g.next 0/\fr 20=.sl 1 (wg c) .full/\fr 21=.int .i64 ((2:Nat):Int)/\fr 22=.int .i64 (k:Int)/\h=H/\∀j (q:j<c.length),j<k->(!ju m c[j])=false) 2 ow ?_ ?_ ?_
 .simp only[go_sem,zM,zV,zG]
  exact λj q h0=>by omega
 .rintro k fr h P e1 Z ⟨f0,f1,f2,f7,G,I,J,rfl,q⟩
  have O:k<c.length:=ow;have a1:=sP o1 O;obtain⟨w,hw⟩:=VI c[k];cases U:ju m c[k]with
  |false=>
   have t:L=true:=by rw[<-u];exact Yl (p:=λs=> !ju m s) O (by simp only[U];rfl)
   subst t;clear q u VI o1 o
   repeat' first|simp only[go_sem, *]|apply bc<;>intro A
  |true=>
   have hn:=ug (p:=λs=> !ju m s) O q (by simp only[U];rfl);clear q u VI o1 o
   repeat' first|simp only[go_sem, *]|apply bc<;>intro A
   exact hn
 .rintro fr h e1 ⟨f0,f1,f2,f7,G,I,J,rfl,q⟩
  have t:L=false:=by rw[<-u];exact dU λj N _=>q j N ow
  subst t;clear q u VI o1 o;by_cases h0:0<i
  .have Y:decide ((i:Int)>0)=true:=zR ow
   have Z:IntKind.i64.wrap ((i:Int)-1)=((i-1:Nat):Int):=by rw[qP ow ow];omega
   generalize l[i-1]=y at *
   repeat' first|simp only[go_sem, *]|apply bc<;>intro A
   refine yq Heap.emp (pwf [0,1,2,3,4,5,6,7,8,14,9,10,11,12,13,15,16,17,18] []) kr kr (λi ob e=>by cases e) ?_
   repeat' first|simp only[go_sem, *]|apply bc<;>intro A|refine zD.use (F _) ?_
  .have Y:decide ((i:Int)>0)=false:=zN ow
   clear z F
   repeat' first|simp only[go_sem, *]|apply bc<;>intro A
   refine yq Heap.emp (pwf [0,1,2,3,4,5,6,7,8,14,9,10,11,12,13,15,16,17,18] []) kr kr (λi ob e=>by cases e) ?_;exact au
structure Cat where
 ls:List Lic
 es:List Exc
 cs:List Cla
 ps:List Apt
structure Cat.Sm(c:Cat):Prop where
 ls:c.ls.length<=1048576/\∀x∈c.ls,x.Sm
 es:c.es.length<=1048576/\∀x∈c.es,x.Ok
 cs:c.cs.length<=1048576/\∀x∈c.cs,x.Ok
 ps:c.ps.length<=1048576
def uB(c:Cat)(d:D):Prop:=∃a b e p,d=.agg [a,b,e,p]/\yZ 4 (jv c.ls) a/\yZ 3 (AU c.es) b/\yZ 5 (RO c.cs) e/\yZ 2 (H6 c.ps) p
def gT(f:Nat->Int):Nat->Int
 |0=>0
 |n+1=>if(gT f n==0)=true then f n else gT f n
theorem sE{f:Nat->Int} :∀{n:Nat},(∀i,i<n->f i=0)->gT f n=0
 |0,_=>rfl
 |n+1,h=>by
  have a:=sE (n:=n) λi b=>h i ow;simp[gT,a,h n ow]
theorem jJ{f:Nat->Int} :∀{n i:Nat},i<n->(∀j,j<i->f j=0)->f i≠0->gT f n=f i
 |n+1,i,b,a,h0=>by
  rcases zp.1 b with q|rfl
  .have c:=jJ q a h0
   simp only[gT,c];rw[iq (by simpa using h0)]
  .simp[gT,sE a]
def pG{f:Nat->Int}(b:∀j,j<i->f j=0)(h:f i=0):∀j,j<i+1->f j=0:=λj a=>by
 rcases zp.1 a with q|rfl
 .exact b j q
 .exact h
def atE{α:Type}(f:Nat->α->Int)(l:List α)(i:Nat):Int:=match l[i]? with
 |some x=>f i x
 |none=>0
def NU{f:Nat->α->Int}{l:List α}(h:i<l.length):atE f l i=f i l[i]:=by simp[atE,h]
def Cat.m(c:Cat):KN:=Rg c.ls c.ls.length
def Cat.big(c:Cat):Bool:=decide ((c.ls.length:Int)>32)||decide ((c.es.length:Int)>16)||decide ((c.cs.length:Int)>128)||decide ((c.ps.length:Int)>64)
def Cat.e1(c:Cat):Int:=gT (atE (bY c.ls) c.ls) c.ls.length
def Cat.e2(c:Cat):Int:=gT (atE (Zh c.m c.es) c.es) c.es.length
def Cat.e3(c:Cat):Int:=gT (atE (Ze c.m c.cs) c.cs) c.cs.length
def Cat.e4(c:Cat):Int:=gT (atE (Za c.m c.ps) c.ps) c.ps.length
def rt(c:Cat):Int:=
 if c.big=true then 10
 else if(!(c.e1==0))=true then c.e1
 else if(!(c.e2==0))=true then c.e2
 else if(!(c.e3==0))=true then c.e3
 else c.e4
variable{c:Cat}
theorem fP(x:uB c d)(C:c.Sm)(g:Heap):zD prog 69 [d] g λr h'=>h'=g/\r=.int .i64 (rt c):=by
 refine xU kr λP=> ?_;obtain⟨a,b,e,p,rfl,F,J,L,M⟩:=x;have V:=rF F;have W:=fe J;have le:=jM L;have N:=bW M;have s1:=C.ls.1;have s2:=C.es.1;have s3:=C.cs.1;have s4:=C.ps;have K:∀k:Int,below g.next (.int .i64 k):=λk=>trivial;have O:Ext g g:=Ext.refl g;refine zj zNl ?_;simp only[f69,zA];cases q:c.big with
 |true=>
  have t:rt c=10:=ip q;unfold Cat.big at q
  repeat' first|simp only[go_sem, *]|apply bc<;>intro x
  all_goals(simp only[cH,decide_false,bne,nk,nC,uw,pd,lC,wi,uT,pD,rh,wU,nj,sj,Bool.not_not,Bool.true_eq_false,zg, *]at q;done)
 |false=>
 have t:rt c=if(!(c.e1==0))=true then c.e1 else if(!(c.e2==0))=true then c.e2 else if(!(c.e3==0))=true then c.e3 else c.e4:=iq (by rw[q];exact zd)
 obtain⟨R,I⟩:∃R,rt c=R:=⟨_,rfl⟩;rw[I]at t⊢;have D:=t.symm;clear t;have t:=D;clear D;clear I;unfold Cat.big at q;simp only[rv]at q;obtain⟨⟨⟨Q,X⟩,Y⟩,Z⟩:=q
 repeat' first|simp only[go_sem, *]|apply bc<;>intro x
 refine zY (λk fr h=>fr 1=.iptr [a,b,e,p] 0/\fr 36=.int .i64 (c.ls.length:Int)/\fr 37=.int .i64 (k:Int)/\h=g/\∀j,j<k->atE (bY c.ls) c.ls j=0) c.ls.length ow ?_ ?_ ?_
 .simp only[go_sem,zM,zV,zG]
  exact λj l=>absurd l (yX _)
 .rintro k fr h n y E ⟨w,fl,z,rfl,l⟩
  have s:=WW F ow C.ls.2 n;have i:=NU (f:=bY c.ls) n;generalize bY c.ls k c.ls[k]=v at *
  cases u:(v==0)with
  |false=>
   have o:gT (atE (bY c.ls) c.ls) c.ls.length=v:=by rw[jJ n l (by rw[i];simpa using u),i]
   have o:c.e1=v:=o;rw[o,ip (by rw[u];rfl)]at t;subst t;clear l i o
   repeat' first|simp only[go_sem, *]|apply bc<;>intro x|refine zD.use (s _) ?_
  |true=>
   have B:=pG l (by rw[i];simpa using u);clear l i
   repeat' first|simp only[go_sem, *]|apply bc<;>intro x|refine zD.use (s _) ?_
   exact B
 rintro fr h y ⟨w,fl,z,rfl,l⟩;have o:c.e1=0:=sE l;rw[o,iq jD]at t;clear l o Q
 rename Heap=>g
 simp only[go_sem,w,fl,z,y];refine(Ww F ow _).mono ?_;rintro r H ⟨id,rfl,T,U,G,S⟩
 repeat' first|simp only[go_sem, *]|apply bc<;>intro x
 refine zY (λk fr h=>fr 1=.iptr [a,b,e,p] 0/\fr 5=.map id/\fr 52=.int .i64 (c.es.length:Int)/\fr 53=.int .i64 (k:Int)/\h=H/\∀j,j<k->atE (Zh c.m c.es) c.es j=0) c.es.length ow ?_ ?_ ?_
 .simp only[go_sem,zM,zV,zG]
  exact⟨w,λj l=>absurd l (yX _)⟩
 .rintro k fr h n y E ⟨w,A,fl,z,rfl,l⟩
  have s:=Z4 J ow C.es.2 n (m:=c.m) G;have i:=NU (f:=Zh c.m c.es) n;generalize Zh c.m c.es k c.es[k]=v at *
  cases u:(v==0)with
  |false=>
   have o:gT (atE (Zh c.m c.es) c.es) c.es.length=v:=by rw[jJ n l (by rw[i];simpa using u),i]
   have o:c.e2=v:=o;rw[o,ip (by rw[u];rfl)]at t;subst t;clear l i o
   repeat' first|simp only[go_sem, *]|apply bc<;>intro x|refine zD.use s ?_
  |true=>
   have B:=pG l (by rw[i];simpa using u);clear l i
   repeat' first|simp only[go_sem, *]|apply bc<;>intro x|refine zD.use s ?_
   exact B
 rintro fr h y ⟨w,A,fl,z,rfl,l⟩;have o:c.e2=0:=sE l;rw[o,iq jD]at t;clear l o
 rename Heap=>H
 simp only[go_sem,w,A,fl,z,y,le,N];refine zY (λk fr h=>fr 1=.iptr [a,b,e,p] 0/\fr 5=.map id/\fr 67=.int .i64 (c.cs.length:Int)/\fr 68=.int .i64 (k:Int)/\h=H/\∀j,j<k->atE (Ze c.m c.cs) c.cs j=0) c.cs.length ow ?_ ?_ ?_
 .simp only[go_sem,zM,zV,zG]
  exact⟨w,A,λj l=>absurd l (yX _)⟩
 .rintro k fr h n y E ⟨w,A,fl,z,rfl,l⟩
  have s:=UI L ow C.cs.2 n (m:=c.m) G;have i:=NU (f:=Ze c.m c.cs) n;generalize Ze c.m c.cs k c.cs[k]=v at *
  cases u:(v==0)with
  |false=>
   have o:gT (atE (Ze c.m c.cs) c.cs) c.cs.length=v:=by rw[jJ n l (by rw[i];simpa using u),i]
   have o:c.e3=v:=o;rw[o,ip (by rw[u];rfl)]at t;subst t;clear l i o
   repeat' first|simp only[go_sem, *]|apply bc<;>intro x|refine zD.use s ?_
  |true=>
   have B:=pG l (by rw[i];simpa using u);clear l i
   repeat' first|simp only[go_sem, *]|apply bc<;>intro x|refine zD.use s ?_
   exact B
 rintro fr h y ⟨w,A,fl,z,rfl,l⟩;have o:c.e3=0:=sE l;rw[o,iq jD]at t;clear l o
 rename Heap=>H
 simp only[go_sem,w,A,fl,z,y,le,N];refine zY (λk fr h=>fr 1=.iptr [a,b,e,p] 0/\fr 5=.map id/\fr 82=.int .i64 (c.ps.length:Int)/\fr 83=.int .i64 (k:Int)/\h=H/\∀j,j<k->atE (Za c.m c.ps) c.ps j=0) c.ps.length ow ?_ ?_ ?_
 .simp only[go_sem,zM,zV,zG]
  exact⟨w,A,λj l=>absurd l (yX _)⟩
 .rintro k fr h n y E ⟨w,A,fl,z,rfl,l⟩
  have s:=Qz M ow n (m:=c.m) G;have i:=NU (f:=Za c.m c.ps) n;generalize Za c.m c.ps k c.ps[k]=v at *
  cases u:(v==0)with
  |false=>
   have o:gT (atE (Za c.m c.ps) c.ps) c.ps.length=v:=by rw[jJ n l (by rw[i];simpa using u),i]
   have o:c.e4=v:=o;rw[o]at t;subst t;clear l i o
   repeat' first|simp only[go_sem, *]|apply bc<;>intro x|refine zD.use s ?_
  |true=>
   have B:=pG l (by rw[i];simpa using u);clear l i
   repeat' first|simp only[go_sem, *]|apply bc<;>intro x|refine zD.use s ?_
   exact B
 rintro fr h y ⟨w,A,fl,z,rfl,l⟩;have o:c.e4=0:=sE l;rw[o]at t;subst t;clear l o;exact au
theorem Nz{l:List Lic}{k:List UInt8}{v:Int} :∀{i:Nat},dJ k (Rg l i)=some v->∃j:Nat,j<i/\v=(j:Int)/\(l.map Lic.name).getD j []=k
 |0,h=>by cases h
 |i+1,h=>by
  rw[Rg,Rp]at h;split at h
  .rename_i q
   have q:k=(l.map Lic.name).getD i []:=by simpa using q
   exact⟨i,ow,(mP h).symm,q.symm⟩
  .obtain⟨j,h1,a,h3⟩:=Nz h
   exact⟨j,ow,a,h3⟩
def nq(c:Cat)(k:List UInt8):Option Lic:=if(!(rt c==0))=true then none else match dJ k c.m with
 |some v=>c.ls[v.toNat]?
 |none=>none
def gR(c:Cat)(k:List UInt8):D:=match nq c k with
 |some x=>.tuple [.agg [.str x.name,.str x.fam,.int .i64 x.ver,.str x.text],.bool true]
 |none=>.tuple [.agg aT,.bool false]
def Kq(u:uB c d)(Q:c.Sm)(k:List UInt8)(g:Heap):zD prog 246 [d,.str k] g λr h'=>h'=g/\r=gR c k:=by
 refine xU kr λW=> ?_;have n:=fP u Q;obtain⟨a,b,e,p,rfl,L,hb,he,hp⟩:=u;have s1:=Q.ls.1;have o:=λh=>Ww (e1:=b) (e2:=e) (e3:=p) L s1 h;have U:qW prog 117 []=some (.agg aT):=by simp[qW,Xq,WQ,ua,D.notTuple,D.cells]
 have l:∀(x:Lic)(H:Heap),H.at' g.next=some (.row aT)->yW prog 117 (.ptr g.next 0) (.agg [.str x.name,.str x.fam,.int .i64 x.ver,.str x.text]) H=some (H.set g.next (.row [.str x.name,.str x.fam,.int .i64 x.ver,.str x.text])):=λx H h=>ql h jW rfl jS rfl;have f:∀H:Heap,H.at' g.next=some (.row aT)->yW prog 117 (.ptr g.next 0) (.agg aT) H=some (H.set g.next (.row aT)):=λH h=>l ⟨[],[],0,[]⟩ H h;obtain⟨G,hG,E,A,X⟩:∃G,g.new g.next (.row aT)=G/\G.at' g.next=some (.row aT)/\Ext g G/\g.next<G.next:=⟨_,rfl,z5 _ _ _,(Ext.refl g).new (zC _) _,by rw[za];omega⟩;have S:=f G E
 have J:=A.set (id:=g.next) (zC _) (.row aT);have q:∀(x:Lic)(b:Bool),below g.next (.tuple [.agg [.str x.name,.str x.fam,.int .i64 x.ver,.str x.text],.bool b]):=λx b=>by simp[below,qC]
 have y:below g.next (.tuple [.agg aT,.bool false]):=q ⟨[],[],0,[]⟩ false;refine zj zF3 ?_;simp only[f246,zA];cases R:(rt c==0)with
 |false=>
  have K:gR c k=.tuple [.agg aT,.bool false]:=by unfold gR nq;rw[ip (by rw[R];rfl)]
  clear o l f
  repeat' first|simp only[go_sem,zW, *]|apply bc<;>intro u|refine zD.use (n _) ?_
 |true=>
 have hf:nq c k=(match dJ k c.m with
  |some v=>c.ls[v.toNat]?
  |none=>none):=iq (by rw[R];decide)
 clear y
 repeat' first|simp only[go_sem, *]|apply bc<;>intro u|refine zD.use (n _) ?_
 rename Heap=>G
 refine(o _).mono ?_;rintro r H ⟨id,rfl,i1,i2,O,C⟩;have s:H.at' g.next=some (.row aT):=by rw[C.2 _ X];exact E
 have B:=A.trans C;obtain⟨v,I⟩:=Ui O k;have y:below g.next (.tuple [.agg aT,.bool false]):=q ⟨[],[],0,[]⟩ false;have T:=B.set (id:=g.next) (zC _) (.row aT);have Y:=f H s;cases z:dJ k (Rg c.ls c.ls.length)with
 |none=>
  have K:gR c k=.tuple [.agg aT,.bool false]:=by
   unfold gR;rw[hf];unfold Cat.m;rw[z]
  have hh:ju (Rg c.ls c.ls.length) k=false:=by unfold ju;rw[z];rfl
  clear hf l f o n C B J S E A
  repeat' first|simp only[go_sem,zW, *]|apply bc<;>intro u
 |some w=>
  obtain⟨j,M,rfl,V⟩:=Nz z;have i:=Vv (P:=prog) (t:=189) O Ul Rk pc k true;rw[z]at i;have N:uM prog 189 (.map id) (.str k) true H=some (.tuple [.int .i64 (j:Int),.bool true]):=i;clear i;have F:=pV L M;simp only[Lic.cells]at F;have K:gR c k=.tuple [.agg [.str c.ls[j].name,.str c.ls[j].fam,.int .i64 c.ls[j].ver,.str c.ls[j].text],.bool true]:=by
   unfold gR;rw[hf];unfold Cat.m;rw[z];simp only[wV,zB M]
  have s2:=l c.ls[j] H s;have Z:=B.set (id:=g.next) (zC _) (.row [.str c.ls[j].name,.str c.ls[j].fam,.int .i64 c.ls[j].ver,.str c.ls[j].text]);clear hf l f o n C B J S E A I Y T
  repeat' first|simp only[go_sem,zW, *]|apply bc<;>intro u
def US(c:Cat)(lic exc:List UInt8):Option Exc:=c.es.find? λx=>x.name==exc&&x.lic==lic
def bZ(c:Cat)(lic exc:List UInt8):D:=
 if(nq c lic).isSome=false then .tuple [.nilsl,.bool false]
 else if(exc== [])=true then .tuple [.nilsl,.bool true]
 else match US c lic exc with
  |some x=>.tuple [x.d,.bool true]
  |none=>.tuple [.nilsl,.bool false]
def Ay{p:α->Bool}{l:List α}(c:i<l.length)(b:∀j (b:j<l.length),j<i->p l[j]=false)(d:p l[i]=true):l.find? p=some l[i]:=by
 rw[sI];exact⟨d,i,c,rfl,λj a=>by rw[b j ow a];rfl⟩
def Jb{p:α->Bool}{l:List α}(b:∀j (b:j<l.length),p l[j]=false):l.find? p=none:=by
 rw[lE];intro x c;obtain⟨j,a,rfl⟩:=zz.1 c;rw[b j a];exact zd
def Kt(z:uB c d)(P:c.Sm)(f i:List UInt8)(g:Heap):zD prog 326 [d,.agg [.str f,.str i]] g λr h'=>Ext g h'/\r=bZ c f i:=by
 have v:=Kq z P f;obtain⟨a,b,e,p,rfl,ha,U,he,hp⟩:=z;have s2:=P.es.1;have lb:=fe U;have ai:∀a b c:D,yO true 3 [a,b,c] 0=some (.agg [a,b,c]):=λa b c=>zJ rfl ow;have s:∀(x:Lic)(h:Heap),yW prog 117 (.ptr h.next 0) (.agg [.str x.name,.str x.fam,.int .i64 x.ver,.str x.text]) (h.new h.next (.row aT))=some (h.new h.next (.row [.str x.name,.str x.fam,.int .i64 x.ver,.str x.text])):=λx h=>jo x h h.next;have I:∀o,Ext g (g.new g.next o):=λo=>(Ext.refl g).new (zC _) o;refine zj zGO ?_;simp only[f326,zA];cases hf:nq c f with
 |none=>
  have J:gR c f=.tuple [.agg aT,.bool false]:=by unfold gR;rw[hf]
  have hR:bZ c f i=.tuple [.nilsl,.bool false]:=by unfold bZ;rw[hf];rfl
  have F:=λh=>s ⟨[],[],0,[]⟩ h;clear s
  repeat' first|simp only[go_sem, *]|apply bc<;>intro z|refine zD.use (v _) ?_
 |some x=>
  have J:gR c f=.tuple [.agg [.str x.name,.str x.fam,.int .i64 x.ver,.str x.text],.bool true]:=by unfold gR;rw[hf]
  have F:=λh=>s x h;clear s;cases W:(i== [])with
  |true=>
   have hR:bZ c f i=.tuple [.nilsl,.bool true]:=by unfold bZ;rw[hf,W];rfl
   repeat' first|simp only[go_sem, *]|apply bc<;>intro z|refine zD.use (v _) ?_
  |false=>
  have C:bZ c f i=match US c f i with
   |some x=>.tuple [x.d,.bool true]
   |none=>.tuple [.nilsl,.bool false]:=by unfold bZ;rw[hf,W];rfl
  obtain⟨R,S⟩:∃R,bZ c f i=R:=⟨_,rfl⟩;rw[S]at C⊢;have t:=C.symm;clear S C
  repeat' first|simp only[go_sem, *]|apply bc<;>intro z|refine zD.use (v _) ?_
  rename Heap=>G
  obtain⟨H,T,B⟩:∃H,G.new G.next (.row [.str x.name,.str x.fam,.int .i64 x.ver,.str x.text])=H/\Ext G H:=⟨_,rfl,I _⟩;rw[T];clear T F I v J;refine zY (λk fr h=>fr 3=.iptr [.str f,.str i] 0/\fr 23=b/\fr 24=.int .i64 (c.es.length:Int)/\fr 25=.int .i64 (k:Int)/\Ext G h/\∀j (A:j<c.es.length),j<k->(c.es[j].name==i&&c.es[j].lic==f)=false) c.es.length ow ?_ ?_ ?_
  .simp only[go_sem,zM,zV,zG]
   exact⟨B,λj A h0=>absurd h0 (yX _)⟩
  .clear B
   rintro k fr h w Y ew ⟨Z,M,N,O,B,A⟩;have X:=cE U w;have V:=(P.es.2 _ (zH w)).1;have n:=λq=>ug (p:=λy:Exc=>y.name==i&&y.lic==f) (l:=c.es) w A q;have m:=λq=>Ay (p:=λy:Exc=>y.name==i&&y.lic==f) (l:=c.es) w A q;have u:US c f i=some c.es[k]->.tuple [c.es[k].d,.bool true]=R:=λq=>by rw[<-t,q]
   generalize c.es[k]=y at *
   simp only[Exc.cells]at X;have F:yW prog 122 (.ptr h.next 0) (.agg [.str y.name,.str y.lic,y.d]) (h.new h.next (.row [.str [],.str [],.nilsl]))=some (h.new h.next (.row [.str y.name,.str y.lic,y.d])):=ym WH ow rfl rfl (by show(true&&(true&&(y.d.flat&&true)))=true;rw[lZ V];rfl);have ad:=B.new B.1 (.row [.str y.name,.str y.lic,y.d]);clear A t V;cases L:(y.name==i)with
   |false=>
    have E:=n (by simp only[L,wi]);clear n m u
    repeat' first|simp only[go_sem,z5, *]|apply bc<;>intro z
    exact E
   |true=>
    cases Q:(y.lic==f)with
    |false=>
     have E:=n (by simp only[L,Q,pD]);clear n m u
     repeat' first|simp only[go_sem,z5, *]|apply bc<;>intro z
     exact E
    |true=>
     have E:=u (m (by simp only[L,Q,wU]));clear n m u
     repeat' first|simp only[go_sem,z5, *]|apply bc<;>intro z
  .clear B
   rintro fr h Y ⟨Z,M,N,O,B,A⟩;have E:US c f i=none:=Jb λj K=>A j K K;rw[E]at t;have ag: .tuple [.nilsl,.bool false]=R:=t;clear A E t;exact au
def Wb(c:Cat)(lic exc:List UInt8):Bool:=(nq c lic).isSome&&((exc== [])||(US c lic exc).isSome)
def PW(c:Cat)(b a:List UInt8):∃q,bZ c b a=.tuple [q,.bool (Wb c b a)]:=by
 unfold bZ Wb;cases nq c b with
 |none=>exact⟨_,rfl⟩
 |some x=>
  cases h:(a== [])with
  |true=>exact⟨_,rfl⟩
  |false=>
   cases US c b a with
   |none=>exact⟨_,rfl⟩
   |some y=>exact⟨_,rfl⟩
def Bp(l:uB c d)(o:c.Sm)(i f:List UInt8)(g:Heap):zD prog 249 [d,.agg [.str i,.str f]] g λr h'=>h'=g/\r=.bool (Wb c i f):=by
 refine xU kr λm=> ?_;have j:=Kt l o i f;obtain⟨q,n⟩:=PW c i f;rw[n]at j;obtain⟨a,b,e,p,rfl,t,u,v,w⟩:=l;have k:∀b:Bool,below g.next (.bool b):=λb=>trivial;refine zj zF6 ?_;simp only[f249,zA];simp only[go_sem, *];refine(j _).mono ?_;rintro r h ⟨s,rfl⟩;exact au
def GM{l:List Int}(e:yZ 1 (wt l) d)(B:l.length<=1048576)(n:Int)(g:Heap):
  zD prog 155 [d,.int .i64 n] g λr h'=>h'=g/\r=.int .i64 (UT (λx=>x==n) l):=by
 have o:=t8 e;obtain⟨p,k⟩:∃p:Int->Bool,(λx=>x==n)=p:=⟨_,rfl⟩;have a:∀x,p x=(n==x):=λx=>by rw[<-k];exact kX
 rw[k];clear k;refine zj zFS ?_;simp only[f155,zA];simp only[go_sem, *];refine zY (λi fr h=>fr 1=.int .i64 n/\fr 0=d/\fr 6=d/\fr 7=.int .i64 (l.length:Int)/\fr 8=.int .i64 (i:Int)/\h=g/\∀j (b:j<l.length),j<i->p l[j]=false) l.length ow ?_ ?_ ?_
 .simp only[go_sem,zM,zV,zG]
  exact λj b h0=>absurd h0 (yX _)
 .rintro i fr h c e1 A ⟨s,q,t,u,v,rfl,b⟩
  have z:=lX e c;cases m:(n==l[i])with
  |true=>
   have y:=jF (p:=p) c b (by rw[a,m]);clear b e a;simp only[go_sem, *]
  |false=>
   have w:=ug (p:=p) c b (by rw[a,m]);clear b e a;simp only[go_sem, *];exact w
 .rintro fr h e1 ⟨s,q,t,u,v,rfl,b⟩
  have y:=jG (p:=p) λj f=>b j f f;clear b e a;exact au
def Yy{l:List Int}(b:yZ 1 (wt l) d)(e:l.length<=1048576)(n:Int)(g:Heap):
  zD prog 98 [d,.int .i64 n] g λr h'=>h'=g/\r=.bool (l.any λx=>x==n):=by
 have a:=GM b e n;have c:=gQ (l:=l) (p:=λx=>x==n);refine zj zNy ?_;simp only[f98,zA]
 repeat' first|simp only[go_sem, *]|apply bc<;>intro f|refine zD.use (a _) ?_
noncomputable def LN:Cfg:=⟨λt=>List.contains (α:=Nat) [] t,λi=>(VI (α:=List (Nat×Fl)) [] i).getD []⟩
def zIB(t:Tmp):LN.mu t=false:=(rfl)
def zNz:Pb prog LN f133=true:=kr
def Ix(l:List (List UInt8)):∀x∈wg l,x.length=1:=λx a=>by
 obtain⟨s,_,rfl⟩:=zS.1 a;rfl
def GF{l:List (List UInt8)}(j:yZ 1 (wg l) d)(k:l.length<=1048576)(g:Heap):
  zD prog 133 [d] g λr h'=>h'=g/\Fin 1 (wg l) r:=by
 refine xU kr λn=>xS ?_;have e:Ext g g:=Ext.refl g;rcases j with⟨rfl,i⟩ | ⟨tk,rfl⟩
 .have h0:l= []:=uR.1 i
  subst h0;refine xO mix func133 zNz rfl rfl ?_;simp only[f133,zA];have m:kW prog .eql 45 true .nilsl .nilsl=some (.bool true):=by rw[um (sz:=1) yZ.nil underlying45];rfl
  have b:below g.next (qM .nilsl)/\Fin 1 (wg []) (qM .nilsl):=⟨trivial,.inl ⟨rfl,rfl⟩⟩;clear k i;simp only[go_sem,zIB, *]
 .refine xO mix func133 zNz rfl rfl ?_
  simp only[f133,zA];have m:kW prog .eql 45 true (.sl 1 (wg l) tk) .nilsl=some (.bool false):=by rw[um (yZ.mk tk) underlying45];rfl
  have o:=λnid h=>wT (P:=prog) (nid:=nid) (h:=h) ww fM pK rfl rfl (by omega:0<1);have c:qS prog false g.next 45 (.sl 1 [] .full) (.sl 1 (wg l) tk) g=if(wg l).length=0 then some (.sl 1 [] .full,g)else some (.sl 1 (wg l) (.own g.next),g.new g.next .tok):=gy ww aR pK ow (Ix l) (by rw[p6,qm];unfold lim;omega) (by rw[qm];unfold lim;omega)
  have f:=e.new (zC _) .tok;have a:=qY (sz:=1) (xs:=wg l) uj;by_cases h0:l= []
  .subst h0
   rw[ip (by rw[qm];rfl)]at c;have b:below g.next (qM (.sl 1 [] .full))/\Fin 1 (wg []) (qM (.sl 1 [] .full)):=by
    have:=a .full;exact⟨by rw[show([]:List (List D))=wg []from rfl,this.1];exact qQ (yM _) _ this.2,.inr this.1⟩
   clear a f;simp only[go_sem,zIB, *]
  .rw[iq (by rw[qm];exact λq=>h0 (ye.1 q))]at c
   have b:below g.next (qM (.sl 1 (wg l) (.own g.next)))/\Fin 1 (wg l) (qM (.sl 1 (wg l) (.own g.next))):=by
    have:=a (.own g.next);exact⟨by rw[this.1];exact qQ (yM _) _ this.2,.inr this.1⟩
   clear a h0;simp only[go_sem,zIB, *]
def Li(c:Cat)(lic exc:List UInt8):Option (List Int):=
 if(nq c lic).isSome=false then none else if(exc== [])=true then some []else(US c lic exc).map Exc.lifts
def Lg{b a:List UInt8}(h:Li c b a=none):bZ c b a=.tuple [.nilsl,.bool false]:=by
 unfold Li at h;unfold bZ;split at h
 .rename_i q;rw[ip q]
 rename_i q;rw[iq q];split at h
 .cases h
 .rename_i e
  rw[iq e];cases d:US c b a with
  |none=>rfl
  |some x=>rw[d]at h;cases h
def Lh(g:c.Sm){b a:List UInt8}{L:List Int}(h:Li c b a=some L):∃q,bZ c b a=.tuple [q,.bool true]/\yZ 1 (wt L) q/\L.length<=1048576:=by
 unfold Li at h;unfold bZ;split at h
 .cases h
 rename_i q;rw[iq q];split at h
 .rename_i e
  rw[ip e];cases h;exact⟨_,rfl,yZ.nil,jS⟩
 .rename_i e
  rw[iq e];cases d:US c b a with
  |none=>rw[d]at h;cases h
  |some x=>
   rw[d]at h;cases h;have f:=g.es.2 x (List.mem_of_find?_eq_some d);exact⟨_,rfl,f.1,f.2.1⟩
def Cla.key(x:Cla):List UInt8×Int×Int×Int×List (List UInt8):=(x.lic,x.way,x.rel,x.duty,x.list)
def JO(L:List Int)(lic:List UInt8)(way rel:Int)(x:Cla):Bool:=x.lic==lic&&x.way==way&&x.rel==rel&& !(L.any λz=>z==x.duty)
def kw(c:Cat)(lic exc:List UInt8)(way rel:Int):List Cla:=match Li c lic exc with
 |none=>[]
 |some L=>c.cs.filter (JO L lic way rel)
def Cla.Fine(x:Cla):Prop:=Fin 1 (wg x.list) x.d/\x.list.length<=1048576
def Cla.Fine.plain{x:Cla}(h:x.Fine):uA x.cells:=by
 rcases h.1 with⟨e,_⟩ |e
 .unfold Cla.cells;rw[e];exact⟨rfl,by simp[qC,below],by simp[qU,qM]⟩
 .have:=qY (sz:=1) (xs:=wg x.list) uj .no
  obtain⟨h1,a⟩:=this;simp only[qM,D.sl.injEq,zM,zV]at h1;simp only[below]at a;unfold Cla.cells;rw[e];exact⟨rfl,by simp[qC,below,a],by simp[qU,qM,h1]⟩
def zIw(S:List Cla)(r:D):Prop:=∃cs:List Cla,yZ 5 (RO cs) r/\(∀y∈cs,y.Fine)/\cs.map Cla.key=S.map Cla.key
def Own.setRow(a:Own h0 h sz xs d){o:Obj}(c:h0.next<=id)(hr:h.at' id=some o)(b:o≠ .tok)(g:Obj):Own h0 (h.set id g) sz xs d:=
 ⟨a.1.set c _,a.2.1.loc (zC _) λi f=>zX λe=>by subst e;have:=(a.2.1.tok f).2;rw[hr]at this;exact b (mP this),a.2.2⟩
def zAS(x:Cla)(nid:Nat)(h:Heap):yD prog false nid 24 1 [(0,.agg x.cells)] h=some (.sl 5 [x.cells] .full,h):=qd UQ HV gu rfl rfl ow ow rfl rfl
theorem Kf(E:uB c d)(hs:c.Sm)(n v:List UInt8)(t rel:Int)(g:Heap):
  zD prog 364 [d,.agg [.str n,.str v],.int .i64 t,.int .i64 rel] g λr h'=>h'=g/\zIw (kw c n v t rel) r:=by
 refine xU kr λa7=>xS ?_;have F:=Kt E hs n v;obtain⟨a,b,e,p,rfl,ha,hb,he,hp⟩:=E;have s3:=hs.cs.1;have le:=jM he;have a8:∀a b c e f:D,yO true 5 [a,b,c,e,f] 0=some (.agg [a,b,c,e,f]):=λa b c e f=>zJ rfl ow;refine zj zGS ?_;simp only[f364,zA];cases U:Li c n v with
 |none=>
  rw[Lg U]at F;have hR:kw c n v t rel= []:=by unfold kw;rw[U]
  rw[hR]
  repeat' first|simp only[go_sem, *]|apply bc<;>intro E
  refine(F _).mono ?_;rintro r h ⟨hE,rfl⟩;have V:below g.next (qM .nilsl)/\zIw [] (qM .nilsl):=⟨trivial,[],.inl ⟨rfl,rfl⟩,λy N=>absurd N wl,rfl⟩
  repeat' first|simp only[go_sem, *]|apply bc<;>intro E
 |some L=>
  obtain⟨q,hq,a2,a3⟩:=Lh hs U;rw[hq]at F;have hR:kw c n v t rel=c.cs.filter (JO L n t rel):=by unfold kw;rw[U]
  rw[hR]
  repeat' first|simp only[go_sem, *]|apply bc<;>intro E
  refine(F _).mono ?_;rintro r h0 ⟨hE,rfl⟩
  repeat' first|simp only[go_sem, *]|apply bc<;>intro E
  obtain⟨m,J⟩:∃m,JO L n t rel=m:=⟨_,rfl⟩;rw[J];clear F U hq hR;refine zY (λk fr h=>fr 2=.int .i64 t/\fr 3=.int .i64 rel/\fr 5=.iptr [.str n,.str v] 0/\fr 9=q/\fr 23=e/\fr 24=.int .i64 (c.cs.length:Int)/\fr 25=.int .i64 (k:Int)/\∃u out,fr 11=u/\Own g h 5 (RO out) u/\out.length<=k/\(∀y∈out,y.Fine)/\out.map Cla.key=((c.cs.take k).filter m).map Cla.key) c.cs.length ow ?_ ?_ ?_
  .simp only[go_sem,zM,zV,zG]
   exact⟨_,[],rfl,Own.start hE 5,jS,λy N=>absurd N wl,jS⟩
  .clear hE
   rintro k fr h K ec ew ⟨f2,f3,f5,f9,ag,ai,aj,u,out,ad,P,G,i,j⟩;have a1:=gF he K;obtain⟨o1,o2⟩:=hs.cs.2 _ (zH K);have B:(c.cs.take (k+1)).filter m=(c.cs.take k).filter m++ [c.cs[k]].filter m:=by
    rw[zP K,lD]
   have s:m c.cs[k]=(c.cs[k].lic==n&&c.cs[k].way==t&&c.cs[k].rel==rel&& !(L.any λz=>z==c.cs[k].duty)):=by rw[<-J];rfl
   generalize c.cs[k]=y at *
   have S:=Yy a2 a3 y.duty;have c2:=GF o1 o2;simp only[Cla.cells]at a1;have M:yW prog 126 (.ptr h.next 0) (.agg [.str y.lic,.int .i64 y.way,.int .i64 y.rel,.int .i64 y.duty,y.d]) (h.new h.next (.row [.str [],.int .i64 0,.int .i64 0,.int .i64 0,.nilsl]))=some (h.new h.next (.row [.str y.lic,.int .i64 y.way,.int .i64 y.rel,.int .i64 y.duty,y.d])):=ym gu ow rfl rfl (by show(true&&(true&&(true&&(true&&(y.d.flat&&true)))))=true;rw[lZ o1];rfl)
   obtain⟨H,hH,C,A,a0⟩:∃H,h.new h.next (.row [.str y.lic,.int .i64 y.way,.int .i64 y.rel,.int .i64 y.duty,y.d])=H/\H.at' h.next=some (.row [.str y.lic,.int .i64 y.way,.int .i64 y.rel,.int .i64 y.duty,y.d])/\Own g H 5 (RO out) u/\h.next<H.next:=⟨_,rfl,z5 _ _ _,P.ext ((Ext.refl h).new (zC _) _),by rw[za];omega⟩;rw[hH]at M;have W:g.next<=h.next:=P.1.1;obtain⟨Q,ak⟩:∃Q,h.next=Q:=⟨_,rfl⟩;rw[ak]at M C a0 W;have no:m y=false->∃u' l,u=u'/\Own g H 5 (RO l) u'/\l.length<=k+1/\(∀z∈l,z.Fine)/\l.map Cla.key=((c.cs.take (k+1)).filter m).map Cla.key:=λq=>⟨u,out,rfl,A,ow,i,by rw[B,j];simp[q]⟩
   clear hH P;cases R:(y.lic==n)with
   |false=>
    have hn:=no (by rw[s,R];rfl);clear no s j i B G A
    repeat' first|simp only[go_sem, *]|apply bc<;>intro E
   |true=>
   cases b2:(y.way==t)with
   |false=>
    have hn:=no (by rw[s,R,b2];rfl);clear no s j i B G A
    repeat' first|simp only[go_sem, *]|apply bc<;>intro E
   |true=>
   cases b3:(y.rel==rel)with
   |false=>
    have hn:=no (by rw[s,R,b2,b3];rfl);clear no s j i B G A
    repeat' first|simp only[go_sem, *]|apply bc<;>intro E
   |true=>
   cases O:(L.any λz=>z==y.duty)with
   |true=>
    have hn:=no (by rw[s,R,b2,b3,O];rfl);rw[O]at S;clear no s j i B G A O
    repeat' first|simp only[go_sem, *]|apply bc<;>intro E|refine zD.use (S _) ?_
   |false=>
    have N:m y=true:=by rw[s,R,b2,b3,O];rfl
    rw[O]at S;clear no s O
    repeat' first|simp only[go_sem, *]|apply bc<;>intro E|refine zD.use (S _) ?_
    rename Heap=>H
    refine(c2 _).mono ?_;rintro z H' ⟨rfl,hz⟩;have a5:=lZ hz.isSl;have a4:z.cells= [z]:=by rcases hz with⟨rfl,_⟩ |rfl<;>rfl
    have Y:yW prog 45 (.ptr Q 4) z H'=some (H'.set Q (.row [.str y.lic,.int .i64 y.way,.int .i64 y.rel,.int .i64 y.duty,z])):=by
     rw[yN C Me jS a4 a5];rfl
    obtain⟨H2,T,r2,O2⟩:∃H2,H'.set Q (.row [.str y.lic,.int .i64 y.way,.int .i64 y.rel,.int .i64 y.duty,z])=H2/\H2.at' Q=some (.row [.str y.lic,.int .i64 y.way,.int .i64 y.rel,.int .i64 y.duty,z])/\Own g H2 5 (RO out) u:=⟨_,rfl,zW _ _ _,A.setRow W C jS _⟩;rw[T]at Y;have I:=zAS ⟨y.lic,y.way,y.rel,y.duty,y.list,z⟩;simp only[Cla.cells]at I;clear T C M S c2 A a1
    repeat' first|simp only[go_sem, *]|apply bc<;>intro E
    refine O2.appH UQ Fv gu ow jS jS (by simp only[cG,M4,zx,qD];unfold lim;omega) (by simp only[cG,zx,qD];unfold lim;omega) λd' h' o=> ?_;have a6:∃u' l,d'=u'/\Own g h' 5 (RO l) u'/\l.length<=k+1/\(∀z∈l,z.Fine)/\l.map Cla.key=((c.cs.take (k+1)).filter m).map Cla.key:=by
     refine⟨d',out++ [⟨y.lic,y.way,y.rel,y.duty,y.list,z⟩],rfl,?_,jO,λw Z=> ?_,?_⟩
     .have:RO (out++ [⟨y.lic,y.way,y.rel,y.duty,y.list,z⟩])=RO out++ [[.str y.lic,.int .i64 y.way,.int .i64 y.rel,.int .i64 y.duty,z]]:=by simp[RO,Cla.cells]
      rw[this];exact o
     .rcases qB.1 Z with Z|Z
      .exact i w Z
      .rw[zo.1 Z];exact⟨hz,o2⟩
     .rw[B,wD,wD,j];simp[N,Cla.key]
    clear O2 o j i B hz Y r2 I;exact au
  .clear hE
   rintro fr h ec ⟨f2,f3,f5,f9,ag,ai,aj,u,out,ad,P,G,i,j⟩;rw[yC]at j;have X:∀x∈RO out,uA x:=λx hx=>by
    obtain⟨y,N,rfl⟩:=zS.1 hx;exact(i y N).plain
   have hf:=P.fin X;have V:Ext g h/\below g.next (qM u)/\zIw (c.cs.filter m) (qM u):=⟨hf.1,hf.2.1,out,hf.2.2.isSl,i,j⟩;clear hf P i j X;exact au
end Go.V
