/- Rules of the machine of abstract values, part 7. No condition. -/
import Derived.Test.YtmkfpfodpehkoaaGreatDoorW29
set_option linter.all false
set_option maxHeartbeats 8000000
namespace Go.V
attribute [go_sem_proc] Nat.reduceEqDiff Int.reduceBEq Int.reduceLT Int.reduceLE Int.reduceGT Int.reduceGE Nat.reduceAdd Nat.reduceBEq
attribute [go_sem_proc ↓] reduceIte
attribute [go_sem] Nat.zero_add List.contains_cons mh lO decide_true decide_false bne Bool.or_self Bool.false_and Bool.true_and Bool.and_false Bool.and_true Bool.and_self Bool.not_not n8 D.notTuple D.cells
section
variable{b:Bool}{x y:Prop}
@[go_sem] theorem zE4(w:HidP x y):zCV (b==true) x y w=Hw (.bool b) x y w:=by cases b<;>rfl
@[go_sem] theorem zE3(w:HidP x y):zCV (b==false) x y w=Hw (.bool b) y x ⟨⟩:=by cases b<;>rfl
@[go_sem] theorem zFC(w:HidP x y):Hw (.bool (!b)) x y w=Hw (.bool b) y x ⟨⟩:=by cases b<;>rfl
def bc{w:HidP x y}(h1:b=true->x)(a:b=false->y):Hw (.bool b) x y w:=JF h1 a
end
theorem vp4(a b c e:D):yN true 4 [a,b,c,e] 0=some (.agg [a,b,c,e]):=rfl
theorem vp2(a b:D):yN true 2 [a,b] 0=some (.agg [a,b]):=rfl
theorem au{p:Prop}(h:p:=by repeat' first|simp only[go_sem, *]|apply bc<;>intro):p:=h
attribute[go_sem] vp2 vp4
open Go.Proofs.Tryz
open Go.Proofs
set_option maxRecDepth 100000
def dn(b:UInt8)(r:List UInt8):ww (b::r)=(!(decide (((b::r).length:Int)>32)||decide ((b.toNat:Int)<97)||decide ((b.toNat:Int)>122)||((b::r:List UInt8)== [97,110,100])||((b::r:List UInt8)== [111,114])||((b::r:List UInt8)== [119,105,116,104]))&&(Lib.trimS (b::r) jL== [])):=by
 have e:decide (((b::r).length:Int)>32)=decide ((b::r).length>32):=Qi _ 32;rw[e];rfl
variable{s:List UInt8}{i sz id:Nat}{d:D}{α:Type}{f:FuncId}{cap:List D}{xs:List (List D)}{h g h0:Heap}
def YJ(d:s.length<=1048576)(g:Heap):zB prog 136 [.str s] g λr h'=>h'=g/\r=.bool (ww s):=by
 have e:∀h,zB prog 171 [.str s,.str [97,98,99,100,101,102,103,104,105,106,107,108,109,110,111,112,113,114,115,116,117,118,119,120,121,122,48,49,50,51,52,53,54,55,56,57,45,46]] h λr h'=>h'=h/\r=.str (Lib.trimS s jL):=λh=>Eb d (c:=jL) (by decide) (by decide) h;refine z5 zC4 ?_;simp only[f136,zA];cases s with
 |nil=>
  have e1:decide ((([]:List UInt8).length:Int)<1)=true:=rfl
  repeat' first|simp only[go_sem, *]|apply bc<;>intro a
  rfl
 |cons b r=>
  have e1:decide (((b::r).length:Int)<1)=false:=zO (by simp only[zm];omega);have f:kV prog 9 (.str (b::r)) (.int .i64 0)=some (.int .u8 b.toNat):=mA (n:=0) underlying9 rfl;have i:=dn b r;generalize j:b::r=s at *
  repeat' first|simp only[go_sem, *]|apply bc<;>intro a|refine zB.use (e _) ?_
def ME(d:s.length<=1048576)(g:Heap):zB prog 137 [.str s] g λr h'=>h'=g/\Fin 1 (uH (jm s)) r:=by
 have a:=KE d 10;refine z5 zC5 ?_;simp only[f137,zA];cases h1:(s== [])with
 |true=>
  have:s= []:=by simpa using h1
  subst this
  repeat' first|simp only[go_sem, *]|apply bc<;>intro c
  exact .inl ⟨rfl,rfl⟩
 |false=>
  have b:s≠[]:=by simpa using h1
  have h3:jm s=qC 10 s:=by rw[jm,iq b]
  repeat' first|simp only[go_sem, *]|apply bc<;>intro c|refine zB.use (a _) ?_
  exact .inr rfl
def Pp(n:Int)(g:Heap):zB prog 140 [.int .i64 n] g λr h'=>h'=g/\r=.bool (decide (n>=0)&&decide (n<=5)):=by
 refine z5 zC6 ?_;simp only[f140,zA];exact au
def leB(a b:List UInt8):Bool:=l8 a b||a==b
def bg(a b:List UInt8):Ia .leq a b=some (.bool (leB a b)):=rfl
def ga(l:List (List UInt8)):Bool:=decide (∀i,i<l.length-1->leB (l.getD (i+1) []) (l.getD i [])=false)
def bM(l:List Int):Bool:=decide (∀i,i<l.length-1->l.getD i 0<l.getD (i+1) 0)
def ZX{l:List (List UInt8)}(h:i<l.length):l.getD i []=l[i]:=by simp[h]
def Tg{l:List Int}(h:i<l.length):l.getD i 0=l[i]:=by simp[h]
def rF{l:List Int}(a:ye 1 (uq l) d)(h:Heap):js prog 40 d h=some (.int .i64 l.length):=by rw[uV a underlying40,sA]
def nG{l:List Int}(a:ye 1 (uq l) d)(b:i<l.length):yP prog 40 d (.int .i64 (i:Int))=some (.iptr [.int .i64 l[i]] 0):=qA a uL pj (NK b)
def TB{l:List (List UInt8)}(b:ye 1 (uH l) d)(x:l.length<=1048576)(g:Heap):zB prog 142 [d] g λr h'=>h'=g/\r=.bool (ga l):=by
 have f:=wd b;refine z5 zC7 ?_;simp only[f142,zA];simp only[go_sem, *];refine qx (λi fr h=>fr 0=d/\fr 3=.int .i64 ((i+1:Nat):Int)/\h=g/\∀j,j<i->j<l.length-1->leB (l.getD (j+1) []) (l.getD j [])=false) l.length ?_ ?_
 ·simp only[go_sem,zQ,zS,zF];exact⟨rfl,λj c=>by omega⟩
 rintro i fr h w ⟨u,v,rfl,c⟩;by_cases a:i+1<l.length
 ·have e1:decide (((i+1:Nat):Int)<(l.length:Int))=true:=zN ow;have t:IntKind.i64.wrap (((i+1:Nat):Int)+1)=((i+2:Nat):Int):=qT (by unfold lim;omega);have k:IntKind.i64.wrap (((i+1:Nat):Int)-1)=((i:Nat):Int):=by rw[qE ow ow];omega
  have o:=t9 b a;have p:=t9 b (show i<l.length by omega);have s:=bg l[i+1] l[i];cases e:leB l[i+1] l[i]with
  |true=>
   have hr:ga l=false:=zO λq=>by
    have:=q i ow;rw[ZX a,ZX ow,e]at this;cases this
   simp only[go_sem, *];refine zd kr ?_;simp only[go_sem, *]
  |false=>
   have n:∀j,j<i+1->j<l.length-1->leB (l.getD (j+1) []) (l.getD j [])=false:=λj h1 m=>by
    rcases zo.1 h1 with q|rfl
    ·exact c j q m
    ·rw[ZX a,ZX ow,e]
   simp only[go_sem, *];refine zd kr ?_;simp only[go_sem, *];exact⟨by omega,n⟩
 ·have e1:decide (((i+1:Nat):Int)<(l.length:Int))=false:=zO ow;have hr:ga l=true:=zN λj h=>c j ow h;exact au
def TA{l:List Int}(b:ye 1 (uq l) d)(w:l.length<=1048576)(g:Heap):zB prog 141 [d] g λr h'=>h'=g/\r=.bool (bM l):=by
 have f:=rF b;refine z5 zGz ?_;simp only[f141,zA];simp only[go_sem, *];refine qx (λi fr h=>fr 0=d/\fr 3=.int .i64 ((i+1:Nat):Int)/\h=g/\∀j,j<i->j<l.length-1->l.getD j 0<l.getD (j+1) 0) l.length ?_ ?_
 ·simp only[go_sem,zQ,zS,zF];exact⟨rfl,λj c=>by omega⟩
 rintro i fr h v ⟨t,u,rfl,c⟩;by_cases a:i+1<l.length
 ·have e1:decide (((i+1:Nat):Int)<(l.length:Int))=true:=zN ow;have s:IntKind.i64.wrap (((i+1:Nat):Int)+1)=((i+2:Nat):Int):=qT (by unfold lim;omega);have k:IntKind.i64.wrap (((i+1:Nat):Int)-1)=((i:Nat):Int):=by rw[qE ow ow];omega
  have o:=nG b a;have p:=nG b (show i<l.length by omega);cases e:decide (l[i+1]<=l[i])with
  |true=>
   have hr:bM l=false:=zO λq=>by
    have:=q i ow;rw[Tg a,Tg ow]at this;have:=zg e;omega
   simp only[go_sem, *];refine zd kr ?_;simp only[go_sem, *]
  |false=>
   have n:∀j,j<i+1->j<l.length-1->l.getD j 0<l.getD (j+1) 0:=λj h1 m=>by
    rcases zo.1 h1 with q|rfl
    ·exact c j q m
    ·rw[Tg a,Tg ow];have:=zq e;omega
   simp only[go_sem, *];refine zd kr ?_;simp only[go_sem, *];exact⟨by omega,n⟩
 ·have e1:decide (((i+1:Nat):Int)<(l.length:Int))=false:=zO ow;have hr:bM l=true:=zN λj h=>c j ow h;exact au
def nv(a b:List UInt8):Int:=if l8 a b=true then -1 else if a==b then 0 else 1
def Pq(a:List UInt8)(g:Heap):zB prog 78 [.str a] g λr h'=>h'=g/\r=.bool false:=by
 have b:(a==a)=true:=by simp
 refine z5 zJQ ?_;simp only[f78,zA];exact au
def U8(a b:List UInt8)(g:Heap):zB prog 35 [.str a,.str b] g λr h'=>h'=g/\r=.int .i64 (nv a b):=by
 have c:=Pq a;have d:=Pq b;refine z5 zJC ?_;simp only[f35,zA];cases h1:l8 a b with
 |true=>
  have e:nv a b= -1:=ip h1
  repeat' first|simp only[go_sem, *]|apply bc<;>intro h|refine zB.use (c _) ?_|refine zB.use (d _) ?_
 |false=>
  cases f:(a==b)with
  |true=>
   have e:nv a b=0:=by rw[nv,iq (by rw[h1];exact zf),ip f]
   repeat' first|simp only[go_sem, *]|apply bc<;>intro h|refine zB.use (c _) ?_|refine zB.use (d _) ?_
  |false=>
   have e:nv a b=1:=by rw[nv,iq (by rw[h1];exact zf),iq (by rw[f];exact zf)]
   repeat' first|simp only[go_sem, *]|apply bc<;>intro h|refine zB.use (c _) ?_|refine zB.use (d _) ?_
abbrev KN:=List (List UInt8×Int)
def knD(m:KN):List (D×D):=m.map λp=>(.str p.1,.int .i64 p.2)
def gM(k:List UInt8):KN->Option Int
 | []=>none
 |(k',v)::m=>if k==k' then some v else gM k m
def WD(k:List UInt8)(v:Int):KN->KN
 | []=>[(k,v)]
 |(k',v')::m=>if k==k' then(k,v)::m else(k',v')::WD k v m
def Zr(p:List UInt8×Int)(m:KN):knD (p::m)=(.str p.1,.int .i64 p.2)::knD m:=rfl
theorem V9(k:List UInt8):∀m:KN,lh [.s] (.str k) (knD m)=some ((gM k m).map (D.int .i64))
 | []=>rfl
 |(k',v)::m=>by
  have a:=V9 k m;rw[Zr,lh,gH];cases h:(k==k')with
  |true=>simp[gM,h]
  |false=>simp only[gM,h,a];rfl
theorem K8(k:List UInt8)(v:Int):∀m:KN,NY [.s] (.str k) (.int .i64 v) (knD m)=some (knD (WD k v m))
 | []=>rfl
 |(k',b)::m=>by
  have a:=K8 k v m;rw[Zr,NY,gH];cases h:(k==k')with
  |true=>simp[WD,h,Zr]
  |false=>simp[WD,h,Zr,a]
def Tp(m:KN):(knD m).all (λx=>yi false x.1)=true:=by
 rw[ze];intro x a;obtain⟨p,_,rfl⟩:=zT.1 a;rfl
theorem Yy(k k':List UInt8)(v:Int):∀m:KN,gM k (WD k' v m)=if k==k' then some v else gM k m
 | []=>by simp[WD,gM]
 |(k2,c)::m=>by
  have b:=Yy k k' v m;simp only[WD];by_cases h:k'=k2
  ·subst h;simp only[wM,qG,gM];by_cases g:k=k'
   ·subst g;simp
   ·simp[g]
  ·have a:(k'==k2)=false:=by simp[h]
   simp only[a,zW,yz,gM,b];by_cases g:k=k2
   ·subst g
    have:(k==k')=false:=by simp;exact λe=>h e.symm
    simp[this]
   ·simp[g]
section
variable{P:Program}{t kt e:TypeId}{id:Nat}{h:Heap}{m:KN}
def VI(a:h.at' id=some (.map (knD m)))(c:NS P t=some (kt,e))(b:NM P kt=some (false,[.s]))(d:sD P e=some (.int .i64 0))(k:List UInt8)(ok:Bool):
  uF P t (.map id) (.str k) ok h=some (dS ok (.int .i64 0) ((gM k m).map (D.int .i64))):=by
 simp only[uF,c,b,d,WE,a,gy,Tp,gH,V9,show yi false (.str k)=true from rfl,tz,yr,qG]
def Uj(a:h.at' id=some (.map (knD m)))(c:NS P t=some (kt,e))(b:NM P kt=some (false,[.s]))(k:List UInt8)(v:Int):
  wv P t (.map id) (.str k) (.int .i64 v) h=some (h.set id (.map (knD (WD k v m)))):=by
 simp only[wv,c,b,a,Tp,gH,V9,K8,show yi false (.str k)=true from rfl,tz,yr,qG]
end
structure Lic where
 name:List UInt8
 fam:List UInt8
 ver:Int
 text:List UInt8
def Lic.cells(l:Lic):List D:=[.str l.name,.str l.fam,.int .i64 l.ver,.str l.text]
def jJ(l:List Lic):List (List D):=l.map Lic.cells
def mS(l:List Lic):(jJ l).length=l.length:=zI ..
def NO{l:List Lic}(h:i<l.length):(jJ l)[i]? =some l[i].cells:=by simp[jJ,h]
def Lic.Sm(l:Lic):Prop:=l.name.length<=1048576/\l.fam.length<=1048576/\l.text.length<=1048576
def pK{l:List Lic}(a:ye 4 (jJ l) d)(h:Heap):js prog 22 d h=some (.int .i64 l.length):=by rw[uV a underlying22,mS]
def pu{l:List Lic}(a:ye 4 (jJ l) d)(b:i<l.length):yP prog 22 d (.int .i64 (i:Int))=some (.iptr l[i].cells 0):=qA a cV bT (NO b)
abbrev cI:List D:=[.str [],.str [],.int .i64 0,.str []]
def lM(x:Lic)(h:Heap)(id:Nat):qP prog 80 (.ptr id 0) (.agg [.str x.name,.str x.fam,.int .i64 x.ver,.str x.text]) (h.new id (.row cI))=some (h.new id (.row [.str x.name,.str x.fam,.int .i64 x.ver,.str x.text])):=qk bT ow rfl rfl rfl
def Ci{l:List Lic}(c:ye 4 (jJ l) d)(b:i<l.length):∃a,(∀h,wi prog 22 d none (some (.int .i64 (i:Int))) none h=some a)/\ye 4 (jJ (l.take i)) a:=by
 rcases c with⟨rfl,f⟩ | ⟨tk,rfl⟩
 ·have e:l= []:=qU.1 f;subst e;simp at b
 ·refine⟨.sl 4 ((jJ l).take i) (Vh i (jJ l).length tk),λh=> ?_,?_⟩
  ·simp[wi,DB,mj,cV,bT,to,Zo,Xy,mS,mz b]
  ·have:(jJ l).take i=jJ (l.take i):=by simp[jJ,nW]
   rw[this];exact ye.mk _
def jI(l:List Lic)(i:Nat)(x:Lic):Bool:=(l.take i).any λy=>y.fam==x.fam&&y.ver==x.ver
def p9(l:List Lic)(i:Nat)(x:Lic):Int:=
 if(!ww x.name|| !ww x.fam)=true then 2
 else if x.ver<0\/x.ver>999 then 3
 else if x.text.length>4096\/(jm x.text).length>999 then 10
 else if x.text.any rG=true then 4
 else if 0<i/\leB x.name ((l.map Lic.name).getD (i-1) [])=true then 5
 else if jI l i x=true then 6 else 0
theorem X7{l:List Lic}(hd:ye 4 (jJ l) d)(hl:l.length<=1048576)(hs:∀x∈l,x.Sm)(hi:i<l.length)(g:Heap):
  zB prog 84 [d,.int .i64 (i:Int)] g λr h'=>h'=g/\r=.int .i64 (p9 l i l[i]):=by
 refine xU kr λbx=> ?_;have T:=hs _ (zG hi);have a5:=pu hd hi;have bb:=pK hd;have ba:∀k:Int,below g.next (.int .i64 k):=λk=>trivial;generalize hx:l[i]=x at *
 obtain⟨w,f,n,b⟩:=x;have ab:=lM ⟨w,f,n,b⟩;simp only[Lic.cells]at a5 ab;have S:=(Ext.refl g).new (zD _) (.row [.str w,.str f,.int .i64 n,.str b]);have D:=YJ (s:=w) T.1;have E:=YJ (s:=f) T.2.1;have ag:=ME (s:=b) T.2.2;refine z5 zJT ?_;simp only[f84,zA];obtain⟨R,o⟩:∃R,p9 l i ⟨w,f,n,b⟩ =R:=⟨_,rfl⟩;rw[o];unfold p9 at o;simp only at o;cases n1:ww w with
 |false=>
  rw[ip (by rw[n1];rfl)]at o;subst o
  repeat' first|simp only[go_sem,yQ, *]|apply bc<;>intro t|refine zB.use (D _) ?_|refine zB.use (E _) ?_
 |true=>
 cases n2:ww f with
 |false=>
  rw[ip (by rw[n1,n2];rfl)]at o;subst o
  repeat' first|simp only[go_sem,yQ, *]|apply bc<;>intro t|refine zB.use (D _) ?_|refine zB.use (E _) ?_
 |true=>
 rw[iq (by rw[n1,n2];decide)]at o;cases v1:decide (n<0)with
 |true=>
  rw[ip (.inl (zg v1))]at o;subst o
  repeat' first|simp only[go_sem,yQ, *]|apply bc<;>intro t|refine zB.use (D _) ?_|refine zB.use (E _) ?_
 |false=>
 cases v2:decide (n>999)with
 |true=>
  rw[ip (.inr (zg v2))]at o;subst o
  repeat' first|simp only[go_sem,yQ, *]|apply bc<;>intro t|refine zB.use (D _) ?_|refine zB.use (E _) ?_
 |false=>
 rw[iq (λq=>q.elim (zq v1) (zq v2))]at o;cases t1:decide ((b.length:Int)>4096)with
 |true=>
  have a8:=zg t1;rw[ip (.inl ow)]at o;subst o
  repeat' first|simp only[go_sem,yQ, *]|apply bc<;>intro t|refine zB.use (D _) ?_|refine zB.use (E _) ?_
 |false=>
 have a8:=zq t1;cases t2:decide (((jm b).length:Int)>999)with
 |true=>
  have a9:=zg t2;rw[ip (.inr ow)]at o;subst o
  repeat' first|simp only[go_sem,yQ,wd hr.isSl, *]|simp only[go_sem,yQ, *]|apply bc<;>intro t|refine zB.use (D _) ?_|refine zB.use (E _) ?_|(refine zB.mono (ag _) ?_;rintro r h ⟨rfl,hr⟩)
 |false=>
 have a9:=zq t2;rw[iq ow]at o;have bs:=MY b;have bk:∀h,js prog 198 (.sl 1 (av b) .no) h=some (.int .i64 b.length):=λh=>by rw[uV (ye.mk .no) underlying198,VX]
 repeat' first|simp only[go_sem,yQ,wd hr.isSl, *]|simp only[go_sem,yQ, *]|apply bc<;>intro t|refine zB.use (D _) ?_|refine zB.use (E _) ?_|(refine zB.mono (ag _) ?_;rintro r h ⟨rfl,hr⟩)
 rename Fin 1 (uH (jm b)) _=>hr
 obtain⟨H,hH,a,G,B⟩:∃H,g.new g.next (.row [.str w,.str f,.int .i64 n,.str b])=H/\H.at' g.next=some (.row [.str w,.str f,.int .i64 n,.str b])/\Ext g H/\H.next=g.next+1:=⟨_,rfl,yQ _ _ _,S,yA _ _⟩;rw[hH];have a7:=T.2.2;simp only at a7;have ak:∀k (hk:k<b.length),rG b[k]=true->R=4:=λk hk C=>by
  rw[ip (yZ.2 ⟨_,zG hk,C⟩)]at o;exact o.symm
 refine zV (λk fr h=>fr 0=d/\fr 1=.int .i64 (i:Int)/\fr 5=.ptr g.next 0/\fr 48=.sl 1 (av b) .no/\fr 49=.int .i64 (b.length:Int)/\fr 50=.int .i64 (k:Int)/\h=H/\∀j (I:j<b.length),j<k->rG b[j]=false) b.length ow ?_ ?_ ?_
 ·simp only[go_sem,zQ,zS,zF];exact λj I h0=>by omega
 ·rintro k fr h Q e1 ew ⟨f0,f1,O,M,N,P,rfl,I⟩;have a1:yP prog 198 (.sl 1 (av b) .no) (.int .i64 (k:Int))=some (.iptr [.int .u8 (b[k].toNat:Int)] 0):=qA (ye.mk .no) KY zIC (MD Q);have tb:rG b[k]=(!((b[k].toNat:Int)==10)&&(decide ((b[k].toNat:Int)<32)||decide ((b[k].toNat:Int)>126))):=rfl;have v:=ak k Q;have c:=λC=>qp (p:=rG) (l:=b) Q I C;generalize(b[k].toNat:Int)=y at *
  generalize rG b[k]=b4 at *
  cases K:(y==10)with
  |true=>
   have u:=c (by rw[tb,K];rfl)
   repeat' first|simp only[go_sem, *]|apply bc<;>intro t
   exact u
  |false=>
   cases b2:decide (y<32)with
   |true=>
    have u:=v (by rw[tb,K,b2];rfl);subst u
    repeat' first|simp only[go_sem, *]|apply bc<;>intro t
   |false=>
    cases b3:decide (y>126)with
    |true=>
     have u:=v (by rw[tb,K,b2,b3];rfl);subst u
     repeat' first|simp only[go_sem, *]|apply bc<;>intro t
    |false=>
     have u:=c (by rw[tb,K,b2,b3];rfl)
     repeat' first|simp only[go_sem, *]|apply bc<;>intro t
     exact u
 ·rintro fr h e1 ⟨f0,f1,O,M,N,P,rfl,I⟩;have A:¬b.any rG=true:=by
   rw[rO λj J _=>I j J J];exact zf
  rw[iq A]at o;have Y:i<=l.length:=ow;obtain⟨d',b0,X⟩:=Ci hd hi;have Z:=pK X;rw[z7,mI Y]at Z;have ad:(0<i/\leB w ((l.map Lic.name).getD (i-1) [])=true->R=5)/\(¬(0<i/\leB w ((l.map Lic.name).getD (i-1) [])=true)->R=if jI l i ⟨w,f,n,b⟩ =true then 6 else 0):=by
   refine⟨λq=> ?_,λq=> ?_⟩
   ·rw[ip q]at o;exact o.symm
   ·rw[iq q]at o;exact o.symm
  have ai:¬(0<i/\leB w ((l.map Lic.name).getD (i-1) [])=true)->R=if(l.take i).any (λy=>y.fam==f&&y.ver==n)=true then 6 else 0:=ad.2
  have bd:∀{fr:Frm}{k:Heap},R=(if jI l i ⟨w,f,n,b⟩ =true then 6 else 0)->True:=λ_=>trivial
  have tw:∀L:List Lic,L=l.take i->jI l i ⟨w,f,n,b⟩ =L.any λy=>y.fam==f&&y.ver==n:=λL e=>by rw[e];rfl
  by_cases h0:0<i
  ·have e0:decide ((i:Int)>0)=true:=zN ow;have ew:IntKind.i64.wrap ((i:Int)-1)=((i-1:Nat):Int):=by rw[qE ow ow];omega
   have a2:=pu hd (show i-1<l.length by omega);simp only[Lic.cells]at a2;have gn:(l.map Lic.name).getD (i-1) []=(l[i-1]'ow).name:=by simp[show i-1<l.length by omega]
   have a3:=bg w (l[i-1]'ow).name;rw[gn]at ad;by_cases C:leB w (l[i-1]'ow).name=true
   ·have u:=ad.1 ⟨h0,C⟩;subst u
    repeat' first|simp only[go_sem, *]|apply bc<;>intro t
    refine zd kr ?_;exact au
   have C:leB w (l[i-1]'ow).name=false:=by simpa using C
   have z:=(ai (λq=>by rw[gn,C]at q;exact zf q.2)).symm
   repeat' first|simp only[go_sem, *]|apply bc<;>intro t
   refine zd kr ?_
   repeat' first|simp only[go_sem, *]|apply bc<;>intro t
   generalize hL:l.take i=L at *
   have a4:L.length=i:=by rw[<-hL,z7,mI Y]
   refine zV (λj fr h=>fr 5=.ptr g.next 0/\fr 80=d'/\fr 81=.int .i64 (i:Int)/\fr 82=.int .i64 (j:Int)/\h.at' g.next=some (.row [.str w,.str f,.int .i64 n,.str b])/\Ext g h/\g.next<h.next/\∀m (hm:m<L.length),m<j->(L[m].fam==f&&L[m].ver==n)=false) i ow ?_ ?_ ?_
   ·simp only[go_sem,zQ,zS,zF];exact⟨O,a,G,by omega,λm hm h0=>by omega⟩
   ·clear f0 f1 O M N P a G B e1;rintro j fr h Q e1 ew ⟨O,U,V,W,a,S,B,I⟩;have F:j<L.length:=ow;have a1:=pu X F;have ab:=lM L[j] h h.next;have hk:(h.new h.next (.row [.str L[j].name,.str L[j].fam,.int .i64 L[j].ver,.str L[j].text])).at' g.next=some (.row [.str w,.str f,.int .i64 n,.str b]):=by rw[zz ow];exact a
    have a0:=S.new S.1 (.row [.str L[j].name,.str L[j].fam,.int .i64 L[j].ver,.str L[j].text]);have a6:g.next<(h.new h.next (.row [.str L[j].name,.str L[j].fam,.int .i64 L[j].ver,.str L[j].text])).next:=by rw[yA];omega
    have c:=λC=>qp (p:=λy:Lic=>y.fam==f&&y.ver==n) (l:=L) F I C;have v:(L[j].fam==f&&L[j].ver==n)=true->R=6:=λC=>by
     rw[ip (yZ.2 ⟨_,zG F,C⟩)]at z;exact z.symm
    simp only[Lic.cells]at a1;cases K:(L[j].fam==f)with
    |false=>
     have u:=c (by simp only[K,yV])
     repeat' first|simp only[go_sem,yQ, *]|apply bc<;>intro t
     exact λm hm h=>u m ow h
    |true=>
     cases b2:(L[j].ver==n)with
     |false=>
      have u:=c (by simp only[K,b2,qK])
      repeat' first|simp only[go_sem,yQ, *]|apply bc<;>intro t
      exact λm hm h=>u m ow h
     |true=>
      have u:=v (by simp only[K,b2,yr]);subst u
      repeat' first|simp only[go_sem,yQ, *]|apply bc<;>intro t
   ·clear f0 f1 O M N P a G B e1;rintro fr h e1 ⟨O,U,V,W,a,S,B,I⟩;have A:¬(L.any λy=>y.fam==f&&y.ver==n)=true:=by
     rw[rO λj J _=>I j J ow];exact zf
    rw[iq A]at z;subst z;exact au
  ·have e0:decide ((i:Int)>0)=false:=zO ow;have z:=(ai (λq=>h0 q.1)).symm
   repeat' first|simp only[go_sem, *]|apply bc<;>intro t
   refine zd kr ?_
   repeat' first|simp only[go_sem, *]|apply bc<;>intro t
   generalize hL:l.take i=L at *
   have a4:L.length=i:=by rw[<-hL,z7,mI Y]
   refine zV (λj fr h=>fr 5=.ptr g.next 0/\fr 80=d'/\fr 81=.int .i64 (i:Int)/\fr 82=.int .i64 (j:Int)/\h.at' g.next=some (.row [.str w,.str f,.int .i64 n,.str b])/\Ext g h/\g.next<h.next/\∀m (hm:m<L.length),m<j->(L[m].fam==f&&L[m].ver==n)=false) i ow ?_ ?_ ?_
   ·simp only[go_sem,zQ,zS,zF];exact⟨O,a,G,by omega,λm hm h0=>by omega⟩
   ·clear f0 f1 O M N P a G B e1;rintro j fr h Q e1 ew ⟨O,U,V,W,a,S,B,I⟩;have F:j<L.length:=ow;have a1:=pu X F;have ab:=lM L[j] h h.next;have hk:(h.new h.next (.row [.str L[j].name,.str L[j].fam,.int .i64 L[j].ver,.str L[j].text])).at' g.next=some (.row [.str w,.str f,.int .i64 n,.str b]):=by rw[zz ow];exact a
    have a0:=S.new S.1 (.row [.str L[j].name,.str L[j].fam,.int .i64 L[j].ver,.str L[j].text]);have a6:g.next<(h.new h.next (.row [.str L[j].name,.str L[j].fam,.int .i64 L[j].ver,.str L[j].text])).next:=by rw[yA];omega
    have c:=λC=>qp (p:=λy:Lic=>y.fam==f&&y.ver==n) (l:=L) F I C;have v:(L[j].fam==f&&L[j].ver==n)=true->R=6:=λC=>by
     rw[ip (yZ.2 ⟨_,zG F,C⟩)]at z;exact z.symm
    simp only[Lic.cells]at a1;cases K:(L[j].fam==f)with
    |false=>
     have u:=c (by simp only[K,yV])
     repeat' first|simp only[go_sem,yQ, *]|apply bc<;>intro t
     exact λm hm h=>u m ow h
    |true=>
     cases b2:(L[j].ver==n)with
     |false=>
      have u:=c (by simp only[K,b2,qK])
      repeat' first|simp only[go_sem,yQ, *]|apply bc<;>intro t
      exact λm hm h=>u m ow h
     |true=>
      have u:=v (by simp only[K,b2,yr]);subst u
      repeat' first|simp only[go_sem,yQ, *]|apply bc<;>intro t
   ·clear f0 f1 O M N P a G B e1;rintro fr h e1 ⟨O,U,V,W,a,S,B,I⟩;have A:¬(L.any λy=>y.fam==f&&y.ver==n)=true:=by
     rw[rO λj J _=>I j J ow];exact zf
    rw[iq A]at z;subst z;exact au
def cK{α:Type}(p:α->Bool)(l:List α):Int:=match l.findIdx? p with
 |some i=>(i:Int)
 |none=> -1
def jE{l:List α}{p:α->Bool} :decide (cK p l>=0)=l.any p:=by
 rw[<-bz];rfl
def lX{l:List α}{p:α->Bool}(c:i<l.length)(b:∀j (b:j<l.length),j<i->p l[j]=false)(d:p l[i]=true):cK p l=(i:Int):=by
 have:l.findIdx? p=some i:=by
  rw[ql];exact⟨c,d,λj a=>by rw[b j ow a];exact zf⟩
 simp only[cK,this]
def lY{l:List α}{p:α->Bool}(b:∀j (b:j<l.length),p l[j]=false):cK p l= -1:=by
 have:l.findIdx? p=none:=by
  rw[uY];intro n c;obtain⟨j,a,rfl⟩:=yH.1 c;exact b j a
 simp only[cK,this]
def TD{l:List Int}(n:ye 1 (uq l) d)(C:l.length<=1048576){p:Int->Bool}(y:∀s∈l,∀h,zB prog f ([]++ [.int .i64 s]++cap) h λr h'=>h'=h/\r=.bool (p s))(g:Heap):
  zB prog 180 [d,.fn (.func f) [] cap] g λr h'=>h'=g/\r=.int .i64 (cK p l):=by
 have o:=rF n;refine z5 zHC ?_;simp only[f180,zA]
 repeat' first|simp only[go_sem, *]|apply bc<;>intro m
 refine zV (λi fr h=>fr 1=.fn (.func f) [] cap/\fr 0=d/\fr 6=d/\fr 7=.int .i64 (l.length:Int)/\fr 8=.int .i64 (i:Int)/\h=g/\∀j (b:j<l.length),j<i->p l[j]=false) l.length ow ?_ ?_ ?_
 ·simp only[go_sem,zQ,zS,zF];exact λj b h0=>by omega
 ·rintro i fr h a e1 B ⟨t,q,u,v,w,rfl,b⟩;have A:=nG n a;have e:=y _ (zG a);simp only[yT,z9]at e;cases k:p l[i]with
  |true=>
   have z:=lX a b k;rw[k]at e
   repeat' first|simp only[go_sem, *]|apply bc<;>intro m|refine zB.use (e _) ?_
  |false=>
   have x:=qp (p:=p) a b k;rw[k]at e
   repeat' first|simp only[go_sem, *]|apply bc<;>intro m|refine zB.use (e _) ?_
   exact x
 ·rintro fr h e1 ⟨t,q,u,v,w,rfl,b⟩;have z:=lY (p:=p) λj c=>b j c c;exact au
def YL{l:List Int}(b:ye 1 (uq l) d)(e:l.length<=1048576){p:Int->Bool}(i:∀s∈l,∀h,zB prog f ([]++ [.int .i64 s]++cap) h λr h'=>h'=h/\r=.bool (p s))(g:Heap):
  zB prog 138 [d,.fn (.func f) [] cap] g λr h'=>h'=g/\r=.bool (l.any p):=by
 have a:=TD b e i;have c:=jE (l:=l) (p:=p);refine z5 zGx ?_;simp only[f138,zA]
 repeat' first|simp only[go_sem, *]|apply bc<;>intro j|refine zB.use (a _) ?_
def Av(n:Int)(g:Heap):zB prog 139 [.int .i64 n] g λr h'=>h'=g/\r=.bool (!(decide (n>=0)&&decide (n<=5))):=by
 have a:=Pp n;refine z5 zGy ?_;simp only[f139,zA]
 repeat' first|simp only[go_sem, *]|apply bc<;>intro b|refine zB.use (a _) ?_
def Vq(l:List Lic):Nat->KN
 |0=>[]
 |i+1=>WD ((l.map Lic.name).getD i []) (i:Int) (Vq l i)
def WW{l:List Lic}{d e1 e2 e3:D}(o:ye 4 (jJ l) d)(J:l.length<=1048576)(g:Heap):
  zB prog 85 [.agg [d,e1,e2,e3]] g λr h'=>∃id,r=.map id/\g.next<=id/\id<h'.next/\h'.at' id=some (.map (knD (Vq l l.length)))/\Ext g h':=by
 have z:=pK o;refine z5 zJU ?_;simp only[f85,zA];simp only[go_sem, *];obtain⟨H,x,c,b,e⟩:∃H,g.new g.next (.map [])=H/\H.at' g.next=some (.map (knD (Vq l 0)))/\Ext g H/\g.next<H.next:=⟨_,rfl,yQ _ _ _,(Ext.refl g).new (zD _) _,by rw[yA];omega⟩;rw[x];clear x;refine zV (λi fr h=>fr 3=.map g.next/\fr 8=d/\fr 9=.int .i64 (l.length:Int)/\fr 10=.int .i64 (i:Int)/\h.at' g.next=some (.map (knD (Vq l i)))/\Ext g h/\g.next<h.next) l.length ow ?_ ?_ ?_
 ·simp only[go_sem,zQ,zS,zF];exact⟨c,b,e⟩
 ·clear c b e;rintro i fr h j e1 I ⟨B,C,E,p,k,f,s⟩;have A:=pu o j;have u:=lM l[i] h h.next;have m:(l.map Lic.name).getD i []=l[i].name:=by simp[j]
  simp only[Lic.cells]at A;obtain⟨a,q,m2,r2,w,F⟩:∃a,h.new h.next (.row [.str l[i].name,.str l[i].fam,.int .i64 l[i].ver,.str l[i].text])=a/\a.at' g.next=some (.map (knD (Vq l i)))/\a.at' h.next=some (.row [.str l[i].name,.str l[i].fam,.int .i64 l[i].ver,.str l[i].text])/\Ext g a/\g.next<a.next:=
   ⟨_,rfl,by rw[zz ow];exact k,yQ _ _ _,f.new f.1 _,by rw[yA];omega⟩
  rw[q]at u;have v:=Uj (P:=prog) (t:=149) m2 V5 Tm l[i].name (i:Int);have n:WD l[i].name (i:Int) (Vq l i)=Vq l (i+1):=by rw[Vq,m]
  rw[n]at v;have m3:=zi a g.next (.map (knD (Vq l (i+1))));have G:=w.set (id:=g.next) (zD _) (.map (knD (Vq l (i+1))));have K:g.next<(a.set g.next (.map (knD (Vq l (i+1))))).next:=F;clear k f m n o w;exact au
 ·clear c b e;rintro fr h e1 ⟨B,C,E,p,k,f,s⟩;have y:∃id,D.map g.next=.map id/\g.next<=id/\id<h.next/\h.at' id=some (.map (knD (Vq l l.length)))/\Ext g h:=⟨_,rfl,zD _,s,k,f⟩;clear k f s o;exact au
structure Exc where
 name:List UInt8
 lic:List UInt8
 lifts:List Int
 d:D
def Exc.cells(l:Exc):List D:=[.str l.name,.str l.lic,l.d]
def Exc.Ok(l:Exc):Prop:=ye 1 (uq l.lifts) l.d/\l.lifts.length<=1048576/\l.name.length<=1048576
def D1(l:List Exc):List (List D):=l.map Exc.cells
def Qm(l:List Exc):(D1 l).length=l.length:=zI ..
def Ha{l:List Exc}(h:i<l.length):(D1 l)[i]? =some l[i].cells:=by simp[D1,h]
def fP{l:List Exc}(a:ye 3 (D1 l) d)(h:Heap):js prog 23 d h=some (.int .i64 l.length):=by rw[uV a underlying23,Qm]
def df{l:List Exc}(a:ye 3 (D1 l) d)(b:i<l.length):yP prog 23 d (.int .i64 (i:Int))=some (.iptr l[i].cells 0):=qA a HU Rh (Ha b)
structure Cla where
 lic:List UInt8
 way:Int
 rel:Int
 duty:Int
 list:List (List UInt8)
 d:D
def Cla.cells(l:Cla):List D:=[.str l.lic,.int .i64 l.way,.int .i64 l.rel,.int .i64 l.duty,l.d]
def Cla.Ok(l:Cla):Prop:=ye 1 (uH l.list) l.d/\l.list.length<=1048576
def lC(l:List Cla):List (List D):=l.map Cla.cells
def sS(l:List Cla):(lC l).length=l.length:=zI ..
def HQ{l:List Cla}(h:i<l.length):(lC l)[i]? =some l[i].cells:=by simp[lC,h]
def nb{l:List Cla}(a:ye 5 (lC l) d)(h:Heap):js prog 24 d h=some (.int .i64 l.length):=by rw[uV a underlying24,sS]
def lV{l:List Cla}(a:ye 5 (lC l) d)(b:i<l.length):yP prog 24 d (.int .i64 (i:Int))=some (.iptr l[i].cells 0):=qA a cW gk (HQ b)
structure Apt where
 a:List UInt8
 b:List UInt8
def Apt.cells(l:Apt):List D:=[.str l.a,.str l.b]
def Ip(l:List Apt):List (List D):=l.map Apt.cells
def R9(l:List Apt):(Ip l).length=l.length:=zI ..
def Iq{l:List Apt}(h:i<l.length):(Ip l)[i]? =some l[i].cells:=by simp[Ip,h]
def fO{l:List Apt}(a:ye 2 (Ip l) d)(h:Heap):js prog 25 d h=some (.int .i64 l.length):=by rw[uV a underlying25,R9]
def de{l:List Apt}(a:ye 2 (Ip l) d)(b:i<l.length):yP prog 25 d (.int .i64 (i:Int))=some (.iptr l[i].cells 0):=qA a HV Nr (Iq b)
def Yc(a b:Cla):Int:=orL [nv a.lic b.lic,wm a.way b.way,wm a.rel b.rel,wm a.duty b.duty]
def Yb(a b:Apt):Int:=orL [nv a.a b.a,nv a.b b.b]
def zH7(a b:Int)(nid:Nat)(h:Heap):yB prog false nid 40 2 [(0,.int .i64 a),(1,.int .i64 b)] h=some (.sl 1 (uq [a,b]) .full,h):=by
 simp[yB,uL,nO,pj,nz,D.notTuple,D.cells,wY,tp,uG,uq]
def zKv(a b c e:Int)(nid:Nat)(h:Heap):yB prog false nid 40 4 [(0,.int .i64 a),(1,.int .i64 b),(2,.int .i64 c),(3,.int .i64 e)] h=some (.sl 1 (uq [a,b,c,e]) .full,h):=by
 simp[yB,uL,nO,pj,nz,D.notTuple,D.cells,wY,tp,uG,uq]
def X9(a b:Apt)(g:Heap):zB prog 41 [.agg a.cells,.agg b.cells] g λr h'=>h'=g/\r=.int .i64 (Yb a b):=by
 have h1:=U8 a.a b.a;have f:=U8 a.b b.b;have h3:=A0 (l:=[nv a.a b.a,nv a.b b.b]) (ye.mk .full) (by simp);have hr:=λnid=>zH7 (nv a.a b.a) (nv a.b b.b) nid;have c:orL [nv a.a b.a,nv a.b b.b]=Yb a b:=rfl;rw[c]at h3;have d:∀h:Heap,HLe Heap.emp h:=λh i j e=>by cases e
 refine z5 zKP ?_;simp only[f41,zA];simp only[Apt.cells]
 repeat' first|simp only[go_sem, *]|apply bc<;>intro c
 refine qD Heap.emp [(0,.no,true),(1,.no,true),(2,.no,true),(3,.no,true),(5,.no,true),(6,.st,true),(7,.no,true),(8,.st,true),(4,.no,true),(9,.no,true),(10,.no,true),(11,.no,true),(12,.no,true)] kr kr (λi j e=>by cases e) ?_
 repeat' first|simp only[go_sem, *]|apply bc<;>intro c|refine zB.use (h1 _) ?_|refine zB.use (f _) ?_|refine zB.use (h3 _) ?_
def ZV(a b:Cla)(g:Heap):zB prog 39 [.agg a.cells,.agg b.cells] g λr h'=>h'=g/\r=.int .i64 (Yc a b):=by
 have h1:=U8 a.lic b.lic;have f:=YK a.way b.way;have j:=YK a.rel b.rel;have h5:=YK a.duty b.duty;have h3:=A0 (l:=[nv a.lic b.lic,wm a.way b.way,wm a.rel b.rel,wm a.duty b.duty]) (ye.mk .full) (by simp);have hr:=λnid=>zKv (nv a.lic b.lic) (wm a.way b.way) (wm a.rel b.rel) (wm a.duty b.duty) nid;have c:orL [nv a.lic b.lic,wm a.way b.way,wm a.rel b.rel,wm a.duty b.duty]=Yc a b:=rfl;rw[c]at h3;have d:∀h:Heap,HLe Heap.emp h:=λh i k e=>by cases e
 refine z5 zKN ?_;simp only[f39,zA];simp only[Cla.cells]
 repeat' first|simp only[go_sem, *]|apply bc<;>intro c
 refine qD Heap.emp [(0,.no,true),(1,.no,true),(2,.no,true),(3,.no,true),(5,.no,true),(6,.st,true),(7,.no,true),(8,.st,true),(10,.no,true),(11,.st,true),(12,.no,true),(13,.st,true),(15,.no,true),(16,.st,true),(17,.no,true),(18,.st,true),(4,.no,true),(9,.no,true),(14,.no,true),(19,.no,true),(20,.no,true),(21,.no,true),(22,.no,true)] kr kr (λi k e=>by cases e) ?_
 repeat' first|simp only[go_sem, *]|apply bc<;>intro c|refine zB.use (h1 _) ?_|refine zB.use (f _) ?_|refine zB.use (h3 _) ?_|refine zB.use (j _) ?_|refine zB.use (h5 _) ?_
def nH(a:ye sz xs d):d.flat=true:=by rcases a with⟨rfl,_⟩ | ⟨tk,rfl⟩ <;>rfl
def pD(m:KN)(k:List UInt8):Bool:=(gM k m).isSome
variable{id:Nat}{h:Heap}
def V3{m:KN}(a:h.at' id=some (.map (knD m)))(k:List UInt8):∃v,uF prog 149 (.map id) (.str k) true h=some (.tuple [.int .i64 v,.bool (pD m k)]):=by
 have:=VI (P:=prog) (t:=149) a V5 Tm nO k true;rw[this];unfold pD;cases gM k m with
 |none=>exact⟨0,rfl⟩
 |some v=>exact⟨v,rfl⟩
def mP(m:KN)(l:List Exc)(i:Nat)(x:Exc):Int:=
 if(!ww x.name)=true then 2
 else if(!pD m x.lic)=true then 7
 else if(x.lifts.any λn=> !(decide (n>=0)&&decide (n<=5)))=true then 3
 else if(((x.lifts.length:Int)==0)||(!bM x.lifts||(decide ((i:Int)>0)&&leB x.name ((l.map Exc.name).getD (i-1) []))))=true then 5 else 0
def ZU{l:List Exc}(F:ye 3 (D1 l) d)(V:l.length<=1048576)(Q:∀x∈l,x.Ok)(G:i<l.length){m:KN}(t:g.at' id=some (.map (knD m))):
  zB prog 86 [d,.int .i64 (i:Int),.map id] g λr h'=>h'=g/\r=.int .i64 (mP m l i l[i]):=by
 refine xU kr λw=> ?_;have P:id<g.next:=by
  by_cases h:id<g.next
  ·exact h
  ·rw[w id ow]at t;cases t
 obtain⟨o1,o2,T⟩:=Q _ (zG G);have q:=df F G;have E:∀k:Int,below g.next (.int .i64 k):=λk=>trivial;have S:∀a b c:D,yN true 3 [a,b,c] 0=some (.agg [a,b,c]):=λa b c=>zJ rfl ow;have B:=YJ T;have C:=YL o1 o2 (f:=139) (cap:=[]) λn _ h=>Av n h;have o:=TA o1 o2;have O:=rF o1;have e:i-1<l.length:=ow;obtain⟨R,j⟩:∃R,mP m l i l[i]=R:=⟨_,rfl⟩;rw[j];unfold mP at j;have z:(l.map Exc.name).getD (i-1) []=(l[i-1]'e).name:=by simp[e]
 have p:=df F e;have M:=bg l[i].name (l[i-1]'e).name;rw[z]at j;generalize l[i]=x at *
 simp only[Exc.cells]at q p;have A:qP prog 85 (.ptr g.next 0) (.agg [.str x.name,.str x.lic,x.d]) (g.new g.next (.row [.str [],.str [],.nilsl]))=some (g.new g.next (.row [.str x.name,.str x.lic,x.d])):=qk Rh ow rfl rfl (by show(true&&(true&&(x.d.flat&&true)))=true;rw[nH o1];rfl);obtain⟨H,L,I,K,u⟩:∃H,g.new g.next (.row [.str x.name,.str x.lic,x.d])=H/\H.at' g.next=some (.row [.str x.name,.str x.lic,x.d])/\Ext g H/\H.at' id=some (.map (knD m)):=⟨_,rfl,yQ _ _ _,(Ext.refl g).new (zD _) _,by rw[zz ow];exact t⟩;rw[L]at A;obtain⟨v,N⟩:=V3 u x.lic;refine z5 zKn ?_;simp only[f86,zA]
 by_cases h0:0<i
 ·have J:decide ((i:Int)>0)=true:=zN ow;have U:IntKind.i64.wrap ((i:Int)-1)=((i-1:Nat):Int):=by rw[qE ow ow];omega
  subst j;generalize l[i-1]=y at *
  repeat' first|simp only[go_sem, *]|apply bc<;>intro s|refine zB.use (B _) ?_|refine zB.use (C _) ?_|refine zB.use (o _) ?_
  all_goals
   refine zd kr ?_
   repeat' first|simp only[go_sem, *]|apply bc<;>intro s|refine zB.use (o _) ?_
 ·have J:decide ((i:Int)>0)=false:=zO ow;subst j
  repeat' first|simp only[go_sem, *]|apply bc<;>intro s|refine zB.use (B _) ?_|refine zB.use (C _) ?_|refine zB.use (o _) ?_
  all_goals
   refine zd kr ?_
   repeat' first|simp only[go_sem, *]|apply bc<;>intro s|refine zB.use (o _) ?_
def Iw(p q c:Bool):fV prog .neq 4 c (.bool p) (.bool q)=some (.bool (p !=q)):=by cases p<;>cases q<;>simp[fV,GU,oA,veq,underlying4]
def mM(m:KN)(l:List Cla)(i:Nat)(x:Cla):Int:=
 if(!pD m x.lic)=true then 7
 else if(decide (x.way<0)||decide (x.way>2)||decide (x.rel<0)||decide (x.rel>2)|| !(decide (x.duty>=0)&&decide (x.duty<=5)))=true then 3
 else if(!(decide ((x.list.length:Int)>0)==(x.duty==4)))=true then 1
 else if(x.list.any λs=> !pD m s)=true then 7
 else if(!ga x.list||(decide ((i:Int)>0)&&decide (Yc (l.getD (i-1) x) x>=0)))=true then 5 else 0
theorem Va{l:List Cla}(T:ye 5 (lC l) d)(hl:l.length<=1048576)(hs:∀x∈l,x.Ok)(U:i<l.length){m:KN}(I:g.at' id=some (.map (knD m))):
  zB prog 87 [d,.int .i64 (i:Int),.map id] g λr h'=>h'=g/\r=.int .i64 (mM m l i l[i]):=by
 refine xU kr λK=> ?_;have o:id<g.next:=by
  by_cases h:id<g.next
  ·exact h
  ·rw[K id ow]at I;cases I
 obtain⟨o1,o2⟩:=hs _ (zG U);have G:=lV T U;have S:∀k:Int,below g.next (.int .i64 k):=λk=>trivial;have ak:∀a b c e f:D,yN true 5 [a,b,c,e,f] 0=some (.agg [a,b,c,e,f]):=λa b c e f=>zJ rfl ow;have n:i-1<l.length:=ow;have O:=TB o1 o2;have ag:=wd o1;have ai:=Iw;obtain⟨R,u⟩:∃R,mM m l i l[i]=R:=⟨_,rfl⟩;rw[u];unfold mM at u;have M:∀x,l.getD (i-1) x=l[i-1]'n:=λx=>by simp[n]
 have F:=lV T n;have P:=ZV (l[i-1]'n) l[i];rw[M]at u;generalize l[i]=x at *
 have W:=Pp x.duty;simp only[Cla.cells]at G F P;have N:qP prog 89 (.ptr g.next 0) (.agg [.str x.lic,.int .i64 x.way,.int .i64 x.rel,.int .i64 x.duty,x.d]) (g.new g.next (.row [.str [],.int .i64 0,.int .i64 0,.int .i64 0,.nilsl]))=some (g.new g.next (.row [.str x.lic,.int .i64 x.way,.int .i64 x.rel,.int .i64 x.duty,x.d])):=qk gk ow rfl rfl (by show(true&&(true&&(true&&(true&&(x.d.flat&&true)))))=true;rw[nH o1];rfl)
 obtain⟨H,hH,V,ab,J⟩:∃H,g.new g.next (.row [.str x.lic,.int .i64 x.way,.int .i64 x.rel,.int .i64 x.duty,x.d])=H/\H.at' g.next=some (.row [.str x.lic,.int .i64 x.way,.int .i64 x.rel,.int .i64 x.duty,x.d])/\Ext g H/\H.at' id=some (.map (knD m)):=⟨_,rfl,yQ _ _ _,(Ext.refl g).new (zD _) _,by rw[zz ow];exact I⟩;rw[hH]at N;have V1:=λk=>V3 J k;obtain⟨v,ad⟩:=V1 x.lic;refine z5 zJV ?_;simp only[f87,zA];obtain⟨L,E⟩:∃L,(x.list.any λs=> !pD m s)=L:=⟨_,rfl⟩;rw[E]at u;subst u
 repeat' first|simp only[go_sem, *]|apply bc<;>intro t|refine zB.use (W _) ?_
 all_goals
  rename Heap=>H
  refine zV (λk fr h=>fr 0=d/\fr 1=.int .i64 (i:Int)/\fr 2=.map id/\fr 7=.ptr g.next 0/\fr 62=x.d/\fr 63=.int .i64 (x.list.length:Int)/\fr 64=.int .i64 (k:Int)/\h=H/\∀j (z:j<x.list.length),j<k->(!pD m x.list[j])=false) x.list.length ow ?_ ?_ ?_
  ·simp only[go_sem,zQ,zS,zF];exact λj z h0=>by omega
  ·rintro k fr h o e1 Y ⟨Z,f1,f2,f7,B,C,f64,rfl,z⟩;have a1:=t9 o1 o;obtain⟨w,hw⟩:=V1 x.list[k];cases Q:pD m x.list[k]with
   |false=>
    have q:L=true:=by rw[<-E];exact pW (p:=λs=> !pD m s) o (by simp only[Q];rfl)
    subst q
    repeat' first|simp only[go_sem, *]|apply bc<;>intro t
   |true=>
    have hn:=qp (p:=λs=> !pD m s) o z (by simp only[Q];rfl)
    repeat' first|simp only[go_sem, *]|apply bc<;>intro t
    exact hn
  ·rintro fr h e1 ⟨Z,f1,f2,f7,B,C,f64,rfl,z⟩;have q:L=false:=by rw[<-E];exact rO λj A _=>z j A A
   subst q;by_cases h0:0<i
   ·have X:decide ((i:Int)>0)=true:=zN ow;have Y:IntKind.i64.wrap ((i:Int)-1)=((i-1:Nat):Int):=by rw[qE ow ow];omega
    generalize l[i-1]=y at *
    repeat' first|simp only[go_sem, *]|apply bc<;>intro t
    refine qD Heap.emp [(0,.no,false),(1,.no,false),(2,.no,false),(3,.no,false),(4,.no,false),(5,.no,false),(6,.no,false),(7,.no,false),(13,.no,false),(8,.no,false),(9,.no,false),(10,.no,false),(11,.no,false),(12,.no,false),(14,.no,false),(15,.no,false),(16,.no,false),(17,.no,false)] kr kr (λi ob e=>by cases e) ?_
    repeat' first|simp only[go_sem, *]|apply bc<;>intro t|refine zB.use (O _) ?_|refine zB.use (P _) ?_
   ·have X:decide ((i:Int)>0)=false:=zO ow
    repeat' first|simp only[go_sem, *]|apply bc<;>intro t
    refine qD Heap.emp [(0,.no,false),(1,.no,false),(2,.no,false),(3,.no,false),(4,.no,false),(5,.no,false),(6,.no,false),(7,.no,false),(13,.no,false),(8,.no,false),(9,.no,false),(10,.no,false),(11,.no,false),(12,.no,false),(14,.no,false),(15,.no,false),(16,.no,false),(17,.no,false)] kr kr (λi ob e=>by cases e) ?_
    repeat' first|simp only[go_sem, *]|apply bc<;>intro t|refine zB.use (O _) ?_
def nR(m:KN)(l:List Apt)(i:Nat)(x:Apt):Int:=
 if([x.a,x.b].any λs=> !pD m s)=true then 7
 else if(!l8 x.a x.b||(decide ((i:Int)>0)&&decide (Yb (l.getD (i-1) x) x>=0)))=true then 5 else 0
def zKw(a b:List UInt8)(nid:Nat)(h:Heap):yB prog false nid 31 2 [(0,.str a),(1,.str b)] h=some (.sl 1 (uH [a,b]) .full,h):=by
 simp[yB,t5,Xx,md,nz,D.notTuple,D.cells,wY,tp,uG,uH]
def QG{l:List Apt}(W:ye 2 (Ip l) d)(hl:l.length<=1048576)(hi:i<l.length){m:KN}(E:g.at' id=some (.map (knD m))):
  zB prog 88 [d,.int .i64 (i:Int),.map id] g λr h'=>h'=g/\r=.int .i64 (nR m l i l[i]):=by
 refine xU kr λQ=> ?_;have P:id<g.next:=by
  by_cases h:id<g.next
  ·exact h
  ·rw[Q id ow]at E;cases E
 have K:=de W hi;have V:∀k:Int,below g.next (.int .i64 k):=λk=>trivial;have n:i-1<l.length:=ow;obtain⟨R,v⟩:∃R,nR m l i l[i]=R:=⟨_,rfl⟩;rw[v];unfold nR at v;have D:∀x,l.getD (i-1) x=l[i-1]'n:=λx=>by simp[n]
 have z:=de W n;have F:=X9 (l[i-1]'n) l[i];rw[D]at v;clear D;generalize l[i]=x at *
 simp only[Apt.cells]at K z F;have S:qP prog 93 (.ptr g.next 0) (.agg [.str x.a,.str x.b]) (g.new g.next (.row [.str [],.str []]))=some (g.new g.next (.row [.str x.a,.str x.b])):=qk Nr ow rfl rfl rfl;obtain⟨H,T,X,ab,C⟩:∃H,g.new g.next (.row [.str x.a,.str x.b])=H/\H.at' g.next=some (.row [.str x.a,.str x.b])/\Ext g H/\H.at' id=some (.map (knD m)):=⟨_,rfl,yQ _ _ _,(Ext.refl g).new (zD _) _,by rw[zz ow];exact E⟩;rw[T]at S;have V1:=λk=>V3 C k;have M:=zKw x.a x.b;obtain⟨c,f⟩:∃c,[x.a,x.b]=c:=⟨_,rfl⟩;have o:c.length=2:=by rw[<-f];rfl
 have o1:ye 1 (uH c) (.sl 1 (uH c) .full):=ye.mk _;have B:=wd o1;rw[o]at B;rw[f]at M v;clear T E C;refine z5 zKo ?_;simp only[f88,zA];obtain⟨L,u⟩:∃L,(c.any λs=> !pD m s)=L:=⟨_,rfl⟩;rw[u]at v;subst v;clear f
 repeat' first|simp only[go_sem, *]|apply bc<;>intro A
 refine zV (λk fr h=>fr 0=d/\fr 1=.int .i64 (i:Int)/\fr 2=.map id/\fr 7=.ptr g.next 0/\fr 20=.sl 1 (uH c) .full/\fr 21=.int .i64 ((2:Nat):Int)/\fr 22=.int .i64 (k:Int)/\h=H/\∀j (q:j<c.length),j<k->(!pD m c[j])=false) 2 ow ?_ ?_ ?_
 ·simp only[go_sem,zQ,zS,zF];exact λj q h0=>by omega
 ·rintro k fr h P e1 Z ⟨f0,f1,f2,f7,G,I,J,rfl,q⟩;have O:k<c.length:=ow;have a1:=t9 o1 O;obtain⟨w,hw⟩:=V1 c[k];cases U:pD m c[k]with
  |false=>
   have t:L=true:=by rw[<-u];exact pW (p:=λs=> !pD m s) O (by simp only[U];rfl)
   subst t;clear q u V1 o1 o
   repeat' first|simp only[go_sem, *]|apply bc<;>intro A
  |true=>
   have hn:=qp (p:=λs=> !pD m s) O q (by simp only[U];rfl);clear q u V1 o1 o
   repeat' first|simp only[go_sem, *]|apply bc<;>intro A
   exact hn
 ·rintro fr h e1 ⟨f0,f1,f2,f7,G,I,J,rfl,q⟩;have t:L=false:=by rw[<-u];exact rO λj N _=>q j N ow
  subst t;clear q u V1 o1 o;by_cases h0:0<i
  ·have Y:decide ((i:Int)>0)=true:=zN ow;have Z:IntKind.i64.wrap ((i:Int)-1)=((i-1:Nat):Int):=by rw[qE ow ow];omega
   generalize l[i-1]=y at *
   repeat' first|simp only[go_sem, *]|apply bc<;>intro A
   refine qD Heap.emp [(0,.no,false),(1,.no,false),(2,.no,false),(3,.no,false),(4,.no,false),(5,.no,false),(6,.no,false),(7,.no,false),(8,.no,false),(14,.no,false),(9,.no,false),(10,.no,false),(11,.no,false),(12,.no,false),(13,.no,false),(15,.no,false),(16,.no,false),(17,.no,false),(18,.no,false)] kr kr (λi ob e=>by cases e) ?_
   repeat' first|simp only[go_sem, *]|apply bc<;>intro A|refine zB.use (F _) ?_
  ·have Y:decide ((i:Int)>0)=false:=zO ow;clear z F
   repeat' first|simp only[go_sem, *]|apply bc<;>intro A
   refine qD Heap.emp [(0,.no,false),(1,.no,false),(2,.no,false),(3,.no,false),(4,.no,false),(5,.no,false),(6,.no,false),(7,.no,false),(8,.no,false),(14,.no,false),(9,.no,false),(10,.no,false),(11,.no,false),(12,.no,false),(13,.no,false),(15,.no,false),(16,.no,false),(17,.no,false),(18,.no,false)] kr kr (λi ob e=>by cases e) ?_;exact au
structure Cat where
 ls:List Lic
 es:List Exc
 cs:List Cla
 ps:List Apt
structure Cat.Sm(c:Cat):Prop where
 ls:c.ls.length<=1048576/\∀x∈c.ls,x.Sm
 es:c.es.length<=1048576/\∀x∈c.es,x.Ok
 cs:c.cs.length<=1048576/\∀x∈c.cs,x.Ok
 ps:c.ps.length<=1048576
def uM(c:Cat)(d:D):Prop:=∃a b e p,d=.agg [a,b,e,p]/\ye 4 (jJ c.ls) a/\ye 3 (D1 c.es) b/\ye 5 (lC c.cs) e/\ye 2 (Ip c.ps) p
def ml(f:Nat->Int):Nat->Int
 |0=>0
 |n+1=>if(ml f n==0)=true then f n else ml f n
theorem u9{f:Nat->Int} :∀{n:Nat},(∀i,i<n->f i=0)->ml f n=0
 |0,_=>rfl
 |n+1,h=>by
  have a:=u9 (n:=n) λi b=>h i ow;simp[ml,a,h n ow]
theorem pQ{f:Nat->Int} :∀{n i:Nat},i<n->(∀j,j<i->f j=0)->f i≠0->ml f n=f i
 |n+1,i,b,a,h0=>by
  rcases zo.1 b with q|rfl
  ·have c:=pQ q a h0;simp only[ml,c];rw[iq (by simpa using h0)]
  ·simp[ml,u9 a]
def um{f:Nat->Int}(b:∀j,j<i->f j=0)(h:f i=0):∀j,j<i+1->f j=0:=λj a=>by
 rcases zo.1 a with q|rfl
 ·exact b j q
 ·exact h
def atE{α:Type}(f:Nat->α->Int)(l:List α)(i:Nat):Int:=match l[i]? with
 |some x=>f i x
 |none=>0
def dE{f:Nat->α->Int}{l:List α}(h:i<l.length):atE f l i=f i l[i]:=by simp[atE,h]
def Cat.m(c:Cat):KN:=Vq c.ls c.ls.length
def Cat.big(c:Cat):Bool:=decide ((c.ls.length:Int)>32)||decide ((c.es.length:Int)>16)||decide ((c.cs.length:Int)>128)||decide ((c.ps.length:Int)>64)
def Cat.e1(c:Cat):Int:=ml (atE (p9 c.ls) c.ls) c.ls.length
def Cat.e2(c:Cat):Int:=ml (atE (mP c.m c.es) c.es) c.es.length
def Cat.e3(c:Cat):Int:=ml (atE (mM c.m c.cs) c.cs) c.cs.length
def Cat.e4(c:Cat):Int:=ml (atE (nR c.m c.ps) c.ps) c.ps.length
def qz(c:Cat):Int:=
 if c.big=true then 10
 else if(!(c.e1==0))=true then c.e1
 else if(!(c.e2==0))=true then c.e2
 else if(!(c.e3==0))=true then c.e3
 else c.e4
variable{c:Cat}
theorem fF(x:uM c d)(C:c.Sm)(g:Heap):zB prog 42 [d] g λr h'=>h'=g/\r=.int .i64 (qz c):=by
 refine xU kr λP=> ?_;obtain⟨a,b,e,p,rfl,F,J,L,M⟩:=x;have V:=pK F;have W:=fP J;have le:=nb L;have N:=fO M;have s1:=C.ls.1;have s2:=C.es.1;have s3:=C.cs.1;have s4:=C.ps;have K:∀k:Int,below g.next (.int .i64 k):=λk=>trivial;have O:Ext g g:=Ext.refl g;refine z5 zJD ?_;simp only[f42,zA];cases q:c.big with
 |true=>
  have t:qz c=10:=ip q;unfold Cat.big at q
  repeat' first|simp only[go_sem, *]|apply bc<;>intro x
  all_goals(simp only[uQ,uk,bne,wA,wk,qe,qy,wj,yV,yL,qK,qd,yr,wH,qY,wX,Bool.true_eq_false,zW, *]at q;done)
 |false=>
 have t:qz c=if(!(c.e1==0))=true then c.e1 else if(!(c.e2==0))=true then c.e2 else if(!(c.e3==0))=true then c.e3 else c.e4:=iq (by rw[q];exact zf)
 obtain⟨R,I⟩:∃R,qz c=R:=⟨_,rfl⟩;rw[I]at t⊢;have D:=t.symm;clear t;have t:=D;clear D;clear I;unfold Cat.big at q;simp only[wQ]at q;obtain⟨⟨⟨Q,X⟩,Y⟩,Z⟩:=q
 repeat' first|simp only[go_sem, *]|apply bc<;>intro x
 refine zV (λk fr h=>fr 1=.iptr [a,b,e,p] 0/\fr 36=.int .i64 (c.ls.length:Int)/\fr 37=.int .i64 (k:Int)/\h=g/\∀j,j<k->atE (p9 c.ls) c.ls j=0) c.ls.length ow ?_ ?_ ?_
 ·simp only[go_sem,zQ,zS,zF];exact λj l=>absurd l (zj _)
 ·rintro k fr h n y E ⟨w,fl,z,rfl,l⟩;have s:=X7 F ow C.ls.2 n;have i:=dE (f:=p9 c.ls) n;generalize p9 c.ls k c.ls[k]=v at *
  cases u:(v==0)with
  |false=>
   have o:ml (atE (p9 c.ls) c.ls) c.ls.length=v:=by rw[pQ n l (by rw[i];simpa using u),i]
   have o:c.e1=v:=o;rw[o,ip (by rw[u];rfl)]at t;subst t;clear l i o
   repeat' first|simp only[go_sem, *]|apply bc<;>intro x|refine zB.use (s _) ?_
  |true=>
   have B:=um l (by rw[i];simpa using u);clear l i
   repeat' first|simp only[go_sem, *]|apply bc<;>intro x|refine zB.use (s _) ?_
   exact B
 rintro fr h y ⟨w,fl,z,rfl,l⟩;have o:c.e1=0:=u9 l;rw[o,iq (by decide)]at t;clear l o Q
 rename Heap=>g
 simp only[go_sem,w,fl,z,y];refine(WW F ow _).mono ?_;rintro r H ⟨id,rfl,T,U,G,S⟩
 repeat' first|simp only[go_sem, *]|apply bc<;>intro x
 refine zV (λk fr h=>fr 1=.iptr [a,b,e,p] 0/\fr 5=.map id/\fr 52=.int .i64 (c.es.length:Int)/\fr 53=.int .i64 (k:Int)/\h=H/\∀j,j<k->atE (mP c.m c.es) c.es j=0) c.es.length ow ?_ ?_ ?_
 ·simp only[go_sem,zQ,zS,zF];exact⟨w,λj l=>absurd l (zj _)⟩
 ·rintro k fr h n y E ⟨w,A,fl,z,rfl,l⟩;have s:=ZU J ow C.es.2 n (m:=c.m) G;have i:=dE (f:=mP c.m c.es) n;generalize mP c.m c.es k c.es[k]=v at *
  cases u:(v==0)with
  |false=>
   have o:ml (atE (mP c.m c.es) c.es) c.es.length=v:=by rw[pQ n l (by rw[i];simpa using u),i]
   have o:c.e2=v:=o;rw[o,ip (by rw[u];rfl)]at t;subst t;clear l i o
   repeat' first|simp only[go_sem, *]|apply bc<;>intro x|refine zB.use s ?_
  |true=>
   have B:=um l (by rw[i];simpa using u);clear l i
   repeat' first|simp only[go_sem, *]|apply bc<;>intro x|refine zB.use s ?_
   exact B
 rintro fr h y ⟨w,A,fl,z,rfl,l⟩;have o:c.e2=0:=u9 l;rw[o,iq (by decide)]at t;clear l o
 rename Heap=>H
 simp only[go_sem,w,A,fl,z,y,le,N];refine zV (λk fr h=>fr 1=.iptr [a,b,e,p] 0/\fr 5=.map id/\fr 67=.int .i64 (c.cs.length:Int)/\fr 68=.int .i64 (k:Int)/\h=H/\∀j,j<k->atE (mM c.m c.cs) c.cs j=0) c.cs.length ow ?_ ?_ ?_
 ·simp only[go_sem,zQ,zS,zF];exact⟨w,A,λj l=>absurd l (zj _)⟩
 ·rintro k fr h n y E ⟨w,A,fl,z,rfl,l⟩;have s:=Va L ow C.cs.2 n (m:=c.m) G;have i:=dE (f:=mM c.m c.cs) n;generalize mM c.m c.cs k c.cs[k]=v at *
  cases u:(v==0)with
  |false=>
   have o:ml (atE (mM c.m c.cs) c.cs) c.cs.length=v:=by rw[pQ n l (by rw[i];simpa using u),i]
   have o:c.e3=v:=o;rw[o,ip (by rw[u];rfl)]at t;subst t;clear l i o
   repeat' first|simp only[go_sem, *]|apply bc<;>intro x|refine zB.use s ?_
  |true=>
   have B:=um l (by rw[i];simpa using u);clear l i
   repeat' first|simp only[go_sem, *]|apply bc<;>intro x|refine zB.use s ?_
   exact B
 rintro fr h y ⟨w,A,fl,z,rfl,l⟩;have o:c.e3=0:=u9 l;rw[o,iq (by decide)]at t;clear l o
 rename Heap=>H
 simp only[go_sem,w,A,fl,z,y,le,N];refine zV (λk fr h=>fr 1=.iptr [a,b,e,p] 0/\fr 5=.map id/\fr 82=.int .i64 (c.ps.length:Int)/\fr 83=.int .i64 (k:Int)/\h=H/\∀j,j<k->atE (nR c.m c.ps) c.ps j=0) c.ps.length ow ?_ ?_ ?_
 ·simp only[go_sem,zQ,zS,zF];exact⟨w,A,λj l=>absurd l (zj _)⟩
 ·rintro k fr h n y E ⟨w,A,fl,z,rfl,l⟩;have s:=QG M ow n (m:=c.m) G;have i:=dE (f:=nR c.m c.ps) n;generalize nR c.m c.ps k c.ps[k]=v at *
  cases u:(v==0)with
  |false=>
   have o:ml (atE (nR c.m c.ps) c.ps) c.ps.length=v:=by rw[pQ n l (by rw[i];simpa using u),i]
   have o:c.e4=v:=o;rw[o]at t;subst t;clear l i o
   repeat' first|simp only[go_sem, *]|apply bc<;>intro x|refine zB.use s ?_
  |true=>
   have B:=um l (by rw[i];simpa using u);clear l i
   repeat' first|simp only[go_sem, *]|apply bc<;>intro x|refine zB.use s ?_
   exact B
 rintro fr h y ⟨w,A,fl,z,rfl,l⟩;have o:c.e4=0:=u9 l;rw[o]at t;subst t;clear l o;exact au
theorem Vr{l:List Lic}{k:List UInt8}{v:Int} :∀{i:Nat},gM k (Vq l i)=some v->∃j:Nat,j<i/\v=(j:Int)/\(l.map Lic.name).getD j []=k
 |0,h=>by cases h
 |i+1,h=>by
  rw[Vq,Yy]at h;split at h
  ·rename_i q;have q:k=(l.map Lic.name).getD i []:=by simpa using q
   exact⟨i,by omega,(rM h).symm,q.symm⟩
  ·obtain⟨j,h1,a,h3⟩:=Vr h;exact⟨j,by omega,a,h3⟩
def sE(c:Cat)(k:List UInt8):Option Lic:=if(!(qz c==0))=true then none else match gM k c.m with
 |some v=>c.ls[v.toNat]?
 |none=>none
def oy(c:Cat)(k:List UInt8):D:=match sE c k with
 |some x=>.tuple [.agg [.str x.name,.str x.fam,.int .i64 x.ver,.str x.text],.bool true]
 |none=>.tuple [.agg cI,.bool false]
def Lr(u:uM c d)(Q:c.Sm)(k:List UInt8)(g:Heap):zB prog 185 [d,.str k] g λr h'=>h'=g/\r=oy c k:=by
 refine xU kr λW=> ?_;have n:=fF u Q;obtain⟨a,b,e,p,rfl,L,hb,he,hp⟩:=u;have s1:=Q.ls.1;have o:=λh=>WW (e1:=b) (e2:=e) (e3:=p) L s1 h;have U:wO prog 80 []=some (.agg cI):=by simp[wO,Wt,Ur,tp,D.notTuple,D.cells]
 have l:∀(x:Lic)(H:Heap),H.at' g.next=some (.row cI)->qP prog 80 (.ptr g.next 0) (.agg [.str x.name,.str x.fam,.int .i64 x.ver,.str x.text]) H=some (H.set g.next (.row [.str x.name,.str x.fam,.int .i64 x.ver,.str x.text])):=λx H h=>rU h bT rfl (by simp) rfl;have f:∀H:Heap,H.at' g.next=some (.row cI)->qP prog 80 (.ptr g.next 0) (.agg cI) H=some (H.set g.next (.row cI)):=λH h=>l ⟨[],[],0,[]⟩ H h;obtain⟨G,hG,E,A,X⟩:∃G,g.new g.next (.row cI)=G/\G.at' g.next=some (.row cI)/\Ext g G/\g.next<G.next:=⟨_,rfl,yQ _ _ _,(Ext.refl g).new (zD _) _,by rw[yA];omega⟩;have S:=f G E
 have J:=A.set (id:=g.next) (zD _) (.row cI);have q:∀(x:Lic)(b:Bool),below g.next (.tuple [.agg [.str x.name,.str x.fam,.int .i64 x.ver,.str x.text],.bool b]):=λx b=>by simp[below,qZ]
 have y:below g.next (.tuple [.agg cI,.bool false]):=q ⟨[],[],0,[]⟩ false;refine z5 zDN ?_;simp only[f185,zA];cases R:(qz c==0)with
 |false=>
  have K:oy c k=.tuple [.agg cI,.bool false]:=by unfold oy sE;rw[ip (by rw[R];rfl)]
  clear o l f
  repeat' first|simp only[go_sem,zi, *]|apply bc<;>intro u|refine zB.use (n _) ?_
 |true=>
 have hf:sE c k=(match gM k c.m with
  |some v=>c.ls[v.toNat]?
  |none=>none):=iq (by rw[R];decide)
 clear y
 repeat' first|simp only[go_sem, *]|apply bc<;>intro u|refine zB.use (n _) ?_
 rename Heap=>G
 refine(o _).mono ?_;rintro r H ⟨id,rfl,i1,i2,O,C⟩;have s:H.at' g.next=some (.row cI):=by rw[C.2 _ X];exact E
 have B:=A.trans C;obtain⟨v,I⟩:=V3 O k;have y:below g.next (.tuple [.agg cI,.bool false]):=q ⟨[],[],0,[]⟩ false;have T:=B.set (id:=g.next) (zD _) (.row cI);have Y:=f H s;cases z:gM k (Vq c.ls c.ls.length)with
 |none=>
  have K:oy c k=.tuple [.agg cI,.bool false]:=by
   unfold oy;rw[hf];unfold Cat.m;rw[z]
  have hh:pD (Vq c.ls c.ls.length) k=false:=by unfold pD;rw[z];rfl
  clear hf l f o n C B J S E A
  repeat' first|simp only[go_sem,zi, *]|apply bc<;>intro u
 |some w=>
  obtain⟨j,M,rfl,V⟩:=Vr z;have i:=VI (P:=prog) (t:=149) O V5 Tm nO k true;rw[z]at i;have N:uF prog 149 (.map id) (.str k) true H=some (.tuple [.int .i64 (j:Int),.bool true]):=i;clear i;have F:=pu L M;simp only[Lic.cells]at F;have K:oy c k=.tuple [.agg [.str c.ls[j].name,.str c.ls[j].fam,.int .i64 c.ls[j].ver,.str c.ls[j].text],.bool true]:=by
   unfold oy;rw[hf];unfold Cat.m;rw[z];simp only[rY,zE M]
  have s2:=l c.ls[j] H s;have Z:=B.set (id:=g.next) (zD _) (.row [.str c.ls[j].name,.str c.ls[j].fam,.int .i64 c.ls[j].ver,.str c.ls[j].text]);clear hf l f o n C B J S E A I Y T
  repeat' first|simp only[go_sem,zi, *]|apply bc<;>intro u
def kM(c:Cat)(lic exc:List UInt8):Option Exc:=c.es.find? λx=>x.name==exc&&x.lic==lic
def cy(c:Cat)(lic exc:List UInt8):D:=
 if(sE c lic).isSome=false then .tuple [.nilsl,.bool false]
 else if(exc== [])=true then .tuple [.nilsl,.bool true]
 else match kM c lic exc with
  |some x=>.tuple [x.d,.bool true]
  |none=>.tuple [.nilsl,.bool false]
def Vk{p:α->Bool}{l:List α}(c:i<l.length)(b:∀j (b:j<l.length),j<i->p l[j]=false)(d:p l[i]=true):l.find? p=some l[i]:=by
 rw[List.find?_eq_some_iff_getElem];exact⟨d,i,c,rfl,λj a=>by rw[b j ow a];rfl⟩
def Yk{p:α->Bool}{l:List α}(b:∀j (b:j<l.length),p l[j]=false):l.find? p=none:=by
 rw[List.find?_eq_none];intro x c;obtain⟨j,a,rfl⟩:=yH.1 c;rw[b j a];exact zf
def Lt(z:uM c d)(P:c.Sm)(f i:List UInt8)(g:Heap):zB prog 265 [d,.agg [.str f,.str i]] g λr h'=>Ext g h'/\r=cy c f i:=by
 have v:=Lr z P f;obtain⟨a,b,e,p,rfl,ha,T,he,hp⟩:=z;have s2:=P.es.1;have lb:=fP T;have ad:∀a b c:D,yN true 3 [a,b,c] 0=some (.agg [a,b,c]):=λa b c=>zJ rfl ow;have s:∀(x:Lic)(h:Heap),qP prog 80 (.ptr h.next 0) (.agg [.str x.name,.str x.fam,.int .i64 x.ver,.str x.text]) (h.new h.next (.row cI))=some (h.new h.next (.row [.str x.name,.str x.fam,.int .i64 x.ver,.str x.text])):=λx h=>lM x h h.next;have I:∀o,Ext g (g.new g.next o):=λo=>(Ext.refl g).new (zD _) o;refine z5 zDi ?_;simp only[f265,zA];cases hf:sE c f with
 |none=>
  have J:oy c f=.tuple [.agg cI,.bool false]:=by unfold oy;rw[hf]
  have hR:cy c f i=.tuple [.nilsl,.bool false]:=by unfold cy;rw[hf];rfl
  have F:=λh=>s ⟨[],[],0,[]⟩ h;clear s
  repeat' first|simp only[go_sem, *]|apply bc<;>intro z|refine zB.use (v _) ?_
 |some x=>
  have J:oy c f=.tuple [.agg [.str x.name,.str x.fam,.int .i64 x.ver,.str x.text],.bool true]:=by unfold oy;rw[hf]
  have F:=λh=>s x h;clear s;cases V:(i== [])with
  |true=>
   have hR:cy c f i=.tuple [.nilsl,.bool true]:=by unfold cy;rw[hf,V];rfl
   repeat' first|simp only[go_sem, *]|apply bc<;>intro z|refine zB.use (v _) ?_
  |false=>
  have C:cy c f i=match kM c f i with
   |some x=>.tuple [x.d,.bool true]
   |none=>.tuple [.nilsl,.bool false]:=by unfold cy;rw[hf,V];rfl
  obtain⟨R,Q⟩:∃R,cy c f i=R:=⟨_,rfl⟩;rw[Q]at C⊢;have t:=C.symm;clear Q C
  repeat' first|simp only[go_sem, *]|apply bc<;>intro z|refine zB.use (v _) ?_
  rename Heap=>G
  obtain⟨H,S,B⟩:∃H,G.new G.next (.row [.str x.name,.str x.fam,.int .i64 x.ver,.str x.text])=H/\Ext G H:=⟨_,rfl,I _⟩;rw[S];clear S F I v J;refine zV (λk fr h=>fr 3=.iptr [.str f,.str i] 0/\fr 23=b/\fr 24=.int .i64 (c.es.length:Int)/\fr 25=.int .i64 (k:Int)/\Ext G h/\∀j (A:j<c.es.length),j<k->(c.es[j].name==i&&c.es[j].lic==f)=false) c.es.length ow ?_ ?_ ?_
  ·simp only[go_sem,zQ,zS,zF];exact⟨B,λj A h0=>absurd h0 (zj _)⟩
  ·clear B;rintro k fr h w X ew ⟨Y,M,N,O,B,A⟩;have W:=df T w;have U:=(P.es.2 _ (zG w)).1;have n:=λq=>qp (p:=λy:Exc=>y.name==i&&y.lic==f) (l:=c.es) w A q;have m:=λq=>Vk (p:=λy:Exc=>y.name==i&&y.lic==f) (l:=c.es) w A q;have u:kM c f i=some c.es[k]->.tuple [c.es[k].d,.bool true]=R:=λq=>by rw[<-t,q]
   generalize c.es[k]=y at *
   simp only[Exc.cells]at W;have F:qP prog 85 (.ptr h.next 0) (.agg [.str y.name,.str y.lic,y.d]) (h.new h.next (.row [.str [],.str [],.nilsl]))=some (h.new h.next (.row [.str y.name,.str y.lic,y.d])):=qk Rh ow rfl rfl (by show(true&&(true&&(y.d.flat&&true)))=true;rw[nH U];rfl);have Z:=B.new B.1 (.row [.str y.name,.str y.lic,y.d]);clear A t U;cases L:(y.name==i)with
   |false=>
    have E:=n (by simp only[L,yV]);clear n m u
    repeat' first|simp only[go_sem,yQ, *]|apply bc<;>intro z
    exact E
   |true=>
    cases b2:(y.lic==f)with
    |false=>
     have E:=n (by simp only[L,b2,qK]);clear n m u
     repeat' first|simp only[go_sem,yQ, *]|apply bc<;>intro z
     exact E
    |true=>
     have E:=u (m (by simp only[L,b2,yr]));clear n m u
     repeat' first|simp only[go_sem,yQ, *]|apply bc<;>intro z
  ·clear B;rintro fr h X ⟨Y,M,N,O,B,A⟩;have E:kM c f i=none:=Yk λj K=>A j K K;rw[E]at t;have ab: .tuple [.nilsl,.bool false]=R:=t;clear A E t;exact au
def nZ(c:Cat)(lic exc:List UInt8):Bool:=(sE c lic).isSome&&((exc== [])||(kM c lic exc).isSome)
def Qw(c:Cat)(b a:List UInt8):∃q,cy c b a=.tuple [q,.bool (nZ c b a)]:=by
 unfold cy nZ;cases sE c b with
 |none=>exact⟨_,rfl⟩
 |some x=>
  cases h:(a== [])with
  |true=>exact⟨_,rfl⟩
  |false=>
   cases kM c b a with
   |none=>exact⟨_,rfl⟩
   |some y=>exact⟨_,rfl⟩
def DR(l:uM c d)(o:c.Sm)(i f:List UInt8)(g:Heap):zB prog 188 [d,.agg [.str i,.str f]] g λr h'=>h'=g/\r=.bool (nZ c i f):=by
 refine xU kr λm=> ?_;have j:=Lt l o i f;obtain⟨q,n⟩:=Qw c i f;rw[n]at j;obtain⟨a,b,e,p,rfl,t,u,v,w⟩:=l;have k:∀b:Bool,below g.next (.bool b):=λb=>trivial;refine z5 zDQ ?_;simp only[f188,zA];simp only[go_sem, *];refine(j _).mono ?_;rintro r h ⟨s,rfl⟩;exact au
def I5{l:List Int}(e:ye 1 (uq l) d)(B:l.length<=1048576)(n:Int)(g:Heap):
  zB prog 143 [d,.int .i64 n] g λr h'=>h'=g/\r=.int .i64 (cK (λx=>x==n) l):=by
 have o:=rF e;obtain⟨p,k⟩:∃p:Int->Bool,(λx=>x==n)=p:=⟨_,rfl⟩;have a:∀x,p x=(n==x):=λx=>by rw[<-k];exact ka
 rw[k];clear k;refine z5 zC8 ?_;simp only[f143,zA];simp only[go_sem, *];refine zV (λi fr h=>fr 1=.int .i64 n/\fr 0=d/\fr 6=d/\fr 7=.int .i64 (l.length:Int)/\fr 8=.int .i64 (i:Int)/\h=g/\∀j (b:j<l.length),j<i->p l[j]=false) l.length ow ?_ ?_ ?_
 ·simp only[go_sem,zQ,zS,zF];exact λj b h0=>absurd h0 (zj _)
 ·rintro i fr h c e1 A ⟨s,q,t,u,v,rfl,b⟩;have z:=nG e c;cases m:(n==l[i])with
  |true=>
   have y:=lX (p:=p) c b (by rw[a,m]);clear b e a;simp only[go_sem, *]
  |false=>
   have w:=qp (p:=p) c b (by rw[a,m]);clear b e a;simp only[go_sem, *];exact w
 ·rintro fr h e1 ⟨s,q,t,u,v,rfl,b⟩;have y:=lY (p:=p) λj f=>b j f f;clear b e a;exact au
def QM{l:List Int}(b:ye 1 (uq l) d)(e:l.length<=1048576)(n:Int)(g:Heap):
  zB prog 90 [d,.int .i64 n] g λr h'=>h'=g/\r=.bool (l.any λx=>x==n):=by
 have a:=I5 b e n;have c:=jE (l:=l) (p:=λx=>x==n);refine z5 zJW ?_;simp only[f90,zA]
 repeat' first|simp only[go_sem, *]|apply bc<;>intro f|refine zB.use (a _) ?_
noncomputable def HO:Cfg:=⟨λt=>List.contains (α:=Nat) [] t,λi=>(V1 (α:=List (Nat×Fl)) [] i).getD []⟩
def zGc(t:Tmp):HO.mu t=false:=(rfl)
def zJd:JE prog HO f325=true:=kr
def Jv(l:List (List UInt8)):∀x∈uH l,x.length=1:=λx a=>by
 obtain⟨s,_,rfl⟩:=zT.1 a;rfl
def Iy{l:List (List UInt8)}(j:ye 1 (uH l) d)(k:l.length<=1048576)(g:Heap):
  zB prog 325 [d] g λr h'=>h'=g/\Fin 1 (uH l) r:=by
 refine xU kr λn=>xS ?_;have e:Ext g g:=Ext.refl g;rcases j with⟨rfl,i⟩ | ⟨tk,rfl⟩
 ·have h0:l= []:=qU.1 i;subst h0;refine xO mix func325 zJd rfl rfl ?_;simp only[f325,zA];have m:fV prog .eql 31 true .nilsl .nilsl=some (.bool true):=by rw[jV (sz:=1) ye.nil underlying31];rfl
  have b:below g.next (wD .nilsl)/\Fin 1 (uH []) (wD .nilsl):=⟨trivial,.inl ⟨rfl,rfl⟩⟩;clear k i;simp only[go_sem,zGc, *]
 ·refine xO mix func325 zJd rfl rfl ?_;simp only[f325,zA];have m:fV prog .eql 31 true (.sl 1 (uH l) tk) .nilsl=some (.bool false):=by rw[jV (ye.mk tk) underlying31];rfl
  have o:=λnid h=>nN (P:=prog) (nid:=nid) (h:=h) t5 Xx md rfl rfl (by omega:0<1);have c:qh prog false g.next 31 (.sl 1 [] .full) (.sl 1 (uH l) tk) g=if(uH l).length=0 then some (.sl 1 [] .full,g)else some (.sl 1 (uH l) (.own g.next),g.new g.next .tok):=lN t5 VN md ow (Jv l) (by rw[kw,wK];unfold lim;omega) (by rw[wK];unfold lim;omega)
  have f:=e.new (zD _) .tok;have a:=qg (sz:=1) (xs:=uH l) sw;by_cases h0:l= []
  ·subst h0;rw[ip (by rw[wK];rfl)]at c;have b:below g.next (wD (.sl 1 [] .full))/\Fin 1 (uH []) (wD (.sl 1 [] .full)):=by
    have:=a .full;exact⟨by rw[show([]:List (List D))=uH []from rfl,this.1];exact qw (yg _) _ this.2,.inr this.1⟩
   clear a f;simp only[go_sem,zGc, *]
  ·rw[iq (by rw[wK];exact λq=>h0 (yv.1 q))]at c;have b:below g.next (wD (.sl 1 (uH l) (.own g.next)))/\Fin 1 (uH l) (wD (.sl 1 (uH l) (.own g.next))):=by
    have:=a (.own g.next);exact⟨by rw[this.1];exact qw (yg _) _ this.2,.inr this.1⟩
   clear a h0;simp only[go_sem,zGc, *]
def Ty(c:Cat)(lic exc:List UInt8):Option (List Int):=
 if(sE c lic).isSome=false then none else if(exc== [])=true then some []else(kM c lic exc).map Exc.lifts
def Mq{b a:List UInt8}(h:Ty c b a=none):cy c b a=.tuple [.nilsl,.bool false]:=by
 unfold Ty at h;unfold cy;split at h
 ·rename_i q;rw[ip q]
 rename_i q;rw[iq q];split at h
 ·cases h
 ·rename_i e;rw[iq e];cases d:kM c b a with
  |none=>rfl
  |some x=>rw[d]at h;cases h
def Mr(g:c.Sm){b a:List UInt8}{L:List Int}(h:Ty c b a=some L):∃q,cy c b a=.tuple [q,.bool true]/\ye 1 (uq L) q/\L.length<=1048576:=by
 unfold Ty at h;unfold cy;split at h
 ·cases h
 rename_i q;rw[iq q];split at h
 ·rename_i e;rw[ip e];cases h;exact⟨_,rfl,ye.nil,by simp⟩
 ·rename_i e;rw[iq e];cases d:kM c b a with
  |none=>rw[d]at h;cases h
  |some x=>
   rw[d]at h;cases h;have f:=g.es.2 x (lQ d);exact⟨_,rfl,f.1,f.2.1⟩
def Cla.key(x:Cla):List UInt8×Int×Int×Int×List (List UInt8):=(x.lic,x.way,x.rel,x.duty,x.list)
def gF(L:List Int)(lic:List UInt8)(way rel:Int)(x:Cla):Bool:=x.lic==lic&&x.way==way&&x.rel==rel&& !(L.any λz=>z==x.duty)
def mN(c:Cat)(lic exc:List UInt8)(way rel:Int):List Cla:=match Ty c lic exc with
 |none=>[]
 |some L=>c.cs.filter (gF L lic way rel)
def Cla.Fine(x:Cla):Prop:=Fin 1 (uH x.list) x.d/\x.list.length<=1048576
def Cla.Fine.plain{x:Cla}(h:x.Fine):sH x.cells:=by
 rcases h.1 with⟨e,_⟩ |e
 ·unfold Cla.cells;rw[e];exact⟨rfl,by simp[qZ,below],by simp[wU,wD]⟩
 ·have:=qg (sz:=1) (xs:=uH x.list) sw .no;obtain⟨h1,a⟩:=this;simp only[wD,D.sl.injEq,zQ,zS]at h1;simp only[below]at a;unfold Cla.cells;rw[e];exact⟨rfl,by simp[qZ,below,a],by simp[wU,wD,h1]⟩
def Bi(S:List Cla)(r:D):Prop:=∃cs:List Cla,ye 5 (lC cs) r/\(∀y∈cs,y.Fine)/\cs.map Cla.key=S.map Cla.key
def Own.setRow(a:Own h0 h sz xs d){o:Obj}(c:h0.next<=id)(hr:h.at' id=some o)(b:o≠ .tok)(g:Obj):Own h0 (h.set id g) sz xs d:=
 ⟨a.1.set c _,a.2.1.loc (zD _) λi f=>zx λe=>by subst e;have:=(a.2.1.tok f).2;rw[hr]at this;exact b (rM this),a.2.2⟩
def JJ(x:Cla)(nid:Nat)(h:Heap):yB prog false nid 24 1 [(0,.agg x.cells)] h=some (.sl 5 [x.cells] .full,h):=wP cW Gb gk rfl rfl ow ow rfl rfl
theorem Lm(E:uM c d)(hs:c.Sm)(n v:List UInt8)(t rel:Int)(g:Heap):
  zB prog 281 [d,.agg [.str n,.str v],.int .i64 t,.int .i64 rel] g λr h'=>h'=g/\Bi (mN c n v t rel) r:=by
 refine xU kr λa7=>xS ?_;have F:=Lt E hs n v;obtain⟨a,b,e,p,rfl,ha,hb,he,hp⟩:=E;have s3:=hs.cs.1;have le:=nb he;have a8:∀a b c e f:D,yN true 5 [a,b,c,e,f] 0=some (.agg [a,b,c,e,f]):=λa b c e f=>zJ rfl ow;refine z5 zDm ?_;simp only[f281,zA];cases U:Ty c n v with
 |none=>
  rw[Mq U]at F;have hR:mN c n v t rel= []:=by unfold mN;rw[U]
  rw[hR]
  repeat' first|simp only[go_sem, *]|apply bc<;>intro E
  refine(F _).mono ?_;rintro r h ⟨hE,rfl⟩;have V:below g.next (wD .nilsl)/\Bi [] (wD .nilsl):=⟨trivial,[],.inl ⟨rfl,rfl⟩,λy N=>absurd N wr,rfl⟩
  repeat' first|simp only[go_sem, *]|apply bc<;>intro E
 |some L=>
  obtain⟨q,hq,a2,a3⟩:=Mr hs U;rw[hq]at F;have hR:mN c n v t rel=c.cs.filter (gF L n t rel):=by unfold mN;rw[U]
  rw[hR]
  repeat' first|simp only[go_sem, *]|apply bc<;>intro E
  refine(F _).mono ?_;rintro r h0 ⟨hE,rfl⟩
  repeat' first|simp only[go_sem, *]|apply bc<;>intro E
  obtain⟨m,J⟩:∃m,gF L n t rel=m:=⟨_,rfl⟩;rw[J];clear F U hq hR;refine zV (λk fr h=>fr 2=.int .i64 t/\fr 3=.int .i64 rel/\fr 5=.iptr [.str n,.str v] 0/\fr 9=q/\fr 23=e/\fr 24=.int .i64 (c.cs.length:Int)/\fr 25=.int .i64 (k:Int)/\∃u out,fr 11=u/\Own g h 5 (lC out) u/\out.length<=k/\(∀y∈out,y.Fine)/\out.map Cla.key=((c.cs.take k).filter m).map Cla.key) c.cs.length ow ?_ ?_ ?_
  ·simp only[go_sem,zQ,zS,zF];exact⟨_,[],rfl,Own.start hE 5,by simp,λy N=>absurd N wr,by simp⟩
  ·clear hE;rintro k fr h K ec ew ⟨f2,f3,f5,f9,ad,ag,ai,u,out,ab,P,G,i,j⟩;have a1:=lV he K;obtain⟨o1,o2⟩:=hs.cs.2 _ (zG K);have B:(c.cs.take (k+1)).filter m=(c.cs.take k).filter m++ [c.cs[k]].filter m:=by
    rw[zH K,rC]
   have s:m c.cs[k]=(c.cs[k].lic==n&&c.cs[k].way==t&&c.cs[k].rel==rel&& !(L.any λz=>z==c.cs[k].duty)):=by rw[<-J];rfl
   generalize c.cs[k]=y at *
   have S:=QM a2 a3 y.duty;have c2:=Iy o1 o2;simp only[Cla.cells]at a1;have M:qP prog 89 (.ptr h.next 0) (.agg [.str y.lic,.int .i64 y.way,.int .i64 y.rel,.int .i64 y.duty,y.d]) (h.new h.next (.row [.str [],.int .i64 0,.int .i64 0,.int .i64 0,.nilsl]))=some (h.new h.next (.row [.str y.lic,.int .i64 y.way,.int .i64 y.rel,.int .i64 y.duty,y.d])):=qk gk ow rfl rfl (by show(true&&(true&&(true&&(true&&(y.d.flat&&true)))))=true;rw[nH o1];rfl)
   obtain⟨H,hH,C,A,a0⟩:∃H,h.new h.next (.row [.str y.lic,.int .i64 y.way,.int .i64 y.rel,.int .i64 y.duty,y.d])=H/\H.at' h.next=some (.row [.str y.lic,.int .i64 y.way,.int .i64 y.rel,.int .i64 y.duty,y.d])/\Own g H 5 (lC out) u/\h.next<H.next:=⟨_,rfl,yQ _ _ _,P.ext ((Ext.refl h).new (zD _) _),by rw[yA];omega⟩;rw[hH]at M;have W:g.next<=h.next:=P.1.1;obtain⟨Q,ak⟩:∃Q,h.next=Q:=⟨_,rfl⟩;rw[ak]at M C a0 W;have no:m y=false->∃u' l,u=u'/\Own g H 5 (lC l) u'/\l.length<=k+1/\(∀z∈l,z.Fine)/\l.map Cla.key=((c.cs.take (k+1)).filter m).map Cla.key:=λq=>⟨u,out,rfl,A,by omega,i,by rw[B,j];simp[q]⟩
   clear hH P;cases R:(y.lic==n)with
   |false=>
    have hn:=no (by rw[s,R];rfl);clear no s j i B G A
    repeat' first|simp only[go_sem, *]|apply bc<;>intro E
   |true=>
   cases b2:(y.way==t)with
   |false=>
    have hn:=no (by rw[s,R,b2];rfl);clear no s j i B G A
    repeat' first|simp only[go_sem, *]|apply bc<;>intro E
   |true=>
   cases b3:(y.rel==rel)with
   |false=>
    have hn:=no (by rw[s,R,b2,b3];rfl);clear no s j i B G A
    repeat' first|simp only[go_sem, *]|apply bc<;>intro E
   |true=>
   cases O:(L.any λz=>z==y.duty)with
   |true=>
    have hn:=no (by rw[s,R,b2,b3,O];rfl);rw[O]at S;clear no s j i B G A O
    repeat' first|simp only[go_sem, *]|apply bc<;>intro E|refine zB.use (S _) ?_
   |false=>
    have N:m y=true:=by rw[s,R,b2,b3,O];rfl
    rw[O]at S;clear no s O
    repeat' first|simp only[go_sem, *]|apply bc<;>intro E|refine zB.use (S _) ?_
    rename Heap=>H
    refine(c2 _).mono ?_;rintro z H' ⟨rfl,hz⟩;have a5:=nH hz.isSl;have a4:z.cells= [z]:=by rcases hz with⟨rfl,_⟩ |rfl<;>rfl
    have Y:qP prog 31 (.ptr Q 4) z H'=some (H'.set Q (.row [.str y.lic,.int .i64 y.way,.int .i64 y.rel,.int .i64 y.duty,z])):=by
     rw[qO C zEP (by simp) a4 a5];rfl
    obtain⟨H2,T,r2,O2⟩:∃H2,H'.set Q (.row [.str y.lic,.int .i64 y.way,.int .i64 y.rel,.int .i64 y.duty,z])=H2/\H2.at' Q=some (.row [.str y.lic,.int .i64 y.way,.int .i64 y.rel,.int .i64 y.duty,z])/\Own g H2 5 (lC out) u:=⟨_,rfl,zi _ _ _,A.setRow W C (by simp) _⟩;rw[T]at Y;have I:=JJ ⟨y.lic,y.way,y.rel,y.duty,y.list,z⟩;simp only[Cla.cells]at I;clear T C M S c2 A a1
    repeat' first|simp only[go_sem, *]|apply bc<;>intro E
    refine O2.appH cW Pc gk ow (by simp) (by simp) (by simp only[sS,YH,zm,yw];unfold lim;omega) (by simp only[sS,zm,yw];unfold lim;omega) λd' h' o=> ?_;have a6:∃u' l,d'=u'/\Own g h' 5 (lC l) u'/\l.length<=k+1/\(∀z∈l,z.Fine)/\l.map Cla.key=((c.cs.take (k+1)).filter m).map Cla.key:=by
     refine⟨d',out++ [⟨y.lic,y.way,y.rel,y.duty,y.list,z⟩],rfl,?_,by simp;omega,λw Z=> ?_,?_⟩
     ·have:lC (out++ [⟨y.lic,y.way,y.rel,y.duty,y.list,z⟩])=lC out++ [[.str y.lic,.int .i64 y.way,.int .i64 y.rel,.int .i64 y.duty,z]]:=by simp[lC,Cla.cells]
      rw[this];exact o
     ·rcases yD.1 Z with Z|Z
      ·exact i w Z
      ·rw[zY.1 Z];exact⟨hz,o2⟩
     ·rw[B,yX,yX,j];simp[N,Cla.key]
    clear O2 o j i B hz Y r2 I;exact au
  ·clear hE;rintro fr h ec ⟨f2,f3,f5,f9,ad,ag,ai,u,out,ab,P,G,i,j⟩;rw[zb]at j;have X:∀x∈lC out,sH x:=λx hx=>by
    obtain⟨y,N,rfl⟩:=zT.1 hx;exact(i y N).plain
   have hf:=P.fin X;have V:Ext g h/\below g.next (wD u)/\Bi (c.cs.filter m) (wD u):=⟨hf.1,hf.2.1,out,hf.2.2.isSl,i,j⟩;clear hf P i j X;exact au
end Go.V
