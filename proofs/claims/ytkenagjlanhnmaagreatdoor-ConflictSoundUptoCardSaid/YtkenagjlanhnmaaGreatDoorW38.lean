/- None, part 1. No condition. -/
import Derived.Test.YtkenagjlanhnmaaGreatDoorW37
set_option linter.all false
set_option maxHeartbeats 8000000
namespace Go.V
set_option maxRecDepth 100000
def lJ(fs:List Fac)(i:Nat):Int:=match fs[i]? with
 |some f=>f.kind
 |none=> -1
theorem Xi{p:Fac->Bool} :∀{l:List Fac}{k i:Nat},i∈wP p l k↔k<=i/\∃h:i-k<l.length,p l[i-k]=true
 | [],k,i=>by simp[wP]
 |f::l,k,i=>by
  have b:=Xi (p:=p) (l:=l) (k:=k+1) (i:=i);have key:(i∈wP p (f::l) k)↔(p f=true/\i=k)\/i∈wP p l (k+1):=by
   rw[wP];split
   .rename_i h;simp[h]
   .rename_i h;simp[h]
  rw[key,b];constructor
  .rintro(⟨h1,rfl⟩ | ⟨h1,a,h3⟩)
   .exact⟨zC _,jS,by simpa using h1⟩
   .refine⟨ow,by simp only[zx];omega,?_⟩
    have:i-k=(i- (k+1))+1:=ow;simp only[this,oF];exact h3
  .rintro⟨h1,a,h3⟩
   by_cases e:i=k
   .subst e
    left;exact⟨by simpa using h3,rfl⟩
   .right
    have:i-k=(i- (k+1))+1:=ow;simp only[this,oF]at h3;exact⟨ow,by simp only[zx]at a;omega,h3⟩
variable{N:Int}{fs:List Fac}{i j n:Nat}{al:Nat->Option Alt}{α:Type}{b:Bool}{c:Cat}
def PY{q:Fac->Bool} :i∈fIx N q fs↔∃h:i<fs.length,fs[i].kind=N/\q fs[i]=true:=by
 unfold fIx;rw[Xi];simp only[yM,tD,zM,isF,zF,qz]
def mW(h:i<fs.length):lJ fs i=fs[i].kind:=by
 unfold lJ;rw[zB h]
def XX{k:Int}(h:lJ fs i=k)(a:0<=k):i<fs.length:=by
 unfold lJ at h;split at h
 .rename_i q;exact(zK.1 q).1
 .omega
def RS(h:i<fs.length):rD fs i=fs[i].comp:=by
 unfold rD;rw[zB h]
def MM(h:i<fs.length):rn fs i=fs[i].out:=by
 unfold rn;rw[zB h]
def YR{k:Int}(b:0<=k) :j∈fIx k (λg=>g.comp==rD fs i) fs↔lJ fs j=k/\rD fs j=rD fs i:=by
 rw[PY];constructor
 .rintro⟨h,h1,a⟩
  exact⟨by rw[mW h,h1],by rw[RS h];simpa using a⟩
 .rintro⟨h1,a⟩
  have h:=XX h1 b;exact⟨h,by rw[<-mW h,h1],by rw[RS h]at a;simpa using a⟩
def Um{k:Int}(b:0<=k) :j∈fIx k (λg=>g.out==rn fs i) fs↔lJ fs j=k/\rn fs j=rn fs i:=by
 rw[PY];constructor
 .rintro⟨h,h1,a⟩
  exact⟨by rw[mW h,h1],by rw[MM h];simpa using a⟩
 .rintro⟨h1,a⟩
  have h:=XX h1 b;exact⟨h,by rw[<-mW h,h1],by rw[MM h]at a;simpa using a⟩
def YS{k:Int}(a:0<=k) :j∈fIx k (λ_=>true) fs↔lJ fs j=k:=by
 rw[PY];constructor
 .rintro⟨h,h1,_⟩;rw[mW h,h1]
 .intro h1
  have h:=XX h1 a;exact⟨h,by rw[<-mW h,h1],rfl⟩
structure TriP(fs:List Fac)(al:Nat->Option Alt)(i u h:Nat):Prop where
 lt:i<fs.length
 al:(al i).isSome=true
 ku:lJ fs u=0
 cu:rD fs u=rD fs i
 kh:lJ fs h=2
 oh:rn fs h=rn fs u
def pH{t:Tri} :t∈qv fs al↔TriP fs al t.1 t.2.1 t.2.2:=by
 unfold qv;rw[zt];constructor
 .rintro⟨i,e,a⟩
  unfold Mf at a;split at a
  .rename_i d
   rw[zt]at a;obtain⟨u,c,a⟩:=a;unfold Mg at a;rw[zS]at a;obtain⟨h,b,rfl⟩:=a;rw[YR jD]at c;rw[Um jD]at b;exact⟨yz.1 e,d,c.1,c.2,b.1,b.2⟩
  .cases a
 .intro h
  obtain⟨i,u,k⟩:=t;refine⟨i,yz.2 h.lt,?_⟩;unfold Mf;rw[ip h.al,zt];refine⟨u,(YR jD).2 ⟨h.ku,h.cu⟩,?_⟩;unfold Mg;exact zS.2 ⟨k,(Um jD).2 ⟨h.kh,h.oh⟩,rfl⟩
def dR(c:Cat)(fs:List Fac)(al:Nat->Option Alt)(O:KV):Nat->List Nat->Prop
 |0,l=>∃i u h,TriP fs al i u h/\PS c (Zx al i) (cn fs h) (mc fs u) 5 (λ_=>true)=true/\l= [i,u,h]
 |1,l=>∃i u h own,TriP fs al i u h/\p8 (rn fs u) O=some own/\PS c (Zx al i) (cn fs h) (mc fs u) 4 (X8 own)=true/\l= [i,u,h]
 |2,l=>∃i u h k,TriP fs al i u h/\lJ fs k=4/\rD fs k=rD fs i/\((!(W6 fs k==2)||Gk fs u)&&PS c (Zx al i) (cn fs h) (mc fs u) (W6 fs k) (λ_=>true))=true/\l= [i,u,h,k]
 |3,l=>∃i u h i' u' h',TriP fs al i u h/\TriP fs al i' u' h'/\(mc fs u==0)=true/\(!(Lu fs (i,u,h) (i',u',h'))&&zAW c (Zx al i) (Zx al i'))=true/\l= [i,i',u,u',h]
 |4,l=>∃i h own,lJ fs i=3/\p8 (rn fs i) O=some own/\((N7 fs i).any λs=>s==own)=false/\lJ fs h=2/\rn fs h=rn fs i/\l= [i,h]
 |_,l=>c.ls.length=0/\∃h,lJ fs h=2/\l= [h]
def gW{x y:α} :(y∈if b=true then [x]else [])↔b=true/\y=x:=by
 cases b<;>simp
def MD{O:KV}{r:Nat}{z:List Int} :z∈cS c fs al O r↔∃l,dR c fs al O r l/\z=l.map λn:Nat=>(n:Int):=by
 rcases r with _|_|_|_|_|r
 .show z∈cS c fs al O 0↔∃l,dR c fs al O 0 l/\z=l.map λn:Nat=>(n:Int)
  simp only[cS,dR];rw[zt];constructor
  .rintro⟨t,d,a⟩
   rw[pH]at d;unfold sS at a;rw[gW]at a;exact⟨_,⟨t.1,t.2.1,t.2.2,d,a.1,rfl⟩,a.2⟩
  .rintro⟨l,⟨i,u,h,d,b,rfl⟩,rfl⟩
   refine⟨(i,u,h),pH.2 d,?_⟩;unfold sS;rw[gW];exact⟨b,rfl⟩
 .show z∈cS c fs al O 1↔∃l,dR c fs al O 1 l/\z=l.map λn:Nat=>(n:Int)
  simp only[cS,dR];rw[zt];constructor
  .rintro⟨t,d,a⟩
   rw[pH]at d;unfold ph at a;split at a
   .cases a
   .rename_i own f
    rw[gW]at a;exact⟨_,⟨t.1,t.2.1,t.2.2,own,d,f,a.1,rfl⟩,a.2⟩
  .rintro⟨l,⟨i,u,h,own,d,f,b,rfl⟩,rfl⟩
   refine⟨(i,u,h),pH.2 d,?_⟩;unfold ph;simp only[f];rw[gW];exact⟨b,rfl⟩
 .show z∈cS c fs al O 2↔∃l,dR c fs al O 2 l/\z=l.map λn:Nat=>(n:Int)
  simp only[cS,dR];rw[zt];constructor
  .rintro⟨t,d,a⟩
   rw[pH]at d;unfold gU at a;rw[zt]at a;obtain⟨k,j,a⟩:=a;rw[YR jD]at j;unfold cL at a;rw[gW]at a;exact⟨_,⟨t.1,t.2.1,t.2.2,k,d,j.1,j.2,a.1,rfl⟩,a.2⟩
  .rintro⟨l,⟨i,u,h,k,d,j,s,b,rfl⟩,rfl⟩
   refine⟨(i,u,h),pH.2 d,?_⟩;unfold gU;rw[zt];refine⟨k,(YR jD).2 ⟨j,s⟩,?_⟩;unfold cL;rw[gW];exact⟨b,rfl⟩
 .show z∈cS c fs al O 3↔∃l,dR c fs al O 3 l/\z=l.map λn:Nat=>(n:Int)
  simp only[cS,dR];rw[zt];constructor
  .rintro⟨t,d,a⟩
   rw[pH]at d;unfold rq at a;split at a
   .rename_i hr
    rw[zt]at a;obtain⟨p,e,a⟩:=a;rw[pH]at e;unfold nc at a;rw[gW]at a;exact⟨_,⟨t.1,t.2.1,t.2.2,p.1,p.2.1,p.2.2,d,e,hr,a.1,rfl⟩,a.2⟩
   .cases a
  .rintro⟨l,⟨i,u,h,v,w,h',d,e,hr,b,rfl⟩,rfl⟩
   refine⟨(i,u,h),pH.2 d,?_⟩;unfold rq;rw[ip hr,zt];refine⟨(v,w,h'),pH.2 e,?_⟩;unfold nc;rw[gW];exact⟨b,rfl⟩
 .show z∈cS c fs al O 4↔∃l,dR c fs al O 4 l/\z=l.map λn:Nat=>(n:Int)
  simp only[cS,dR];rw[zt];constructor
  .rintro⟨i,m,a⟩
   rw[YS jD]at m;unfold lh at a;split at a
   .cases a
   .rename_i own f
    split at a
    .cases a
    .rename_i g
     rw[zt]at a;obtain⟨h,b,a⟩:=a;unfold Xl at a;rw[zo]at a;have b:=(Um jD).1 b;exact⟨_,⟨i,h,own,m,f,oK.2 g,b.1,b.2,rfl⟩,a⟩
  .rintro⟨l,⟨i,h,own,m,f,g,b,o,rfl⟩,rfl⟩
   refine⟨i,(YS jD).2 m,?_⟩;unfold lh;simp only[f];rw[iq (by rw[g];decide),zt];refine⟨h,(Um jD).2 ⟨b,o⟩,?_⟩;unfold Xl;exact zo.2 rfl
 .show z∈ZA c fs↔∃l,(c.ls.length=0/\∃h,lJ fs h=2/\l= [h])/\z=l.map λn:Nat=>(n:Int)
  unfold ZA;constructor
  .intro a
   split at a
   .cases a
   .rename_i g
    rw[zt]at a;obtain⟨h,b,a⟩:=a;rw[YS jD]at b;unfold R6 at a;rw[zo]at a;exact⟨_,⟨by have:¬(c.ls.length:Int)>0:=λq=>g (zR q);omega,h,b,rfl⟩,a⟩
  .rintro⟨l,⟨g,h,b,rfl⟩,rfl⟩
   rw[iq (λq=>by have:=yE q;omega),zt];refine⟨h,(YS jD).2 b,?_⟩;unfold R6;exact zo.2 rfl
structure Emb(fs gs:List Fac)(f:Nat->Nat):Prop where
 get:∀j,j<gs.length->gs[j]? =fs[f j]?
 mono:∀i j,i<j->j<gs.length->f i<f j
section
variable{c:Cat}{fs gs:List Fac}{f:Nat->Nat}{al al':Nat->Option Alt}{O O':KV}(E:Emb fs gs f)
include E
end
def Z8(fs:List Fac):List Fac:=fs.filter λf=>f.kind==1
variable{c:Cat}{fs:List Fac}{al:Nat->Option Alt}
theorem aF:∀{l:List Fac}{t:List (List (List Trm))}{o:List (List UInt8)},(dp c l t o).2.2=0↔∀f∈l,f.kind=1->mZ c f.e=0
 | [],t,o=>by simp[dp]
 |f::fs,t,o=>by
  rw[dp];by_cases h1:(f.kind==1)=true
  .rw[ip h1]
   have j:f.kind=1:=by simpa using h1
   by_cases i:(mZ c f.e==0)=true
   .rw[ip i,aF]
    have d:mZ c f.e=0:=by simpa using i
    constructor
    .intro h g a b
     rcases z7.1 a with rfl|a
     .exact d
     .exact h g a b
    .exact λh g a b=>h g (z8 _ a) b
   .rw[iq i]
    have d:mZ c f.e≠0:=by simpa using i
    constructor
    .exact λh=>absurd h d
    .exact λh=>h f jS j
  .have key:∀k,(dp c fs t k).2.2=0↔∀g∈f::fs,g.kind=1->mZ c g.e=0:=λk=>by
    rw[aF];constructor
    .intro h g a b
     rcases z7.1 a with rfl|a
     .exact absurd (by simpa using b) h1
     .exact h g a b
    .exact λh g a b=>h g (z8 _ a) b
   rw[iq h1];split<;>exact key _
theorem gx:∀{l:List Fac}{t:List (List (List Trm))}{o:List (List UInt8)},(dp c l t o).2.2=0->(dp c l t o).1=t++(Z8 l).map λf=>ofL c f.e
 | [],t,o,_=>by simp[dp,Z8]
 |f::fs,t,o,h=>by
  rw[dp]at h⊢;by_cases h1:(f.kind==1)=true
  .rw[ip h1]at h⊢
   by_cases a:(mZ c f.e==0)=true
   .rw[ip a]at h⊢
    have e:Z8 (f::fs)=f::Z8 fs:=kZ (by exact h1);rw[gx h,e,qe,qV];rfl
   .rw[iq a]at h
    exact absurd h (by simpa using a)
  .have e:Z8 (f::fs)=Z8 fs:=pw (by exact h1)
   rw[iq h1]at h⊢;rw[e];split at h
   .rename_i q;rw[ip q];exact gx h
   .rename_i q;rw[iq q];exact gx h
theorem Ny{f:Nat->Int} :∀{n:Nat},LX f n=none->∀j,j<n->f j=0
 |0,_,j,a=>by omega
 |n+1,h,j,a=>by
  rw[LX]at h;split at h
  .cases h
  .rename_i q
   split at h
   .rename_i b
    rcases zp.1 a with p|rfl
    .exact Ny q j p
    .simpa using b
   .cases h
def kq{l:List Fac} :(wb c l).2=0↔rt c=0/\l.length<=256/\∀f∈l,mS c f=0:=by
 have g:(∀j,j<l.length->rQ c l j=0)↔∀f∈l,mS c f=0:=by
  constructor
  .intro h f hf
   obtain⟨j,a,rfl⟩:=zz.1 hf;have:=h j a;unfold rQ at this;rw[zB a]at this;exact this
  .intro h j a
   unfold rQ;rw[zB a];exact h _ (zH a)
 unfold wb;by_cases h1:(!(rt c==0))=true
 .rw[ip h1]
  have:rt c≠0:=by simpa using h1
  constructor
  .intro h;exact absurd h jD
  .exact λh=>absurd h.1 this
 .rw[iq h1]
  have d:rt c=0:=by simpa using h1
  by_cases b:decide ((l.length:Int)>256)=true
  .rw[ip b]
   have:=yE b;constructor
   .intro h;exact absurd h jD
   .intro h;omega
  .rw[iq b]
   have e:l.length<=256:=by
    have:¬(l.length:Int)>256:=λq=>b (zR q);omega
   rw[<-g];cases hf:LX (rQ c l) l.length with
   |none=>exact⟨λ_=>⟨d,e,Ny hf⟩,λ_=>rfl⟩
   |some p=>
    constructor
    .intro h
     have i:p.2≠0/\p.1<l.length/\rQ c l p.1=p.2:=by
      generalize l.length=n at hf
      induction n with
      |zero=>cases hf
      |succ n k=>
       rw[LX]at hf;split at hf
       .rename_i q
        cases hf;have:=k q;exact⟨this.1,ow,this.2.2⟩
       .split at hf
        .cases hf
        .rename_i q
         cases hf;exact⟨by simpa using q,ow,rfl⟩
     exact absurd h i.1
    .rintro⟨_,_,h⟩
     rw[bR h]at hf;cases hf
structure Whole(c:Cat)(fs:List Fac)(y:Cho):Prop where
 cat:rt c=0
 len:fs.length<=256
 fact:∀f∈fs,mS c f=0
 of:∀f∈fs,f.kind=1->mZ c f.e=0
 tl:y.ts.length=(Z8 fs).length
 ts:∀i (h:i<y.ts.length)(f:Fac),(Z8 fs)[i]? =some f->(y.ts[i]).ts∈ofL c f.e
 ol:y.own.length=(rV fs []).length
 own:∀s∈y.own,(c.ls.any λx=>x.name==s)=true
def UZ{f:Nat->Int} :gT f n=0↔∀i,i<n->f i=0:=⟨λh i a=>bQ h i a,λh=>sE h⟩
def Qi{y:Cho} :qN c fs y false=0↔Whole c fs y:=by
 have p:(yV c fs).2.2=0↔(wb c fs).2=0/\∀f∈fs,f.kind=1->mZ c f.e=0:=by
  unfold yV;by_cases h:(!((wb c fs).2==0))=true
  .rw[ip h]
   have:(wb c fs).2≠0:=by simpa using h
   exact⟨λq=>absurd q this,λq=>absurd q.1 this⟩
  .rw[iq h,aF]
   have:(wb c fs).2=0:=by simpa using h
   exact⟨λq=>⟨this,q⟩,λq=>q.2⟩
 have A:(yV c fs).2.2=0->(yV c fs).1=(Z8 fs).map (λf=>ofL c f.e)/\(yV c fs).2.1=rV fs []:=by
  intro h0;have w:=(p.1 h0).1;unfold yV at h0⊢;rw[iq (by rw[w];decide)]at h0⊢;exact⟨by rw[gx h0,yU],(kS h0).2⟩
 unfold qN;by_cases h0:(!((yV c fs).2.2==0))=true
 .rw[ip h0]
  have a:(yV c fs).2.2≠0:=by simpa using h0
  constructor
  .intro h;exact absurd h a
  .intro W
   exact absurd (p.2 ⟨kq.2 ⟨W.cat,W.len,W.fact⟩,W.of⟩) a
 rw[iq h0];have a:(yV c fs).2.2=0:=by simpa using h0
 obtain⟨k,o⟩:=p.1 a;obtain⟨r,t,u⟩:=kq.1 k;obtain⟨E,F⟩:=A a;rw[E,F];by_cases h1:(!((y.ts.length:Int)==(((Z8 fs).map λf=>ofL c f.e).length:Int))|| !((y.own.length:Int)==((rV fs []).length:Int)))=true
 .rw[ip h1]
  constructor
  .intro h;exact absurd h jD
  .intro W
   rw[zI,W.tl,W.ol]at h1;simp at h1
 rw[iq h1];have m:y.ts.length=(Z8 fs).length/\y.own.length=(rV fs []).length:=by
  rw[zI]at h1;simp only[yn,qI,yv,ne_eq,bg,Decidable.not_not]at h1;omega
 have g:(∀i,i<y.ts.length->my ((Z8 fs).map λf=>ofL c f.e) y.ts false i=0)↔∀i (h:i<y.ts.length)(f:Fac),(Z8 fs)[i]? =some f->(y.ts[i]).ts∈ofL c f.e:=by
  have key:∀i (h:i<y.ts.length),my ((Z8 fs).map λf=>ofL c f.e) y.ts false i=0↔(y.ts[i]).ts∈ofL c ((Z8 fs)[i]'ow).e:=by
   intro i h;unfold my;rw[zB h];simp only[wi,zg,yp];have z:((Z8 fs).map λf=>ofL c f.e).getD i []=ofL c ((Z8 fs)[i]'ow).e:=by
    rw[zE,zm,zB ow];rfl
   rw[z];by_cases q:(ofL c ((Z8 fs)[i]'ow).e).any (λb=>RX (y.ts[i]).ts b)=true
   .rw[iq (by rw[q];decide)]
    obtain⟨b,v,e⟩:=yu.1 q;rw[(jC _ _).1 e];exact⟨λ_=>v,λ_=>rfl⟩
   .rw[ip (by simpa using q)]
    constructor
    .intro h;exact absurd h jD
    .intro B
     exact absurd (yu.2 ⟨_,B,(jC _ _).2 rfl⟩) q
  constructor
  .intro h i d f hf
   have l:=(key i d).1 (h i d);rw[zB ow]at hf;cases hf;exact l
  .intro h i d
   exact(key i d).2 (h i d _ (zB ow))
 have n:(∀i,i<y.own.length->MN c y.own false i=0)↔∀s∈y.own,(c.ls.any λx=>x.name==s)=true:=by
  have key:∀i (h:i<y.own.length),MN c y.own false i=0↔(c.ls.any λx=>x.name==y.own[i])=true:=by
   intro i h;unfold MN;rw[zB h];simp only[wi,zg,yp];cases(c.ls.any λx=>x.name==y.own[i])<;>simp
  constructor
  .intro h s C
   obtain⟨i,d,rfl⟩:=zz.1 C;exact(key i d).1 (h i d)
  .exact λh i d=>(key i d).2 (h _ (zH d))
 by_cases l:(!(gT (my ((Z8 fs).map λf=>ofL c f.e) y.ts false) y.ts.length==0))=true
 .rw[ip l]
  have j:gT (my ((Z8 fs).map λf=>ofL c f.e) y.ts false) y.ts.length≠0:=by simpa using l
  constructor
  .intro h;exact absurd h j
  .intro W
   exact absurd (UZ.2 (g.2 W.ts)) j
 rw[iq l];have j:gT (my ((Z8 fs).map λf=>ofL c f.e) y.ts false) y.ts.length=0:=by simpa using l
 have D:=g.1 (UZ.1 j);rw[UZ,n];exact⟨λh=>⟨r,t,u,o,m.1,D,m.2,h⟩,λW=>W.own⟩
def uH(fs:List Fac)(I:List Nat):List Fac:=I.filterMap λi=>fs[i]?
structure InI(fs:List Fac)(I:List Nat):Prop where
 lt:∀i∈I,i<fs.length
 inc:I.Pairwise (· < ·)
section
variable{fs:List Fac}{I:List Nat}
theorem kG:∀{I:List Nat},(∀i∈I,i<fs.length)->(uH fs I).length=I.length
 | [],_=>rfl
 |i::I,h=>by
  have a:=h i jS;have e:uH fs (i::I)=fs[i]::uH fs I:=by
   unfold uH;rw[List.filterMap_cons_some (zB a)]
  rw[e,zx,zx,kG λx b=>h x (z8 _ b)]
def kH{f:Fac}(h:f∈uH fs I):f∈fs:=by
 obtain⟨i,_,e⟩:=List.mem_filterMap.1 h;exact zh e
theorem kN:∀{l:List Fac}{o:List (List UInt8)}{s:List UInt8},s∈rV l o↔s∈o\/∃f∈l,f.kind=2/\f.out=s
 | [],o,s=>by simp[rV]
 |f::fs,o,s=>by
  rw[rV];by_cases h1:(f.kind==1)=true
  .rw[ip h1,kN]
   have d:f.kind=1:=by simpa using h1
   constructor
   .rintro(h| ⟨g,a,h⟩)
    .exact .inl h
    .exact .inr ⟨g,z8 _ a,h⟩
   .rintro(h| ⟨g,a,h,e⟩)
    .exact .inl h
    .rcases z7.1 a with rfl|a
     .omega
     .exact .inr ⟨g,a,h,e⟩
  rw[iq h1];by_cases c:(f.kind==2)=true
  .rw[ip c,kN]
   have b:f.kind=2:=by simpa using c
   have key:(s∈if(o.any λz=>z==f.out)=true then o else o++ [f.out])↔s∈o\/f.out=s:=by
    by_cases q:(o.any λz=>z==f.out)=true
    .rw[ip q]
     constructor
     .exact .inl
     .rintro(h|rfl)
      .exact h
      .obtain⟨z,i,e⟩:=yu.1 q
       have:z=f.out:=by simpa using e
       rw[<-this];exact i
    .rw[iq q]
     simp only[qB,zo];constructor
     .rintro(h|rfl)
      .exact .inl h
      .exact .inr rfl
     .rintro(h|rfl)
      .exact .inl h
      .exact .inr rfl
   rw[key];constructor
   .rintro((h|h)| ⟨g,a,h⟩)
    .exact .inl h
    .exact .inr ⟨f,jS,b,h⟩
    .exact .inr ⟨g,z8 _ a,h⟩
   .rintro(h| ⟨g,a,h,e⟩)
    .exact .inl (.inl h)
    .rcases z7.1 a with rfl|a
     .exact .inl (.inr e)
     .exact .inr ⟨g,a,h,e⟩
  .rw[iq c,kN]
   have b:f.kind≠2:=by simpa using c
   constructor
   .rintro(h| ⟨g,a,h⟩)
    .exact .inl h
    .exact .inr ⟨g,z8 _ a,h⟩
   .rintro(h| ⟨g,a,h,e⟩)
    .exact .inl h
    .rcases z7.1 a with rfl|a
     .exact absurd h b
     .exact .inr ⟨g,a,h,e⟩
def A4(y:Cho)(outs:List (List UInt8))(o:List UInt8):Option (List UInt8):=
 if o∈outs/\jR y (outs.findIdx λz=>z==o)≠[]then some (jR y (outs.findIdx λz=>z==o))else none
theorem Mc{y:Cho} :∀k,k<=fs.length->∀o,p8 o (yt y fs k).O=A4 y (yt y fs k).outs o
 |0,_,o=>by simp[yt,A4,p8]
 |k+1,l,o=>by
  have d:=Mc (y:=y) k ow;have g:k<fs.length:=ow;rw[ml g];split
  .split<;>exact d o
  split
  .split
   .exact d o
   .rename_i f
    have f:fs[k].out∉(yt y fs k).outs:=λc=>f (yu.2 ⟨_,c,jS⟩);generalize(yt y fs k).outs=a at *
    generalize(yt y fs k).O=O at *
    generalize fs[k].out=s at *
    show p8 o (if(!(jR y a.length== []))=true then cJ s (jR y a.length) O else O)=A4 y (a++ [s]) o
    have i:(a++ [s]).findIdx (λz=>z==s)=a.length:=by
     rw[d9]
     have:a.findIdx (λz=>z==s)=a.length:=List.findIdx_eq_length.2 λz j=>by
      have:z≠s:=λe=>f (e▸j);simpa using this
     rw[iq ow];simp[List.findIdx_cons]
    have h:o∈a->(a++ [s]).findIdx (λz=>z==o)=a.findIdx (λz=>z==o):=λc=>by
     rw[d9];rw[ip (List.findIdx_lt_length.2 ⟨o,c,jS⟩)]
    have b:∀v,p8 o (cJ s v O)=if o=s then some v else p8 o O:=λv=>by
     rw[Rr];by_cases e:o=s
     .rw[ip e,ip (by simpa using e)]
     .rw[iq e,iq (by simpa using e)]
    by_cases e:o=s
    .subst e
     unfold A4;rw[i];by_cases q:jR y a.length= []
     .rw[iq (by simp[q]),iq (by simp[q]),d o,A4,iq (by simp[f])]
     .rw[ip (by simpa using q),b,ip rfl,ip ⟨jS,q⟩]
    .have h1:p8 o (if(!(jR y a.length== []))=true then cJ s (jR y a.length) O else O)=p8 o O:=by
      split
      .rw[b,iq e]
      .rfl
     rw[h1,d o];unfold A4;by_cases c:o∈a
     .rw[h c]
      simp[c]
     .rw[iq (by simp[c]),iq (by simp[c,e])]
  .exact d o
end
section
variable{c:Cat}{fs:List Fac}{y:Cho}{I:List Nat}
def TT{v:Vio} :v∈pq c fs y↔∃i:Nat,i<6/\v.row=(i:Int)/\∃l,dR c fs (alS fs y) (yt y fs fs.length).O i l/\dM (l.map λn:Nat=>(n:Int))=v.facts:=by
 rw[HG];constructor
 .rintro⟨i,h1,a,z,d,e⟩
  obtain⟨l,b,rfl⟩:=MD.1 d;exact⟨i,h1,a,l,b,e⟩
 .rintro⟨i,h1,a,l,b,e⟩
  exact⟨i,h1,a,_,MD.2 ⟨l,b,rfl⟩,e⟩
end
open Go.Proofs
end Go.V
