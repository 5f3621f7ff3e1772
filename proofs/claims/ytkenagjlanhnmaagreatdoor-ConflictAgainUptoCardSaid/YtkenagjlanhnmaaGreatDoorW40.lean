/- None, part 1. No condition. -/
import Derived.Test.YtkenagjlanhnmaaGreatDoorW39
set_option linter.all false
set_option maxHeartbeats 8000000
namespace Go.V
set_option maxRecDepth 100000
def wC(fs:List Fac)(i:Nat):Int:=match fs[i]? with
 |some f=>f.kind
 |none=> -1
theorem Xf{p:Fac->Bool} :∀{l:List Fac}{k i:Nat},i∈wX p l k↔k<=i/\∃h:i-k<l.length,p l[i-k]=true
 | [],k,i=>by simp[wX]
 |f::l,k,i=>by
  have b:=Xf (p:=p) (l:=l) (k:=k+1) (i:=i);have key:(i∈wX p (f::l) k)↔(p f=true/\i=k)\/i∈wX p l (k+1):=by
   rw[wX];split
   ·rename_i h;simp[h]
   ·rename_i h;simp[h]
  rw[key,b];constructor
  ·rintro(⟨h1,rfl⟩ | ⟨h1,a,h3⟩)
   ·exact⟨zD _,by simp,by simpa using h1⟩
   ·refine⟨by omega,by simp only[zm];omega,?_⟩
    have:i-k=(i- (k+1))+1:=ow;simp only[this,oZ];exact h3
  ·rintro⟨h1,a,h3⟩;by_cases e:i=k
   ·subst e;left;exact⟨by simpa using h3,rfl⟩
   ·right
    have:i-k=(i- (k+1))+1:=ow;simp only[this,oZ]at h3;exact⟨by omega,by simp only[zm]at a;omega,h3⟩
variable{N:Int}{fs:List Fac}{i j n:Nat}{al:Nat->Option Alt}{α:Type}{b:Bool}{c:Cat}{la:List Alt}
def PV{q:Fac->Bool} :i∈fIx N q fs↔∃h:i<fs.length,fs[i].kind=N/\q fs[i]=true:=by
 unfold fIx;rw[Xf];simp only[yC,sY,zT,isF,zF,qN]
def sy(h:i<fs.length):wC fs i=fs[i].kind:=by
 unfold wC;rw[zB h]
def pY{k:Int}(h:wC fs i=k)(a:0<=k):i<fs.length:=by
 unfold wC at h;split at h
 ·rename_i q;exact(zK.1 q).1
 ·omega
def RP(h:i<fs.length):uU fs i=fs[i].comp:=by
 unfold uU;rw[zB h]
def Uq(h:i<fs.length):uh fs i=fs[i].out:=by
 unfold uh;rw[zB h]
def YU{k:Int}(b:0<=k) :j∈fIx k (λg=>g.comp==uU fs i) fs↔wC fs j=k/\uU fs j=uU fs i:=by
 rw[PV];constructor
 ·rintro⟨h,h1,a⟩;exact⟨by rw[sy h,h1],by rw[RP h];simpa using a⟩
 ·rintro⟨h1,a⟩;have h:=pY h1 b;exact⟨h,by rw[<-sy h,h1],by rw[RP h]at a;simpa using a⟩
def Ug{k:Int}(b:0<=k) :j∈fIx k (λg=>g.out==uh fs i) fs↔wC fs j=k/\uh fs j=uh fs i:=by
 rw[PV];constructor
 ·rintro⟨h,h1,a⟩;exact⟨by rw[sy h,h1],by rw[Uq h];simpa using a⟩
 ·rintro⟨h1,a⟩;have h:=pY h1 b;exact⟨h,by rw[<-sy h,h1],by rw[Uq h]at a;simpa using a⟩
def YW{k:Int}(a:0<=k) :j∈fIx k (λ_=>true) fs↔wC fs j=k:=by
 rw[PV];constructor
 ·rintro⟨h,h1,_⟩;rw[sy h,h1]
 ·intro h1;have h:=pY h1 a;exact⟨h,by rw[<-sy h,h1],rfl⟩
structure TriP(fs:List Fac)(al:Nat->Option Alt)(i u h:Nat):Prop where
 lt:i<fs.length
 al:(al i).isSome=true
 ku:wC fs u=0
 cu:uU fs u=uU fs i
 kh:wC fs h=2
 oh:uh fs h=uh fs u
def pZ{t:Tri} :t∈qz fs al↔TriP fs al t.1 t.2.1 t.2.2:=by
 unfold qz;rw[z5];constructor
 ·rintro⟨i,e,a⟩;unfold Mh at a;split at a
  ·rename_i d;rw[z5]at a;obtain⟨u,c,a⟩:=a;unfold Mi at a;rw[zM]at a;obtain⟨h,b,rfl⟩:=a;rw[YU (by decide)]at c;rw[Ug (by decide)]at b;exact⟨qT.1 e,d,c.1,c.2,b.1,b.2⟩
  ·cases a
 ·intro h;obtain⟨i,u,k⟩:=t;refine⟨i,qT.2 h.lt,?_⟩;unfold Mh;rw[ip h.al,z5];refine⟨u,(YU (by decide)).2 ⟨h.ku,h.cu⟩,?_⟩;unfold Mi;exact zM.2 ⟨k,(Ug (by decide)).2 ⟨h.kh,h.oh⟩,rfl⟩
def oF(c:Cat)(fs:List Fac)(al:Nat->Option Alt)(O:KV):Nat->List Nat->Prop
 |0,l=>∃i u h,TriP fs al i u h/\PO c (Zx al i) (gH fs h) (ng fs u) 5 (λ_=>true)=true/\l= [i,u,h]
 |1,l=>∃i u h own,TriP fs al i u h/\pR (uh fs u) O=some own/\PO c (Zx al i) (gH fs h) (ng fs u) 4 (X7 own)=true/\l= [i,u,h]
 |2,l=>∃i u h k,TriP fs al i u h/\wC fs k=4/\uU fs k=uU fs i/\((!(bI fs k==2)||PB fs u)&&PO c (Zx al i) (gH fs h) (ng fs u) (bI fs k) (λ_=>true))=true/\l= [i,u,h,k]
 |3,l=>∃i u h i' u' h',TriP fs al i u h/\TriP fs al i' u' h'/\(ng fs u==0)=true/\(!(Wg fs (i,u,h) (i',u',h'))&&zAT c (Zx al i) (Zx al i'))=true/\l= [i,i',u,u',h]
 |4,l=>∃i h own,wC fs i=3/\pR (uh fs i) O=some own/\((Xa fs i).any λs=>s==own)=false/\wC fs h=2/\uh fs h=uh fs i/\l= [i,h]
 |_,l=>c.ls.length=0/\∃h,wC fs h=2/\l= [h]
def gj{x y:α} :(y∈if b=true then [x]else [])↔b=true/\y=x:=by
 cases b<;>simp
def MD{O:KV}{r:Nat}{z:List Int} :z∈cd c fs al O r↔∃l,oF c fs al O r l/\z=l.map λn:Nat=>(n:Int):=by
 rcases r with _|_|_|_|_|r
 ·show z∈cd c fs al O 0↔∃l,oF c fs al O 0 l/\z=l.map λn:Nat=>(n:Int);simp only[cd,oF];rw[z5];constructor
  ·rintro⟨t,d,a⟩;rw[pZ]at d;unfold rc at a;rw[gj]at a;exact⟨_,⟨t.1,t.2.1,t.2.2,d,a.1,rfl⟩,a.2⟩
  ·rintro⟨l,⟨i,u,h,d,b,rfl⟩,rfl⟩;refine⟨(i,u,h),pZ.2 d,?_⟩;unfold rc;rw[gj];exact⟨b,rfl⟩
 ·show z∈cd c fs al O 1↔∃l,oF c fs al O 1 l/\z=l.map λn:Nat=>(n:Int);simp only[cd,oF];rw[z5];constructor
  ·rintro⟨t,d,a⟩;rw[pZ]at d;unfold om at a;split at a
   ·cases a
   ·rename_i own f;rw[gj]at a;exact⟨_,⟨t.1,t.2.1,t.2.2,own,d,f,a.1,rfl⟩,a.2⟩
  ·rintro⟨l,⟨i,u,h,own,d,f,b,rfl⟩,rfl⟩;refine⟨(i,u,h),pZ.2 d,?_⟩;unfold om;simp only[f];rw[gj];exact⟨b,rfl⟩
 ·show z∈cd c fs al O 2↔∃l,oF c fs al O 2 l/\z=l.map λn:Nat=>(n:Int);simp only[cd,oF];rw[z5];constructor
  ·rintro⟨t,d,a⟩;rw[pZ]at d;unfold dL at a;rw[z5]at a;obtain⟨k,j,a⟩:=a;rw[YU (by decide)]at j;unfold cM at a;rw[gj]at a;exact⟨_,⟨t.1,t.2.1,t.2.2,k,d,j.1,j.2,a.1,rfl⟩,a.2⟩
  ·rintro⟨l,⟨i,u,h,k,d,j,s,b,rfl⟩,rfl⟩;refine⟨(i,u,h),pZ.2 d,?_⟩;unfold dL;rw[z5];refine⟨k,(YU (by decide)).2 ⟨j,s⟩,?_⟩;unfold cM;rw[gj];exact⟨b,rfl⟩
 ·show z∈cd c fs al O 3↔∃l,oF c fs al O 3 l/\z=l.map λn:Nat=>(n:Int);simp only[cd,oF];rw[z5];constructor
  ·rintro⟨t,d,a⟩;rw[pZ]at d;unfold pW at a;split at a
   ·rename_i hr;rw[z5]at a;obtain⟨p,e,a⟩:=a;rw[pZ]at e;unfold mF at a;rw[gj]at a;exact⟨_,⟨t.1,t.2.1,t.2.2,p.1,p.2.1,p.2.2,d,e,hr,a.1,rfl⟩,a.2⟩
   ·cases a
  ·rintro⟨l,⟨i,u,h,v,w,h',d,e,hr,b,rfl⟩,rfl⟩;refine⟨(i,u,h),pZ.2 d,?_⟩;unfold pW;rw[ip hr,z5];refine⟨(v,w,h'),pZ.2 e,?_⟩;unfold mF;rw[gj];exact⟨b,rfl⟩
 ·show z∈cd c fs al O 4↔∃l,oF c fs al O 4 l/\z=l.map λn:Nat=>(n:Int);simp only[cd,oF];rw[z5];constructor
  ·rintro⟨i,m,a⟩;rw[YW (by decide)]at m;unfold kw at a;split at a
   ·cases a
   ·rename_i own f;split at a
    ·cases a
    ·rename_i g;rw[z5]at a;obtain⟨h,b,a⟩:=a;unfold Xi at a;rw[ze]at a;have b:=(Ug (by decide)).1 b;exact⟨_,⟨i,h,own,m,f,kR.2 g,b.1,b.2,rfl⟩,a⟩
  ·rintro⟨l,⟨i,h,own,m,f,g,b,o,rfl⟩,rfl⟩;refine⟨i,(YW (by decide)).2 m,?_⟩;unfold kw;simp only[f];rw[iq (by rw[g];decide),z5];refine⟨h,(Ug (by decide)).2 ⟨b,o⟩,?_⟩;unfold Xi;exact ze.2 rfl
 ·show z∈Xj c fs↔∃l,(c.ls.length=0/\∃h,wC fs h=2/\l= [h])/\z=l.map λn:Nat=>(n:Int);unfold Xj;constructor
  ·intro a;split at a
   ·cases a
   ·rename_i g;rw[z5]at a;obtain⟨h,b,a⟩:=a;rw[YW (by decide)]at b;unfold R0 at a;rw[ze]at a;exact⟨_,⟨by have:¬(c.ls.length:Int)>0:=λq=>g (zS q);omega,h,b,rfl⟩,a⟩
  ·rintro⟨l,⟨g,h,b,rfl⟩,rfl⟩;rw[iq (λq=>by have:=yK q;omega),z5];refine⟨h,(YW (by decide)).2 b,?_⟩;unfold R0;exact ze.2 rfl
structure Emb(fs gs:List Fac)(f:Nat->Nat):Prop where
 get:∀j,j<gs.length->gs[j]? =fs[f j]?
 mono:∀i j,i<j->j<gs.length->f i<f j
structure Cmp(fs gs:List Fac)(f:Nat->Nat)(al al':Nat->Option Alt)(O O':KV):Prop where
 al:∀j,j<gs.length->al' j=al (f j)
 O:∀j,j<gs.length->wC gs j=2->pR (uh gs j) O'=pR (uh gs j) O
section
variable{c:Cat}{fs gs:List Fac}{f:Nat->Nat}{al al':Nat->Option Alt}{O O':KV}(E:Emb fs gs f)
include E
def Emb.lt(h:j<gs.length):f j<fs.length:=by
 have:=E.get j h;rw[zB h]at this;exact(zK.1 this.symm).1
def Emb.kind(h:j<gs.length):wC gs j=wC fs (f j):=by unfold wC;rw[E.get j h]
def Emb.comp(h:j<gs.length):uU gs j=uU fs (f j):=by unfold uU;rw[E.get j h]
def Emb.out(h:j<gs.length):uh gs j=uh fs (f j):=by unfold uh;rw[E.get j h]
def Emb.way(h:j<gs.length):gH gs j=gH fs (f j):=by unfold gH;rw[E.get j h]
def Emb.rel(h:j<gs.length):ng gs j=ng fs (f j):=by unfold ng;rw[E.get j h]
def Emb.duty(h:j<gs.length):bI gs j=bI fs (f j):=by unfold bI;rw[E.get j h]
def Emb.chg(h:j<gs.length):PB gs j=PB fs (f j):=by unfold PB;rw[E.get j h]
def Emb.list(h:j<gs.length):Xa gs j=Xa fs (f j):=by unfold Xa;rw[E.get j h]
def Emb.lt_iff(a:i<gs.length)(b:j<gs.length):f i<f j↔i<j:=by
 constructor
 ·intro h;rcases Nat.lt_trichotomy i j with q|q|q
  ·exact q
  ·subst q;omega
  ·have:=E.mono j i q a;omega
 ·exact λh=>E.mono i j h b
def Emb.inj(a:i<gs.length)(b:j<gs.length):f i=f j↔i=j:=by
 constructor
 ·intro h;rcases Nat.lt_trichotomy i j with q|q|q
  ·have:=E.mono i j q b;omega
  ·exact q
  ·have:=E.mono j i q a;omega
 ·rintro rfl;rfl
def Emb.tri(C:Cmp fs gs f al al' O O'){i u h:Nat}(a:i<gs.length)(b:u<gs.length)(c:h<gs.length):TriP gs al' i u h↔TriP fs al (f i) (f u) (f h):=by
 constructor
 ·rintro⟨h1,d,h3,e,h5,g⟩;exact⟨E.lt a,by rw[<-C.al i a];exact d,by rw[<-E.kind b];exact h3,by rw[<-E.comp b,<-E.comp a];exact e,by rw[<-E.kind c];exact h5,by rw[<-E.out c,<-E.out b];exact g⟩
 ·rintro⟨h1,d,h3,e,h5,g⟩;exact⟨a,by rw[C.al i a];exact d,by rw[E.kind b];exact h3,by rw[E.comp b,E.comp a];exact e,by rw[E.kind c];exact h5,by rw[E.out c,E.out b];exact g⟩
theorem Emb.ts(C:Cmp fs gs f al al' O O'){i:Nat}(hi:i<gs.length):Zx al' i=Zx al (f i):=by unfold Zx;rw[C.al i hi]
def Emb.skip{i u h c d h':Nat}(g:i<gs.length)(k:u<gs.length)(j:h<gs.length)(a:c<gs.length)(b:d<gs.length)(e:h'<gs.length):Wg gs (i,u,h) (c,d,h')=Wg fs (f i,f u,f h) (f c,f d,f h'):=by
 have e1:decide ((c:Int)<(i:Int))=decide ((f c:Int)<(f i:Int)):=by
  have:=E.lt_iff a g;rw[decide_eq_decide];omega
 have e2:((h':Int)==(h:Int))=((f h':Int)==(f h:Int)):=by
  have:=E.inj e j;rw[Bool.eq_iff_iff,qN,qN];omega
 have e3:((d:Int)==(u:Int))=((f d:Int)==(f u:Int)):=by
  have:=E.inj b k;rw[Bool.eq_iff_iff,qN,qN];omega
 unfold Wg;simp only[e1,e2,e3,E.rel b,E.comp g,E.comp a]
theorem Emb.row(C:Cmp fs gs f al al' O O'){r:Nat}{l:List Nat}(n:∀x∈l,x<gs.length):oF c gs al' O' r l↔oF c fs al O r (l.map f):=by
 have m3:∀{a b d:Nat},l.map f= [a,b,d]->∃i u h,l= [i,u,h]/\f i=a/\f u=b/\f h=d:=by
  intro a b d e;rcases l with _| ⟨i,_| ⟨u,_| ⟨h,_| ⟨k,l⟩⟩⟩⟩ <;>simp at e;exact⟨i,u,h,rfl,e.1,e.2.1,e.2.2⟩
 have H:∀{u h:Nat},h<gs.length->wC gs h=2->uh gs h=uh gs u->pR (uh gs u) O'=pR (uh gs u) O:=by
  intro u h g t y;rw[<-y];exact C.O h g t
 rcases r with _|_|_|_|_|r
 ·show oF c gs al' O' 0 l↔oF c fs al O 0 (l.map f);simp only[oF];constructor
  ·rintro⟨i,u,h,T,p,rfl⟩;have j:=n i (by simp);have o:=n u (by simp);have g:=n h (by simp);exact⟨f i,f u,f h,(E.tri C j o g).1 T,by rw[<-E.ts C j,<-E.way g,<-E.rel o];exact p,rfl⟩
  ·rintro⟨a,b,d,T,p,e⟩;obtain⟨i,u,h,rfl,rfl,rfl,rfl⟩:=m3 e;have j:=n i (by simp);have o:=n u (by simp);have g:=n h (by simp);exact⟨i,u,h,(E.tri C j o g).2 T,by rw[E.ts C j,E.way g,E.rel o];exact p,rfl⟩
 ·show oF c gs al' O' 1 l↔oF c fs al O 1 (l.map f);simp only[oF];constructor
  ·rintro⟨i,u,h,own,T,y,p,rfl⟩;have j:=n i (by simp);have o:=n u (by simp);have g:=n h (by simp);refine⟨f i,f u,f h,own,(E.tri C j o g).1 T,?_,by rw[<-E.ts C j,<-E.way g,<-E.rel o];exact p,rfl⟩;rw[<-E.out o,<-H g T.kh T.oh];exact y
  ·rintro⟨a,b,d,own,T,y,p,e⟩;obtain⟨i,u,h,rfl,rfl,rfl,rfl⟩:=m3 e;have j:=n i (by simp);have o:=n u (by simp);have g:=n h (by simp);have B:=(E.tri C j o g).2 T;refine⟨i,u,h,own,B,?_,by rw[E.ts C j,E.way g,E.rel o];exact p,rfl⟩;rw[H g B.kh B.oh,E.out o];exact y
 ·show oF c gs al' O' 2 l↔oF c fs al O 2 (l.map f);simp only[oF];constructor
  ·rintro⟨i,u,h,k,T,t,I,p,rfl⟩;have j:=n i (by simp);have o:=n u (by simp);have g:=n h (by simp);have s:=n k (by simp);exact⟨f i,f u,f h,f k,(E.tri C j o g).1 T,by rw[<-E.kind s];exact t,by rw[<-E.comp s,<-E.comp j];exact I,by rw[<-E.ts C j,<-E.way g,<-E.rel o,<-E.duty s,<-E.chg o];exact p,rfl⟩
  ·rintro⟨a,b,d,m,T,t,I,p,e⟩;rcases l with _| ⟨i,_| ⟨u,_| ⟨h,_| ⟨k,_| ⟨z,l⟩⟩⟩⟩⟩ <;>simp at e;obtain⟨rfl,rfl,rfl,rfl⟩:=e;have j:=n i (by simp);have o:=n u (by simp);have g:=n h (by simp);have s:=n k (by simp);exact⟨i,u,h,k,(E.tri C j o g).2 T,by rw[E.kind s];exact t,by rw[E.comp s,E.comp j];exact I,by rw[E.ts C j,E.way g,E.rel o,E.duty s,E.chg o];exact p,rfl⟩
 ·show oF c gs al' O' 3 l↔oF c fs al O 3 (l.map f);simp only[oF];constructor
  ·rintro⟨i,u,h,F,G,h',T,B,hr,p,rfl⟩;have j:=n i (by simp);have o:=n u (by simp);have g:=n h (by simp);have q:=n F (by simp);have v:=n G (by simp);have D:=pY B.kh (by decide);exact⟨f i,f u,f h,f F,f G,f h',(E.tri C j o g).1 T,(E.tri C q v D).1 B,by rw[<-E.rel o];exact hr,by rw[<-E.skip j o g q v D,<-E.ts C j,<-E.ts C q];exact p,rfl⟩
  ·rintro⟨a,b,d,M,b',K,T,B,hr,p,e⟩;rcases l with _| ⟨i,_| ⟨F,_| ⟨u,_| ⟨G,_| ⟨h,_| ⟨z,l⟩⟩⟩⟩⟩⟩ <;>simp at e;obtain⟨rfl,rfl,rfl,rfl,rfl⟩:=e;have j:=n i (by simp);have o:=n u (by simp);have g:=n h (by simp);have q:=n F (by simp);have v:=n G (by simp);have L:K=f h:=by
    unfold Wg at p;simp only[zF,qM,pM,Bool.not_eq_false',qN]at p;omega
   subst L;exact⟨i,u,h,F,G,h,(E.tri C j o g).2 T,(E.tri C q v g).2 B,by rw[E.rel o];exact hr,by rw[E.skip j o g q v g,E.ts C j,E.ts C q];exact p,rfl⟩
 ·show oF c gs al' O' 4 l↔oF c fs al O 4 (l.map f);simp only[oF];constructor
  ·rintro⟨i,h,own,t,y,J,w,A,rfl⟩;have j:=n i (by simp);have g:=n h (by simp);refine⟨f i,f h,own,by rw[<-E.kind j];exact t,?_,by rw[<-E.list j];exact J,by rw[<-E.kind g];exact w,by rw[<-E.out g,<-E.out j];exact A,rfl⟩;rw[<-E.out j,<-H g w A];exact y
  ·rintro⟨a,b,own,t,y,J,w,A,e⟩;rcases l with _| ⟨i,_| ⟨h,_| ⟨z,l⟩⟩⟩ <;>simp at e;obtain⟨rfl,rfl⟩:=e;have j:=n i (by simp);have g:=n h (by simp);have k2:wC gs h=2:=by rw[E.kind g];exact w
   have o2:uh gs h=uh gs i:=by rw[E.out g,E.out j];exact A
   refine⟨i,h,own,by rw[E.kind j];exact t,?_,by rw[E.list j];exact J,k2,o2,rfl⟩;rw[H g k2 o2,E.out j];exact y
 ·show(c.ls.length=0/\∃h,wC gs h=2/\l= [h])↔(c.ls.length=0/\∃h,wC fs h=2/\l.map f= [h]);constructor
  ·rintro⟨h0,h,t,rfl⟩;have g:=n h (by simp);exact⟨h0,f h,by rw[<-E.kind g];exact t,rfl⟩
  ·rintro⟨h0,b,t,e⟩;rcases l with _| ⟨h,_| ⟨z,l⟩⟩ <;>simp at e;subst e;have g:=n h (by simp);exact⟨h0,h,by rw[E.kind g];exact t,rfl⟩
end
variable{c:Cat}{fs:List Fac}{al:Nat->Option Alt}
def oF.lt{O:KV}{r:Nat}{l:List Nat}(h:oF c fs al O r l):∀x∈l,x<fs.length:=by
 have b:∀{i u k:Nat},TriP fs al i u k->i<fs.length/\u<fs.length/\k<fs.length:=λT=>⟨T.lt,pY T.ku (by decide),pY T.kh (by decide)⟩;rcases r with _|_|_|_|_|r
 ·have h:oF c fs al O 0 l:=h;simp only[oF]at h;obtain⟨i,u,k,T,_,rfl⟩:=h;have:=b T;intro x a;simp at a;omega
 ·have h:oF c fs al O 1 l:=h;simp only[oF]at h;obtain⟨i,u,k,own,T,_,_,rfl⟩:=h;have:=b T;intro x a;simp at a;omega
 ·have h:oF c fs al O 2 l:=h;simp only[oF]at h;obtain⟨i,u,k,m,T,d,_,_,rfl⟩:=h;have:=b T;have:=pY d (by decide);intro x a;simp at a;omega
 ·have h:oF c fs al O 3 l:=h;simp only[oF]at h;obtain⟨i,u,k,g,j,k',T,e,_,_,rfl⟩:=h;have:=b T;have:=b e;intro x a;simp at a;omega
 ·have h:oF c fs al O 4 l:=h;simp only[oF]at h;obtain⟨i,k,own,f,_,_,d,_,rfl⟩:=h;have:=pY f (by decide);have:=pY d (by decide);intro x a;simp at a;omega
 ·have h:c.ls.length=0/\∃h,wC fs h=2/\l= [h]:=h;obtain⟨_,k,d,rfl⟩:=h;have:=pY d (by decide);intro x a;simp at a;omega
def kI(fs:List Fac):List Fac:=fs.filter λf=>f.kind==1
theorem aG:∀{l:List Fac}{t:List (List (List Trm))}{o:List (List UInt8)},(dn c l t o).2.2=0↔∀f∈l,f.kind=1->lD c f.e=0
 | [],t,o=>by simp[dn]
 |f::fs,t,o=>by
  rw[dn];by_cases h1:(f.kind==1)=true
  ·rw[ip h1];have j:f.kind=1:=by simpa using h1
   by_cases i:(lD c f.e==0)=true
   ·rw[ip i,aG];have d:lD c f.e=0:=by simpa using i
    constructor
    ·intro h g a b;rcases zw.1 a with rfl|a
     ·exact d
     ·exact h g a b
    ·exact λh g a b=>h g (zt _ a) b
   ·rw[iq i];have d:lD c f.e≠0:=by simpa using i
    constructor
    ·exact λh=>absurd h d
    ·exact λh=>h f (by simp) j
  ·have key:∀k,(dn c fs t k).2.2=0↔∀g∈f::fs,g.kind=1->lD c g.e=0:=λk=>by
    rw[aG];constructor
    ·intro h g a b;rcases zw.1 a with rfl|a
     ·exact absurd (by simpa using b) h1
     ·exact h g a b
    ·exact λh g a b=>h g (zt _ a) b
   rw[iq h1];split<;>exact key _
theorem fL:∀{l:List Fac}{t:List (List (List Trm))}{o:List (List UInt8)},(dn c l t o).2.2=0->(dn c l t o).1=t++(kI l).map λf=>ofL c f.e
 | [],t,o,_=>by simp[dn,kI]
 |f::fs,t,o,h=>by
  rw[dn]at h⊢;by_cases h1:(f.kind==1)=true
  ·rw[ip h1]at h⊢;by_cases a:(lD c f.e==0)=true
   ·rw[ip a]at h⊢;have e:kI (f::fs)=f::kI fs:=tO (by exact h1);rw[fL h,e,qm,qh];rfl
   ·rw[iq a]at h;exact absurd h (by simpa using a)
  ·have e:kI (f::fs)=kI fs:=tN (by exact h1);rw[iq h1]at h⊢;rw[e];split at h
   ·rename_i q;rw[ip q];exact fL h
   ·rename_i q;rw[iq q];exact fL h
theorem Nw{f:Nat->Int} :∀{n:Nat},LW f n=none->∀j,j<n->f j=0
 |0,_,j,a=>by omega
 |n+1,h,j,a=>by
  rw[LW]at h;split at h
  ·cases h
  ·rename_i q;split at h
   ·rename_i b;rcases z7.1 a with p|rfl
    ·exact Nw q j p
    ·simpa using b
   ·cases h
def mo{l:List Fac} :(wk c l).2=0↔pJ c=0/\l.length<=256/\∀f∈l,mq c f=0:=by
 have g:(∀j,j<l.length->rZ c l j=0)↔∀f∈l,mq c f=0:=by
  constructor
  ·intro h f hf;obtain⟨j,a,rfl⟩:=yD.1 hf;have:=h j a;unfold rZ at this;rw[zB a]at this;exact this
  ·intro h j a;unfold rZ;rw[zB a];exact h _ (zH a)
 unfold wk;by_cases h1:(!(pJ c==0))=true
 ·rw[ip h1]
  have:pJ c≠0:=by simpa using h1
  constructor
  ·intro h;exact absurd h (by decide)
  ·exact λh=>absurd h.1 this
 ·rw[iq h1];have d:pJ c=0:=by simpa using h1
  by_cases b:decide ((l.length:Int)>256)=true
  ·rw[ip b];have:=yK b;constructor
   ·intro h;exact absurd h (by decide)
   ·intro h;omega
  ·rw[iq b];have e:l.length<=256:=by
    have:¬(l.length:Int)>256:=λq=>b (zS q);omega
   rw[<-g];cases hf:LW (rZ c l) l.length with
   |none=>exact⟨λ_=>⟨d,e,Nw hf⟩,λ_=>rfl⟩
   |some p=>
    constructor
    ·intro h;have i:p.2≠0/\p.1<l.length/\rZ c l p.1=p.2:=by
      generalize l.length=n at hf
      induction n with
      |zero=>cases hf
      |succ n k=>
       rw[LW]at hf;split at hf
       ·rename_i q;cases hf;have:=k q;exact⟨this.1,by omega,this.2.2⟩
       ·split at hf
        ·cases hf
        ·rename_i q;cases hf;exact⟨by simpa using q,by omega,rfl⟩
     exact absurd h i.1
    ·rintro⟨_,_,h⟩;rw[bO h]at hf;cases hf
structure Whole(c:Cat)(fs:List Fac)(y:Cho):Prop where
 cat:pJ c=0
 len:fs.length<=256
 fact:∀f∈fs,mq c f=0
 of:∀f∈fs,f.kind=1->lD c f.e=0
 tl:y.ts.length=(kI fs).length
 ts:∀i (h:i<y.ts.length)(f:Fac),(kI fs)[i]? =some f->(y.ts[i]).ts∈ofL c f.e
 ol:y.own.length=(uW fs []).length
 own:∀s∈y.own,(c.ls.any λx=>x.name==s)=true
def UT{f:Nat->Int} :j9 f n=0↔∀i,i<n->f i=0:=⟨λh i a=>fo h i a,λh=>tZ h⟩
def Qb{y:Cho} :uT c fs y false=0↔Whole c fs y:=by
 have p:(yH c fs).2.2=0↔(wk c fs).2=0/\∀f∈fs,f.kind=1->lD c f.e=0:=by
  unfold yH;by_cases h:(!((wk c fs).2==0))=true
  ·rw[ip h]
   have:(wk c fs).2≠0:=by simpa using h
   exact⟨λq=>absurd q this,λq=>absurd q.1 this⟩
  ·rw[iq h,aG]
   have:(wk c fs).2=0:=by simpa using h
   exact⟨λq=>⟨this,q⟩,λq=>q.2⟩
 have A:(yH c fs).2.2=0->(yH c fs).1=(kI fs).map (λf=>ofL c f.e)/\(yH c fs).2.1=uW fs []:=by
  intro h0;have w:=(p.1 h0).1;unfold yH at h0⊢;rw[iq (by rw[w];decide)]at h0⊢;exact⟨by rw[fL h0,yc],(jE h0).2⟩
 unfold uT;by_cases h0:(!((yH c fs).2.2==0))=true
 ·rw[ip h0];have a:(yH c fs).2.2≠0:=by simpa using h0
  constructor
  ·intro h;exact absurd h a
  ·intro W;exact absurd (p.2 ⟨mo.2 ⟨W.cat,W.len,W.fact⟩,W.of⟩) a
 rw[iq h0];have a:(yH c fs).2.2=0:=by simpa using h0
 obtain⟨k,o⟩:=p.1 a;obtain⟨r,t,u⟩:=mo.1 k;obtain⟨E,F⟩:=A a;rw[E,F];by_cases h1:(!((y.ts.length:Int)==(((kI fs).map λf=>ofL c f.e).length:Int))|| !((y.own.length:Int)==((uW fs []).length:Int)))=true
 ·rw[ip h1];constructor
  ·intro h;exact absurd h (by decide)
  ·intro W;rw[zG,W.tl,W.ol]at h1;simp at h1
 rw[iq h1];have m:y.ts.length=(kI fs).length/\y.own.length=(uW fs []).length:=by
  rw[zG]at h1;simp only[qB,qM,yr,ne_eq,Xk,Decidable.not_not]at h1;omega
 have g:(∀i,i<y.ts.length->n9 ((kI fs).map λf=>ofL c f.e) y.ts false i=0)↔∀i (h:i<y.ts.length)(f:Fac),(kI fs)[i]? =some f->(y.ts[i]).ts∈ofL c f.e:=by
  have key:∀i (h:i<y.ts.length),n9 ((kI fs).map λf=>ofL c f.e) y.ts false i=0↔(y.ts[i]).ts∈ofL c ((kI fs)[i]'ow).e:=by
   intro i h;unfold n9;rw[zB h];simp only[wV,zl,yy];have z:((kI fs).map λf=>ofL c f.e).getD i []=ofL c ((kI fs)[i]'ow).e:=by
    rw[zC,zj,zB ow];rfl
   rw[z];by_cases q:(ofL c ((kI fs)[i]'ow).e).any (λb=>RT (y.ts[i]).ts b)=true
   ·rw[iq (by rw[q];decide)];obtain⟨b,v,e⟩:=yu.1 q;rw[(lw _ _).1 e];exact⟨λ_=>v,λ_=>rfl⟩
   ·rw[ip (by simpa using q)];constructor
    ·intro h;exact absurd h (by decide)
    ·intro B;exact absurd (yu.2 ⟨_,B,(lw _ _).2 rfl⟩) q
  constructor
  ·intro h i d f hf;have l:=(key i d).1 (h i d);rw[zB ow]at hf;cases hf;exact l
  ·intro h i d;exact(key i d).2 (h i d _ (zB ow))
 have n:(∀i,i<y.own.length->Qh c y.own false i=0)↔∀s∈y.own,(c.ls.any λx=>x.name==s)=true:=by
  have key:∀i (h:i<y.own.length),Qh c y.own false i=0↔(c.ls.any λx=>x.name==y.own[i])=true:=by
   intro i h;unfold Qh;rw[zB h];simp only[wV,zl,yy];cases(c.ls.any λx=>x.name==y.own[i])<;>simp
  constructor
  ·intro h s C;obtain⟨i,d,rfl⟩:=yD.1 C;exact(key i d).1 (h i d)
  ·exact λh i d=>(key i d).2 (h _ (zH d))
 by_cases l:(!(j9 (n9 ((kI fs).map λf=>ofL c f.e) y.ts false) y.ts.length==0))=true
 ·rw[ip l];have j:j9 (n9 ((kI fs).map λf=>ofL c f.e) y.ts false) y.ts.length≠0:=by simpa using l
  constructor
  ·intro h;exact absurd h j
  ·intro W;exact absurd (UT.2 (g.2 W.ts)) j
 rw[iq l];have j:j9 (n9 ((kI fs).map λf=>ofL c f.e) y.ts false) y.ts.length=0:=by simpa using l
 have D:=g.1 (UT.1 j);rw[UT,n];exact⟨λh=>⟨r,t,u,o,m.1,D,m.2,h⟩,λW=>W.own⟩
def yG(fs:List Fac)(I:List Nat):List Fac:=I.filterMap λi=>fs[i]?
def fJ(y:Cho)(fs:List Fac)(I:List Nat):List Alt:=(I.filter λi=>wC fs i==1).map λi=>nX y (oY fs i)
def C2(y:Cho)(outs names:List (List UInt8)):List (List UInt8):=names.map λo=>mL y (outs.findIdx λz=>z==o)
structure InI(fs:List Fac)(I:List Nat):Prop where
 lt:∀i∈I,i<fs.length
 inc:I.Pairwise (· < ·)
def RV{p:α->Bool}{l:List α}{x:α}(h:l[j]? =some x)(b:p x=true):(l.filter p)[((l.take j).filter p).length]? =some x:=by
 obtain⟨a,rfl⟩:=zK.1 h;have e:l.filter p=(l.take j).filter p++(l[j]::(l.drop (j+1)).filter p):=by
  conv=>lhs;rw[<-qP j l,oG,yf a,tO b]
 rw[e,yT (zD _),ln,wK]
section
variable{fs:List Fac}{I:List Nat}
theorem kg:∀{I:List Nat},(∀i∈I,i<fs.length)->∀j:Nat,(yG fs I)[j]? =I[j]?.bind λi=>fs[i]?
 | [],_,j=>by simp[yG]
 |i::I,h,j=>by
  have a:=h i (by simp);have e:yG fs (i::I)=fs[i]::yG fs I:=by
   unfold yG;rw[sU (zB a)]
  rw[e];cases j with
  |zero=>simp[zB a]
  |succ j=>
   rw[we,we];exact kg (λx b=>h x (zt _ b)) j
theorem uj:∀{I:List Nat},(∀i∈I,i<fs.length)->(yG fs I).length=I.length
 | [],_=>rfl
 |i::I,h=>by
  have a:=h i (by simp);have e:yG fs (i::I)=fs[i]::yG fs I:=by
   unfold yG;rw[sU (zB a)]
  rw[e,zm,zm,uj λx b=>h x (zt _ b)]
def LS(I J:List Nat):yG fs (I++J)=yG fs I++yG fs J:=by unfold yG;rw[List.filterMap_append]
def km{f:Fac}(h:f∈yG fs I):f∈fs:=by
 obtain⟨i,_,e⟩:=List.mem_filterMap.1 h;exact zg e
theorem my:∀{I:List Nat},(∀i∈I,i<fs.length)->kI (yG fs I)=yG fs (I.filter λi=>wC fs i==1)
 | [],_=>rfl
 |i::I,h=>by
  have a:=h i (by simp);have c:=my (I:=I) λx d=>h x (zt _ d);have e:yG fs (i::I)=fs[i]::yG fs I:=by
   unfold yG;rw[sU (zB a)]
  have b:=sy a;rw[e];by_cases q:(fs[i].kind==1)=true
  ·have e1:kI (fs[i]::yG fs I)=fs[i]::kI (yG fs I):=tO (by exact q);rw[e1,c,tO (by rw[b];exact q)];unfold yG;rw[sU (zB a)]
  ·have e1:kI (fs[i]::yG fs I)=kI (yG fs I):=tN (by exact q);rw[e1,c,tN (by rw[b];exact q)]
def InI.emb(H:InI fs I):Emb fs (yG fs I) (λj=>I.getD j 0):=by
 have e:=uj H.lt;refine⟨λj d=> ?_,λi j c d=> ?_⟩
 ·have a:j<I.length:=ow;rw[kg H.lt,zB a,zC,zB a];rfl
 ·have a:j<I.length:=ow;have b:i<I.length:=ow;show I.getD i 0<I.getD j 0;rw[zC,zC,zB a,zB b];exact uy.1 H.inc i j b a c
def PS(b:∀i∈I,i<fs.length) :oY (yG fs I) j=((I.take j).filter λi=>wC fs i==1).length:=by
 have e:(yG fs I).take j=yG fs (I.take j):=by
  rcases Nat.le_total j I.length with h|h
  ·conv=>lhs;rw[<-qP j I,LS]
   have:(yG fs (I.take j)).length=j:=by
    rw[uj λx c=>b x (sP c),yR];omega
   rw[wQ ow,yV ow]
  ·rw[yV (by rw[uj b];exact h),yV h]
 have a:∀i∈I.take j,i<fs.length:=λx c=>b x (sP c);show(kI ((yG fs I).take j)).length=_;rw[e,my a,uj λi d=>a i (wZ.1 d).1]
def N6(h:i<fs.length)(a:wC fs i=1):(kI fs)[oY fs i]? =some fs[i]:=by
 rw[sy h]at a;exact RV (zB h) (by simp[a])
theorem nc:∀{l:List Fac}{o:List (List UInt8)}{s:List UInt8},s∈uW l o↔s∈o\/∃f∈l,f.kind=2/\f.out=s
 | [],o,s=>by simp[uW]
 |f::fs,o,s=>by
  rw[uW];by_cases h1:(f.kind==1)=true
  ·rw[ip h1,nc];have d:f.kind=1:=by simpa using h1
   constructor
   ·rintro(h| ⟨g,a,h⟩)
    ·exact .inl h
    ·exact .inr ⟨g,zt _ a,h⟩
   ·rintro(h| ⟨g,a,h,e⟩)
    ·exact .inl h
    ·rcases zw.1 a with rfl|a
     ·omega
     ·exact .inr ⟨g,a,h,e⟩
  rw[iq h1];by_cases c:(f.kind==2)=true
  ·rw[ip c,nc];have b:f.kind=2:=by simpa using c
   have key:(s∈if(o.any λz=>z==f.out)=true then o else o++ [f.out])↔s∈o\/f.out=s:=by
    by_cases q:(o.any λz=>z==f.out)=true
    ·rw[ip q];constructor
     ·exact .inl
     ·rintro(h|rfl)
      ·exact h
      ·obtain⟨z,i,e⟩:=yu.1 q
       have:z=f.out:=by simpa using e
       rw[<-this];exact i
    ·rw[iq q];simp only[yp,ze];constructor
     ·rintro(h|rfl)
      ·exact .inl h
      ·exact .inr rfl
     ·rintro(h|rfl)
      ·exact .inl h
      ·exact .inr rfl
   rw[key];constructor
   ·rintro((h|h)| ⟨g,a,h⟩)
    ·exact .inl h
    ·exact .inr ⟨f,by simp,b,h⟩
    ·exact .inr ⟨g,zt _ a,h⟩
   ·rintro(h| ⟨g,a,h,e⟩)
    ·exact .inl (.inl h)
    ·rcases zw.1 a with rfl|a
     ·exact .inl (.inr e)
     ·exact .inr ⟨g,a,h,e⟩
  ·rw[iq c,nc];have b:f.kind≠2:=by simpa using c
   constructor
   ·rintro(h| ⟨g,a,h⟩)
    ·exact .inl h
    ·exact .inr ⟨g,zt _ a,h⟩
   ·rintro(h| ⟨g,a,h,e⟩)
    ·exact .inl h
    ·rcases zw.1 a with rfl|a
     ·exact absurd h b
     ·exact .inr ⟨g,a,h,e⟩
def Cv(y:Cho)(outs:List (List UInt8))(o:List UInt8):Option (List UInt8):=
 if o∈outs/\mL y (outs.findIdx λz=>z==o)≠[]then some (mL y (outs.findIdx λz=>z==o))else none
theorem Yb{y:Cho} :∀k,k<=fs.length->∀o,pR o (qJ y fs k).O=Cv y (qJ y fs k).outs o
 |0,_,o=>by simp[qJ,Cv,pR]
 |k+1,l,o=>by
  have d:=Yb (y:=y) k ow;have g:k<fs.length:=ow;rw[lN g];split
  ·split<;>exact d o
  split
  ·split
   ·exact d o
   ·rename_i f;have f:fs[k].out∉(qJ y fs k).outs:=λc=>f (yu.2 ⟨_,c,by simp⟩);generalize(qJ y fs k).outs=a at *
    generalize(qJ y fs k).O=O at *
    generalize fs[k].out=s at *
    show pR o (if(!(mL y a.length== []))=true then cK s (mL y a.length) O else O)=Cv y (a++ [s]) o
    have i:(a++ [s]).findIdx (λz=>z==s)=a.length:=by
     rw[dy]
     have:a.findIdx (λz=>z==s)=a.length:=List.findIdx_eq_length.2 λz j=>by
      have:z≠s:=λe=>f (e▸j);simpa using this
     rw[iq ow];simp[List.findIdx_cons]
    have h:o∈a->(a++ [s]).findIdx (λz=>z==o)=a.findIdx (λz=>z==o):=λc=>by
     rw[dy];rw[ip (ug.2 ⟨o,c,by simp⟩)]
    have b:∀v,pR o (cK s v O)=if o=s then some v else pR o O:=λv=>by
     rw[Rn];by_cases e:o=s
     ·rw[ip e,ip (by simpa using e)]
     ·rw[iq e,iq (by simpa using e)]
    by_cases e:o=s
    ·subst e;unfold Cv;rw[i];by_cases q:mL y a.length= []
     ·rw[iq (by simp[q]),iq (by simp[q]),d o,Cv,iq (by simp[f])]
     ·rw[ip (by simpa using q),b,ip rfl,ip ⟨by simp,q⟩]
    ·have h1:pR o (if(!(mL y a.length== []))=true then cK s (mL y a.length) O else O)=pR o O:=by
      split
      ·rw[b,iq e]
      ·rfl
     rw[h1,d o];unfold Cv;by_cases c:o∈a
     ·rw[h c];simp[c]
     ·rw[iq (by simp[c]),iq (by simp[c,e])]
  ·exact d o
def zAU{y:Cho}{b a:List (List UInt8)}{o:List UInt8}(h:o∈a):mL ⟨la,C2 y b a⟩ (a.findIdx λz=>z==o)=mL y (b.findIdx λz=>z==o):=by
 have c:a.findIdx (λz=>z==o)<a.length:=ug.2 ⟨o,h,by simp⟩;have d:a[a.findIdx λz=>z==o]=o:=by
  have:=sO (w:=c);simpa using this
 show(C2 y b a).getD _ []=_;unfold C2;rw[zC,zj,zB c,d];rfl
end
def jk(y:Cho)(fs:List Fac)(I:List Nat):Cho:=⟨fJ y fs I,C2 y (uW fs []) (uW (yG fs I) [])⟩
section
variable{c:Cat}{fs:List Fac}{y:Cho}{I:List Nat}
def Xn{o:List UInt8}(h:o∈uW (yG fs I) []):o∈uW fs []:=by
 rw[nc]at h⊢;rcases h with h| ⟨f,hf,h⟩
 ·cases h
 ·exact .inr ⟨f,km hf,h⟩
def Kb(W:Whole c fs y)(h:i<fs.length)(b:wC fs i=1):(nX y (oY fs i)).ts∈ofL c fs[i].e:=by
 have h1:=N6 h b;have a:oY fs i<y.ts.length:=by rw[W.tl];exact(zK.1 h1).1
 have:=W.ts _ a _ h1;unfold nX;rw[zC,zB a];exact this
def IH(W:Whole c fs y){o:List UInt8}(h:o∈uW fs []):mL y ((uW fs []).findIdx λz=>z==o)∈y.own:=by
 have a:(uW fs []).findIdx (λz=>z==o)<y.own.length:=by rw[W.ol];exact ug.2 ⟨o,h,by simp⟩
 unfold mL;rw[zC,zB a];exact zH a
def L7(H:InI fs I):(fJ y fs I).length=(kI (yG fs I)).length:=by
 unfold fJ;rw[zG,my H.lt,uj λi a=>H.lt i (wZ.1 a).1]
def Lm(W:Whole c fs y)(H:InI fs I)(hlen:I.length<=256):Whole c (yG fs I) (jk y fs I) where
 cat:=W.cat
 len:=by rw[uj H.lt];exact hlen
 fact:=λf hf=>W.fact f (km hf)
 of:=λf hf hk=>W.of f (km hf) hk
 tl:=L7 H
 ts:=λi hi f hf=>by
  have hI':∀i∈I.filter (λi=>wC fs i==1),i<fs.length:=λi hi=>H.lt i (wZ.1 hi).1;rw[my H.lt,kg hI']at hf;have hi2:i<(I.filter λi=>wC fs i==1).length:=by
   have:i<(fJ y fs I).length:=hi;unfold fJ at this
   rwa [zG]at this
  rw[zB hi2]at hf;obtain⟨hm,hk⟩:=wZ.1 (zH hi2);have hlt:=H.lt _ hm;have hf:fs[(I.filter λi=>wC fs i==1)[i]]? =some f:=hf;rw[zB hlt]at hf;cases hf
  have:((jk y fs I).ts[i])=nX y (oY fs (I.filter λi=>wC fs i==1)[i]):=by
   show(fJ y fs I)[i]=_;simp only[fJ,qr]
  rw[this];exact Kb W hlt (by simpa using hk)
 ol:=by show(C2 _ _ _).length=_;unfold C2;rw[zG]
 own:=λs hs=>by
  obtain⟨o,ho,rfl⟩:=zM.1 hs;exact W.own _ (IH W (Xn ho))
def MM(W:Whole c fs y)(H:InI fs I):Cmp fs (yG fs I) (λj=>I.getD j 0) (alS fs y) (alS (yG fs I) (jk y fs I)) (qJ y fs fs.length).O (qJ (jk y fs I) (yG fs I) (yG fs I).length).O where
 al:=λj hj=>by
  have E:=H.emb;have hjI:j<I.length:=by rw[uj H.lt]at hj;exact hj
  have hgd:I.getD j 0=I[j]:=by rw[zC,zB hjI];rfl
  have hlt:=H.lt _ (zH hjI);have hget:=E.get j hj;show alS (yG fs I) (jk y fs I) j=alS fs y (I.getD j 0);have hget:(yG fs I)[j]? =some fs[I[j]]:=by
   have:(yG fs I)[j]? =fs[I.getD j 0]? :=hget;rw[this,hgd,zB hlt]
  unfold alS;rw[hget,hgd,zB hlt];by_cases hk:(fs[I[j]].kind==1)=true
  ·simp only[ip hk];have hk1:wC fs I[j]=1:=by rw[sy hlt];simpa using hk
   have ha:nX (jk y fs I) (oY (yG fs I) j)=nX y (oY fs I[j]):=by
    have:=RV (p:=λi=>wC fs i==1) (zB hjI) (by simpa using hk1);rw[PS H.lt];show(fJ y fs I).getD _ _=_;unfold fJ;rw[zC,zj,this];rfl
   rw[ha]
  ·simp only[iq hk]
 O:=λj hj hk=>by
  have hjf:=(zB hj);have hm:uh (yG fs I) j∈uW (yG fs I) []:=by
   rw[nc];refine .inr ⟨_,zH hj,by rw[<-sy hj];exact hk,(Uq hj).symm⟩
  rw[Yb _ (zD _),Yb _ (zD _),lM _ (zD _),lM _ (zD _),z6,z6];unfold Cv;have e:mL (jk y fs I) ((uW (yG fs I) []).findIdx λz=>z==uh (yG fs I) j)=mL y ((uW fs []).findIdx λz=>z==uh (yG fs I) j):=zAU hm;rw[e];have hm2:=Xn hm;simp only[hm,hm2,zT]
end
def IA(l:List Int):(n7 l).Pairwise λa b=>tC a b<0:=AK ZE (ZO ZE _)
def jB{l:List Int}{x:Int} :x∈n7 l↔x∈l:=by unfold n7;rw[JV JR,ZN]
def AI{a b:Int} :tC a b<0↔a<b:=by
 unfold tC;split
 ·simp[*]
 ·split<;>simp<;>omega
section
variable{c:Cat}{fs:List Fac}{y:Cho}{I:List Nat}
def mT{v:Vio} :v∈p0 c fs y↔∃i:Nat,i<6/\v.row=(i:Int)/\∃l,oF c fs (alS fs y) (qJ y fs fs.length).O i l/\n7 (l.map λn:Nat=>(n:Int))=v.facts:=by
 rw[HK];constructor
 ·rintro⟨i,h1,a,z,d,e⟩;obtain⟨l,b,rfl⟩:=MD.1 d;exact⟨i,h1,a,l,b,e⟩
 ·rintro⟨i,h1,a,l,b,e⟩;exact⟨i,h1,a,_,MD.2 ⟨l,b,rfl⟩,e⟩
def Us(W:Whole c fs y)(H:InI fs I)(h0:p0 c fs y= []):p0 c (yG fs I) (jk y fs I)= []:=by
 rw[List.eq_nil_iff_forall_not_mem];intro v b;obtain⟨i,h1,d,l,a,e⟩:=mT.1 b;have h3:=((H.emb).row (MM W H) (c:=c) (r:=i) a.lt).1 a
 have:(⟨(i:Int),n7 ((l.map λj=>I.getD j 0).map λn:Nat=>(n:Int))⟩:Vio)∈p0 c fs y:=mT.2 ⟨i,h1,rfl,_,h3,rfl⟩;rw[h0]at this;cases this
end
end Go.V
