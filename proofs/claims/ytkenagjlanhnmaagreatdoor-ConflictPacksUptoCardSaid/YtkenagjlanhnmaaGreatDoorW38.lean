/- None, part 1. No condition. -/
import Derived.Test.YtkenagjlanhnmaaGreatDoorW37
set_option linter.all false
set_option maxHeartbeats 8000000
namespace Go.V
set_option maxRecDepth 100000
def uK(fs:List Fac)(i:Nat):Int:=match fs[i]? with
 |some f=>f.kind
 |none=> -1
theorem WW{p:Fac->Bool} :∀{l:List Fac}{k i:Nat},i∈wV p l k↔k<=i/\∃h:i-k<l.length,p l[i-k]=true
 | [],k,i=>by simp[wV]
 |f::l,k,i=>by
  have b:=WW (p:=p) (l:=l) (k:=k+1) (i:=i);have key:(i∈wV p (f::l) k)↔(p f=true/\i=k)\/i∈wV p l (k+1):=by
   rw[wV];split
   .rename_i h;simp[h]
   .rename_i h;simp[h]
  rw[key,b];constructor
  .rintro(⟨h1,rfl⟩ | ⟨h1,a,h3⟩)
   .exact⟨zD _,jS,by simpa using h1⟩
   .refine⟨ow,by simp only[zu];omega,?_⟩
    have:i-k=(i- (k+1))+1:=ow;simp only[this,o9];exact h3
  .rintro⟨h1,a,h3⟩
   by_cases e:i=k
   .subst e
    left;exact⟨by simpa using h3,rfl⟩
   .right
    have:i-k=(i- (k+1))+1:=ow;simp only[this,o9]at h3;exact⟨ow,by simp only[zu]at a;omega,h3⟩
variable{N:Int}{fs:List Fac}{i j n:Nat}{al:Nat->Option Alt}{α:Type}{b:Bool}{c:Cat}{la:List Alt}
def Nq{q:Fac->Bool} :i∈fIx N q fs↔∃h:i<fs.length,fs[i].kind=N/\q fs[i]=true:=by
 unfold fIx;rw[WW];simp only[yD,tO,zQ,isF,zF,qj]
def rp(h:i<fs.length):uK fs i=fs[i].kind:=by
 unfold uK;rw[zB h]
def pf{k:Int}(h:uK fs i=k)(a:0<=k):i<fs.length:=by
 unfold uK at h;split at h
 .rename_i q;exact(zK.1 q).1
 .omega
def QU(h:i<fs.length):sg fs i=fs[i].comp:=by
 unfold sg;rw[zB h]
def Tv(h:i<fs.length):tW fs i=fs[i].out:=by
 unfold tW;rw[zB h]
def XH{k:Int}(b:0<=k) :j∈fIx k (λg=>g.comp==sg fs i) fs↔uK fs j=k/\sg fs j=sg fs i:=by
 rw[Nq];constructor
 .rintro⟨h,h1,a⟩
  exact⟨by rw[rp h,h1],by rw[QU h];simpa using a⟩
 .rintro⟨h1,a⟩
  have h:=pf h1 b;exact⟨h,by rw[<-rp h,h1],by rw[QU h]at a;simpa using a⟩
def Tl{k:Int}(b:0<=k) :j∈fIx k (λg=>g.out==tW fs i) fs↔uK fs j=k/\tW fs j=tW fs i:=by
 rw[Nq];constructor
 .rintro⟨h,h1,a⟩
  exact⟨by rw[rp h,h1],by rw[Tv h];simpa using a⟩
 .rintro⟨h1,a⟩
  have h:=pf h1 b;exact⟨h,by rw[<-rp h,h1],by rw[Tv h]at a;simpa using a⟩
def XI{k:Int}(a:0<=k) :j∈fIx k (λ_=>true) fs↔uK fs j=k:=by
 rw[Nq];constructor
 .rintro⟨h,h1,_⟩;rw[rp h,h1]
 .intro h1
  have h:=pf h1 a;exact⟨h,by rw[<-rp h,h1],rfl⟩
structure TriP(fs:List Fac)(al:Nat->Option Alt)(i u h:Nat):Prop where
 lt:i<fs.length
 al:(al i).isSome=true
 ku:uK fs u=0
 cu:sg fs u=sg fs i
 kh:uK fs h=2
 oh:tW fs h=tW fs u
def ph{t:Tri} :t∈qx fs al↔TriP fs al t.1 t.2.1 t.2.2:=by
 unfold qx;rw[z6];constructor
 .rintro⟨i,e,a⟩
  unfold KF at a;split at a
  .rename_i d
   rw[z6]at a;obtain⟨u,c,a⟩:=a;unfold KG at a;rw[zN]at a;obtain⟨h,b,rfl⟩:=a;rw[XH jD]at c;rw[Tl jD]at b;exact⟨yn.1 e,d,c.1,c.2,b.1,b.2⟩
  .cases a
 .intro h
  obtain⟨i,u,k⟩:=t;refine⟨i,yn.2 h.lt,?_⟩;unfold KF;rw[ip h.al,z6];refine⟨u,(XH jD).2 ⟨h.ku,h.cu⟩,?_⟩;unfold KG;exact zN.2 ⟨k,(Tl jD).2 ⟨h.kh,h.oh⟩,rfl⟩
def oX(c:Cat)(fs:List Fac)(al:Nat->Option Alt)(O:KV):Nat->List Nat->Prop
 |0,l=>∃i u h,TriP fs al i u h/\Ni c (Yl al i) (gW fs h) (n7 fs u) 5 (λ_=>true)=true/\l= [i,u,h]
 |1,l=>∃i u h own,TriP fs al i u h/\pV (tW fs u) O=some own/\Ni c (Yl al i) (gW fs h) (n7 fs u) 4 (Wz own)=true/\l= [i,u,h]
 |2,l=>∃i u h k,TriP fs al i u h/\uK fs k=4/\sg fs k=sg fs i/\((!(aA fs k==2)||NQ fs u)&&Ni c (Yl al i) (gW fs h) (n7 fs u) (aA fs k) (λ_=>true))=true/\l= [i,u,h,k]
 |3,l=>∃i u h i' u' h',TriP fs al i u h/\TriP fs al i' u' h'/\(n7 fs u==0)=true/\(!(Vg fs (i,u,h) (i',u',h'))&&zB8 c (Yl al i) (Yl al i'))=true/\l= [i,i',u,u',h]
 |4,l=>∃i h own,uK fs i=3/\pV (tW fs i) O=some own/\((WR fs i).any λs=>s==own)=false/\uK fs h=2/\tW fs h=tW fs i/\l= [i,h]
 |_,l=>c.ls.length=0/\∃h,uK fs h=2/\l= [h]
def fO{x y:α} :(y∈if b=true then [x]else [])↔b=true/\y=x:=by
 cases b<;>simp
def LU{O:KV}{r:Nat}{z:List Int} :z∈bQ c fs al O r↔∃l,oX c fs al O r l/\z=l.map λn:Nat=>(n:Int):=by
 rcases r with _|_|_|_|_|r
 .show z∈bQ c fs al O 0↔∃l,oX c fs al O 0 l/\z=l.map λn:Nat=>(n:Int)
  simp only[bQ,oX];rw[z6];constructor
  .rintro⟨t,d,a⟩
   rw[ph]at d;unfold sx at a;rw[fO]at a;exact⟨_,⟨t.1,t.2.1,t.2.2,d,a.1,rfl⟩,a.2⟩
  .rintro⟨l,⟨i,u,h,d,b,rfl⟩,rfl⟩
   refine⟨(i,u,h),ph.2 d,?_⟩;unfold sx;rw[fO];exact⟨b,rfl⟩
 .show z∈bQ c fs al O 1↔∃l,oX c fs al O 1 l/\z=l.map λn:Nat=>(n:Int)
  simp only[bQ,oX];rw[z6];constructor
  .rintro⟨t,d,a⟩
   rw[ph]at d;unfold oI at a;split at a
   .cases a
   .rename_i own f
    rw[fO]at a;exact⟨_,⟨t.1,t.2.1,t.2.2,own,d,f,a.1,rfl⟩,a.2⟩
  .rintro⟨l,⟨i,u,h,own,d,f,b,rfl⟩,rfl⟩
   refine⟨(i,u,h),ph.2 d,?_⟩;unfold oI;simp only[f];rw[fO];exact⟨b,rfl⟩
 .show z∈bQ c fs al O 2↔∃l,oX c fs al O 2 l/\z=l.map λn:Nat=>(n:Int)
  simp only[bQ,oX];rw[z6];constructor
  .rintro⟨t,d,a⟩
   rw[ph]at d;unfold fM at a;rw[z6]at a;obtain⟨k,j,a⟩:=a;rw[XH jD]at j;unfold bH at a;rw[fO]at a;exact⟨_,⟨t.1,t.2.1,t.2.2,k,d,j.1,j.2,a.1,rfl⟩,a.2⟩
  .rintro⟨l,⟨i,u,h,k,d,j,s,b,rfl⟩,rfl⟩
   refine⟨(i,u,h),ph.2 d,?_⟩;unfold fM;rw[z6];refine⟨k,(XH jD).2 ⟨j,s⟩,?_⟩;unfold bH;rw[fO];exact⟨b,rfl⟩
 .show z∈bQ c fs al O 3↔∃l,oX c fs al O 3 l/\z=l.map λn:Nat=>(n:Int)
  simp only[bQ,oX];rw[z6];constructor
  .rintro⟨t,d,a⟩
   rw[ph]at d;unfold pQ at a;split at a
   .rename_i hr
    rw[z6]at a;obtain⟨p,e,a⟩:=a;rw[ph]at e;unfold mR at a;rw[fO]at a;exact⟨_,⟨t.1,t.2.1,t.2.2,p.1,p.2.1,p.2.2,d,e,hr,a.1,rfl⟩,a.2⟩
   .cases a
  .rintro⟨l,⟨i,u,h,v,w,h',d,e,hr,b,rfl⟩,rfl⟩
   refine⟨(i,u,h),ph.2 d,?_⟩;unfold pQ;rw[ip hr,z6];refine⟨(v,w,h'),ph.2 e,?_⟩;unfold mR;rw[fO];exact⟨b,rfl⟩
 .show z∈bQ c fs al O 4↔∃l,oX c fs al O 4 l/\z=l.map λn:Nat=>(n:Int)
  simp only[bQ,oX];rw[z6];constructor
  .rintro⟨i,m,a⟩
   rw[XI jD]at m;unfold kR at a;split at a
   .cases a
   .rename_i own f
    split at a
    .cases a
    .rename_i g
     rw[z6]at a;obtain⟨h,b,a⟩:=a;unfold WZ at a;rw[zi]at a;have b:=(Tl jD).1 b;exact⟨_,⟨i,h,own,m,f,sZ.2 g,b.1,b.2,rfl⟩,a⟩
  .rintro⟨l,⟨i,h,own,m,f,g,b,o,rfl⟩,rfl⟩
   refine⟨i,(XI jD).2 m,?_⟩;unfold kR;simp only[f];rw[iq (by rw[g];decide),z6];refine⟨h,(Tl jD).2 ⟨b,o⟩,?_⟩;unfold WZ;exact zi.2 rfl
 .show z∈Zt c fs↔∃l,(c.ls.length=0/\∃h,uK fs h=2/\l= [h])/\z=l.map λn:Nat=>(n:Int)
  unfold Zt;constructor
  .intro a
   split at a
   .cases a
   .rename_i g
    rw[z6]at a;obtain⟨h,b,a⟩:=a;rw[XI jD]at b;unfold Q8 at a;rw[zi]at a;exact⟨_,⟨by have:¬(c.ls.length:Int)>0:=λq=>g (zR q);omega,h,b,rfl⟩,a⟩
  .rintro⟨l,⟨g,h,b,rfl⟩,rfl⟩
   rw[iq (λq=>by have:=yB q;omega),z6];refine⟨h,(XI jD).2 b,?_⟩;unfold Q8;exact zi.2 rfl
structure Emb(fs gs:List Fac)(f:Nat->Nat):Prop where
 get:∀j,j<gs.length->gs[j]? =fs[f j]?
 mono:∀i j,i<j->j<gs.length->f i<f j
structure Cmp(fs gs:List Fac)(f:Nat->Nat)(al al':Nat->Option Alt)(O O':KV):Prop where
 al:∀j,j<gs.length->al' j=al (f j)
 O:∀j,j<gs.length->uK gs j=2->pV (tW gs j) O'=pV (tW gs j) O
section
variable{c:Cat}{fs gs:List Fac}{f:Nat->Nat}{al al':Nat->Option Alt}{O O':KV}(E:Emb fs gs f)
include E
def Emb.lt(h:j<gs.length):f j<fs.length:=by
 have:=E.get j h;rw[zB h]at this;exact(zK.1 this.symm).1
def Emb.kind(h:j<gs.length):uK gs j=uK fs (f j):=by unfold uK;rw[E.get j h]
def Emb.comp(h:j<gs.length):sg gs j=sg fs (f j):=by unfold sg;rw[E.get j h]
def Emb.out(h:j<gs.length):tW gs j=tW fs (f j):=by unfold tW;rw[E.get j h]
def Emb.way(h:j<gs.length):gW gs j=gW fs (f j):=by unfold gW;rw[E.get j h]
def Emb.rel(h:j<gs.length):n7 gs j=n7 fs (f j):=by unfold n7;rw[E.get j h]
def Emb.duty(h:j<gs.length):aA gs j=aA fs (f j):=by unfold aA;rw[E.get j h]
def Emb.chg(h:j<gs.length):NQ gs j=NQ fs (f j):=by unfold NQ;rw[E.get j h]
def Emb.list(h:j<gs.length):WR gs j=WR fs (f j):=by unfold WR;rw[E.get j h]
def Emb.lt_iff(a:i<gs.length)(b:j<gs.length):f i<f j↔i<j:=by
 constructor
 .intro h
  rcases Nat.lt_trichotomy i j with q|q|q
  .exact q
  .subst q;omega
  .have:=E.mono j i q a;omega
 .exact λh=>E.mono i j h b
def Emb.inj(a:i<gs.length)(b:j<gs.length):f i=f j↔i=j:=by
 constructor
 .intro h
  rcases Nat.lt_trichotomy i j with q|q|q
  .have:=E.mono i j q b;omega
  .exact q
  .have:=E.mono j i q a;omega
 .rintro rfl;rfl
def Emb.tri(C:Cmp fs gs f al al' O O'){i u h:Nat}(a:i<gs.length)(b:u<gs.length)(c:h<gs.length):TriP gs al' i u h↔TriP fs al (f i) (f u) (f h):=by
 constructor
 .rintro⟨h1,d,h3,e,h5,g⟩
  exact⟨E.lt a,by rw[<-C.al i a];exact d,by rw[<-E.kind b];exact h3,by rw[<-E.comp b,<-E.comp a];exact e,by rw[<-E.kind c];exact h5,by rw[<-E.out c,<-E.out b];exact g⟩
 .rintro⟨h1,d,h3,e,h5,g⟩
  exact⟨a,by rw[C.al i a];exact d,by rw[E.kind b];exact h3,by rw[E.comp b,E.comp a];exact e,by rw[E.kind c];exact h5,by rw[E.out c,E.out b];exact g⟩
theorem Emb.ts(C:Cmp fs gs f al al' O O'){i:Nat}(hi:i<gs.length):Yl al' i=Yl al (f i):=by unfold Yl;rw[C.al i hi]
def Emb.skip{i u h c d h':Nat}(g:i<gs.length)(k:u<gs.length)(j:h<gs.length)(a:c<gs.length)(b:d<gs.length)(e:h'<gs.length):Vg gs (i,u,h) (c,d,h')=Vg fs (f i,f u,f h) (f c,f d,f h'):=by
 have e1:decide ((c:Int)<(i:Int))=decide ((f c:Int)<(f i:Int)):=by
  have:=E.lt_iff a g;rw[decide_eq_decide];omega
 have e2:((h':Int)==(h:Int))=((f h':Int)==(f h:Int)):=by
  have:=E.inj e j;rw[Bool.eq_iff_iff,qj,qj];omega
 have e3:((d:Int)==(u:Int))=((f d:Int)==(f u:Int)):=by
  have:=E.inj b k;rw[Bool.eq_iff_iff,qj,qj];omega
 unfold Vg;simp only[e1,e2,e3,E.rel b,E.comp g,E.comp a]
theorem Emb.row(C:Cmp fs gs f al al' O O'){r:Nat}{l:List Nat}(n:∀x∈l,x<gs.length):oX c gs al' O' r l↔oX c fs al O r (l.map f):=by
 have m3:∀{a b d:Nat},l.map f= [a,b,d]->∃i u h,l= [i,u,h]/\f i=a/\f u=b/\f h=d:=by
  intro a b d e;rcases l with _| ⟨i,_| ⟨u,_| ⟨h,_| ⟨k,l⟩⟩⟩⟩ <;>simp at e;exact⟨i,u,h,rfl,e.1,e.2.1,e.2.2⟩
 have H:∀{u h:Nat},h<gs.length->uK gs h=2->tW gs h=tW gs u->pV (tW gs u) O'=pV (tW gs u) O:=by
  intro u h g t y;rw[<-y];exact C.O h g t
 rcases r with _|_|_|_|_|r
 .show oX c gs al' O' 0 l↔oX c fs al O 0 (l.map f)
  simp only[oX];constructor
  .rintro⟨i,u,h,T,p,rfl⟩
   have j:=n i jS;have o:=n u jS;have g:=n h jS;exact⟨f i,f u,f h,(E.tri C j o g).1 T,by rw[<-E.ts C j,<-E.way g,<-E.rel o];exact p,rfl⟩
  .rintro⟨a,b,d,T,p,e⟩
   obtain⟨i,u,h,rfl,rfl,rfl,rfl⟩:=m3 e;have j:=n i jS;have o:=n u jS;have g:=n h jS;exact⟨i,u,h,(E.tri C j o g).2 T,by rw[E.ts C j,E.way g,E.rel o];exact p,rfl⟩
 .show oX c gs al' O' 1 l↔oX c fs al O 1 (l.map f)
  simp only[oX];constructor
  .rintro⟨i,u,h,own,T,y,p,rfl⟩
   have j:=n i jS;have o:=n u jS;have g:=n h jS;refine⟨f i,f u,f h,own,(E.tri C j o g).1 T,?_,by rw[<-E.ts C j,<-E.way g,<-E.rel o];exact p,rfl⟩;rw[<-E.out o,<-H g T.kh T.oh];exact y
  .rintro⟨a,b,d,own,T,y,p,e⟩
   obtain⟨i,u,h,rfl,rfl,rfl,rfl⟩:=m3 e;have j:=n i jS;have o:=n u jS;have g:=n h jS;have B:=(E.tri C j o g).2 T;refine⟨i,u,h,own,B,?_,by rw[E.ts C j,E.way g,E.rel o];exact p,rfl⟩;rw[H g B.kh B.oh,E.out o];exact y
 .show oX c gs al' O' 2 l↔oX c fs al O 2 (l.map f)
  simp only[oX];constructor
  .rintro⟨i,u,h,k,T,t,I,p,rfl⟩
   have j:=n i jS;have o:=n u jS;have g:=n h jS;have s:=n k jS;exact⟨f i,f u,f h,f k,(E.tri C j o g).1 T,by rw[<-E.kind s];exact t,by rw[<-E.comp s,<-E.comp j];exact I,by rw[<-E.ts C j,<-E.way g,<-E.rel o,<-E.duty s,<-E.chg o];exact p,rfl⟩
  .rintro⟨a,b,d,m,T,t,I,p,e⟩
   rcases l with _| ⟨i,_| ⟨u,_| ⟨h,_| ⟨k,_| ⟨z,l⟩⟩⟩⟩⟩ <;>simp at e;obtain⟨rfl,rfl,rfl,rfl⟩:=e;have j:=n i jS;have o:=n u jS;have g:=n h jS;have s:=n k jS;exact⟨i,u,h,k,(E.tri C j o g).2 T,by rw[E.kind s];exact t,by rw[E.comp s,E.comp j];exact I,by rw[E.ts C j,E.way g,E.rel o,E.duty s,E.chg o];exact p,rfl⟩
 .show oX c gs al' O' 3 l↔oX c fs al O 3 (l.map f)
  simp only[oX];constructor
  .rintro⟨i,u,h,F,G,h',T,B,hr,p,rfl⟩
   have j:=n i jS;have o:=n u jS;have g:=n h jS;have q:=n F jS;have v:=n G jS;have D:=pf B.kh jD;exact⟨f i,f u,f h,f F,f G,f h',(E.tri C j o g).1 T,(E.tri C q v D).1 B,by rw[<-E.rel o];exact hr,by rw[<-E.skip j o g q v D,<-E.ts C j,<-E.ts C q];exact p,rfl⟩
  .rintro⟨a,b,d,M,b',K,T,B,hr,p,e⟩
   rcases l with _| ⟨i,_| ⟨F,_| ⟨u,_| ⟨G,_| ⟨h,_| ⟨z,l⟩⟩⟩⟩⟩⟩ <;>simp at e;obtain⟨rfl,rfl,rfl,rfl,rfl⟩:=e;have j:=n i jS;have o:=n u jS;have g:=n h jS;have q:=n F jS;have v:=n G jS;have L:K=f h:=by
    unfold Vg at p;simp only[zF,qH,sT,Bool.not_eq_false',qj]at p;omega
   subst L;exact⟨i,u,h,F,G,h,(E.tri C j o g).2 T,(E.tri C q v g).2 B,by rw[E.rel o];exact hr,by rw[E.skip j o g q v g,E.ts C j,E.ts C q];exact p,rfl⟩
 .show oX c gs al' O' 4 l↔oX c fs al O 4 (l.map f)
  simp only[oX];constructor
  .rintro⟨i,h,own,t,y,J,w,A,rfl⟩
   have j:=n i jS;have g:=n h jS;refine⟨f i,f h,own,by rw[<-E.kind j];exact t,?_,by rw[<-E.list j];exact J,by rw[<-E.kind g];exact w,by rw[<-E.out g,<-E.out j];exact A,rfl⟩;rw[<-E.out j,<-H g w A];exact y
  .rintro⟨a,b,own,t,y,J,w,A,e⟩
   rcases l with _| ⟨i,_| ⟨h,_| ⟨z,l⟩⟩⟩ <;>simp at e;obtain⟨rfl,rfl⟩:=e;have j:=n i jS;have g:=n h jS;have k2:uK gs h=2:=by rw[E.kind g];exact w
   have o2:tW gs h=tW gs i:=by rw[E.out g,E.out j];exact A
   refine⟨i,h,own,by rw[E.kind j];exact t,?_,by rw[E.list j];exact J,k2,o2,rfl⟩;rw[H g k2 o2,E.out j];exact y
 .show(c.ls.length=0/\∃h,uK gs h=2/\l= [h])↔(c.ls.length=0/\∃h,uK fs h=2/\l.map f= [h])
  constructor
  .rintro⟨h0,h,t,rfl⟩
   have g:=n h jS;exact⟨h0,f h,by rw[<-E.kind g];exact t,rfl⟩
  .rintro⟨h0,b,t,e⟩
   rcases l with _| ⟨h,_| ⟨z,l⟩⟩ <;>simp at e;subst e;have g:=n h jS;exact⟨h0,h,by rw[E.kind g];exact t,rfl⟩
end
variable{c:Cat}{fs:List Fac}{al:Nat->Option Alt}
def oX.lt{O:KV}{r:Nat}{l:List Nat}(h:oX c fs al O r l):∀x∈l,x<fs.length:=by
 have b:∀{i u k:Nat},TriP fs al i u k->i<fs.length/\u<fs.length/\k<fs.length:=λT=>⟨T.lt,pf T.ku jD,pf T.kh jD⟩;rcases r with _|_|_|_|_|r
 .have h:oX c fs al O 0 l:=h
  simp only[oX]at h;obtain⟨i,u,k,T,_,rfl⟩:=h;have:=b T;intro x a;simp at a;omega
 .have h:oX c fs al O 1 l:=h
  simp only[oX]at h;obtain⟨i,u,k,own,T,_,_,rfl⟩:=h;have:=b T;intro x a;simp at a;omega
 .have h:oX c fs al O 2 l:=h
  simp only[oX]at h;obtain⟨i,u,k,m,T,d,_,_,rfl⟩:=h;have:=b T;have:=pf d jD;intro x a;simp at a;omega
 .have h:oX c fs al O 3 l:=h
  simp only[oX]at h;obtain⟨i,u,k,g,j,k',T,e,_,_,rfl⟩:=h;have:=b T;have:=b e;intro x a;simp at a;omega
 .have h:oX c fs al O 4 l:=h
  simp only[oX]at h;obtain⟨i,k,own,f,_,_,d,_,rfl⟩:=h;have:=pf f jD;have:=pf d jD;intro x a;simp at a;omega
 .have h:c.ls.length=0/\∃h,uK fs h=2/\l= [h]:=h
  obtain⟨_,k,d,rfl⟩:=h;have:=pf d jD;intro x a;simp at a;omega
def cD(fs:List Fac):List Fac:=fs.filter λf=>f.kind==1
theorem ZC:∀{l:List Fac}{t:List (List (List Trm))}{o:List (List UInt8)},(cj c l t o).2.2=0↔∀f∈l,f.kind=1->lJ c f.e=0
 | [],t,o=>by simp[cj]
 |f::fs,t,o=>by
  rw[cj];by_cases h1:(f.kind==1)=true
  .rw[ip h1]
   have j:f.kind=1:=by simpa using h1
   by_cases i:(lJ c f.e==0)=true
   .rw[ip i,ZC]
    have d:lJ c f.e=0:=by simpa using i
    constructor
    .intro h g a b
     rcases yE.1 a with rfl|a
     .exact d
     .exact h g a b
    .exact λh g a b=>h g (yG _ a) b
   .rw[iq i]
    have d:lJ c f.e≠0:=by simpa using i
    constructor
    .exact λh=>absurd h d
    .exact λh=>h f jS j
  .have key:∀k,(cj c fs t k).2.2=0↔∀g∈f::fs,g.kind=1->lJ c g.e=0:=λk=>by
    rw[ZC];constructor
    .intro h g a b
     rcases yE.1 a with rfl|a
     .exact absurd (by simpa using b) h1
     .exact h g a b
    .exact λh g a b=>h g (yG _ a) b
   rw[iq h1];split<;>exact key _
theorem fp:∀{l:List Fac}{t:List (List (List Trm))}{o:List (List UInt8)},(cj c l t o).2.2=0->(cj c l t o).1=t++(cD l).map λf=>ofL c f.e
 | [],t,o,_=>by simp[cj,cD]
 |f::fs,t,o,h=>by
  rw[cj]at h⊢;by_cases h1:(f.kind==1)=true
  .rw[ip h1]at h⊢
   by_cases a:(lJ c f.e==0)=true
   .rw[ip a]at h⊢
    have e:cD (f::fs)=f::cD fs:=tK (by exact h1);rw[fp h,e,qV,yY];rfl
   .rw[iq a]at h
    exact absurd h (by simpa using a)
  .have e:cD (f::fs)=cD fs:=tJ (by exact h1)
   rw[iq h1]at h⊢;rw[e];split at h
   .rename_i q;rw[ip q];exact fp h
   .rename_i q;rw[iq q];exact fp h
theorem LA{f:Nat->Int} :∀{n:Nat},JD f n=none->∀j,j<n->f j=0
 |0,_,j,a=>by omega
 |n+1,h,j,a=>by
  rw[JD]at h;split at h
  .cases h
  .rename_i q
   split at h
   .rename_i b
    rcases zx.1 a with p|rfl
    .exact LA q j p
    .simpa using b
   .cases h
def jd{l:List Fac} :(wj c l).2=0↔pR c=0/\l.length<=256/\∀f∈l,lE c f=0:=by
 have g:(∀j,j<l.length->rh c l j=0)↔∀f∈l,lE c f=0:=by
  constructor
  .intro h f hf
   obtain⟨j,a,rfl⟩:=zy.1 hf;have:=h j a;unfold rh at this;rw[zB a]at this;exact this
  .intro h j a
   unfold rh;rw[zB a];exact h _ (zI a)
 unfold wj;by_cases h1:(!(pR c==0))=true
 .rw[ip h1]
  have:pR c≠0:=by simpa using h1
  constructor
  .intro h;exact absurd h jD
  .exact λh=>absurd h.1 this
 .rw[iq h1]
  have d:pR c=0:=by simpa using h1
  by_cases b:decide ((l.length:Int)>256)=true
  .rw[ip b]
   have:=yB b;constructor
   .intro h;exact absurd h jD
   .intro h;omega
  .rw[iq b]
   have e:l.length<=256:=by
    have:¬(l.length:Int)>256:=λq=>b (zR q);omega
   rw[<-g];cases hf:JD (rh c l) l.length with
   |none=>exact⟨λ_=>⟨d,e,LA hf⟩,λ_=>rfl⟩
   |some p=>
    constructor
    .intro h
     have i:p.2≠0/\p.1<l.length/\rh c l p.1=p.2:=by
      generalize l.length=n at hf
      induction n with
      |zero=>cases hf
      |succ n k=>
       rw[JD]at hf;split at hf
       .rename_i q
        cases hf;have:=k q;exact⟨this.1,ow,this.2.2⟩
       .split at hf
        .cases hf
        .rename_i q
         cases hf;exact⟨by simpa using q,ow,rfl⟩
     exact absurd h i.1
    .rintro⟨_,_,h⟩
     rw[aI h]at hf;cases hf
structure Whole(c:Cat)(fs:List Fac)(y:Cho):Prop where
 cat:pR c=0
 len:fs.length<=256
 fact:∀f∈fs,lE c f=0
 of:∀f∈fs,f.kind=1->lJ c f.e=0
 tl:y.ts.length=(cD fs).length
 ts:∀i (h:i<y.ts.length)(f:Fac),(cD fs)[i]? =some f->(y.ts[i]).ts∈ofL c f.e
 ol:y.own.length=(t4 fs []).length
 own:∀s∈y.own,(c.ls.any λx=>x.name==s)=true
def TX{f:Nat->Int} :gI f n=0↔∀i,i<n->f i=0:=⟨λh i a=>aH h i a,λh=>tg h⟩
def VI{y:Cho} :qP c fs y false=0↔Whole c fs y:=by
 have p:(yV c fs).2.2=0↔(wj c fs).2=0/\∀f∈fs,f.kind=1->lJ c f.e=0:=by
  unfold yV;by_cases h:(!((wj c fs).2==0))=true
  .rw[ip h]
   have:(wj c fs).2≠0:=by simpa using h
   exact⟨λq=>absurd q this,λq=>absurd q.1 this⟩
  .rw[iq h,ZC]
   have:(wj c fs).2=0:=by simpa using h
   exact⟨λq=>⟨this,q⟩,λq=>q.2⟩
 have A:(yV c fs).2.2=0->(yV c fs).1=(cD fs).map (λf=>ofL c f.e)/\(yV c fs).2.1=t4 fs []:=by
  intro h0;have w:=(p.1 h0).1;unfold yV at h0⊢;rw[iq (by rw[w];decide)]at h0⊢;exact⟨by rw[fp h0,yL],(jQ h0).2⟩
 unfold qP;by_cases h0:(!((yV c fs).2.2==0))=true
 .rw[ip h0]
  have a:(yV c fs).2.2≠0:=by simpa using h0
  constructor
  .intro h;exact absurd h a
  .intro W
   exact absurd (p.2 ⟨jd.2 ⟨W.cat,W.len,W.fact⟩,W.of⟩) a
 rw[iq h0];have a:(yV c fs).2.2=0:=by simpa using h0
 obtain⟨k,o⟩:=p.1 a;obtain⟨r,t,u⟩:=jd.1 k;obtain⟨E,F⟩:=A a;rw[E,F];by_cases h1:(!((y.ts.length:Int)==(((cD fs).map λf=>ofL c f.e).length:Int))|| !((y.own.length:Int)==((t4 fs []).length:Int)))=true
 .rw[ip h1]
  constructor
  .intro h;exact absurd h jD
  .intro W
   rw[zH,W.tl,W.ol]at h1;simp at h1
 rw[iq h1];have m:y.ts.length=(cD fs).length/\y.own.length=(t4 fs []).length:=by
  rw[zH]at h1;simp only[qN,qH,yf,ne_eq,Wd,Decidable.not_not]at h1;omega
 have g:(∀i,i<y.ts.length->mN ((cD fs).map λf=>ofL c f.e) y.ts false i=0)↔∀i (h:i<y.ts.length)(f:Fac),(cD fs)[i]? =some f->(y.ts[i]).ts∈ofL c f.e:=by
  have key:∀i (h:i<y.ts.length),mN ((cD fs).map λf=>ofL c f.e) y.ts false i=0↔(y.ts[i]).ts∈ofL c ((cD fs)[i]'ow).e:=by
   intro i h;unfold mN;rw[zB h];simp only[wR,zf,yr];have z:((cD fs).map λf=>ofL c f.e).getD i []=ofL c ((cD fs)[i]'ow).e:=by
    rw[zC,zh,zB ow];rfl
   rw[z];by_cases q:(ofL c ((cD fs)[i]'ow).e).any (λb=>QZ (y.ts[i]).ts b)=true
   .rw[iq (by rw[q];decide)]
    obtain⟨b,v,e⟩:=qF.1 q;rw[(ly _ _).1 e];exact⟨λ_=>v,λ_=>rfl⟩
   .rw[ip (by simpa using q)]
    constructor
    .intro h;exact absurd h jD
    .intro B
     exact absurd (qF.2 ⟨_,B,(ly _ _).2 rfl⟩) q
  constructor
  .intro h i d f hf
   have l:=(key i d).1 (h i d);rw[zB ow]at hf;cases hf;exact l
  .intro h i d
   exact(key i d).2 (h i d _ (zB ow))
 have n:(∀i,i<y.own.length->Ps c y.own false i=0)↔∀s∈y.own,(c.ls.any λx=>x.name==s)=true:=by
  have key:∀i (h:i<y.own.length),Ps c y.own false i=0↔(c.ls.any λx=>x.name==y.own[i])=true:=by
   intro i h;unfold Ps;rw[zB h];simp only[wR,zf,yr];cases(c.ls.any λx=>x.name==y.own[i])<;>simp
  constructor
  .intro h s C
   obtain⟨i,d,rfl⟩:=zy.1 C;exact(key i d).1 (h i d)
  .exact λh i d=>(key i d).2 (h _ (zI d))
 by_cases l:(!(gI (mN ((cD fs).map λf=>ofL c f.e) y.ts false) y.ts.length==0))=true
 .rw[ip l]
  have j:gI (mN ((cD fs).map λf=>ofL c f.e) y.ts false) y.ts.length≠0:=by simpa using l
  constructor
  .intro h;exact absurd h j
  .intro W
   exact absurd (TX.2 (g.2 W.ts)) j
 rw[iq l];have j:gI (mN ((cD fs).map λf=>ofL c f.e) y.ts false) y.ts.length=0:=by simpa using l
 have D:=g.1 (TX.1 j);rw[TX,n];exact⟨λh=>⟨r,t,u,o,m.1,D,m.2,h⟩,λW=>W.own⟩
def zw(fs:List Fac)(I:List Nat):List Fac:=I.filterMap λi=>fs[i]?
def az(y:Cho)(fs:List Fac)(I:List Nat):List Alt:=(I.filter λi=>uK fs i==1).map λi=>nn y (kY fs i)
def zDF(y:Cho)(outs names:List (List UInt8)):List (List UInt8):=names.map λo=>lK y (outs.findIdx λz=>z==o)
structure InI(fs:List Fac)(I:List Nat):Prop where
 lt:∀i∈I,i<fs.length
 inc:I.Pairwise (· < ·)
def Qb{p:α->Bool}{l:List α}{x:α}(h:l[j]? =some x)(b:p x=true):(l.filter p)[((l.take j).filter p).length]? =some x:=by
 obtain⟨a,rfl⟩:=zK.1 h;have e:l.filter p=(l.take j).filter p++(l[j]::(l.drop (j+1)).filter p):=by
  conv=>lhs;rw[<-yk j l,t8,z8 a,tK b]
 rw[e,yT (zD _),lv,wJ]
section
variable{fs:List Fac}{I:List Nat}
theorem dV:∀{I:List Nat},(∀i∈I,i<fs.length)->∀j:Nat,(zw fs I)[j]? =I[j]?.bind λi=>fs[i]?
 | [],_,j=>by simp[zw]
 |i::I,h,j=>by
  have a:=h i jS;have e:zw fs (i::I)=fs[i]::zw fs I:=by
   unfold zw;rw[sf (zB a)]
  rw[e];cases j with
  |zero=>simp[zB a]
  |succ j=>
   rw[wb,wb];exact dV (λx b=>h x (yG _ b)) j
theorem tT:∀{I:List Nat},(∀i∈I,i<fs.length)->(zw fs I).length=I.length
 | [],_=>rfl
 |i::I,h=>by
  have a:=h i jS;have e:zw fs (i::I)=fs[i]::zw fs I:=by
   unfold zw;rw[sf (zB a)]
  rw[e,zu,zu,tT λx b=>h x (yG _ b)]
def JA(I J:List Nat):zw fs (I++J)=zw fs I++zw fs J:=by unfold zw;rw[gb]
def oF{f:Fac}(h:f∈zw fs I):f∈fs:=by
 obtain⟨i,_,e⟩:=List.mem_filterMap.1 h;exact zj e
theorem jv:∀{I:List Nat},(∀i∈I,i<fs.length)->cD (zw fs I)=zw fs (I.filter λi=>uK fs i==1)
 | [],_=>rfl
 |i::I,h=>by
  have a:=h i jS;have c:=jv (I:=I) λx d=>h x (yG _ d);have e:zw fs (i::I)=fs[i]::zw fs I:=by
   unfold zw;rw[sf (zB a)]
  have b:=rp a;rw[e];by_cases q:(fs[i].kind==1)=true
  .have e1:cD (fs[i]::zw fs I)=fs[i]::cD (zw fs I):=tK (by exact q)
   rw[e1,c,tK (by rw[b];exact q)];unfold zw;rw[sf (zB a)]
  .have e1:cD (fs[i]::zw fs I)=cD (zw fs I):=tJ (by exact q)
   rw[e1,c,tJ (by rw[b];exact q)]
def InI.emb(H:InI fs I):Emb fs (zw fs I) (λj=>I.getD j 0):=by
 have e:=tT H.lt;refine⟨λj d=> ?_,λi j c d=> ?_⟩
 .have a:j<I.length:=ow
  rw[dV H.lt,zB a,zC,zB a];rfl
 .have a:j<I.length:=ow
  have b:i<I.length:=ow;show I.getD i 0<I.getD j 0;rw[zC,zC,zB a,zB b];exact uo.1 H.inc i j b a c
def Nm(b:∀i∈I,i<fs.length) :kY (zw fs I) j=((I.take j).filter λi=>uK fs i==1).length:=by
 have e:(zw fs I).take j=zw fs (I.take j):=by
  rcases Nat.le_total j I.length with h|h
  .conv=>lhs;rw[<-yk j I,JA]
   have:(zw fs (I.take j)).length=j:=by
    rw[tT λx c=>b x (sV c),yK];omega
   rw[qm ow,yO ow]
  .rw[yO (by rw[tT b];exact h),yO h]
 have a:∀i∈I.take j,i<fs.length:=λx c=>b x (sV c);show(cD ((zw fs I).take j)).length=_;rw[e,jv a,tT λi d=>a i (wO.1 d).1]
def Am(h:i<fs.length)(a:uK fs i=1):(cD fs)[kY fs i]? =some fs[i]:=by
 rw[rp h]at a;exact Qb (zB h) (by simp[a])
theorem ny:∀{l:List Fac}{o:List (List UInt8)}{s:List UInt8},s∈t4 l o↔s∈o\/∃f∈l,f.kind=2/\f.out=s
 | [],o,s=>by simp[t4]
 |f::fs,o,s=>by
  rw[t4];by_cases h1:(f.kind==1)=true
  .rw[ip h1,ny]
   have d:f.kind=1:=by simpa using h1
   constructor
   .rintro(h| ⟨g,a,h⟩)
    .exact .inl h
    .exact .inr ⟨g,yG _ a,h⟩
   .rintro(h| ⟨g,a,h,e⟩)
    .exact .inl h
    .rcases yE.1 a with rfl|a
     .omega
     .exact .inr ⟨g,a,h,e⟩
  rw[iq h1];by_cases c:(f.kind==2)=true
  .rw[ip c,ny]
   have b:f.kind=2:=by simpa using c
   have key:(s∈if(o.any λz=>z==f.out)=true then o else o++ [f.out])↔s∈o\/f.out=s:=by
    by_cases q:(o.any λz=>z==f.out)=true
    .rw[ip q]
     constructor
     .exact .inl
     .rintro(h|rfl)
      .exact h
      .obtain⟨z,i,e⟩:=qF.1 q
       have:z=f.out:=by simpa using e
       rw[<-this];exact i
    .rw[iq q]
     simp only[yv,zi];constructor
     .rintro(h|rfl)
      .exact .inl h
      .exact .inr rfl
     .rintro(h|rfl)
      .exact .inl h
      .exact .inr rfl
   rw[key];constructor
   .rintro((h|h)| ⟨g,a,h⟩)
    .exact .inl h
    .exact .inr ⟨f,jS,b,h⟩
    .exact .inr ⟨g,yG _ a,h⟩
   .rintro(h| ⟨g,a,h,e⟩)
    .exact .inl (.inl h)
    .rcases yE.1 a with rfl|a
     .exact .inl (.inr e)
     .exact .inr ⟨g,a,h,e⟩
  .rw[iq c,ny]
   have b:f.kind≠2:=by simpa using c
   constructor
   .rintro(h| ⟨g,a,h⟩)
    .exact .inl h
    .exact .inr ⟨g,yG _ a,h⟩
   .rintro(h| ⟨g,a,h,e⟩)
    .exact .inl h
    .rcases yE.1 a with rfl|a
     .exact absurd h b
     .exact .inr ⟨g,a,h,e⟩
def Ak(y:Cho)(outs:List (List UInt8))(o:List UInt8):Option (List UInt8):=
 if o∈outs/\lK y (outs.findIdx λz=>z==o)≠[]then some (lK y (outs.findIdx λz=>z==o))else none
theorem XN{y:Cho} :∀k,k<=fs.length->∀o,pV o (qI y fs k).O=Ak y (qI y fs k).outs o
 |0,_,o=>by simp[qI,Ak,pV]
 |k+1,l,o=>by
  have d:=XN (y:=y) k ow;have g:k<fs.length:=ow;rw[lS g];split
  .split<;>exact d o
  split
  .split
   .exact d o
   .rename_i f
    have f:fs[k].out∉(qI y fs k).outs:=λc=>f (qF.2 ⟨_,c,jS⟩);generalize(qI y fs k).outs=a at *
    generalize(qI y fs k).O=O at *
    generalize fs[k].out=s at *
    show pV o (if(!(lK y a.length== []))=true then bF s (lK y a.length) O else O)=Ak y (a++ [s]) o
    have i:(a++ [s]).findIdx (λz=>z==s)=a.length:=by
     rw[ct]
     have:a.findIdx (λz=>z==s)=a.length:=List.findIdx_eq_length.2 λz j=>by
      have:z≠s:=λe=>f (e▸j);simpa using this
     rw[iq ow];simp[List.findIdx_cons]
    have h:o∈a->(a++ [s]).findIdx (λz=>z==o)=a.findIdx (λz=>z==o):=λc=>by
     rw[ct];rw[ip (o8.2 ⟨o,c,jS⟩)]
    have b:∀v,pV o (bF s v O)=if o=s then some v else pV o O:=λv=>by
     rw[Qv];by_cases e:o=s
     .rw[ip e,ip (by simpa using e)]
     .rw[iq e,iq (by simpa using e)]
    by_cases e:o=s
    .subst e
     unfold Ak;rw[i];by_cases q:lK y a.length= []
     .rw[iq (by simp[q]),iq (by simp[q]),d o,Ak,iq (by simp[f])]
     .rw[ip (by simpa using q),b,ip rfl,ip ⟨jS,q⟩]
    .have h1:pV o (if(!(lK y a.length== []))=true then bF s (lK y a.length) O else O)=pV o O:=by
      split
      .rw[b,iq e]
      .rfl
     rw[h1,d o];unfold Ak;by_cases c:o∈a
     .rw[h c]
      simp[c]
     .rw[iq (by simp[c]),iq (by simp[c,e])]
  .exact d o
def zB9{y:Cho}{b a:List (List UInt8)}{o:List UInt8}(h:o∈a):lK ⟨la,zDF y b a⟩ (a.findIdx λz=>z==o)=lK y (b.findIdx λz=>z==o):=by
 have c:a.findIdx (λz=>z==o)<a.length:=o8.2 ⟨o,h,jS⟩;have d:a[a.findIdx λz=>z==o]=o:=by
  have:=List.findIdx_getElem (w:=c);simpa using this
 show(zDF y b a).getD _ []=_;unfold zDF;rw[zC,zh,zB c,d];rfl
end
def bO(y:Cho)(fs:List Fac)(I:List Nat):Cho:=⟨az y fs I,zDF y (t4 fs []) (t4 (zw fs I) [])⟩
section
variable{c:Cat}{fs:List Fac}{y:Cho}{I:List Nat}
def PG{o:List UInt8}(h:o∈t4 (zw fs I) []):o∈t4 fs []:=by
 rw[ny]at h⊢;rcases h with h| ⟨f,hf,h⟩
 .cases h
 .exact .inr ⟨f,oF hf,h⟩
def J2(W:Whole c fs y)(h:i<fs.length)(b:uK fs i=1):(nn y (kY fs i)).ts∈ofL c fs[i].e:=by
 have h1:=Am h b;have a:kY fs i<y.ts.length:=by rw[W.tl];exact(zK.1 h1).1
 have:=W.ts _ a _ h1;unfold nn;rw[zC,zB a];exact this
def Hv(W:Whole c fs y){o:List UInt8}(h:o∈t4 fs []):lK y ((t4 fs []).findIdx λz=>z==o)∈y.own:=by
 have a:(t4 fs []).findIdx (λz=>z==o)<y.own.length:=by rw[W.ol];exact o8.2 ⟨o,h,jS⟩
 unfold lK;rw[zC,zB a];exact zI a
def Jd(H:InI fs I):(az y fs I).length=(cD (zw fs I)).length:=by
 unfold az;rw[zH,jv H.lt,tT λi a=>H.lt i (wO.1 a).1]
def JQ(W:Whole c fs y)(H:InI fs I)(hlen:I.length<=256):Whole c (zw fs I) (bO y fs I) where
 cat:=W.cat
 len:=by rw[tT H.lt];exact hlen
 fact:=λf hf=>W.fact f (oF hf)
 of:=λf hf hk=>W.of f (oF hf) hk
 tl:=Jd H
 ts:=λi hi f hf=>by
  have hI':∀i∈I.filter (λi=>uK fs i==1),i<fs.length:=λi hi=>H.lt i (wO.1 hi).1;rw[jv H.lt,dV hI']at hf;have hi2:i<(I.filter λi=>uK fs i==1).length:=by
   have:i<(az y fs I).length:=hi;unfold az at this
   rwa [zH]at this
  rw[zB hi2]at hf;obtain⟨hm,hk⟩:=wO.1 (zI hi2);have hlt:=H.lt _ hm;have hf:fs[(I.filter λi=>uK fs i==1)[i]]? =some f:=hf;rw[zB hlt]at hf;cases hf
  have:((bO y fs I).ts[i])=nn y (kY fs (I.filter λi=>uK fs i==1)[i]):=by
   show(az y fs I)[i]=_;simp only[az,uY]
  rw[this];exact J2 W hlt (by simpa using hk)
 ol:=by show(zDF _ _ _).length=_;unfold zDF;rw[zH]
 own:=λs hs=>by
  obtain⟨o,ho,rfl⟩:=zN.1 hs;exact W.own _ (Hv W (PG ho))
def DE(W:Whole c fs y)(H:InI fs I):Cmp fs (zw fs I) (λj=>I.getD j 0) (alS fs y) (alS (zw fs I) (bO y fs I)) (qI y fs fs.length).O (qI (bO y fs I) (zw fs I) (zw fs I).length).O where
 al:=λj hj=>by
  have E:=H.emb;have hjI:j<I.length:=by rw[tT H.lt]at hj;exact hj
  have hgd:I.getD j 0=I[j]:=by rw[zC,zB hjI];rfl
  have hlt:=H.lt _ (zI hjI);have hget:=E.get j hj;show alS (zw fs I) (bO y fs I) j=alS fs y (I.getD j 0);have hget:(zw fs I)[j]? =some fs[I[j]]:=by
   have:(zw fs I)[j]? =fs[I.getD j 0]? :=hget;rw[this,hgd,zB hlt]
  unfold alS;rw[hget,hgd,zB hlt];by_cases hk:(fs[I[j]].kind==1)=true
  .simp only[ip hk]
   have hk1:uK fs I[j]=1:=by rw[rp hlt];simpa using hk
   have ha:nn (bO y fs I) (kY (zw fs I) j)=nn y (kY fs I[j]):=by
    have:=Qb (p:=λi=>uK fs i==1) (zB hjI) (by simpa using hk1);rw[Nm H.lt];show(az y fs I).getD _ _=_;unfold az;rw[zC,zh,this];rfl
   rw[ha]
  .simp only[iq hk]
 O:=λj hj hk=>by
  have hjf:=(zB hj);have hm:tW (zw fs I) j∈t4 (zw fs I) []:=by
   rw[ny];refine .inr ⟨_,zI hj,by rw[<-rp hj];exact hk,(Tv hj).symm⟩
  rw[XN _ (zD _),XN _ (zD _),lR _ (zD _),lR _ (zD _),zt,zt];unfold Ak;have e:lK (bO y fs I) ((t4 (zw fs I) []).findIdx λz=>z==tW (zw fs I) j)=lK y ((t4 fs []).findIdx λz=>z==tW (zw fs I) j):=zB9 hm;rw[e];have hm2:=PG hm;simp only[hm,hm2,zQ]
end
def Q9{l:List Int}{x:Int} :x∈jx l↔x∈l:=by unfold jx;rw[I4 NR,bV]
section
variable{c:Cat}{fs:List Fac}{y:Cho}{I:List Nat}
def ZJ{v:Vio} :v∈pW c fs y↔∃i:Nat,i<6/\v.row=(i:Int)/\∃l,oX c fs (alS fs y) (qI y fs fs.length).O i l/\jx (l.map λn:Nat=>(n:Int))=v.facts:=by
 rw[G6];constructor
 .rintro⟨i,h1,a,z,d,e⟩
  obtain⟨l,b,rfl⟩:=LU.1 d;exact⟨i,h1,a,l,b,e⟩
 .rintro⟨i,h1,a,l,b,e⟩
  exact⟨i,h1,a,_,LU.2 ⟨l,b,rfl⟩,e⟩
def Tz(W:Whole c fs y)(H:InI fs I)(h0:pW c fs y= []):pW c (zw fs I) (bO y fs I)= []:=by
 rw[List.eq_nil_iff_forall_not_mem];intro v b;obtain⟨i,h1,d,l,a,e⟩:=ZJ.1 b;have h3:=((H.emb).row (DE W H) (c:=c) (r:=i) a.lt).1 a
 have:(⟨(i:Int),jx ((l.map λj=>I.getD j 0).map λn:Nat=>(n:Int))⟩:Vio)∈pW c fs y:=ZJ.2 ⟨i,h1,rfl,_,h3,rfl⟩;rw[h0]at this;cases this
end
end Go.V
