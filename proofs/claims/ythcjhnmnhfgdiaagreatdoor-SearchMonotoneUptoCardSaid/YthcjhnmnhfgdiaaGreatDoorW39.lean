/- None, part 1. No condition. -/
import Derived.Test.YthcjhnmnhfgdiaaGreatDoorW38
set_option linter.all false
set_option maxHeartbeats 8000000
namespace Go.V
open List hiding max min map and or get le lt range extract
open Nat(zero_le le_refl le_trans lt_irrefl le_of_lt lt_of_lt_of_le lt_of_le_of_lt lt_succ_iff_lt_or_eq le_of_lt_succ)
set_option maxRecDepth 100000
def qF (fs:List Fac) (i:Nat):Int:=match fs[i]? with
 |some f=>f.kind
 |none=> -1
theorem d9 {p:Fac->Bool} :∀ {l:List Fac} {k i:Nat},i∈qA p l k↔k<=i/\∃h:i-k<l.length,p l[i-k]=true
 | [],k,i=>by simp[qA]
 |f::l,k,i=>by
  have b:=d9 (p:=p) (l:=l) (k:=k+1) (i:=i);have key:(i∈qA p (f::l) k)↔(p f=true/\i=k)\/i∈qA p l (k+1):=by
   rw[qA];split
   ·rename_i h;simp[h]
   ·rename_i h;simp[h]
  rw[key,b];constructor
  ·rintro(⟨h1,rfl⟩ | ⟨h1,a,h3⟩)
   ·exact⟨le_refl _,by simp,by simpa using h1⟩
   ·refine⟨by omega,by simp only[length_cons];omega,?_⟩
    have:i-k=(i- (k+1))+1:=ow;simp only[this,getElem_cons_succ];exact h3
  ·rintro⟨h1,a,h3⟩;by_cases e:i=k
   ·subst e;left;exact⟨by simpa using h3,rfl⟩
   ·right
    have:i-k=(i- (k+1))+1:=ow;simp only[this,getElem_cons_succ] at h3;exact⟨by omega,by simp only[length_cons] at a;omega,h3⟩
variable {N:Int}{fs:List Fac}{i j n:Nat}{al:Nat->Option Alt}{α:Type}{b:Bool}{c:Cat}{la:List Alt}
def V1 {q:Fac->Bool} :i∈fIx N q fs↔∃h:i<fs.length,fs[i].kind=N/\q fs[i]=true:=by
 unfold fIx;rw[d9];simp only[zero_le,Nat.sub_zero,true_and,isF,Bool.and_eq_true,beq_iff_eq]
def wg (h:i<fs.length):qF fs i=fs[i].kind:=by
 unfold qF;rw[getElem?_eq_getElem h]
def ww {k:Int} (h:qF fs i=k) (a:0<=k):i<fs.length:=by
 unfold qF at h;split at h
 ·rename_i q;exact(List.getElem?_eq_some_iff.1 q).1
 ·omega
def WB (h:i<fs.length):wB fs i=fs[i].comp:=by
 unfold wB;rw[getElem?_eq_getElem h]
def Z4 (h:i<fs.length):qV fs i=fs[i].out:=by
 unfold qV;rw[getElem?_eq_getElem h]
def gX {k:Int} (b:0<=k) :j∈fIx k (λg=>g.comp==wB fs i) fs↔qF fs j=k/\wB fs j=wB fs i:=by
 rw[V1];constructor
 ·rintro⟨h,h1,a⟩;exact⟨by rw[wg h,h1],by rw[WB h];simpa using a⟩
 ·rintro⟨h1,a⟩;have h:=ww h1 b;exact⟨h,by rw[<-wg h,h1],by rw[WB h] at a;simpa using a⟩
def Z5 {k:Int} (b:0<=k) :j∈fIx k (λg=>g.out==qV fs i) fs↔qF fs j=k/\qV fs j=qV fs i:=by
 rw[V1];constructor
 ·rintro⟨h,h1,a⟩;exact⟨by rw[wg h,h1],by rw[Z4 h];simpa using a⟩
 ·rintro⟨h1,a⟩;have h:=ww h1 b;exact⟨h,by rw[<-wg h,h1],by rw[Z4 h] at a;simpa using a⟩
def gY {k:Int} (a:0<=k) :j∈fIx k (λ_=>true) fs↔qF fs j=k:=by
 rw[V1];constructor
 ·rintro⟨h,h1,_⟩;rw[wg h,h1]
 ·intro h1;have h:=ww h1 a;exact⟨h,by rw[<-wg h,h1],rfl⟩
structure TriP (fs:List Fac) (al:Nat->Option Alt) (i u h:Nat):Prop where
 lt:i<fs.length
 al:(al i).isSome=true
 ku:qF fs u=0
 cu:wB fs u=wB fs i
 kh:qF fs h=2
 oh:qV fs h=qV fs u
def wx {t:Tri} :t∈yB fs al↔TriP fs al t.1 t.2.1 t.2.2:=by
 unfold yB;rw[mem_flatMap];constructor
 ·rintro⟨i,e,a⟩;unfold QP at a;split at a
  ·rename_i d;rw[mem_flatMap] at a;obtain⟨u,c,a⟩:=a;unfold QO at a;rw[mem_map] at a;obtain⟨h,b,rfl⟩:=a;rw[gX (by decide)] at c;rw[Z5 (by decide)] at b;exact⟨mem_range.1 e,d,c.1,c.2,b.1,b.2⟩
  ·cases a
 ·intro h;obtain⟨i,u,k⟩:=t;refine⟨i,mem_range.2 h.lt,?_⟩;unfold QP;rw[ip h.al,mem_flatMap];refine⟨u,(gX (by decide)).2 ⟨h.ku,h.cu⟩,?_⟩;unfold QO;exact mem_map.2 ⟨k,(Z5 (by decide)).2 ⟨h.kh,h.oh⟩,rfl⟩
def uh (c:Cat) (fs:List Fac) (al:Nat->Option Alt) (O:KV):Nat->List Nat->Prop
 |0,l=>∃i u h,TriP fs al i u h/\Vq c (jl al i) (py fs h) (tZ fs u) 5 (λ_=>true)=true/\l= [i,u,h]
 |1,l=>∃i u h own,TriP fs al i u h/\wp (qV fs u) O=some own/\Vq c (jl al i) (py fs h) (tZ fs u) 4 (dq own)=true/\l= [i,u,h]
 |2,l=>∃i u h k,TriP fs al i u h/\qF fs k=4/\wB fs k=wB fs i/\((!(lu fs k==2)||Vr fs u)&&Vq c (jl al i) (py fs h) (tZ fs u) (lu fs k) (λ_=>true))=true/\l= [i,u,h,k]
 |3,l=>∃i u h i' u' h',TriP fs al i u h/\TriP fs al i' u' h'/\(tZ fs u==0)=true/\(!(cd fs (i,u,h) (i',u',h'))&&DU c (jl al i) (jl al i'))=true/\l= [i,i',u,u',h]
 |4,l=>∃i h own,qF fs i=3/\wp (qV fs i) O=some own/\((dw fs i).any λs=>s==own)=false/\qF fs h=2/\qV fs h=qV fs i/\l= [i,h]
 |_,l=>c.ls.length=0/\∃h,qF fs h=2/\l= [h]
def ox {x y:α} :(y∈if b=true then [x] else [])↔b=true/\y=x:=by
 cases b<;>simp
def RD {O:KV} {r:Nat} {z:List Int} :z∈mR c fs al O r↔∃l,uh c fs al O r l/\z=l.map λn:Nat=>(n:Int):=by
 rcases r with _|_|_|_|_|r
 ·show z∈mR c fs al O 0↔∃l,uh c fs al O 0 l/\z=l.map λn:Nat=>(n:Int);simp only[mR,uh];rw[mem_flatMap];constructor
  ·rintro⟨t,d,a⟩;rw[wx] at d;unfold we at a;rw[ox] at a;exact⟨_,⟨t.1,t.2.1,t.2.2,d,a.1,rfl⟩,a.2⟩
  ·rintro⟨l,⟨i,u,h,d,b,rfl⟩,rfl⟩;refine⟨(i,u,h),wx.2 d,?_⟩;unfold we;rw[ox];exact⟨b,rfl⟩
 ·show z∈mR c fs al O 1↔∃l,uh c fs al O 1 l/\z=l.map λn:Nat=>(n:Int);simp only[mR,uh];rw[mem_flatMap];constructor
  ·rintro⟨t,d,a⟩;rw[wx] at d;unfold uk at a;split at a
   ·cases a
   ·rename_i own f;rw[ox] at a;exact⟨_,⟨t.1,t.2.1,t.2.2,own,d,f,a.1,rfl⟩,a.2⟩
  ·rintro⟨l,⟨i,u,h,own,d,f,b,rfl⟩,rfl⟩;refine⟨(i,u,h),wx.2 d,?_⟩;unfold uk;simp only[f];rw[ox];exact⟨b,rfl⟩
 ·show z∈mR c fs al O 2↔∃l,uh c fs al O 2 l/\z=l.map λn:Nat=>(n:Int);simp only[mR,uh];rw[mem_flatMap];constructor
  ·rintro⟨t,d,a⟩;rw[wx] at d;unfold nQ at a;rw[mem_flatMap] at a;obtain⟨k,j,a⟩:=a;rw[gX (by decide)] at j;unfold mO at a;rw[ox] at a;exact⟨_,⟨t.1,t.2.1,t.2.2,k,d,j.1,j.2,a.1,rfl⟩,a.2⟩
  ·rintro⟨l,⟨i,u,h,k,d,j,s,b,rfl⟩,rfl⟩;refine⟨(i,u,h),wx.2 d,?_⟩;unfold nQ;rw[mem_flatMap];refine⟨k,(gX (by decide)).2 ⟨j,s⟩,?_⟩;unfold mO;rw[ox];exact⟨b,rfl⟩
 ·show z∈mR c fs al O 3↔∃l,uh c fs al O 3 l/\z=l.map λn:Nat=>(n:Int);simp only[mR,uh];rw[mem_flatMap];constructor
  ·rintro⟨t,d,a⟩;rw[wx] at d;unfold wv at a;split at a
   ·rename_i hr;rw[mem_flatMap] at a;obtain⟨p,e,a⟩:=a;rw[wx] at e;unfold t6 at a;rw[ox] at a;exact⟨_,⟨t.1,t.2.1,t.2.2,p.1,p.2.1,p.2.2,d,e,hr,a.1,rfl⟩,a.2⟩
   ·cases a
  ·rintro⟨l,⟨i,u,h,v,w,h',d,e,hr,b,rfl⟩,rfl⟩;refine⟨(i,u,h),wx.2 d,?_⟩;unfold wv;rw[ip hr,mem_flatMap];refine⟨(v,w,h'),wx.2 e,?_⟩;unfold t6;rw[ox];exact⟨b,rfl⟩
 ·show z∈mR c fs al O 4↔∃l,uh c fs al O 4 l/\z=l.map λn:Nat=>(n:Int);simp only[mR,uh];rw[mem_flatMap];constructor
  ·rintro⟨i,m,a⟩;rw[gY (by decide)] at m;unfold pC at a;split at a
   ·cases a
   ·rename_i own f;split at a
    ·cases a
    ·rename_i g;rw[mem_flatMap] at a;obtain⟨h,b,a⟩:=a;unfold dy at a;rw[mem_singleton] at a;have b:=(Z5 (by decide)).1 b;exact⟨_,⟨i,h,own,m,f,Bool.eq_false_iff.2 g,b.1,b.2,rfl⟩,a⟩
  ·rintro⟨l,⟨i,h,own,m,f,g,b,o,rfl⟩,rfl⟩;refine⟨i,(gY (by decide)).2 m,?_⟩;unfold pC;simp only[f];rw[iq (by rw[g];decide),mem_flatMap];refine⟨h,(Z5 (by decide)).2 ⟨b,o⟩,?_⟩;unfold dy;exact mem_singleton.2 rfl
 ·show z∈dz c fs↔∃l,(c.ls.length=0/\∃h,qF fs h=2/\l= [h])/\z=l.map λn:Nat=>(n:Int);unfold dz;constructor
  ·intro a;split at a
   ·cases a
   ·rename_i g;rw[mem_flatMap] at a;obtain⟨h,b,a⟩:=a;rw[gY (by decide)] at b;unfold X1 at a;rw[mem_singleton] at a;exact⟨_,⟨by have:¬(c.ls.length:Int)>0:=λq=>g (decide_eq_true q);omega,h,b,rfl⟩,a⟩
  ·rintro⟨l,⟨g,h,b,rfl⟩,rfl⟩;rw[iq (λq=>by have:=of_decide_eq_true q;omega),mem_flatMap];refine⟨h,(gY (by decide)).2 b,?_⟩;unfold X1;exact mem_singleton.2 rfl
structure Emb (fs gs:List Fac) (f:Nat->Nat):Prop where
 get:∀j,j<gs.length->gs[j]? =fs[f j]?
 mono:∀i j,i<j->j<gs.length->f i<f j
structure Cmp (fs gs:List Fac) (f:Nat->Nat) (al al':Nat->Option Alt) (O O':KV):Prop where
 al:∀j,j<gs.length->al' j=al (f j)
 O:∀j,j<gs.length->qF gs j=2->wp (qV gs j) O'=wp (qV gs j) O
section
variable {c:Cat} {fs gs:List Fac} {f:Nat->Nat} {al al':Nat->Option Alt} {O O':KV} (E:Emb fs gs f)
include E
def Emb.lt (h:j<gs.length):f j<fs.length:=by
 have:=E.get j h;rw[List.getElem?_eq_getElem h] at this;exact(List.getElem?_eq_some_iff.1 this.symm).1
def Emb.kind (h:j<gs.length):qF gs j=qF fs (f j):=by unfold qF;rw[E.get j h]
def Emb.comp (h:j<gs.length):wB gs j=wB fs (f j):=by unfold wB;rw[E.get j h]
def Emb.out (h:j<gs.length):qV gs j=qV fs (f j):=by unfold qV;rw[E.get j h]
def Emb.way (h:j<gs.length):py gs j=py fs (f j):=by unfold py;rw[E.get j h]
def Emb.rel (h:j<gs.length):tZ gs j=tZ fs (f j):=by unfold tZ;rw[E.get j h]
def Emb.duty (h:j<gs.length):lu gs j=lu fs (f j):=by unfold lu;rw[E.get j h]
def Emb.chg (h:j<gs.length):Vr gs j=Vr fs (f j):=by unfold Vr;rw[E.get j h]
def Emb.list (h:j<gs.length):dw gs j=dw fs (f j):=by unfold dw;rw[E.get j h]
def Emb.lt_iff (a:i<gs.length) (b:j<gs.length):f i<f j↔i<j:=by
 constructor
 ·intro h;rcases Nat.lt_trichotomy i j with q|q|q
  ·exact q
  ·subst q;omega
  ·have:=E.mono j i q a;omega
 ·exact λh=>E.mono i j h b
def Emb.inj (a:i<gs.length) (b:j<gs.length):f i=f j↔i=j:=by
 constructor
 ·intro h;rcases Nat.lt_trichotomy i j with q|q|q
  ·have:=E.mono i j q b;omega
  ·exact q
  ·have:=E.mono j i q a;omega
 ·rintro rfl;rfl
def Emb.tri (C:Cmp fs gs f al al' O O') {i u h:Nat} (a:i<gs.length) (b:u<gs.length) (c:h<gs.length):TriP gs al' i u h↔TriP fs al (f i) (f u) (f h):=by
 constructor
 ·rintro⟨h1,d,h3,e,h5,g⟩;exact⟨E.lt a,by rw[<-C.al i a];exact d,by rw[<-E.kind b];exact h3,by rw[<-E.comp b,<-E.comp a];exact e,by rw[<-E.kind c];exact h5,by rw[<-E.out c,<-E.out b];exact g⟩
 ·rintro⟨h1,d,h3,e,h5,g⟩;exact⟨a,by rw[C.al i a];exact d,by rw[E.kind b];exact h3,by rw[E.comp b,E.comp a];exact e,by rw[E.kind c];exact h5,by rw[E.out c,E.out b];exact g⟩
theorem Emb.ts (C:Cmp fs gs f al al' O O') {i:Nat} (hi:i<gs.length):jl al' i=jl al (f i):=by unfold jl;rw[C.al i hi]
def Emb.skip {i u h c d h':Nat} (g:i<gs.length) (k:u<gs.length) (j:h<gs.length) (a:c<gs.length) (b:d<gs.length) (e:h'<gs.length):cd gs (i,u,h) (c,d,h')=cd fs (f i,f u,f h) (f c,f d,f h'):=by
 have e1:decide ((c:Int)<(i:Int))=decide ((f c:Int)<(f i:Int)):=by
  have:=E.lt_iff a g;rw[decide_eq_decide];omega
 have e2:((h':Int)==(h:Int))=((f h':Int)==(f h:Int)):=by
  have:=E.inj e j;rw[Bool.eq_iff_iff,beq_iff_eq,beq_iff_eq];omega
 have e3:((d:Int)==(u:Int))=((f d:Int)==(f u:Int)):=by
  have:=E.inj b k;rw[Bool.eq_iff_iff,beq_iff_eq,beq_iff_eq];omega
 unfold cd;simp only[e1,e2,e3,E.rel b,E.comp g,E.comp a]
theorem Emb.row (C:Cmp fs gs f al al' O O') {r:Nat} {l:List Nat} (n:∀x∈l,x<gs.length):uh c gs al' O' r l↔uh c fs al O r (l.map f):=by
 have m3:∀ {a b d:Nat},l.map f= [a,b,d]->∃i u h,l= [i,u,h]/\f i=a/\f u=b/\f h=d:=by
  intro a b d e;rcases l with _| ⟨i,_| ⟨u,_| ⟨h,_| ⟨k,l⟩⟩⟩⟩ <;>simp at e;exact⟨i,u,h,rfl,e.1,e.2.1,e.2.2⟩
 have H:∀ {u h:Nat},h<gs.length->qF gs h=2->qV gs h=qV gs u->wp (qV gs u) O'=wp (qV gs u) O:=by
  intro u h g t y;rw[<-y];exact C.O h g t
 rcases r with _|_|_|_|_|r
 ·show uh c gs al' O' 0 l↔uh c fs al O 0 (l.map f);simp only[uh];constructor
  ·rintro⟨i,u,h,T,p,rfl⟩;have j:=n i (by simp);have o:=n u (by simp);have g:=n h (by simp);exact⟨f i,f u,f h,(E.tri C j o g).1 T,by rw[<-E.ts C j,<-E.way g,<-E.rel o];exact p,rfl⟩
  ·rintro⟨a,b,d,T,p,e⟩;obtain⟨i,u,h,rfl,rfl,rfl,rfl⟩:=m3 e;have j:=n i (by simp);have o:=n u (by simp);have g:=n h (by simp);exact⟨i,u,h,(E.tri C j o g).2 T,by rw[E.ts C j,E.way g,E.rel o];exact p,rfl⟩
 ·show uh c gs al' O' 1 l↔uh c fs al O 1 (l.map f);simp only[uh];constructor
  ·rintro⟨i,u,h,own,T,y,p,rfl⟩;have j:=n i (by simp);have o:=n u (by simp);have g:=n h (by simp);refine⟨f i,f u,f h,own,(E.tri C j o g).1 T,?_,by rw[<-E.ts C j,<-E.way g,<-E.rel o];exact p,rfl⟩;rw[<-E.out o,<-H g T.kh T.oh];exact y
  ·rintro⟨a,b,d,own,T,y,p,e⟩;obtain⟨i,u,h,rfl,rfl,rfl,rfl⟩:=m3 e;have j:=n i (by simp);have o:=n u (by simp);have g:=n h (by simp);have B:=(E.tri C j o g).2 T;refine⟨i,u,h,own,B,?_,by rw[E.ts C j,E.way g,E.rel o];exact p,rfl⟩;rw[H g B.kh B.oh,E.out o];exact y
 ·show uh c gs al' O' 2 l↔uh c fs al O 2 (l.map f);simp only[uh];constructor
  ·rintro⟨i,u,h,k,T,t,I,p,rfl⟩;have j:=n i (by simp);have o:=n u (by simp);have g:=n h (by simp);have s:=n k (by simp);exact⟨f i,f u,f h,f k,(E.tri C j o g).1 T,by rw[<-E.kind s];exact t,by rw[<-E.comp s,<-E.comp j];exact I,by rw[<-E.ts C j,<-E.way g,<-E.rel o,<-E.duty s,<-E.chg o];exact p,rfl⟩
  ·rintro⟨a,b,d,m,T,t,I,p,e⟩;rcases l with _| ⟨i,_| ⟨u,_| ⟨h,_| ⟨k,_| ⟨z,l⟩⟩⟩⟩⟩ <;>simp at e;obtain⟨rfl,rfl,rfl,rfl⟩:=e;have j:=n i (by simp);have o:=n u (by simp);have g:=n h (by simp);have s:=n k (by simp);exact⟨i,u,h,k,(E.tri C j o g).2 T,by rw[E.kind s];exact t,by rw[E.comp s,E.comp j];exact I,by rw[E.ts C j,E.way g,E.rel o,E.duty s,E.chg o];exact p,rfl⟩
 ·show uh c gs al' O' 3 l↔uh c fs al O 3 (l.map f);simp only[uh];constructor
  ·rintro⟨i,u,h,F,G,h',T,B,hr,p,rfl⟩;have j:=n i (by simp);have o:=n u (by simp);have g:=n h (by simp);have q:=n F (by simp);have v:=n G (by simp);have D:=ww B.kh (by decide);exact⟨f i,f u,f h,f F,f G,f h',(E.tri C j o g).1 T,(E.tri C q v D).1 B,by rw[<-E.rel o];exact hr,by rw[<-E.skip j o g q v D,<-E.ts C j,<-E.ts C q];exact p,rfl⟩
  ·rintro⟨a,b,d,M,b',K,T,B,hr,p,e⟩;rcases l with _| ⟨i,_| ⟨F,_| ⟨u,_| ⟨G,_| ⟨h,_| ⟨z,l⟩⟩⟩⟩⟩⟩ <;>simp at e;obtain⟨rfl,rfl,rfl,rfl,rfl⟩:=e;have j:=n i (by simp);have o:=n u (by simp);have g:=n h (by simp);have q:=n F (by simp);have v:=n G (by simp);have L:K=f h:=by
    unfold cd at p;simp only[Bool.and_eq_true,Bool.not_eq_true',Bool.or_eq_false_iff,Bool.not_eq_false',beq_iff_eq] at p;omega
   subst L;exact⟨i,u,h,F,G,h,(E.tri C j o g).2 T,(E.tri C q v g).2 B,by rw[E.rel o];exact hr,by rw[E.skip j o g q v g,E.ts C j,E.ts C q];exact p,rfl⟩
 ·show uh c gs al' O' 4 l↔uh c fs al O 4 (l.map f);simp only[uh];constructor
  ·rintro⟨i,h,own,t,y,J,w,A,rfl⟩;have j:=n i (by simp);have g:=n h (by simp);refine⟨f i,f h,own,by rw[<-E.kind j];exact t,?_,by rw[<-E.list j];exact J,by rw[<-E.kind g];exact w,by rw[<-E.out g,<-E.out j];exact A,rfl⟩;rw[<-E.out j,<-H g w A];exact y
  ·rintro⟨a,b,own,t,y,J,w,A,e⟩;rcases l with _| ⟨i,_| ⟨h,_| ⟨z,l⟩⟩⟩ <;>simp at e;obtain⟨rfl,rfl⟩:=e;have j:=n i (by simp);have g:=n h (by simp);have k2:qF gs h=2:=by rw[E.kind g];exact w
   have o2:qV gs h=qV gs i:=by rw[E.out g,E.out j];exact A
   refine⟨i,h,own,by rw[E.kind j];exact t,?_,by rw[E.list j];exact J,k2,o2,rfl⟩;rw[H g k2 o2,E.out j];exact y
 ·show(c.ls.length=0/\∃h,qF gs h=2/\l= [h])↔(c.ls.length=0/\∃h,qF fs h=2/\l.map f= [h]);constructor
  ·rintro⟨h0,h,t,rfl⟩;have g:=n h (by simp);exact⟨h0,f h,by rw[<-E.kind g];exact t,rfl⟩
  ·rintro⟨h0,b,t,e⟩;rcases l with _| ⟨h,_| ⟨z,l⟩⟩ <;>simp at e;subst e;have g:=n h (by simp);exact⟨h0,h,by rw[E.kind g];exact t,rfl⟩
end
variable {c:Cat}{fs:List Fac}{al:Nat->Option Alt}
def uh.lt {O:KV} {r:Nat} {l:List Nat} (h:uh c fs al O r l):∀x∈l,x<fs.length:=by
 have b:∀ {i u k:Nat},TriP fs al i u k->i<fs.length/\u<fs.length/\k<fs.length:=λT=>⟨T.lt,ww T.ku (by decide),ww T.kh (by decide)⟩;rcases r with _|_|_|_|_|r
 ·have h:uh c fs al O 0 l:=h;simp only[uh] at h;obtain⟨i,u,k,T,_,rfl⟩:=h;have:=b T;intro x a;simp at a;omega
 ·have h:uh c fs al O 1 l:=h;simp only[uh] at h;obtain⟨i,u,k,own,T,_,_,rfl⟩:=h;have:=b T;intro x a;simp at a;omega
 ·have h:uh c fs al O 2 l:=h;simp only[uh] at h;obtain⟨i,u,k,m,T,d,_,_,rfl⟩:=h;have:=b T;have:=ww d (by decide);intro x a;simp at a;omega
 ·have h:uh c fs al O 3 l:=h;simp only[uh] at h;obtain⟨i,u,k,g,j,k',T,e,_,_,rfl⟩:=h;have:=b T;have:=b e;intro x a;simp at a;omega
 ·have h:uh c fs al O 4 l:=h;simp only[uh] at h;obtain⟨i,k,own,f,_,_,d,_,rfl⟩:=h;have:=ww f (by decide);have:=ww d (by decide);intro x a;simp at a;omega
 ·have h:c.ls.length=0/\∃h,qF fs h=2/\l= [h]:=h;obtain⟨_,k,d,rfl⟩:=h;have:=ww d (by decide);intro x a;simp at a;omega
def nS (fs:List Fac):List Fac:=fs.filter λf=>f.kind==1
theorem ly:∀ {l:List Fac} {t:List (List (List Trm))} {o:List (List UInt8)},(nj c l t o).2.2=0↔∀f∈l,f.kind=1->s8 c f.e=0
 | [],t,o=>by simp[nj]
 |f::fs,t,o=>by
  rw[nj];by_cases h1:(f.kind==1)=true
  ·rw[ip h1];have j:f.kind=1:=by simpa using h1
   by_cases i:(s8 c f.e==0)=true
   ·rw[ip i,ly];have d:s8 c f.e=0:=by simpa using i
    constructor
    ·intro h g a b;rcases mem_cons.1 a with rfl|a
     ·exact d
     ·exact h g a b
    ·exact λh g a b=>h g (mem_cons_of_mem _ a) b
   ·rw[iq i];have d:s8 c f.e≠0:=by simpa using i
    constructor
    ·exact λh=>absurd h d
    ·exact λh=>h f (by simp) j
  ·have key:∀k,(nj c fs t k).2.2=0↔∀g∈f::fs,g.kind=1->s8 c g.e=0:=λk=>by
    rw[ly];constructor
    ·intro h g a b;rcases mem_cons.1 a with rfl|a
     ·exact absurd (by simpa using b) h1
     ·exact h g a b
    ·exact λh g a b=>h g (mem_cons_of_mem _ a) b
   rw[iq h1];split<;>exact key _
theorem oy:∀ {l:List Fac} {t:List (List (List Trm))} {o:List (List UInt8)},(nj c l t o).2.2=0->(nj c l t o).1=t++(nS l).map λf=>ofL c f.e
 | [],t,o,_=>by simp[nj,nS]
 |f::fs,t,o,h=>by
  rw[nj] at h⊢;by_cases h1:(f.kind==1)=true
  ·rw[ip h1] at h⊢;by_cases a:(s8 c f.e==0)=true
   ·rw[ip a] at h⊢;have e:nS (f::fs)=f::nS fs:=filter_cons_of_pos (by exact h1);rw[oy h,e,map_cons,append_assoc];rfl
   ·rw[iq a] at h;exact absurd h (by simpa using a)
  ·have e:nS (f::fs)=nS fs:=filter_cons_of_neg (by exact h1);rw[iq h1] at h⊢;rw[e];split at h
   ·rename_i q;rw[ip q];exact oy h
   ·rename_i q;rw[iq q];exact oy h
theorem RE {f:Nat->Int} :∀ {n:Nat},QA f n=none->∀j,j<n->f j=0
 |0,_,j,a=>by omega
 |n+1,h,j,a=>by
  rw[QA] at h;split at h
  ·cases h
  ·rename_i q;split at h
   ·rename_i b;rcases Nat.lt_succ_iff_lt_or_eq.1 a with p|rfl
    ·exact RE q j p
    ·simpa using b
   ·cases h
def pn {l:List Fac} :(yR c l).2=0↔wm c=0/\l.length<=256/\∀f∈l,sx c f=0:=by
 have g:(∀j,j<l.length->wd c l j=0)↔∀f∈l,sx c f=0:=by
  constructor
  ·intro h f hf;obtain⟨j,a,rfl⟩:=mem_iff_getElem.1 hf;have:=h j a;unfold wd at this;rw[getElem?_eq_getElem a] at this;exact this
  ·intro h j a;unfold wd;rw[getElem?_eq_getElem a];exact h _ (getElem_mem a)
 unfold yR;by_cases h1:(!(wm c==0))=true
 ·rw[ip h1]
  have:wm c≠0:=by simpa using h1
  constructor
  ·intro h;exact absurd h (by decide)
  ·exact λh=>absurd h.1 this
 ·rw[iq h1];have d:wm c=0:=by simpa using h1
  by_cases b:decide ((l.length:Int)>256)=true
  ·rw[ip b];have:=of_decide_eq_true b;constructor
   ·intro h;exact absurd h (by decide)
   ·intro h;omega
  ·rw[iq b];have e:l.length<=256:=by
    have:¬(l.length:Int)>256:=λq=>b (decide_eq_true q);omega
   rw[<-g];cases hf:QA (wd c l) l.length with
   |none=>exact⟨λ_=>⟨d,e,RE hf⟩,λ_=>rfl⟩
   |some p=>
    constructor
    ·intro h;have i:p.2≠0/\p.1<l.length/\wd c l p.1=p.2:=by
      generalize l.length=n at hf
      induction n with
      |zero=>cases hf
      |succ n k=>
       rw[QA] at hf;split at hf
       ·rename_i q;cases hf;have:=k q;exact⟨this.1,by omega,this.2.2⟩
       ·split at hf
        ·cases hf
        ·rename_i q;cases hf;exact⟨by simpa using q,by omega,rfl⟩
     exact absurd h i.1
    ·rintro⟨_,_,h⟩;rw[lV h] at hf;cases hf
structure Whole (c:Cat) (fs:List Fac) (y:Cho):Prop where
 cat:wm c=0
 len:fs.length<=256
 fact:∀f∈fs,sx c f=0
 of:∀f∈fs,f.kind=1->s8 c f.e=0
 tl:y.ts.length=(nS fs).length
 ts:∀i (h:i<y.ts.length) (f:Fac),(nS fs)[i]? =some f->(y.ts[i]).ts∈ofL c f.e
 ol:y.own.length=(qW fs []).length
 own:∀s∈y.own,(c.ls.any λx=>x.name==s)=true
def Z6 {f:Nat->Int} :pu f n=0↔∀i,i<n->f i=0:=⟨λh i a=>nH h i a,λh=>qY h⟩
def WC {y:Cho} :yq c fs y false=0↔Whole c fs y:=by
 have p:(zM c fs).2.2=0↔(yR c fs).2=0/\∀f∈fs,f.kind=1->s8 c f.e=0:=by
  unfold zM;by_cases h:(!((yR c fs).2==0))=true
  ·rw[ip h]
   have:(yR c fs).2≠0:=by simpa using h
   exact⟨λq=>absurd q this,λq=>absurd q.1 this⟩
  ·rw[iq h,ly]
   have:(yR c fs).2=0:=by simpa using h
   exact⟨λq=>⟨this,q⟩,λq=>q.2⟩
 have A:(zM c fs).2.2=0->(zM c fs).1=(nS fs).map (λf=>ofL c f.e)/\(zM c fs).2.1=qW fs []:=by
  intro h0;have w:=(p.1 h0).1;unfold zM at h0⊢;rw[iq (by rw[w];decide)] at h0⊢;exact⟨by rw[oy h0,nil_append],(pD h0).2⟩
 unfold yq;by_cases h0:(!((zM c fs).2.2==0))=true
 ·rw[ip h0];have a:(zM c fs).2.2≠0:=by simpa using h0
  constructor
  ·intro h;exact absurd h a
  ·intro W;exact absurd (p.2 ⟨pn.2 ⟨W.cat,W.len,W.fact⟩,W.of⟩) a
 rw[iq h0];have a:(zM c fs).2.2=0:=by simpa using h0
 obtain⟨k,o⟩:=p.1 a;obtain⟨r,t,u⟩:=pn.1 k;obtain⟨E,F⟩:=A a;rw[E,F];by_cases h1:(!((y.ts.length:Int)==(((nS fs).map λf=>ofL c f.e).length:Int))|| !((y.own.length:Int)==((qW fs []).length:Int)))=true
 ·rw[ip h1];constructor
  ·intro h;exact absurd h (by decide)
  ·intro W;rw[length_map,W.tl,W.ol] at h1;simp at h1
 rw[iq h1];have m:y.ts.length=(nS fs).length/\y.own.length=(qW fs []).length:=by
  rw[length_map] at h1;simp only[Bool.or_eq_true,Bool.not_eq_true',beq_eq_false_iff_ne,ne_eq,not_or,Decidable.not_not] at h1;omega
 have g:(∀i,i<y.ts.length->tn ((nS fs).map λf=>ofL c f.e) y.ts false i=0)↔∀i (h:i<y.ts.length) (f:Fac),(nS fs)[i]? =some f->(y.ts[i]).ts∈ofL c f.e:=by
  have key:∀i (h:i<y.ts.length),tn ((nS fs).map λf=>ofL c f.e) y.ts false i=0↔(y.ts[i]).ts∈ofL c ((nS fs)[i]'ow).e:=by
   intro i h;unfold tn;rw[getElem?_eq_getElem h];simp only[Bool.false_and,Bool.false_eq_true,if_false];have z:((nS fs).map λf=>ofL c f.e).getD i []=ofL c ((nS fs)[i]'ow).e:=by
    rw[getD_eq_getElem?_getD,getElem?_map,getElem?_eq_getElem ow];rfl
   rw[z];by_cases q:(ofL c ((nS fs)[i]'ow).e).any (λb=>Xp (y.ts[i]).ts b)=true
   ·rw[iq (by rw[q];decide)];obtain⟨b,v,e⟩:=any_eq_true.1 q;rw[(rM _ _).1 e];exact⟨λ_=>v,λ_=>rfl⟩
   ·rw[ip (by simpa using q)];constructor
    ·intro h;exact absurd h (by decide)
    ·intro B;exact absurd (any_eq_true.2 ⟨_,B,(rM _ _).2 rfl⟩) q
  constructor
  ·intro h i d f hf;have l:=(key i d).1 (h i d);rw[getElem?_eq_getElem ow] at hf;cases hf;exact l
  ·intro h i d;exact(key i d).2 (h i d _ (getElem?_eq_getElem ow))
 have n:(∀i,i<y.own.length->WV c y.own false i=0)↔∀s∈y.own,(c.ls.any λx=>x.name==s)=true:=by
  have key:∀i (h:i<y.own.length),WV c y.own false i=0↔(c.ls.any λx=>x.name==y.own[i])=true:=by
   intro i h;unfold WV;rw[getElem?_eq_getElem h];simp only[Bool.false_and,Bool.false_eq_true,if_false];cases(c.ls.any λx=>x.name==y.own[i])<;>simp
  constructor
  ·intro h s C;obtain⟨i,d,rfl⟩:=mem_iff_getElem.1 C;exact(key i d).1 (h i d)
  ·exact λh i d=>(key i d).2 (h _ (getElem_mem d))
 by_cases l:(!(pu (tn ((nS fs).map λf=>ofL c f.e) y.ts false) y.ts.length==0))=true
 ·rw[ip l];have j:pu (tn ((nS fs).map λf=>ofL c f.e) y.ts false) y.ts.length≠0:=by simpa using l
  constructor
  ·intro h;exact absurd h j
  ·intro W;exact absurd (Z6.2 (g.2 W.ts)) j
 rw[iq l];have j:pu (tn ((nS fs).map λf=>ofL c f.e) y.ts false) y.ts.length=0:=by simpa using l
 have D:=g.1 (Z6.1 j);rw[Z6,n];exact⟨λh=>⟨r,t,u,o,m.1,D,m.2,h⟩,λW=>W.own⟩
def zo (fs:List Fac) (I:List Nat):List Fac:=I.filterMap λi=>fs[i]?
def oz (y:Cho) (fs:List Fac) (I:List Nat):List Alt:=(I.filter λi=>qF fs i==1).map λi=>tc y (rc fs i)
def Gq (y:Cho) (outs names:List (List UInt8)):List (List UInt8):=names.map λo=>s9 y (outs.findIdx λz=>z==o)
structure InI (fs:List Fac) (I:List Nat):Prop where
 lt:∀i∈I,i<fs.length
 inc:I.Pairwise (· < ·)
def WD {p:α->Bool} {l:List α} {x:α} (h:l[j]? =some x) (b:p x=true):(l.filter p)[((l.take j).filter p).length]? =some x:=by
 obtain⟨a,rfl⟩:=List.getElem?_eq_some_iff.1 h;have e:l.filter p=(l.take j).filter p++(l[j]::(l.drop (j+1)).filter p):=by
  conv=>lhs;rw[<-take_append_drop j l,filter_append,drop_eq_getElem_cons a,filter_cons_of_pos b]
 rw[e,getElem?_append_right (le_refl _),Nat.sub_self,getElem?_cons_zero]
section
variable {fs:List Fac} {I:List Nat}
theorem jD:∀ {I:List Nat},(∀i∈I,i<fs.length)->∀j:Nat,(zo fs I)[j]? =I[j]?.bind λi=>fs[i]?
 | [],_,j=>by simp[zo]
 |i::I,h,j=>by
  have a:=h i (by simp);have e:zo fs (i::I)=fs[i]::zo fs I:=by
   unfold zo;rw[filterMap_cons_some (getElem?_eq_getElem a)]
  rw[e];cases j with
  |zero=>simp[getElem?_eq_getElem a]
  |succ j=>
   rw[getElem?_cons_succ,getElem?_cons_succ];exact jD (λx b=>h x (mem_cons_of_mem _ b)) j
theorem wP:∀ {I:List Nat},(∀i∈I,i<fs.length)->(zo fs I).length=I.length
 | [],_=>rfl
 |i::I,h=>by
  have a:=h i (by simp);have e:zo fs (i::I)=fs[i]::zo fs I:=by
   unfold zo;rw[filterMap_cons_some (getElem?_eq_getElem a)]
  rw[e,length_cons,length_cons,wP λx b=>h x (mem_cons_of_mem _ b)]
def aK (I J:List Nat):zo fs (I++J)=zo fs I++zo fs J:=by unfold zo;rw[filterMap_append]
def QY (h:i<fs.length):zo fs [i]= [fs[i]]:=by
 unfold zo;rw[filterMap_cons_some (getElem?_eq_getElem h)];rfl
def jE {f:Fac} (h:f∈zo fs I):f∈fs:=by
 obtain⟨i,_,e⟩:=mem_filterMap.1 h;exact mem_of_getElem? e
theorem po:∀ {I:List Nat},(∀i∈I,i<fs.length)->nS (zo fs I)=zo fs (I.filter λi=>qF fs i==1)
 | [],_=>rfl
 |i::I,h=>by
  have a:=h i (by simp);have c:=po (I:=I) λx d=>h x (mem_cons_of_mem _ d);have e:zo fs (i::I)=fs[i]::zo fs I:=by
   unfold zo;rw[filterMap_cons_some (getElem?_eq_getElem a)]
  have b:=wg a;rw[e];by_cases q:(fs[i].kind==1)=true
  ·have e1:nS (fs[i]::zo fs I)=fs[i]::nS (zo fs I):=filter_cons_of_pos (by exact q);rw[e1,c,filter_cons_of_pos (by rw[b];exact q)];unfold zo;rw[filterMap_cons_some (getElem?_eq_getElem a)]
  ·have e1:nS (fs[i]::zo fs I)=nS (zo fs I):=filter_cons_of_neg (by exact q);rw[e1,c,filter_cons_of_neg (by rw[b];exact q)]
def InI.emb (H:InI fs I):Emb fs (zo fs I) (λj=>I.getD j 0):=by
 have e:=wP H.lt;refine⟨λj d=> ?_,λi j c d=> ?_⟩
 ·have a:j<I.length:=ow;rw[jD H.lt,getElem?_eq_getElem a,getD_eq_getElem?_getD,getElem?_eq_getElem a];rfl
 ·have a:j<I.length:=ow;have b:i<I.length:=ow;show I.getD i 0<I.getD j 0;rw[getD_eq_getElem?_getD,getD_eq_getElem?_getD,getElem?_eq_getElem a,getElem?_eq_getElem b];exact pairwise_iff_getElem.1 H.inc i j b a c
def V2 (b:∀i∈I,i<fs.length) :rc (zo fs I) j=((I.take j).filter λi=>qF fs i==1).length:=by
 have e:(zo fs I).take j=zo fs (I.take j):=by
  rcases Nat.le_total j I.length with h|h
  ·conv=>lhs;rw[<-take_append_drop j I,aK]
   have:(zo fs (I.take j)).length=j:=by
    rw[wP λx c=>b x (mem_of_mem_take c),length_take];omega
   rw[take_append_of_le_length ow,take_of_length_le ow]
  ·rw[take_of_length_le (by rw[wP b];exact h),take_of_length_le h]
 have a:∀i∈I.take j,i<fs.length:=λx c=>b x (mem_of_mem_take c);show(nS ((zo fs I).take j)).length=_;rw[e,po a,wP λi d=>a i (mem_filter.1 d).1]
def Gr (h:i<fs.length) (a:qF fs i=1):(nS fs)[rc fs i]? =some fs[i]:=by
 rw[wg h] at a;exact WD (getElem?_eq_getElem h) (by simp[a])
theorem tf:∀ {l:List Fac} {o:List (List UInt8)} {s:List UInt8},s∈qW l o↔s∈o\/∃f∈l,f.kind=2/\f.out=s
 | [],o,s=>by simp[qW]
 |f::fs,o,s=>by
  rw[qW];by_cases h1:(f.kind==1)=true
  ·rw[ip h1,tf];have d:f.kind=1:=by simpa using h1
   constructor
   ·rintro(h| ⟨g,a,h⟩)
    ·exact .inl h
    ·exact .inr ⟨g,mem_cons_of_mem _ a,h⟩
   ·rintro(h| ⟨g,a,h,e⟩)
    ·exact .inl h
    ·rcases mem_cons.1 a with rfl|a
     ·omega
     ·exact .inr ⟨g,a,h,e⟩
  rw[iq h1];by_cases c:(f.kind==2)=true
  ·rw[ip c,tf];have b:f.kind=2:=by simpa using c
   have key:(s∈if(o.any λz=>z==f.out)=true then o else o++ [f.out])↔s∈o\/f.out=s:=by
    by_cases q:(o.any λz=>z==f.out)=true
    ·rw[ip q];constructor
     ·exact .inl
     ·rintro(h|rfl)
      ·exact h
      ·obtain⟨z,i,e⟩:=any_eq_true.1 q
       have:z=f.out:=by simpa using e
       rw[<-this];exact i
    ·rw[iq q];simp only[mem_append,mem_singleton];constructor
     ·rintro(h|rfl)
      ·exact .inl h
      ·exact .inr rfl
     ·rintro(h|rfl)
      ·exact .inl h
      ·exact .inr rfl
   rw[key];constructor
   ·rintro((h|h)| ⟨g,a,h⟩)
    ·exact .inl h
    ·exact .inr ⟨f,by simp,b,h⟩
    ·exact .inr ⟨g,mem_cons_of_mem _ a,h⟩
   ·rintro(h| ⟨g,a,h,e⟩)
    ·exact .inl (.inl h)
    ·rcases mem_cons.1 a with rfl|a
     ·exact .inl (.inr e)
     ·exact .inr ⟨g,a,h,e⟩
  ·rw[iq c,tf];have b:f.kind≠2:=by simpa using c
   constructor
   ·rintro(h| ⟨g,a,h⟩)
    ·exact .inl h
    ·exact .inr ⟨g,mem_cons_of_mem _ a,h⟩
   ·rintro(h| ⟨g,a,h,e⟩)
    ·exact .inl h
    ·rcases mem_cons.1 a with rfl|a
     ·exact absurd h b
     ·exact .inr ⟨g,a,h,e⟩
def Gs (y:Cho) (outs:List (List UInt8)) (o:List UInt8):Option (List UInt8):=
 if o∈outs/\s9 y (outs.findIdx λz=>z==o)≠[] then some (s9 y (outs.findIdx λz=>z==o)) else none
theorem gZ {y:Cho} :∀k,k<=fs.length->∀o,wp o (zb y fs k).O=Gs y (zb y fs k).outs o
 |0,_,o=>by simp[zb,Gs,wp]
 |k+1,l,o=>by
  have d:=gZ (y:=y) k ow;have g:k<fs.length:=ow;rw[rC g];split
  ·split<;>exact d o
  split
  ·split
   ·exact d o
   ·rename_i f;have f:fs[k].out∉(zb y fs k).outs:=λc=>f (any_eq_true.2 ⟨_,c,by simp⟩);generalize(zb y fs k).outs=a at *
    generalize(zb y fs k).O=O at *
    generalize fs[k].out=s at *
    show wp o (if(!(s9 y a.length== []))=true then mD s (s9 y a.length) O else O)=Gs y (a++ [s]) o
    have i:(a++ [s]).findIdx (λz=>z==s)=a.length:=by
     rw[findIdx_append]
     have:a.findIdx (λz=>z==s)=a.length:=findIdx_eq_length.2 λz j=>by
      have:z≠s:=λe=>f (e▸j);simpa using this
     rw[iq ow];simp[findIdx_cons]
    have h:o∈a->(a++ [s]).findIdx (λz=>z==o)=a.findIdx (λz=>z==o):=λc=>by
     rw[findIdx_append];rw[ip (findIdx_lt_length.2 ⟨o,c,by simp⟩)]
    have b:∀v,wp o (mD s v O)=if o=s then some v else wp o O:=λv=>by
     rw[XM];by_cases e:o=s
     ·rw[ip e,ip (by simpa using e)]
     ·rw[iq e,iq (by simpa using e)]
    by_cases e:o=s
    ·subst e;unfold Gs;rw[i];by_cases q:s9 y a.length= []
     ·rw[iq (by simp[q]),iq (by simp[q]),d o,Gs,iq (by simp[f])]
     ·rw[ip (by simpa using q),b,ip rfl,ip ⟨by simp,q⟩]
    ·have h1:wp o (if(!(s9 y a.length== []))=true then mD s (s9 y a.length) O else O)=wp o O:=by
      split
      ·rw[b,iq e]
      ·rfl
     rw[h1,d o];unfold Gs;by_cases c:o∈a
     ·rw[h c];simp[c]
     ·rw[iq (by simp[c]),iq (by simp[c,e])]
  ·exact d o
def Dq {y:Cho} {b a:List (List UInt8)} {o:List UInt8} (h:o∈a):s9 ⟨la,Gq y b a⟩ (a.findIdx λz=>z==o)=s9 y (b.findIdx λz=>z==o):=by
 have c:a.findIdx (λz=>z==o)<a.length:=findIdx_lt_length.2 ⟨o,h,by simp⟩;have d:a[a.findIdx λz=>z==o]=o:=by
  have:=findIdx_getElem (w:=c);simpa using this
 show(Gq y b a).getD _ []=_;unfold Gq;rw[getD_eq_getElem?_getD,getElem?_map,getElem?_eq_getElem c,d];rfl
end
def mP (y:Cho) (fs:List Fac) (I:List Nat):Cho:=⟨oz y fs I,Gq y (qW fs []) (qW (zo fs I) [])⟩
section
variable {c:Cat} {fs:List Fac} {y:Cho} {I:List Nat}
def WE {o:List UInt8} (h:o∈qW (zo fs I) []):o∈qW fs []:=by
 rw[tf] at h⊢;rcases h with h| ⟨f,hf,h⟩
 ·cases h
 ·exact .inr ⟨f,jE hf,h⟩
def Lt (W:Whole c fs y) (h:i<fs.length) (b:qF fs i=1):(tc y (rc fs i)).ts∈ofL c fs[i].e:=by
 have h1:=Gr h b;have a:rc fs i<y.ts.length:=by rw[W.tl];exact(List.getElem?_eq_some_iff.1 h1).1
 have:=W.ts _ a _ h1;unfold tc;rw[getD_eq_getElem?_getD,getElem?_eq_getElem a];exact this
def Lu (W:Whole c fs y) {o:List UInt8} (h:o∈qW fs []):s9 y ((qW fs []).findIdx λz=>z==o)∈y.own:=by
 have a:(qW fs []).findIdx (λz=>z==o)<y.own.length:=by rw[W.ol];exact findIdx_lt_length.2 ⟨o,h,by simp⟩
 unfold s9;rw[getD_eq_getElem?_getD,getElem?_eq_getElem a];exact getElem_mem a
def QZ (H:InI fs I):(oz y fs I).length=(nS (zo fs I)).length:=by
 unfold oz;rw[length_map,po H.lt,wP λi a=>H.lt i (mem_filter.1 a).1]
def Qa (W:Whole c fs y) (H:InI fs I) (hlen:I.length<=256):Whole c (zo fs I) (mP y fs I) where
 cat:=W.cat
 len:=by rw[wP H.lt];exact hlen
 fact:=λf hf=>W.fact f (jE hf)
 of:=λf hf hk=>W.of f (jE hf) hk
 tl:=QZ H
 ts:=λi hi f hf=>by
  have hI':∀i∈I.filter (λi=>qF fs i==1),i<fs.length:=λi hi=>H.lt i (mem_filter.1 hi).1;rw[po H.lt,jD hI'] at hf;have hi2:i<(I.filter λi=>qF fs i==1).length:=by
   have:i<(oz y fs I).length:=hi;unfold oz at this
   rwa [length_map] at this
  rw[getElem?_eq_getElem hi2] at hf;obtain⟨hm,hk⟩:=mem_filter.1 (getElem_mem hi2);have hlt:=H.lt _ hm;have hf:fs[(I.filter λi=>qF fs i==1)[i]]? =some f:=hf;rw[getElem?_eq_getElem hlt] at hf;cases hf
  have:((mP y fs I).ts[i])=tc y (rc fs (I.filter λi=>qF fs i==1)[i]):=by
   show(oz y fs I)[i]=_;simp only[oz,getElem_map]
  rw[this];exact Lt W hlt (by simpa using hk)
 ol:=by show(Gq _ _ _).length=_;unfold Gq;rw[length_map]
 own:=λs hs=>by
  obtain⟨o,ho,rfl⟩:=mem_map.1 hs;exact W.own _ (Lu W (WE ho))
def Ih (W:Whole c fs y) (H:InI fs I):Cmp fs (zo fs I) (λj=>I.getD j 0) (alS fs y) (alS (zo fs I) (mP y fs I)) (zb y fs fs.length).O (zb (mP y fs I) (zo fs I) (zo fs I).length).O where
 al:=λj hj=>by
  have E:=H.emb;have hjI:j<I.length:=by rw[wP H.lt] at hj;exact hj
  have hgd:I.getD j 0=I[j]:=by rw[getD_eq_getElem?_getD,getElem?_eq_getElem hjI];rfl
  have hlt:=H.lt _ (getElem_mem hjI);have hget:=E.get j hj;show alS (zo fs I) (mP y fs I) j=alS fs y (I.getD j 0);have hget:(zo fs I)[j]? =some fs[I[j]]:=by
   have:(zo fs I)[j]? =fs[I.getD j 0]? :=hget;rw[this,hgd,getElem?_eq_getElem hlt]
  unfold alS;rw[hget,hgd,getElem?_eq_getElem hlt];by_cases hk:(fs[I[j]].kind==1)=true
  ·simp only[ip hk];have hk1:qF fs I[j]=1:=by rw[wg hlt];simpa using hk
   have ha:tc (mP y fs I) (rc (zo fs I) j)=tc y (rc fs I[j]):=by
    have:=WD (p:=λi=>qF fs i==1) (getElem?_eq_getElem hjI) (by simpa using hk1);rw[V2 H.lt];show(oz y fs I).getD _ _=_;unfold oz;rw[getD_eq_getElem?_getD,getElem?_map,this];rfl
   rw[ha]
  ·simp only[iq hk]
 O:=λj hj hk=>by
  have hjf:=(getElem?_eq_getElem hj);have hm:qV (zo fs I) j∈qW (zo fs I) []:=by
   rw[tf];refine .inr ⟨_,getElem_mem hj,by rw[<-wg hj];exact hk,(Z4 hj).symm⟩
  rw[gZ _ (le_refl _),gZ _ (le_refl _),tJ _ (le_refl _),tJ _ (le_refl _),take_length,take_length];unfold Gs;have e:s9 (mP y fs I) ((qW (zo fs I) []).findIdx λz=>z==qV (zo fs I) j)=s9 y ((qW fs []).findIdx λz=>z==qV (zo fs I) j):=Dq hm;rw[e];have hm2:=WE hm;simp only[hm,hm2,true_and]
end
section
variable {c:Cat} {fs:List Fac} {y:Cho} {I:List Nat}
def ga {v:Vio} :v∈pE c fs y↔∃i:Nat,i<6/\v.row=(i:Int)/\∃l,uh c fs (alS fs y) (zb y fs fs.length).O i l/\ov (l.map λn:Nat=>(n:Int))=v.facts:=by
 rw[Ls];constructor
 ·rintro⟨i,h1,a,z,d,e⟩;obtain⟨l,b,rfl⟩:=RD.1 d;exact⟨i,h1,a,l,b,e⟩
 ·rintro⟨i,h1,a,l,b,e⟩;exact⟨i,h1,a,_,RD.2 ⟨l,b,rfl⟩,e⟩
def Z7 (W:Whole c fs y) (H:InI fs I) (h0:pE c fs y= []):pE c (zo fs I) (mP y fs I)= []:=by
 rw[List.eq_nil_iff_forall_not_mem];intro v b;obtain⟨i,h1,d,l,a,e⟩:=ga.1 b;have h3:=((H.emb).row (Ih W H) (c:=c) (r:=i) a.lt).1 a
 have:(⟨(i:Int),ov ((l.map λj=>I.getD j 0).map λn:Nat=>(n:Int))⟩:Vio)∈pE c fs y:=ga.2 ⟨i,h1,rfl,_,h3,rfl⟩;rw[h0] at this;cases this
end
end Go.V
