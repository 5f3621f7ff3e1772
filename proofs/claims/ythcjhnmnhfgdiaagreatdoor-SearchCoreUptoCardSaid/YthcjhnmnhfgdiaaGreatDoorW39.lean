/- None, part 1. No condition. -/
import Derived.Test.YthcjhnmnhfgdiaaGreatDoorW38
set_option linter.all false
set_option maxHeartbeats 8000000
namespace Go.V
open List hiding max min map and or get le lt range extract
open Nat(zero_le le_refl le_trans lt_irrefl le_of_lt lt_of_lt_of_le lt_of_le_of_lt lt_succ_iff_lt_or_eq le_of_lt_succ)
set_option maxRecDepth 100000
def qJ (fs:List Fac) (i:Nat):Int:=match fs[i]? with
 |some f=>f.kind
 |none=> -1
theorem cJ {p:Fac->Bool} :∀ {l:List Fac} {k i:Nat},i∈qC p l k↔k<=i/\∃h:i-k<l.length,p l[i-k]=true
 | [],k,i=>by simp[qC]
 |f::l,k,i=>by
  have b:=cJ (p:=p) (l:=l) (k:=k+1) (i:=i);have key:(i∈qC p (f::l) k)↔(p f=true/\i=k)\/i∈qC p l (k+1):=by
   rw[qC];split
   ·rename_i h;simp[h]
   ·rename_i h;simp[h]
  rw[key,b];constructor
  ·rintro(⟨h1,rfl⟩ | ⟨h1,a,h3⟩)
   ·exact⟨le_refl _,by simp,by simpa using h1⟩
   ·refine⟨by omega,by simp only[length_cons];omega,?_⟩
    have:i-k=(i- (k+1))+1:=ow;simp only[this,getElem_cons_succ];exact h3
  ·rintro⟨h1,a,h3⟩;by_cases e:i=k
   ·subst e;left;exact⟨by simpa using h3,rfl⟩
   ·right
    have:i-k=(i- (k+1))+1:=ow;simp only[this,getElem_cons_succ] at h3;exact⟨by omega,by simp only[length_cons] at a;omega,h3⟩
variable {N:Int}{fs:List Fac}{i j n:Nat}{al:Nat->Option Alt}{α:Type}{b:Bool}{c:Cat}{la:List Alt}
def UJ {q:Fac->Bool} :i∈fIx N q fs↔∃h:i<fs.length,fs[i].kind=N/\q fs[i]=true:=by
 unfold fIx;rw[cJ];simp only[zero_le,Nat.sub_zero,true_and,isF,Bool.and_eq_true,beq_iff_eq]
def wO (h:i<fs.length):qJ fs i=fs[i].kind:=by
 unfold qJ;rw[getElem?_eq_getElem h]
def uC {k:Int} (h:qJ fs i=k) (a:0<=k):i<fs.length:=by
 unfold qJ at h;split at h
 ·rename_i q;exact(List.getElem?_eq_some_iff.1 q).1
 ·omega
def WX (h:i<fs.length):wE fs i=fs[i].comp:=by
 unfold wE;rw[getElem?_eq_getElem h]
def YH (h:i<fs.length):qX fs i=fs[i].out:=by
 unfold qX;rw[getElem?_eq_getElem h]
def gj {k:Int} (b:0<=k) :j∈fIx k (λg=>g.comp==wE fs i) fs↔qJ fs j=k/\wE fs j=wE fs i:=by
 rw[UJ];constructor
 ·rintro⟨h,h1,a⟩;exact⟨by rw[wO h,h1],by rw[WX h];simpa using a⟩
 ·rintro⟨h1,a⟩;have h:=uC h1 b;exact⟨h,by rw[<-wO h,h1],by rw[WX h] at a;simpa using a⟩
def YI {k:Int} (b:0<=k) :j∈fIx k (λg=>g.out==qX fs i) fs↔qJ fs j=k/\qX fs j=qX fs i:=by
 rw[UJ];constructor
 ·rintro⟨h,h1,a⟩;exact⟨by rw[wO h,h1],by rw[YH h];simpa using a⟩
 ·rintro⟨h1,a⟩;have h:=uC h1 b;exact⟨h,by rw[<-wO h,h1],by rw[YH h] at a;simpa using a⟩
def gk {k:Int} (a:0<=k) :j∈fIx k (λ_=>true) fs↔qJ fs j=k:=by
 rw[UJ];constructor
 ·rintro⟨h,h1,_⟩;rw[wO h,h1]
 ·intro h1;have h:=uC h1 a;exact⟨h,by rw[<-wO h,h1],rfl⟩
structure TriP (fs:List Fac) (al:Nat->Option Alt) (i u h:Nat):Prop where
 lt:i<fs.length
 al:(al i).isSome=true
 ku:qJ fs u=0
 cu:wE fs u=wE fs i
 kh:qJ fs h=2
 oh:qX fs h=qX fs u
def uD {t:Tri} :t∈yD fs al↔TriP fs al t.1 t.2.1 t.2.2:=by
 unfold yD;rw[mem_flatMap];constructor
 ·rintro⟨i,e,a⟩;unfold Qn at a;split at a
  ·rename_i d;rw[mem_flatMap] at a;obtain⟨u,c,a⟩:=a;unfold Qm at a;rw[mem_map] at a;obtain⟨h,b,rfl⟩:=a;rw[gj (by decide)] at c;rw[YI (by decide)] at b;exact⟨mem_range.1 e,d,c.1,c.2,b.1,b.2⟩
  ·cases a
 ·intro h;obtain⟨i,u,k⟩:=t;refine⟨i,mem_range.2 h.lt,?_⟩;unfold Qn;rw[ip h.al,mem_flatMap];refine⟨u,(gj (by decide)).2 ⟨h.ku,h.cu⟩,?_⟩;unfold Qm;exact mem_map.2 ⟨k,(YI (by decide)).2 ⟨h.kh,h.oh⟩,rfl⟩
def uY (c:Cat) (fs:List Fac) (al:Nat->Option Alt) (O:KV):Nat->List Nat->Prop
 |0,l=>∃i u h,TriP fs al i u h/\UB c (jx al i) (oE fs h) (tm fs u) 5 (λ_=>true)=true/\l= [i,u,h]
 |1,l=>∃i u h own,TriP fs al i u h/\wr (qX fs u) O=some own/\UB c (jx al i) (oE fs h) (tm fs u) 4 (cD own)=true/\l= [i,u,h]
 |2,l=>∃i u h k,TriP fs al i u h/\qJ fs k=4/\wE fs k=wE fs i/\((!(kF fs k==2)||UC fs u)&&UB c (jx al i) (oE fs h) (tm fs u) (kF fs k) (λ_=>true))=true/\l= [i,u,h,k]
 |3,l=>∃i u h i' u' h',TriP fs al i u h/\TriP fs al i' u' h'/\(tm fs u==0)=true/\(!(bD fs (i,u,h) (i',u',h'))&&Dx c (jx al i) (jx al i'))=true/\l= [i,i',u,u',h]
 |4,l=>∃i h own,qJ fs i=3/\wr (qX fs i) O=some own/\((cE fs i).any λs=>s==own)=false/\qJ fs h=2/\qX fs h=qX fs i/\l= [i,h]
 |_,l=>c.ls.length=0/\∃h,qJ fs h=2/\l= [h]
def nE {x y:α} :(y∈if b=true then [x] else [])↔b=true/\y=x:=by
 cases b<;>simp
def RX {O:KV} {r:Nat} {z:List Int} :z∈mf c fs al O r↔∃l,uY c fs al O r l/\z=l.map λn:Nat=>(n:Int):=by
 rcases r with _|_|_|_|_|r
 ·show z∈mf c fs al O 0↔∃l,uY c fs al O 0 l/\z=l.map λn:Nat=>(n:Int);simp only[mf,uY];rw[mem_flatMap];constructor
  ·rintro⟨t,d,a⟩;rw[uD] at d;unfold wj at a;rw[nE] at a;exact⟨_,⟨t.1,t.2.1,t.2.2,d,a.1,rfl⟩,a.2⟩
  ·rintro⟨l,⟨i,u,h,d,b,rfl⟩,rfl⟩;refine⟨(i,u,h),uD.2 d,?_⟩;unfold wj;rw[nE];exact⟨b,rfl⟩
 ·show z∈mf c fs al O 1↔∃l,uY c fs al O 1 l/\z=l.map λn:Nat=>(n:Int);simp only[mf,uY];rw[mem_flatMap];constructor
  ·rintro⟨t,d,a⟩;rw[uD] at d;unfold uv at a;split at a
   ·cases a
   ·rename_i own f;rw[nE] at a;exact⟨_,⟨t.1,t.2.1,t.2.2,own,d,f,a.1,rfl⟩,a.2⟩
  ·rintro⟨l,⟨i,u,h,own,d,f,b,rfl⟩,rfl⟩;refine⟨(i,u,h),uD.2 d,?_⟩;unfold uv;simp only[f];rw[nE];exact⟨b,rfl⟩
 ·show z∈mf c fs al O 2↔∃l,uY c fs al O 2 l/\z=l.map λn:Nat=>(n:Int);simp only[mf,uY];rw[mem_flatMap];constructor
  ·rintro⟨t,d,a⟩;rw[uD] at d;unfold nh at a;rw[mem_flatMap] at a;obtain⟨k,j,a⟩:=a;rw[gj (by decide)] at j;unfold mb at a;rw[nE] at a;exact⟨_,⟨t.1,t.2.1,t.2.2,k,d,j.1,j.2,a.1,rfl⟩,a.2⟩
  ·rintro⟨l,⟨i,u,h,k,d,j,s,b,rfl⟩,rfl⟩;refine⟨(i,u,h),uD.2 d,?_⟩;unfold nh;rw[mem_flatMap];refine⟨k,(gj (by decide)).2 ⟨j,s⟩,?_⟩;unfold mb;rw[nE];exact⟨b,rfl⟩
 ·show z∈mf c fs al O 3↔∃l,uY c fs al O 3 l/\z=l.map λn:Nat=>(n:Int);simp only[mf,uY];rw[mem_flatMap];constructor
  ·rintro⟨t,d,a⟩;rw[uD] at d;unfold uB at a;split at a
   ·rename_i hr;rw[mem_flatMap] at a;obtain⟨p,e,a⟩:=a;rw[uD] at e;unfold sH at a;rw[nE] at a;exact⟨_,⟨t.1,t.2.1,t.2.2,p.1,p.2.1,p.2.2,d,e,hr,a.1,rfl⟩,a.2⟩
   ·cases a
  ·rintro⟨l,⟨i,u,h,v,w,h',d,e,hr,b,rfl⟩,rfl⟩;refine⟨(i,u,h),uD.2 d,?_⟩;unfold uB;rw[ip hr,mem_flatMap];refine⟨(v,w,h'),uD.2 e,?_⟩;unfold sH;rw[nE];exact⟨b,rfl⟩
 ·show z∈mf c fs al O 4↔∃l,uY c fs al O 4 l/\z=l.map λn:Nat=>(n:Int);simp only[mf,uY];rw[mem_flatMap];constructor
  ·rintro⟨i,m,a⟩;rw[gk (by decide)] at m;unfold pQ at a;split at a
   ·cases a
   ·rename_i own f;split at a
    ·cases a
    ·rename_i g;rw[mem_flatMap] at a;obtain⟨h,b,a⟩:=a;unfold cG at a;rw[mem_singleton] at a;have b:=(YI (by decide)).1 b;exact⟨_,⟨i,h,own,m,f,Bool.eq_false_iff.2 g,b.1,b.2,rfl⟩,a⟩
  ·rintro⟨l,⟨i,h,own,m,f,g,b,o,rfl⟩,rfl⟩;refine⟨i,(gk (by decide)).2 m,?_⟩;unfold pQ;simp only[f];rw[iq (by rw[g];decide),mem_flatMap];refine⟨h,(YI (by decide)).2 ⟨b,o⟩,?_⟩;unfold cG;exact mem_singleton.2 rfl
 ·show z∈cH c fs↔∃l,(c.ls.length=0/\∃h,qJ fs h=2/\l= [h])/\z=l.map λn:Nat=>(n:Int);unfold cH;constructor
  ·intro a;split at a
   ·cases a
   ·rename_i g;rw[mem_flatMap] at a;obtain⟨h,b,a⟩:=a;rw[gk (by decide)] at b;unfold WM at a;rw[mem_singleton] at a;exact⟨_,⟨by have:¬(c.ls.length:Int)>0:=λq=>g (decide_eq_true q);omega,h,b,rfl⟩,a⟩
  ·rintro⟨l,⟨g,h,b,rfl⟩,rfl⟩;rw[iq (λq=>by have:=of_decide_eq_true q;omega),mem_flatMap];refine⟨h,(gk (by decide)).2 b,?_⟩;unfold WM;exact mem_singleton.2 rfl
structure Emb (fs gs:List Fac) (f:Nat->Nat):Prop where
 get:∀j,j<gs.length->gs[j]? =fs[f j]?
 mono:∀i j,i<j->j<gs.length->f i<f j
structure Cmp (fs gs:List Fac) (f:Nat->Nat) (al al':Nat->Option Alt) (O O':KV):Prop where
 al:∀j,j<gs.length->al' j=al (f j)
 O:∀j,j<gs.length->qJ gs j=2->wr (qX gs j) O'=wr (qX gs j) O
section
variable {c:Cat} {fs gs:List Fac} {f:Nat->Nat} {al al':Nat->Option Alt} {O O':KV} (E:Emb fs gs f)
include E
def Emb.lt (h:j<gs.length):f j<fs.length:=by
 have:=E.get j h;rw[List.getElem?_eq_getElem h] at this;exact(List.getElem?_eq_some_iff.1 this.symm).1
def Emb.kind (h:j<gs.length):qJ gs j=qJ fs (f j):=by unfold qJ;rw[E.get j h]
def Emb.comp (h:j<gs.length):wE gs j=wE fs (f j):=by unfold wE;rw[E.get j h]
def Emb.out (h:j<gs.length):qX gs j=qX fs (f j):=by unfold qX;rw[E.get j h]
def Emb.way (h:j<gs.length):oE gs j=oE fs (f j):=by unfold oE;rw[E.get j h]
def Emb.rel (h:j<gs.length):tm gs j=tm fs (f j):=by unfold tm;rw[E.get j h]
def Emb.duty (h:j<gs.length):kF gs j=kF fs (f j):=by unfold kF;rw[E.get j h]
def Emb.chg (h:j<gs.length):UC gs j=UC fs (f j):=by unfold UC;rw[E.get j h]
def Emb.list (h:j<gs.length):cE gs j=cE fs (f j):=by unfold cE;rw[E.get j h]
def Emb.lt_iff (a:i<gs.length) (b:j<gs.length):f i<f j↔i<j:=by
 constructor
 ·intro h;rcases Nat.lt_trichotomy i j with q|q|q
  ·exact q
  ·subst q;omega
  ·have:=E.mono j i q a;omega
 ·exact λh=>E.mono i j h b
def Emb.inj (a:i<gs.length) (b:j<gs.length):f i=f j↔i=j:=by
 constructor
 ·intro h;rcases Nat.lt_trichotomy i j with q|q|q
  ·have:=E.mono i j q b;omega
  ·exact q
  ·have:=E.mono j i q a;omega
 ·rintro rfl;rfl
def Emb.tri (C:Cmp fs gs f al al' O O') {i u h:Nat} (a:i<gs.length) (b:u<gs.length) (c:h<gs.length):TriP gs al' i u h↔TriP fs al (f i) (f u) (f h):=by
 constructor
 ·rintro⟨h1,d,h3,e,h5,g⟩;exact⟨E.lt a,by rw[<-C.al i a];exact d,by rw[<-E.kind b];exact h3,by rw[<-E.comp b,<-E.comp a];exact e,by rw[<-E.kind c];exact h5,by rw[<-E.out c,<-E.out b];exact g⟩
 ·rintro⟨h1,d,h3,e,h5,g⟩;exact⟨a,by rw[C.al i a];exact d,by rw[E.kind b];exact h3,by rw[E.comp b,E.comp a];exact e,by rw[E.kind c];exact h5,by rw[E.out c,E.out b];exact g⟩
theorem Emb.ts (C:Cmp fs gs f al al' O O') {i:Nat} (hi:i<gs.length):jx al' i=jx al (f i):=by unfold jx;rw[C.al i hi]
def Emb.skip {i u h c d h':Nat} (g:i<gs.length) (k:u<gs.length) (j:h<gs.length) (a:c<gs.length) (b:d<gs.length) (e:h'<gs.length):bD gs (i,u,h) (c,d,h')=bD fs (f i,f u,f h) (f c,f d,f h'):=by
 have e1:decide ((c:Int)<(i:Int))=decide ((f c:Int)<(f i:Int)):=by
  have:=E.lt_iff a g;rw[decide_eq_decide];omega
 have e2:((h':Int)==(h:Int))=((f h':Int)==(f h:Int)):=by
  have:=E.inj e j;rw[Bool.eq_iff_iff,beq_iff_eq,beq_iff_eq];omega
 have e3:((d:Int)==(u:Int))=((f d:Int)==(f u:Int)):=by
  have:=E.inj b k;rw[Bool.eq_iff_iff,beq_iff_eq,beq_iff_eq];omega
 unfold bD;simp only[e1,e2,e3,E.rel b,E.comp g,E.comp a]
theorem Emb.row (C:Cmp fs gs f al al' O O') {r:Nat} {l:List Nat} (n:∀x∈l,x<gs.length):uY c gs al' O' r l↔uY c fs al O r (l.map f):=by
 have m3:∀ {a b d:Nat},l.map f= [a,b,d]->∃i u h,l= [i,u,h]/\f i=a/\f u=b/\f h=d:=by
  intro a b d e;rcases l with _| ⟨i,_| ⟨u,_| ⟨h,_| ⟨k,l⟩⟩⟩⟩ <;>simp at e;exact⟨i,u,h,rfl,e.1,e.2.1,e.2.2⟩
 have H:∀ {u h:Nat},h<gs.length->qJ gs h=2->qX gs h=qX gs u->wr (qX gs u) O'=wr (qX gs u) O:=by
  intro u h g t y;rw[<-y];exact C.O h g t
 rcases r with _|_|_|_|_|r
 ·show uY c gs al' O' 0 l↔uY c fs al O 0 (l.map f);simp only[uY];constructor
  ·rintro⟨i,u,h,T,p,rfl⟩;have j:=n i (by simp);have o:=n u (by simp);have g:=n h (by simp);exact⟨f i,f u,f h,(E.tri C j o g).1 T,by rw[<-E.ts C j,<-E.way g,<-E.rel o];exact p,rfl⟩
  ·rintro⟨a,b,d,T,p,e⟩;obtain⟨i,u,h,rfl,rfl,rfl,rfl⟩:=m3 e;have j:=n i (by simp);have o:=n u (by simp);have g:=n h (by simp);exact⟨i,u,h,(E.tri C j o g).2 T,by rw[E.ts C j,E.way g,E.rel o];exact p,rfl⟩
 ·show uY c gs al' O' 1 l↔uY c fs al O 1 (l.map f);simp only[uY];constructor
  ·rintro⟨i,u,h,own,T,y,p,rfl⟩;have j:=n i (by simp);have o:=n u (by simp);have g:=n h (by simp);refine⟨f i,f u,f h,own,(E.tri C j o g).1 T,?_,by rw[<-E.ts C j,<-E.way g,<-E.rel o];exact p,rfl⟩;rw[<-E.out o,<-H g T.kh T.oh];exact y
  ·rintro⟨a,b,d,own,T,y,p,e⟩;obtain⟨i,u,h,rfl,rfl,rfl,rfl⟩:=m3 e;have j:=n i (by simp);have o:=n u (by simp);have g:=n h (by simp);have B:=(E.tri C j o g).2 T;refine⟨i,u,h,own,B,?_,by rw[E.ts C j,E.way g,E.rel o];exact p,rfl⟩;rw[H g B.kh B.oh,E.out o];exact y
 ·show uY c gs al' O' 2 l↔uY c fs al O 2 (l.map f);simp only[uY];constructor
  ·rintro⟨i,u,h,k,T,t,I,p,rfl⟩;have j:=n i (by simp);have o:=n u (by simp);have g:=n h (by simp);have s:=n k (by simp);exact⟨f i,f u,f h,f k,(E.tri C j o g).1 T,by rw[<-E.kind s];exact t,by rw[<-E.comp s,<-E.comp j];exact I,by rw[<-E.ts C j,<-E.way g,<-E.rel o,<-E.duty s,<-E.chg o];exact p,rfl⟩
  ·rintro⟨a,b,d,m,T,t,I,p,e⟩;rcases l with _| ⟨i,_| ⟨u,_| ⟨h,_| ⟨k,_| ⟨z,l⟩⟩⟩⟩⟩ <;>simp at e;obtain⟨rfl,rfl,rfl,rfl⟩:=e;have j:=n i (by simp);have o:=n u (by simp);have g:=n h (by simp);have s:=n k (by simp);exact⟨i,u,h,k,(E.tri C j o g).2 T,by rw[E.kind s];exact t,by rw[E.comp s,E.comp j];exact I,by rw[E.ts C j,E.way g,E.rel o,E.duty s,E.chg o];exact p,rfl⟩
 ·show uY c gs al' O' 3 l↔uY c fs al O 3 (l.map f);simp only[uY];constructor
  ·rintro⟨i,u,h,F,G,h',T,B,hr,p,rfl⟩;have j:=n i (by simp);have o:=n u (by simp);have g:=n h (by simp);have q:=n F (by simp);have v:=n G (by simp);have D:=uC B.kh (by decide);exact⟨f i,f u,f h,f F,f G,f h',(E.tri C j o g).1 T,(E.tri C q v D).1 B,by rw[<-E.rel o];exact hr,by rw[<-E.skip j o g q v D,<-E.ts C j,<-E.ts C q];exact p,rfl⟩
  ·rintro⟨a,b,d,M,b',K,T,B,hr,p,e⟩;rcases l with _| ⟨i,_| ⟨F,_| ⟨u,_| ⟨G,_| ⟨h,_| ⟨z,l⟩⟩⟩⟩⟩⟩ <;>simp at e;obtain⟨rfl,rfl,rfl,rfl,rfl⟩:=e;have j:=n i (by simp);have o:=n u (by simp);have g:=n h (by simp);have q:=n F (by simp);have v:=n G (by simp);have L:K=f h:=by
    unfold bD at p;simp only[Bool.and_eq_true,Bool.not_eq_true',Bool.or_eq_false_iff,Bool.not_eq_false',beq_iff_eq] at p;omega
   subst L;exact⟨i,u,h,F,G,h,(E.tri C j o g).2 T,(E.tri C q v g).2 B,by rw[E.rel o];exact hr,by rw[E.skip j o g q v g,E.ts C j,E.ts C q];exact p,rfl⟩
 ·show uY c gs al' O' 4 l↔uY c fs al O 4 (l.map f);simp only[uY];constructor
  ·rintro⟨i,h,own,t,y,J,w,A,rfl⟩;have j:=n i (by simp);have g:=n h (by simp);refine⟨f i,f h,own,by rw[<-E.kind j];exact t,?_,by rw[<-E.list j];exact J,by rw[<-E.kind g];exact w,by rw[<-E.out g,<-E.out j];exact A,rfl⟩;rw[<-E.out j,<-H g w A];exact y
  ·rintro⟨a,b,own,t,y,J,w,A,e⟩;rcases l with _| ⟨i,_| ⟨h,_| ⟨z,l⟩⟩⟩ <;>simp at e;obtain⟨rfl,rfl⟩:=e;have j:=n i (by simp);have g:=n h (by simp);have k2:qJ gs h=2:=by rw[E.kind g];exact w
   have o2:qX gs h=qX gs i:=by rw[E.out g,E.out j];exact A
   refine⟨i,h,own,by rw[E.kind j];exact t,?_,by rw[E.list j];exact J,k2,o2,rfl⟩;rw[H g k2 o2,E.out j];exact y
 ·show(c.ls.length=0/\∃h,qJ gs h=2/\l= [h])↔(c.ls.length=0/\∃h,qJ fs h=2/\l.map f= [h]);constructor
  ·rintro⟨h0,h,t,rfl⟩;have g:=n h (by simp);exact⟨h0,f h,by rw[<-E.kind g];exact t,rfl⟩
  ·rintro⟨h0,b,t,e⟩;rcases l with _| ⟨h,_| ⟨z,l⟩⟩ <;>simp at e;subst e;have g:=n h (by simp);exact⟨h0,h,by rw[E.kind g];exact t,rfl⟩
end
variable {c:Cat}{fs:List Fac}{al:Nat->Option Alt}
def uY.lt {O:KV} {r:Nat} {l:List Nat} (h:uY c fs al O r l):∀x∈l,x<fs.length:=by
 have b:∀ {i u k:Nat},TriP fs al i u k->i<fs.length/\u<fs.length/\k<fs.length:=λT=>⟨T.lt,uC T.ku (by decide),uC T.kh (by decide)⟩;rcases r with _|_|_|_|_|r
 ·have h:uY c fs al O 0 l:=h;simp only[uY] at h;obtain⟨i,u,k,T,_,rfl⟩:=h;have:=b T;intro x a;simp at a;omega
 ·have h:uY c fs al O 1 l:=h;simp only[uY] at h;obtain⟨i,u,k,own,T,_,_,rfl⟩:=h;have:=b T;intro x a;simp at a;omega
 ·have h:uY c fs al O 2 l:=h;simp only[uY] at h;obtain⟨i,u,k,m,T,d,_,_,rfl⟩:=h;have:=b T;have:=uC d (by decide);intro x a;simp at a;omega
 ·have h:uY c fs al O 3 l:=h;simp only[uY] at h;obtain⟨i,u,k,g,j,k',T,e,_,_,rfl⟩:=h;have:=b T;have:=b e;intro x a;simp at a;omega
 ·have h:uY c fs al O 4 l:=h;simp only[uY] at h;obtain⟨i,k,own,f,_,_,d,_,rfl⟩:=h;have:=uC f (by decide);have:=uC d (by decide);intro x a;simp at a;omega
 ·have h:c.ls.length=0/\∃h,qJ fs h=2/\l= [h]:=h;obtain⟨_,k,d,rfl⟩:=h;have:=uC d (by decide);intro x a;simp at a;omega
def pC (fs:List Fac):List Fac:=fs.filter λf=>f.kind==1
theorem kH:∀ {l:List Fac} {t:List (List (List Trm))} {o:List (List UInt8)},(mC c l t o).2.2=0↔∀f∈l,f.kind=1->rK c f.e=0
 | [],t,o=>by simp[mC]
 |f::fs,t,o=>by
  rw[mC];by_cases h1:(f.kind==1)=true
  ·rw[ip h1];have j:f.kind=1:=by simpa using h1
   by_cases i:(rK c f.e==0)=true
   ·rw[ip i,kH];have d:rK c f.e=0:=by simpa using i
    constructor
    ·intro h g a b;rcases mem_cons.1 a with rfl|a
     ·exact d
     ·exact h g a b
    ·exact λh g a b=>h g (mem_cons_of_mem _ a) b
   ·rw[iq i];have d:rK c f.e≠0:=by simpa using i
    constructor
    ·exact λh=>absurd h d
    ·exact λh=>h f (by simp) j
  ·have key:∀k,(mC c fs t k).2.2=0↔∀g∈f::fs,g.kind=1->rK c g.e=0:=λk=>by
    rw[kH];constructor
    ·intro h g a b;rcases mem_cons.1 a with rfl|a
     ·exact absurd (by simpa using b) h1
     ·exact h g a b
    ·exact λh g a b=>h g (mem_cons_of_mem _ a) b
   rw[iq h1];split<;>exact key _
theorem nF:∀ {l:List Fac} {t:List (List (List Trm))} {o:List (List UInt8)},(mC c l t o).2.2=0->(mC c l t o).1=t++(pC l).map λf=>ofL c f.e
 | [],t,o,_=>by simp[mC,pC]
 |f::fs,t,o,h=>by
  rw[mC] at h⊢;by_cases h1:(f.kind==1)=true
  ·rw[ip h1] at h⊢;by_cases a:(rK c f.e==0)=true
   ·rw[ip a] at h⊢;have e:pC (f::fs)=f::pC fs:=filter_cons_of_pos (by exact h1);rw[nF h,e,map_cons,append_assoc];rfl
   ·rw[iq a] at h;exact absurd h (by simpa using a)
  ·have e:pC (f::fs)=pC fs:=filter_cons_of_neg (by exact h1);rw[iq h1] at h⊢;rw[e];split at h
   ·rename_i q;rw[ip q];exact nF h
   ·rename_i q;rw[iq q];exact nF h
theorem RY {f:Nat->Int} :∀ {n:Nat},QY f n=none->∀j,j<n->f j=0
 |0,_,j,a=>by omega
 |n+1,h,j,a=>by
  rw[QY] at h;split at h
  ·cases h
  ·rename_i q;split at h
   ·rename_i b;rcases Nat.lt_succ_iff_lt_or_eq.1 a with p|rfl
    ·exact RY q j p
    ·simpa using b
   ·cases h
def tP {l:List Fac} :(yS c l).2=0↔wp c=0/\l.length<=256/\∀f∈l,rI c f=0:=by
 have g:(∀j,j<l.length->wi c l j=0)↔∀f∈l,rI c f=0:=by
  constructor
  ·intro h f hf;obtain⟨j,a,rfl⟩:=mem_iff_getElem.1 hf;have:=h j a;unfold wi at this;rw[getElem?_eq_getElem a] at this;exact this
  ·intro h j a;unfold wi;rw[getElem?_eq_getElem a];exact h _ (getElem_mem a)
 unfold yS;by_cases h1:(!(wp c==0))=true
 ·rw[ip h1]
  have:wp c≠0:=by simpa using h1
  constructor
  ·intro h;exact absurd h (by decide)
  ·exact λh=>absurd h.1 this
 ·rw[iq h1];have d:wp c=0:=by simpa using h1
  by_cases b:decide ((l.length:Int)>256)=true
  ·rw[ip b];have:=of_decide_eq_true b;constructor
   ·intro h;exact absurd h (by decide)
   ·intro h;omega
  ·rw[iq b];have e:l.length<=256:=by
    have:¬(l.length:Int)>256:=λq=>b (decide_eq_true q);omega
   rw[<-g];cases hf:QY (wi c l) l.length with
   |none=>exact⟨λ_=>⟨d,e,RY hf⟩,λ_=>rfl⟩
   |some p=>
    constructor
    ·intro h;have i:p.2≠0/\p.1<l.length/\wi c l p.1=p.2:=by
      generalize l.length=n at hf
      induction n with
      |zero=>cases hf
      |succ n k=>
       rw[QY] at hf;split at hf
       ·rename_i q;cases hf;have:=k q;exact⟨this.1,by omega,this.2.2⟩
       ·split at hf
        ·cases hf
        ·rename_i q;cases hf;exact⟨by simpa using q,by omega,rfl⟩
     exact absurd h i.1
    ·rintro⟨_,_,h⟩;rw[lx h] at hf;cases hf
structure Whole (c:Cat) (fs:List Fac) (y:Cho):Prop where
 cat:wp c=0
 len:fs.length<=256
 fact:∀f∈fs,rI c f=0
 of:∀f∈fs,f.kind=1->rK c f.e=0
 tl:y.ts.length=(pC fs).length
 ts:∀i (h:i<y.ts.length) (f:Fac),(pC fs)[i]? =some f->(y.ts[i]).ts∈ofL c f.e
 ol:y.own.length=(yz fs []).length
 own:∀s∈y.own,(c.ls.any λx=>x.name==s)=true
def YJ {f:Nat->Int} :p8 f n=0↔∀i,i<n->f i=0:=⟨λh i a=>nU h i a,λh=>qZ h⟩
def WY {y:Cho} :yq c fs y false=0↔Whole c fs y:=by
 have p:(zM c fs).2.2=0↔(yS c fs).2=0/\∀f∈fs,f.kind=1->rK c f.e=0:=by
  unfold zM;by_cases h:(!((yS c fs).2==0))=true
  ·rw[ip h]
   have:(yS c fs).2≠0:=by simpa using h
   exact⟨λq=>absurd q this,λq=>absurd q.1 this⟩
  ·rw[iq h,kH]
   have:(yS c fs).2=0:=by simpa using h
   exact⟨λq=>⟨this,q⟩,λq=>q.2⟩
 have A:(zM c fs).2.2=0->(zM c fs).1=(pC fs).map (λf=>ofL c f.e)/\(zM c fs).2.1=yz fs []:=by
  intro h0;have w:=(p.1 h0).1;unfold zM at h0⊢;rw[iq (by rw[w];decide)] at h0⊢;exact⟨by rw[nF h0,nil_append],(pR h0).2⟩
 unfold yq;by_cases h0:(!((zM c fs).2.2==0))=true
 ·rw[ip h0];have a:(zM c fs).2.2≠0:=by simpa using h0
  constructor
  ·intro h;exact absurd h a
  ·intro W;exact absurd (p.2 ⟨tP.2 ⟨W.cat,W.len,W.fact⟩,W.of⟩) a
 rw[iq h0];have a:(zM c fs).2.2=0:=by simpa using h0
 obtain⟨k,o⟩:=p.1 a;obtain⟨r,t,u⟩:=tP.1 k;obtain⟨E,F⟩:=A a;rw[E,F];by_cases h1:(!((y.ts.length:Int)==(((pC fs).map λf=>ofL c f.e).length:Int))|| !((y.own.length:Int)==((yz fs []).length:Int)))=true
 ·rw[ip h1];constructor
  ·intro h;exact absurd h (by decide)
  ·intro W;rw[length_map,W.tl,W.ol] at h1;simp at h1
 rw[iq h1];have m:y.ts.length=(pC fs).length/\y.own.length=(yz fs []).length:=by
  rw[length_map] at h1;simp only[Bool.or_eq_true,Bool.not_eq_true',beq_eq_false_iff_ne,ne_eq,not_or,Decidable.not_not] at h1;omega
 have g:(∀i,i<y.ts.length->t7 ((pC fs).map λf=>ofL c f.e) y.ts false i=0)↔∀i (h:i<y.ts.length) (f:Fac),(pC fs)[i]? =some f->(y.ts[i]).ts∈ofL c f.e:=by
  have key:∀i (h:i<y.ts.length),t7 ((pC fs).map λf=>ofL c f.e) y.ts false i=0↔(y.ts[i]).ts∈ofL c ((pC fs)[i]'ow).e:=by
   intro i h;unfold t7;rw[getElem?_eq_getElem h];simp only[Bool.false_and,Bool.false_eq_true,if_false];have z:((pC fs).map λf=>ofL c f.e).getD i []=ofL c ((pC fs)[i]'ow).e:=by
    rw[getD_eq_getElem?_getD,getElem?_map,getElem?_eq_getElem ow];rfl
   rw[z];by_cases q:(ofL c ((pC fs)[i]'ow).e).any (λb=>X8 (y.ts[i]).ts b)=true
   ·rw[iq (by rw[q];decide)];obtain⟨b,v,e⟩:=any_eq_true.1 q;rw[(rZ _ _).1 e];exact⟨λ_=>v,λ_=>rfl⟩
   ·rw[ip (by simpa using q)];constructor
    ·intro h;exact absurd h (by decide)
    ·intro B;exact absurd (any_eq_true.2 ⟨_,B,(rZ _ _).2 rfl⟩) q
  constructor
  ·intro h i d f hf;have l:=(key i d).1 (h i d);rw[getElem?_eq_getElem ow] at hf;cases hf;exact l
  ·intro h i d;exact(key i d).2 (h i d _ (getElem?_eq_getElem ow))
 have n:(∀i,i<y.own.length->Wq c y.own false i=0)↔∀s∈y.own,(c.ls.any λx=>x.name==s)=true:=by
  have key:∀i (h:i<y.own.length),Wq c y.own false i=0↔(c.ls.any λx=>x.name==y.own[i])=true:=by
   intro i h;unfold Wq;rw[getElem?_eq_getElem h];simp only[Bool.false_and,Bool.false_eq_true,if_false];cases(c.ls.any λx=>x.name==y.own[i])<;>simp
  constructor
  ·intro h s C;obtain⟨i,d,rfl⟩:=mem_iff_getElem.1 C;exact(key i d).1 (h i d)
  ·exact λh i d=>(key i d).2 (h _ (getElem_mem d))
 by_cases l:(!(p8 (t7 ((pC fs).map λf=>ofL c f.e) y.ts false) y.ts.length==0))=true
 ·rw[ip l];have j:p8 (t7 ((pC fs).map λf=>ofL c f.e) y.ts false) y.ts.length≠0:=by simpa using l
  constructor
  ·intro h;exact absurd h j
  ·intro W;exact absurd (YJ.2 (g.2 W.ts)) j
 rw[iq l];have j:p8 (t7 ((pC fs).map λf=>ofL c f.e) y.ts false) y.ts.length=0:=by simpa using l
 have D:=g.1 (YJ.1 j);rw[YJ,n];exact⟨λh=>⟨r,t,u,o,m.1,D,m.2,h⟩,λW=>W.own⟩
def zq (fs:List Fac) (I:List Nat):List Fac:=I.filterMap λi=>fs[i]?
def WZ (y:Cho) (fs:List Fac) (I:List Nat):List Alt:=(I.filter λi=>qJ fs i==1).map λi=>ry y (tn fs i)
def BY (y:Cho) (outs names:List (List UInt8)):List (List UInt8):=names.map λo=>rT y (outs.findIdx λz=>z==o)
structure InI (fs:List Fac) (I:List Nat):Prop where
 lt:∀i∈I,i<fs.length
 inc:I.Pairwise (· < ·)
def Wa {p:α->Bool} {l:List α} {x:α} (h:l[j]? =some x) (b:p x=true):(l.filter p)[((l.take j).filter p).length]? =some x:=by
 obtain⟨a,rfl⟩:=List.getElem?_eq_some_iff.1 h;have e:l.filter p=(l.take j).filter p++(l[j]::(l.drop (j+1)).filter p):=by
  conv=>lhs;rw[<-take_append_drop j l,filter_append,drop_eq_getElem_cons a,filter_cons_of_pos b]
 rw[e,getElem?_append_right (le_refl _),Nat.sub_self,getElem?_cons_zero]
section
variable {fs:List Fac} {I:List Nat}
theorem jP:∀ {I:List Nat},(∀i∈I,i<fs.length)->∀j:Nat,(zq fs I)[j]? =I[j]?.bind λi=>fs[i]?
 | [],_,j=>by simp[zq]
 |i::I,h,j=>by
  have a:=h i (by simp);have e:zq fs (i::I)=fs[i]::zq fs I:=by
   unfold zq;rw[filterMap_cons_some (getElem?_eq_getElem a)]
  rw[e];cases j with
  |zero=>simp[getElem?_eq_getElem a]
  |succ j=>
   rw[getElem?_cons_succ,getElem?_cons_succ];exact jP (λx b=>h x (mem_cons_of_mem _ b)) j
theorem wB:∀ {I:List Nat},(∀i∈I,i<fs.length)->(zq fs I).length=I.length
 | [],_=>rfl
 |i::I,h=>by
  have a:=h i (by simp);have e:zq fs (i::I)=fs[i]::zq fs I:=by
   unfold zq;rw[filterMap_cons_some (getElem?_eq_getElem a)]
  rw[e,length_cons,length_cons,wB λx b=>h x (mem_cons_of_mem _ b)]
def aY (I J:List Nat):zq fs (I++J)=zq fs I++zq fs J:=by unfold zq;rw[filterMap_append]
def Qw (h:i<fs.length):zq fs [i]= [fs[i]]:=by
 unfold zq;rw[filterMap_cons_some (getElem?_eq_getElem h)];rfl
def Qx {f:Fac} (h:f∈zq fs I):f∈fs:=by
 obtain⟨i,_,e⟩:=mem_filterMap.1 h;exact mem_of_getElem? e
theorem mc:∀ {I:List Nat},(∀i∈I,i<fs.length)->pC (zq fs I)=zq fs (I.filter λi=>qJ fs i==1)
 | [],_=>rfl
 |i::I,h=>by
  have a:=h i (by simp);have c:=mc (I:=I) λx d=>h x (mem_cons_of_mem _ d);have e:zq fs (i::I)=fs[i]::zq fs I:=by
   unfold zq;rw[filterMap_cons_some (getElem?_eq_getElem a)]
  have b:=wO a;rw[e];by_cases q:(fs[i].kind==1)=true
  ·have e1:pC (fs[i]::zq fs I)=fs[i]::pC (zq fs I):=filter_cons_of_pos (by exact q);rw[e1,c,filter_cons_of_pos (by rw[b];exact q)];unfold zq;rw[filterMap_cons_some (getElem?_eq_getElem a)]
  ·have e1:pC (fs[i]::zq fs I)=pC (zq fs I):=filter_cons_of_neg (by exact q);rw[e1,c,filter_cons_of_neg (by rw[b];exact q)]
def InI.emb (H:InI fs I):Emb fs (zq fs I) (λj=>I.getD j 0):=by
 have e:=wB H.lt;refine⟨λj d=> ?_,λi j c d=> ?_⟩
 ·have a:j<I.length:=ow;rw[jP H.lt,getElem?_eq_getElem a,getD_eq_getElem?_getD,getElem?_eq_getElem a];rfl
 ·have a:j<I.length:=ow;have b:i<I.length:=ow;show I.getD i 0<I.getD j 0;rw[getD_eq_getElem?_getD,getD_eq_getElem?_getD,getElem?_eq_getElem a,getElem?_eq_getElem b];exact pairwise_iff_getElem.1 H.inc i j b a c
def UK (b:∀i∈I,i<fs.length) :tn (zq fs I) j=((I.take j).filter λi=>qJ fs i==1).length:=by
 have e:(zq fs I).take j=zq fs (I.take j):=by
  rcases Nat.le_total j I.length with h|h
  ·conv=>lhs;rw[<-take_append_drop j I,aY]
   have:(zq fs (I.take j)).length=j:=by
    rw[wB λx c=>b x (mem_of_mem_take c),length_take];omega
   rw[take_append_of_le_length ow,take_of_length_le ow]
  ·rw[take_of_length_le (by rw[wB b];exact h),take_of_length_le h]
 have a:∀i∈I.take j,i<fs.length:=λx c=>b x (mem_of_mem_take c);show(pC ((zq fs I).take j)).length=_;rw[e,mc a,wB λi d=>a i (mem_filter.1 d).1]
def FN (h:i<fs.length) (a:qJ fs i=1):(pC fs)[tn fs i]? =some fs[i]:=by
 rw[wO h] at a;exact Wa (getElem?_eq_getElem h) (by simp[a])
theorem to:∀ {l:List Fac} {o:List (List UInt8)} {s:List UInt8},s∈yz l o↔s∈o\/∃f∈l,f.kind=2/\f.out=s
 | [],o,s=>by simp[yz]
 |f::fs,o,s=>by
  rw[yz];by_cases h1:(f.kind==1)=true
  ·rw[ip h1,to];have d:f.kind=1:=by simpa using h1
   constructor
   ·rintro(h| ⟨g,a,h⟩)
    ·exact .inl h
    ·exact .inr ⟨g,mem_cons_of_mem _ a,h⟩
   ·rintro(h| ⟨g,a,h,e⟩)
    ·exact .inl h
    ·rcases mem_cons.1 a with rfl|a
     ·omega
     ·exact .inr ⟨g,a,h,e⟩
  rw[iq h1];by_cases c:(f.kind==2)=true
  ·rw[ip c,to];have b:f.kind=2:=by simpa using c
   have key:(s∈if(o.any λz=>z==f.out)=true then o else o++ [f.out])↔s∈o\/f.out=s:=by
    by_cases q:(o.any λz=>z==f.out)=true
    ·rw[ip q];constructor
     ·exact .inl
     ·rintro(h|rfl)
      ·exact h
      ·obtain⟨z,i,e⟩:=any_eq_true.1 q
       have:z=f.out:=by simpa using e
       rw[<-this];exact i
    ·rw[iq q];simp only[mem_append,mem_singleton];constructor
     ·rintro(h|rfl)
      ·exact .inl h
      ·exact .inr rfl
     ·rintro(h|rfl)
      ·exact .inl h
      ·exact .inr rfl
   rw[key];constructor
   ·rintro((h|h)| ⟨g,a,h⟩)
    ·exact .inl h
    ·exact .inr ⟨f,by simp,b,h⟩
    ·exact .inr ⟨g,mem_cons_of_mem _ a,h⟩
   ·rintro(h| ⟨g,a,h,e⟩)
    ·exact .inl (.inl h)
    ·rcases mem_cons.1 a with rfl|a
     ·exact .inl (.inr e)
     ·exact .inr ⟨g,a,h,e⟩
  ·rw[iq c,to];have b:f.kind≠2:=by simpa using c
   constructor
   ·rintro(h| ⟨g,a,h⟩)
    ·exact .inl h
    ·exact .inr ⟨g,mem_cons_of_mem _ a,h⟩
   ·rintro(h| ⟨g,a,h,e⟩)
    ·exact .inl h
    ·rcases mem_cons.1 a with rfl|a
     ·exact absurd h b
     ·exact .inr ⟨g,a,h,e⟩
def FO (y:Cho) (outs:List (List UInt8)) (o:List UInt8):Option (List UInt8):=
 if o∈outs/\rT y (outs.findIdx λz=>z==o)≠[] then some (rT y (outs.findIdx λz=>z==o)) else none
theorem gm {y:Cho} :∀k,k<=fs.length->∀o,wr o (zd y fs k).O=FO y (zd y fs k).outs o
 |0,_,o=>by simp[zd,FO,wr]
 |k+1,l,o=>by
  have d:=gm (y:=y) k ow;have g:k<fs.length:=ow;rw[rM g];split
  ·split<;>exact d o
  split
  ·split
   ·exact d o
   ·rename_i f;have f:fs[k].out∉(zd y fs k).outs:=λc=>f (any_eq_true.2 ⟨_,c,by simp⟩);generalize(zd y fs k).outs=a at *
    generalize(zd y fs k).O=O at *
    generalize fs[k].out=s at *
    show wr o (if(!(rT y a.length== []))=true then mR s (rT y a.length) O else O)=FO y (a++ [s]) o
    have i:(a++ [s]).findIdx (λz=>z==s)=a.length:=by
     rw[findIdx_append]
     have:a.findIdx (λz=>z==s)=a.length:=findIdx_eq_length.2 λz j=>by
      have:z≠s:=λe=>f (e▸j);simpa using this
     rw[iq ow];simp[findIdx_cons]
    have h:o∈a->(a++ [s]).findIdx (λz=>z==o)=a.findIdx (λz=>z==o):=λc=>by
     rw[findIdx_append];rw[ip (findIdx_lt_length.2 ⟨o,c,by simp⟩)]
    have b:∀v,wr o (mR s v O)=if o=s then some v else wr o O:=λv=>by
     rw[Xf];by_cases e:o=s
     ·rw[ip e,ip (by simpa using e)]
     ·rw[iq e,iq (by simpa using e)]
    by_cases e:o=s
    ·subst e;unfold FO;rw[i];by_cases q:rT y a.length= []
     ·rw[iq (by simp[q]),iq (by simp[q]),d o,FO,iq (by simp[f])]
     ·rw[ip (by simpa using q),b,ip rfl,ip ⟨by simp,q⟩]
    ·have h1:wr o (if(!(rT y a.length== []))=true then mR s (rT y a.length) O else O)=wr o O:=by
      split
      ·rw[b,iq e]
      ·rfl
     rw[h1,d o];unfold FO;by_cases c:o∈a
     ·rw[h c];simp[c]
     ·rw[iq (by simp[c]),iq (by simp[c,e])]
  ·exact d o
def CO {y:Cho} {b a:List (List UInt8)} {o:List UInt8} (h:o∈a):rT ⟨la,BY y b a⟩ (a.findIdx λz=>z==o)=rT y (b.findIdx λz=>z==o):=by
 have c:a.findIdx (λz=>z==o)<a.length:=findIdx_lt_length.2 ⟨o,h,by simp⟩;have d:a[a.findIdx λz=>z==o]=o:=by
  have:=findIdx_getElem (w:=c);simpa using this
 show(BY y b a).getD _ []=_;unfold BY;rw[getD_eq_getElem?_getD,getElem?_map,getElem?_eq_getElem c,d];rfl
end
def YK (y:Cho) (fs:List Fac) (I:List Nat):Cho:=⟨WZ y fs I,BY y (yz fs []) (yz (zq fs I) [])⟩
section
variable {c:Cat} {fs:List Fac} {y:Cho} {I:List Nat}
def Wb {o:List UInt8} (h:o∈yz (zq fs I) []):o∈yz fs []:=by
 rw[to] at h⊢;rcases h with h| ⟨f,hf,h⟩
 ·cases h
 ·exact .inr ⟨f,Qx hf,h⟩
def I6 (W:Whole c fs y) (H:InI fs I):Cmp fs (zq fs I) (λj=>I.getD j 0) (alS fs y) (alS (zq fs I) (YK y fs I)) (zd y fs fs.length).O (zd (YK y fs I) (zq fs I) (zq fs I).length).O where
 al:=λj hj=>by
  have E:=H.emb;have hjI:j<I.length:=by rw[wB H.lt] at hj;exact hj
  have hgd:I.getD j 0=I[j]:=by rw[List.getD_eq_getElem?_getD,List.getElem?_eq_getElem hjI];rfl
  have hlt:=H.lt _ (List.getElem_mem hjI);have hget:=E.get j hj;show alS (zq fs I) (YK y fs I) j=alS fs y (I.getD j 0);have hget:(zq fs I)[j]? =some fs[I[j]]:=by
   have:(zq fs I)[j]? =fs[I.getD j 0]? :=hget;rw[this,hgd,List.getElem?_eq_getElem hlt]
  unfold alS;rw[hget,hgd,List.getElem?_eq_getElem hlt];by_cases hk:(fs[I[j]].kind==1)=true
  ·simp only[ip hk];have hk1:qJ fs I[j]=1:=by rw[wO hlt];simpa using hk
   have ha:ry (YK y fs I) (tn (zq fs I) j)=ry y (tn fs I[j]):=by
    have:=Wa (p:=λi=>qJ fs i==1) (List.getElem?_eq_getElem hjI) (by simpa using hk1);rw[UK H.lt];show(WZ y fs I).getD _ _=_;unfold WZ;rw[List.getD_eq_getElem?_getD,List.getElem?_map,this];rfl
   rw[ha]
  ·simp only[iq hk]
 O:=λj hj hk=>by
  have hjf:=(List.getElem?_eq_getElem hj);have hm:qX (zq fs I) j∈yz (zq fs I) []:=by
   rw[to];refine .inr ⟨_,List.getElem_mem hj,by rw[<-wO hj];exact hk,(YH hj).symm⟩
  rw[gm _ (Nat.le_refl _),gm _ (Nat.le_refl _),rO _ (Nat.le_refl _),rO _ (Nat.le_refl _),List.take_length,List.take_length];unfold FO;have e:rT (YK y fs I) ((yz (zq fs I) []).findIdx λz=>z==qX (zq fs I) j)=rT y ((yz fs []).findIdx λz=>z==qX (zq fs I) j):=CO hm;rw[e];have hm2:=Wb hm;simp only[hm,hm2,true_and]
end
def KQ (l:List Int):(tN l).Pairwise λa b=>qG a b<0:=Db jJ (jH jJ _)
def nG {l:List Int} {x:Int} :x∈tN l↔x∈l:=by unfold tN;rw[LY Lb,jG]
def CP {a b:Int} :qG a b<0↔a<b:=by
 unfold qG;split
 ·simp[*]
 ·split<;>simp<;>omega
section
variable {c:Cat} {fs:List Fac} {y:Cho} {I:List Nat}
def nX {v:Vio} :v∈sS c fs y↔∃i:Nat,i<6/\v.row=(i:Int)/\∃l,uY c fs (alS fs y) (zd y fs fs.length).O i l/\tN (l.map λn:Nat=>(n:Int))=v.facts:=by
 rw[KP];constructor
 ·rintro⟨i,h1,a,z,d,e⟩;obtain⟨l,b,rfl⟩:=RX.1 d;exact⟨i,h1,a,l,b,e⟩
 ·rintro⟨i,h1,a,l,b,e⟩;exact⟨i,h1,a,_,RX.2 ⟨l,b,rfl⟩,e⟩
end
end Go.V
