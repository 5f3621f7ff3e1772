/- None, part 1. No condition. -/
import Derived.Test.YtmhkjfajejaniaaGreatDoorW38
set_option linter.all false
namespace Go.V
set_option maxRecDepth 100000
def yV (fs:List Fac) (i:Nat):Int:=match fs[i]? with
 |some f=>f.kind
 |none=> -1
theorem zIw {p:Fac→Bool} :∀ {l:List Fac} {k i:Nat},i∈yi p l k↔k≤i∧∃h:i-k<l.length,p l[i-k]=true
 | [],k,i=>by simp[yi]
 |f::l,k,i=>by
  have ih:=zIw (p:=p) (l:=l) (k:=k+1) (i:=i);have key:(i∈yi p (f::l) k)↔(p f=true∧i=k)∨i∈yi p l (k+1):=by
   rw[yi];split
   ·rename_i h;simp[h]
   ·rename_i h;simp[h]
  rw[key,ih];constructor
  ·rintro(⟨h1,rfl⟩ | ⟨h1,h2,h3⟩)
   ·exact⟨Nat.le_refl _,by simp,by simpa using h1⟩
   ·refine⟨by omega,by simp only[List.length_cons];omega,?_⟩
    have:i-k=(i- (k+1))+1:=by omega
    simp only[this,List.getElem_cons_succ];exact h3
  ·rintro⟨h1,h2,h3⟩;by_cases e:i=k
   ·subst e;left;exact⟨by simpa using h3,rfl⟩
   ·right
    have:i-k=(i- (k+1))+1:=by omega
    simp only[this,List.getElem_cons_succ] at h3;exact⟨by omega,by simp only[List.length_cons] at h2;omega,h3⟩
theorem zPC {kind:Int} {q:Fac→Bool} {fs:List Fac} {i:Nat} :i∈fIx kind q fs↔∃h:i<fs.length,fs[i].kind=kind∧q fs[i]=true:=by
 unfold fIx;rw[zIw];simp only[Nat.zero_le,Nat.sub_zero,true_and,isF,Bool.and_eq_true,beq_iff_eq]
theorem ql {fs:List Fac} {i:Nat} (h:i<fs.length):yV fs i=fs[i].kind:=by
 unfold yV;rw[List.getElem?_eq_getElem h]
theorem wi {fs:List Fac} {i:Nat} {k:Int} (h:yV fs i=k) (hk:0≤k):i<fs.length:=by
 unfold yV at h;split at h
 ·rename_i q;exact(List.getElem?_eq_some_iff.1 q).1
 ·omega
theorem zNi {fs:List Fac} {i:Nat} (h:i<fs.length):qr fs i=fs[i].comp:=by
 unfold qr;rw[List.getElem?_eq_getElem h]
theorem zLg {fs:List Fac} {i:Nat} (h:i<fs.length):qL fs i=fs[i].out:=by
 unfold qL;rw[List.getElem?_eq_getElem h]
theorem zHQ {fs:List Fac} {k:Int} (hk:0≤k) {i j:Nat} :j∈fIx k (fun g=>g.comp==qr fs i) fs↔yV fs j=k∧qr fs j=qr fs i:=by
 rw[zPC];constructor
 ·rintro⟨h,h1,h2⟩;exact⟨by rw[ql h,h1],by rw[zNi h];simpa using h2⟩
 ·rintro⟨h1,h2⟩;have h:=wi h1 hk;exact⟨h,by rw[←ql h,h1],by rw[zNi h] at h2;simpa using h2⟩
theorem zLh {fs:List Fac} {k:Int} (hk:0≤k) {i j:Nat} :j∈fIx k (fun g=>g.out==qL fs i) fs↔yV fs j=k∧qL fs j=qL fs i:=by
 rw[zPC];constructor
 ·rintro⟨h,h1,h2⟩;exact⟨by rw[ql h,h1],by rw[zLg h];simpa using h2⟩
 ·rintro⟨h1,h2⟩;have h:=wi h1 hk;exact⟨h,by rw[←ql h,h1],by rw[zLg h] at h2;simpa using h2⟩
theorem zHR {fs:List Fac} {k:Int} (hk:0≤k) {j:Nat} :j∈fIx k (fun _=>true) fs↔yV fs j=k:=by
 rw[zPC];constructor
 ·rintro⟨h,h1,_⟩;rw[ql h,h1]
 ·intro h1;have h:=wi h1 hk;exact⟨h,by rw[←ql h,h1],rfl⟩
structure TriP (fs:List Fac) (al:Nat→Option Alt) (i u h:Nat):Prop where
 lt:i<fs.length
 al:(al i).isSome=true
 ku:yV fs u=0
 cu:qr fs u=qr fs i
 kh:yV fs h=2
 oh:qL fs h=qL fs u
theorem wj {fs:List Fac} {al:Nat→Option Alt} {t:Tri} :t∈zq fs al↔TriP fs al t.1 t.2.1 t.2.2:=by
 unfold zq;rw[List.mem_flatMap];constructor
 ·rintro⟨i,hi,ht⟩;unfold zRx at ht;split at ht
  ·rename_i ha;rw[List.mem_flatMap] at ht;obtain⟨u,hu,ht⟩:=ht;unfold zRw at ht;rw[List.mem_map] at ht;obtain⟨h,hh,rfl⟩:=ht;rw[zHQ (by decide)] at hu;rw[zLh (by decide)] at hh;exact⟨List.mem_range.1 hi,ha,hu.1,hu.2,hh.1,hh.2⟩
  ·cases ht
 ·intro h;obtain⟨i,u,k⟩:=t;refine⟨i,List.mem_range.2 h.lt,?_⟩;unfold zRx;rw[if_pos h.al,List.mem_flatMap];refine⟨u,(zHQ (by decide)).2 ⟨h.ku,h.cu⟩,?_⟩;unfold zRw;exact List.mem_map.2 ⟨k,(zLh (by decide)).2 ⟨h.kh,h.oh⟩,rfl⟩
def zB8 (c:Cat) (fs:List Fac) (al:Nat→Option Alt) (O:KV):Nat→List Nat→Prop
 |0,l=>∃i u h,TriP fs al i u h∧zO4 c (zIj al i) (zC4 fs h) (zAw fs u) 5 (fun _=>true)=true∧l= [i,u,h]
 |1,l=>∃i u h own,TriP fs al i u h∧zAM (qL fs u) O=some own∧zO4 c (zIj al i) (zC4 fs h) (zAw fs u) 4 (zIk own)=true∧l= [i,u,h]
 |2,l=>∃i u h k,TriP fs al i u h∧yV fs k=4∧qr fs k=qr fs i∧((!(zFd fs k==2)||zO5 fs u)&&zO4 c (zIj al i) (zC4 fs h) (zAw fs u) (zFd fs k) (fun _=>true))=true∧l= [i,u,h,k]
 |3,l=>∃i u h i' u' h',TriP fs al i u h∧TriP fs al i' u' h'∧(zAw fs u==0)=true∧(!(zJH fs (i,u,h) (i',u',h'))&&zbE c (zIj al i) (zIj al i'))=true∧l= [i,i',u,u',h]
 |4,l=>∃i h own,yV fs i=3∧zAM (qL fs i) O=some own∧((zIm fs i).any fun s=>s==own)=false∧yV fs h=2∧qL fs h=qL fs i∧l= [i,h]
 |_,l=>c.ls.length=0∧∃h,yV fs h=2∧l= [h]
theorem zDi {α:Type} {b:Bool} {x y:α} :(y∈if b=true then [x] else [])↔b=true∧y=x:=by
 cases b<;>simp
theorem zQx {c:Cat} {fs:List Fac} {al:Nat→Option Alt} {O:KV} {r:Nat} {z:List Int} :z∈zEk c fs al O r↔∃l,zB8 c fs al O r l∧z=l.map fun n:Nat=>(n:Int):=by
 rcases r with _|_|_|_|_|r
 ·show z∈zEk c fs al O 0↔∃l,zB8 c fs al O 0 l∧z=l.map fun n:Nat=>(n:Int);simp only[zEk,zB8];rw[List.mem_flatMap];constructor
  ·rintro⟨t,ht,hz⟩;rw[wj] at ht;unfold qw at hz;rw[zDi] at hz;exact⟨_,⟨t.1,t.2.1,t.2.2,ht,hz.1,rfl⟩,hz.2⟩
  ·rintro⟨l,⟨i,u,h,ht,hh,rfl⟩,rfl⟩;refine⟨(i,u,h),wj.2 ht,?_⟩;unfold qw;rw[zDi];exact⟨hh,rfl⟩
 ·show z∈zEk c fs al O 1↔∃l,zB8 c fs al O 1 l∧z=l.map fun n:Nat=>(n:Int);simp only[zEk,zB8];rw[List.mem_flatMap];constructor
  ·rintro⟨t,ht,hz⟩;rw[wj] at ht;unfold zAE at hz;split at hz
   ·cases hz
   ·rename_i own ho;rw[zDi] at hz;exact⟨_,⟨t.1,t.2.1,t.2.2,own,ht,ho,hz.1,rfl⟩,hz.2⟩
  ·rintro⟨l,⟨i,u,h,own,ht,ho,hh,rfl⟩,rfl⟩;refine⟨(i,u,h),wj.2 ht,?_⟩;unfold zAE;simp only[ho];rw[zDi];exact⟨hh,rfl⟩
 ·show z∈zEk c fs al O 2↔∃l,zB8 c fs al O 2 l∧z=l.map fun n:Nat=>(n:Int);simp only[zEk,zB8];rw[List.mem_flatMap];constructor
  ·rintro⟨t,ht,hz⟩;rw[wj] at ht;unfold zDg at hz;rw[List.mem_flatMap] at hz;obtain⟨k,hk,hz⟩:=hz;rw[zHQ (by decide)] at hk;unfold zEj at hz;rw[zDi] at hz;exact⟨_,⟨t.1,t.2.1,t.2.2,k,ht,hk.1,hk.2,hz.1,rfl⟩,hz.2⟩
  ·rintro⟨l,⟨i,u,h,k,ht,hk,hc,hh,rfl⟩,rfl⟩;refine⟨(i,u,h),wj.2 ht,?_⟩;unfold zDg;rw[List.mem_flatMap];refine⟨k,(zHQ (by decide)).2 ⟨hk,hc⟩,?_⟩;unfold zEj;rw[zDi];exact⟨hh,rfl⟩
 ·show z∈zEk c fs al O 3↔∃l,zB8 c fs al O 3 l∧z=l.map fun n:Nat=>(n:Int);simp only[zEk,zB8];rw[List.mem_flatMap];constructor
  ·rintro⟨t,ht,hz⟩;rw[wj] at ht;unfold wa at hz;split at hz
   ·rename_i hr;rw[List.mem_flatMap] at hz;obtain⟨t',ht',hz⟩:=hz;rw[wj] at ht';unfold zA5 at hz;rw[zDi] at hz;exact⟨_,⟨t.1,t.2.1,t.2.2,t'.1,t'.2.1,t'.2.2,ht,ht',hr,hz.1,rfl⟩,hz.2⟩
   ·cases hz
  ·rintro⟨l,⟨i,u,h,i',u',h',ht,ht',hr,hh,rfl⟩,rfl⟩;refine⟨(i,u,h),wj.2 ht,?_⟩;unfold wa;rw[if_pos hr,List.mem_flatMap];refine⟨(i',u',h'),wj.2 ht',?_⟩;unfold zA5;rw[zDi];exact⟨hh,rfl⟩
 ·show z∈zEk c fs al O 4↔∃l,zB8 c fs al O 4 l∧z=l.map fun n:Nat=>(n:Int);simp only[zEk,zB8];rw[List.mem_flatMap];constructor
  ·rintro⟨i,hi,hz⟩;rw[zHR (by decide)] at hi;unfold zB6 at hz;split at hz
   ·cases hz
   ·rename_i own ho;split at hz
    ·cases hz
    ·rename_i hn;rw[List.mem_flatMap] at hz;obtain⟨h,hh,hz⟩:=hz;unfold zIo at hz;rw[List.mem_singleton] at hz;have hh:=(zLh (by decide)).1 hh;exact⟨_,⟨i,h,own,hi,ho,Bool.eq_false_iff.2 hn,hh.1,hh.2,rfl⟩,hz⟩
  ·rintro⟨l,⟨i,h,own,hi,ho,hn,hh,hoh,rfl⟩,rfl⟩;refine⟨i,(zHR (by decide)).2 hi,?_⟩;unfold zB6;simp only[ho];rw[if_neg (by rw[hn];decide),List.mem_flatMap];refine⟨h,(zLh (by decide)).2 ⟨hh,hoh⟩,?_⟩;unfold zIo;exact List.mem_singleton.2 rfl
 ·show z∈zGF c fs↔∃l,(c.ls.length=0∧∃h,yV fs h=2∧l= [h])∧z=l.map fun n:Nat=>(n:Int);unfold zGF;constructor
  ·intro hz;split at hz
   ·cases hz
   ·rename_i hn;rw[List.mem_flatMap] at hz;obtain⟨h,hh,hz⟩:=hz;rw[zHR (by decide)] at hh;unfold zNV at hz;rw[List.mem_singleton] at hz;exact⟨_,⟨by have:¬(c.ls.length:Int)>0:=fun q=>hn (decide_eq_true q);omega,h,hh,rfl⟩,hz⟩
  ·rintro⟨l,⟨hn,h,hh,rfl⟩,rfl⟩;rw[if_neg (fun q=>by have:=of_decide_eq_true q;omega),List.mem_flatMap];refine⟨h,(zHR (by decide)).2 hh,?_⟩;unfold zNV;exact List.mem_singleton.2 rfl
structure Emb (fs gs:List Fac) (f:Nat→Nat):Prop where
 get:∀j,j<gs.length→gs[j]? =fs[f j]?
 mono:∀i j,i<j→j<gs.length→f i<f j
structure Cmp (fs gs:List Fac) (f:Nat→Nat) (al al':Nat→Option Alt) (O O':KV):Prop where
 al:∀j,j<gs.length→al' j=al (f j)
 O:∀j,j<gs.length→yV gs j=2→zAM (qL gs j) O'=zAM (qL gs j) O
section
variable {c:Cat} {fs gs:List Fac} {f:Nat→Nat} {al al':Nat→Option Alt} {O O':KV} (E:Emb fs gs f)
include E
theorem Emb.lt {j:Nat} (h:j<gs.length):f j<fs.length:=by
 have:=E.get j h;rw[List.getElem?_eq_getElem h] at this;exact(List.getElem?_eq_some_iff.1 this.symm).1
theorem Emb.kind {j:Nat} (h:j<gs.length):yV gs j=yV fs (f j):=by unfold yV;rw[E.get j h]
theorem Emb.comp {j:Nat} (h:j<gs.length):qr gs j=qr fs (f j):=by unfold qr;rw[E.get j h]
theorem Emb.out {j:Nat} (h:j<gs.length):qL gs j=qL fs (f j):=by unfold qL;rw[E.get j h]
theorem Emb.way {j:Nat} (h:j<gs.length):zC4 gs j=zC4 fs (f j):=by unfold zC4;rw[E.get j h]
theorem Emb.rel {j:Nat} (h:j<gs.length):zAw gs j=zAw fs (f j):=by unfold zAw;rw[E.get j h]
theorem Emb.duty {j:Nat} (h:j<gs.length):zFd gs j=zFd fs (f j):=by unfold zFd;rw[E.get j h]
theorem Emb.chg {j:Nat} (h:j<gs.length):zO5 gs j=zO5 fs (f j):=by unfold zO5;rw[E.get j h]
theorem Emb.list {j:Nat} (h:j<gs.length):zIm gs j=zIm fs (f j):=by unfold zIm;rw[E.get j h]
theorem Emb.lt_iff {i j:Nat} (hi:i<gs.length) (hj:j<gs.length):f i<f j↔i<j:=by
 constructor
 ·intro h;rcases Nat.lt_trichotomy i j with q|q|q
  ·exact q
  ·subst q;omega
  ·have:=E.mono j i q hi;omega
 ·exact fun h=>E.mono i j h hj
theorem Emb.inj {i j:Nat} (hi:i<gs.length) (hj:j<gs.length):f i=f j↔i=j:=by
 constructor
 ·intro h;rcases Nat.lt_trichotomy i j with q|q|q
  ·have:=E.mono i j q hj;omega
  ·exact q
  ·have:=E.mono j i q hi;omega
 ·rintro rfl;rfl
theorem Emb.tri (C:Cmp fs gs f al al' O O') {i u h:Nat} (hi:i<gs.length) (hu:u<gs.length) (hh:h<gs.length):TriP gs al' i u h↔TriP fs al (f i) (f u) (f h):=by
 constructor
 ·rintro⟨h1,h2,h3,h4,h5,h6⟩;exact⟨E.lt hi,by rw[←C.al i hi];exact h2,by rw[←E.kind hu];exact h3,by rw[←E.comp hu,←E.comp hi];exact h4,by rw[←E.kind hh];exact h5,by rw[←E.out hh,←E.out hu];exact h6⟩
 ·rintro⟨h1,h2,h3,h4,h5,h6⟩;exact⟨hi,by rw[C.al i hi];exact h2,by rw[E.kind hu];exact h3,by rw[E.comp hu,E.comp hi];exact h4,by rw[E.kind hh];exact h5,by rw[E.out hh,E.out hu];exact h6⟩
theorem Emb.ts (C:Cmp fs gs f al al' O O') {i:Nat} (hi:i<gs.length):zIj al' i=zIj al (f i):=by unfold zIj;rw[C.al i hi]
theorem Emb.skip {i u h i' u' h':Nat} (hi:i<gs.length) (hu:u<gs.length) (hh:h<gs.length) (hi':i'<gs.length) (hu':u'<gs.length) (hh':h'<gs.length):zJH gs (i,u,h) (i',u',h')=zJH fs (f i,f u,f h) (f i',f u',f h'):=by
 have e1:decide ((i':Int)<(i:Int))=decide ((f i':Int)<(f i:Int)):=by
  have:=E.lt_iff hi' hi;rw[decide_eq_decide];omega
 have e2:((h':Int)==(h:Int))=((f h':Int)==(f h:Int)):=by
  have:=E.inj hh' hh;rw[Bool.eq_iff_iff,beq_iff_eq,beq_iff_eq];omega
 have e3:((u':Int)==(u:Int))=((f u':Int)==(f u:Int)):=by
  have:=E.inj hu' hu;rw[Bool.eq_iff_iff,beq_iff_eq,beq_iff_eq];omega
 unfold zJH;simp only[e1,e2,e3,E.rel hu',E.comp hi,E.comp hi']
theorem Emb.row (C:Cmp fs gs f al al' O O') {r:Nat} {l:List Nat} (hl:∀x∈l,x<gs.length):zB8 c gs al' O' r l↔zB8 c fs al O r (l.map f):=by
 have m3:∀ {a b d:Nat},l.map f= [a,b,d]→∃i u h,l= [i,u,h]∧f i=a∧f u=b∧f h=d:=by
  intro a b d e;rcases l with _| ⟨i,_| ⟨u,_| ⟨h,_| ⟨k,l⟩⟩⟩⟩ <;>simp at e;exact⟨i,u,h,rfl,e.1,e.2.1,e.2.2⟩
 have hO:∀ {u h:Nat},h<gs.length→yV gs h=2→qL gs h=qL gs u→zAM (qL gs u) O'=zAM (qL gs u) O:=by
  intro u h hh hk ho;rw[←ho];exact C.O h hh hk
 rcases r with _|_|_|_|_|r
 ·show zB8 c gs al' O' 0 l↔zB8 c fs al O 0 (l.map f);simp only[zB8];constructor
  ·rintro⟨i,u,h,T,hs,rfl⟩;have hi:=hl i (by simp);have hu:=hl u (by simp);have hh:=hl h (by simp);exact⟨f i,f u,f h,(E.tri C hi hu hh).1 T,by rw[←E.ts C hi,←E.way hh,←E.rel hu];exact hs,rfl⟩
  ·rintro⟨a,b,d,T,hs,e⟩;obtain⟨i,u,h,rfl,rfl,rfl,rfl⟩:=m3 e;have hi:=hl i (by simp);have hu:=hl u (by simp);have hh:=hl h (by simp);exact⟨i,u,h,(E.tri C hi hu hh).2 T,by rw[E.ts C hi,E.way hh,E.rel hu];exact hs,rfl⟩
 ·show zB8 c gs al' O' 1 l↔zB8 c fs al O 1 (l.map f);simp only[zB8];constructor
  ·rintro⟨i,u,h,own,T,ho,hs,rfl⟩;have hi:=hl i (by simp);have hu:=hl u (by simp);have hh:=hl h (by simp);refine⟨f i,f u,f h,own,(E.tri C hi hu hh).1 T,?_,by rw[←E.ts C hi,←E.way hh,←E.rel hu];exact hs,rfl⟩;rw[←E.out hu,←hO hh T.kh T.oh];exact ho
  ·rintro⟨a,b,d,own,T,ho,hs,e⟩;obtain⟨i,u,h,rfl,rfl,rfl,rfl⟩:=m3 e;have hi:=hl i (by simp);have hu:=hl u (by simp);have hh:=hl h (by simp);have T':=(E.tri C hi hu hh).2 T;refine⟨i,u,h,own,T',?_,by rw[E.ts C hi,E.way hh,E.rel hu];exact hs,rfl⟩;rw[hO hh T'.kh T'.oh,E.out hu];exact ho
 ·show zB8 c gs al' O' 2 l↔zB8 c fs al O 2 (l.map f);simp only[zB8];constructor
  ·rintro⟨i,u,h,k,T,hk,hc,hs,rfl⟩;have hi:=hl i (by simp);have hu:=hl u (by simp);have hh:=hl h (by simp);have hkk:=hl k (by simp);exact⟨f i,f u,f h,f k,(E.tri C hi hu hh).1 T,by rw[←E.kind hkk];exact hk,by rw[←E.comp hkk,←E.comp hi];exact hc,by rw[←E.ts C hi,←E.way hh,←E.rel hu,←E.duty hkk,←E.chg hu];exact hs,rfl⟩
  ·rintro⟨a,b,d,m,T,hk,hc,hs,e⟩;rcases l with _| ⟨i,_| ⟨u,_| ⟨h,_| ⟨k,_| ⟨z,l⟩⟩⟩⟩⟩ <;>simp at e;obtain⟨rfl,rfl,rfl,rfl⟩:=e;have hi:=hl i (by simp);have hu:=hl u (by simp);have hh:=hl h (by simp);have hkk:=hl k (by simp);exact⟨i,u,h,k,(E.tri C hi hu hh).2 T,by rw[E.kind hkk];exact hk,by rw[E.comp hkk,E.comp hi];exact hc,by rw[E.ts C hi,E.way hh,E.rel hu,E.duty hkk,E.chg hu];exact hs,rfl⟩
 ·show zB8 c gs al' O' 3 l↔zB8 c fs al O 3 (l.map f);simp only[zB8];constructor
  ·rintro⟨i,u,h,i',u',h',T,T',hr,hs,rfl⟩;have hi:=hl i (by simp);have hu:=hl u (by simp);have hh:=hl h (by simp);have hi':=hl i' (by simp);have hu':=hl u' (by simp);have hh':=wi T'.kh (by decide);exact⟨f i,f u,f h,f i',f u',f h',(E.tri C hi hu hh).1 T,(E.tri C hi' hu' hh').1 T',by rw[←E.rel hu];exact hr,by rw[←E.skip hi hu hh hi' hu' hh',←E.ts C hi,←E.ts C hi'];exact hs,rfl⟩
  ·rintro⟨a,b,d,a',b',d',T,T',hr,hs,e⟩;rcases l with _| ⟨i,_| ⟨i',_| ⟨u,_| ⟨u',_| ⟨h,_| ⟨z,l⟩⟩⟩⟩⟩⟩ <;>simp at e;obtain⟨rfl,rfl,rfl,rfl,rfl⟩:=e;have hi:=hl i (by simp);have hu:=hl u (by simp);have hh:=hl h (by simp);have hi':=hl i' (by simp);have hu':=hl u' (by simp);have hd:d'=f h:=by
    unfold zJH at hs;simp only[Bool.and_eq_true,Bool.not_eq_true',Bool.or_eq_false_iff,Bool.not_eq_false',beq_iff_eq] at hs;omega
   subst hd;exact⟨i,u,h,i',u',h,(E.tri C hi hu hh).2 T,(E.tri C hi' hu' hh).2 T',by rw[E.rel hu];exact hr,by rw[E.skip hi hu hh hi' hu' hh,E.ts C hi,E.ts C hi'];exact hs,rfl⟩
 ·show zB8 c gs al' O' 4 l↔zB8 c fs al O 4 (l.map f);simp only[zB8];constructor
  ·rintro⟨i,h,own,hk,ho,hn,hh2,hoh,rfl⟩;have hi:=hl i (by simp);have hh:=hl h (by simp);refine⟨f i,f h,own,by rw[←E.kind hi];exact hk,?_,by rw[←E.list hi];exact hn,by rw[←E.kind hh];exact hh2,by rw[←E.out hh,←E.out hi];exact hoh,rfl⟩;rw[←E.out hi,←hO hh hh2 hoh];exact ho
  ·rintro⟨a,b,own,hk,ho,hn,hh2,hoh,e⟩;rcases l with _| ⟨i,_| ⟨h,_| ⟨z,l⟩⟩⟩ <;>simp at e;obtain⟨rfl,rfl⟩:=e;have hi:=hl i (by simp);have hh:=hl h (by simp);have k2:yV gs h=2:=by rw[E.kind hh];exact hh2
   have o2:qL gs h=qL gs i:=by rw[E.out hh,E.out hi];exact hoh
   refine⟨i,h,own,by rw[E.kind hi];exact hk,?_,by rw[E.list hi];exact hn,k2,o2,rfl⟩;rw[hO hh k2 o2,E.out hi];exact ho
 ·show(c.ls.length=0∧∃h,yV gs h=2∧l= [h])↔(c.ls.length=0∧∃h,yV fs h=2∧l.map f= [h]);constructor
  ·rintro⟨h0,h,hk,rfl⟩;have hh:=hl h (by simp);exact⟨h0,f h,by rw[←E.kind hh];exact hk,rfl⟩
  ·rintro⟨h0,b,hk,e⟩;rcases l with _| ⟨h,_| ⟨z,l⟩⟩ <;>simp at e;subst e;have hh:=hl h (by simp);exact⟨h0,h,by rw[E.kind hh];exact hk,rfl⟩
end
theorem zB8.lt {c:Cat} {fs:List Fac} {al:Nat→Option Alt} {O:KV} {r:Nat} {l:List Nat} (h:zB8 c fs al O r l):∀x∈l,x<fs.length:=by
 have hT:∀ {i u k:Nat},TriP fs al i u k→i<fs.length∧u<fs.length∧k<fs.length:=fun T=>⟨T.lt,wi T.ku (by decide),wi T.kh (by decide)⟩;rcases r with _|_|_|_|_|r
 ·have h:zB8 c fs al O 0 l:=h;simp only[zB8] at h;obtain⟨i,u,k,T,_,rfl⟩:=h;have:=hT T;intro x hx;simp at hx;omega
 ·have h:zB8 c fs al O 1 l:=h;simp only[zB8] at h;obtain⟨i,u,k,own,T,_,_,rfl⟩:=h;have:=hT T;intro x hx;simp at hx;omega
 ·have h:zB8 c fs al O 2 l:=h;simp only[zB8] at h;obtain⟨i,u,k,m,T,hk,_,_,rfl⟩:=h;have:=hT T;have:=wi hk (by decide);intro x hx;simp at hx;omega
 ·have h:zB8 c fs al O 3 l:=h;simp only[zB8] at h;obtain⟨i,u,k,i',u',k',T,T',_,_,rfl⟩:=h;have:=hT T;have:=hT T';intro x hx;simp at hx;omega
 ·have h:zB8 c fs al O 4 l:=h;simp only[zB8] at h;obtain⟨i,k,own,hi,_,_,hk,_,rfl⟩:=h;have:=wi hi (by decide);have:=wi hk (by decide);intro x hx;simp at hx;omega
 ·have h:c.ls.length=0∧∃h,yV fs h=2∧l= [h]:=h;obtain⟨_,k,hk,rfl⟩:=h;have:=wi hk (by decide);intro x hx;simp at hx;omega
def zEn (fs:List Fac):List Fac:=fs.filter fun f=>f.kind==1
theorem zLi {c:Cat} :∀ {l:List Fac} {t:List (List (List Trm))} {o:List (List UInt8)},(zEL c l t o).2.2=0↔∀f∈l,f.kind=1→zCL c f.e=0
 | [],t,o=>by simp[zEL]
 |f::fs,t,o=>by
  rw[zEL];by_cases h1:(f.kind==1)=true
  ·rw[if_pos h1];have h1':f.kind=1:=by simpa using h1
   by_cases h2:(zCL c f.e==0)=true
   ·rw[if_pos h2,zLi];have h2':zCL c f.e=0:=by simpa using h2
    constructor
    ·intro h g hg hk;rcases List.mem_cons.1 hg with rfl|hg
     ·exact h2'
     ·exact h g hg hk
    ·exact fun h g hg hk=>h g (List.mem_cons_of_mem _ hg) hk
   ·rw[if_neg h2];have h2':zCL c f.e≠0:=by simpa using h2
    constructor
    ·exact fun h=>absurd h h2'
    ·exact fun h=>h f (by simp) h1'
  ·have key:∀o',(zEL c fs t o').2.2=0↔∀g∈f::fs,g.kind=1→zCL c g.e=0:=fun o'=>by
    rw[zLi];constructor
    ·intro h g hg hk;rcases List.mem_cons.1 hg with rfl|hg
     ·exact absurd (by simpa using hk) h1
     ·exact h g hg hk
    ·exact fun h g hg hk=>h g (List.mem_cons_of_mem _ hg) hk
   rw[if_neg h1];split<;>exact key _
theorem zFg {c:Cat} :∀ {l:List Fac} {t:List (List (List Trm))} {o:List (List UInt8)},(zEL c l t o).2.2=0→(zEL c l t o).1=t++(zEn l).map fun f=>ofL c f.e
 | [],t,o,_=>by simp[zEL,zEn]
 |f::fs,t,o,h=>by
  rw[zEL] at h⊢;by_cases h1:(f.kind==1)=true
  ·rw[if_pos h1] at h⊢;by_cases h2:(zCL c f.e==0)=true
   ·rw[if_pos h2] at h⊢;have e:zEn (f::fs)=f::zEn fs:=List.filter_cons_of_pos (by exact h1);rw[zFg h,e,List.map_cons,List.append_assoc];rfl
   ·rw[if_neg h2] at h;exact absurd h (by simpa using h2)
  ·have e:zEn (f::fs)=zEn fs:=List.filter_cons_of_neg (by exact h1);rw[if_neg h1] at h⊢;rw[e];split at h
   ·rename_i q;rw[if_pos q];exact zFg h
   ·rename_i q;rw[if_neg q];exact zFg h
theorem zQy {f:Nat→Int} :∀ {n:Nat},zRh f n=none→∀j,j<n→f j=0
 |0,_,j,hj=>by omega
 |n+1,h,j,hj=>by
  rw[zRh] at h;split at h
  ·cases h
  ·rename_i q;split at h
   ·rename_i q2;rcases Nat.lt_succ_iff_lt_or_eq.1 hj with p|rfl
    ·exact zQy q j p
    ·simpa using q2
   ·cases h
theorem zIx {c:Cat} {l:List Fac} :(yw c l).2=0↔zAt c=0∧l.length≤256∧∀f∈l,zBj c f=0:=by
 have hm:(∀j,j<l.length→wT c l j=0)↔∀f∈l,zBj c f=0:=by
  constructor
  ·intro h f hf;obtain⟨j,hj,rfl⟩:=List.mem_iff_getElem.1 hf;have:=h j hj;unfold wT at this;rw[List.getElem?_eq_getElem hj] at this;exact this
  ·intro h j hj;unfold wT;rw[List.getElem?_eq_getElem hj];exact h _ (List.getElem_mem hj)
 unfold yw;by_cases h1:(!(zAt c==0))=true
 ·rw[if_pos h1]
  have:zAt c≠0:=by simpa using h1
  constructor
  ·intro h;exact absurd h (by decide)
  ·exact fun h=>absurd h.1 this
 ·rw[if_neg h1];have h1':zAt c=0:=by simpa using h1
  by_cases h2:decide ((l.length:Int)>256)=true
  ·rw[if_pos h2];have:=of_decide_eq_true h2;constructor
   ·intro h;exact absurd h (by decide)
   ·intro h;omega
  ·rw[if_neg h2];have h2':l.length≤256:=by
    have:¬(l.length:Int)>256:=fun q=>h2 (decide_eq_true q);omega
   rw[←hm];cases hf:zRh (wT c l) l.length with
   |none=>exact⟨fun _=>⟨h1',h2',zQy hf⟩,fun _=>rfl⟩
   |some p=>
    constructor
    ·intro h;have hp:p.2≠0∧p.1<l.length∧wT c l p.1=p.2:=by
      clear h hm h1 h1' h2 h2';generalize l.length=n at hf
      induction n with
      |zero=>cases hf
      |succ n ih=>
       rw[zRh] at hf;split at hf
       ·rename_i q;cases hf;have:=ih q;exact⟨this.1,by omega,this.2.2⟩
       ·split at hf
        ·cases hf
        ·rename_i q;cases hf;exact⟨by simpa using q,by omega,rfl⟩
     exact absurd h hp.1
    ·rintro⟨_,_,h⟩;rw[zFU h] at hf;cases hf
structure Whole (c:Cat) (fs:List Fac) (y:Cho):Prop where
 cat:zAt c=0
 len:fs.length≤256
 fact:∀f∈fs,zBj c f=0
 of:∀f∈fs,f.kind=1→zCL c f.e=0
 tl:y.ts.length=(zEn fs).length
 ts:∀i (h:i<y.ts.length) (f:Fac),(zEn fs)[i]? =some f→(y.ts[i]).ts∈ofL c f.e
 ol:y.own.length=(za fs []).length
 own:∀s∈y.own,(c.ls.any fun x=>x.name==s)=true
theorem zLj {f:Nat→Int} {n:Nat} :zDQ f n=0↔∀i,i<n→f i=0:=⟨fun h i hi=>zCr h i hi,fun h=>qN h⟩
theorem zNj {c:Cat} {fs:List Fac} {y:Cho} :yB c fs y false=0↔Whole c fs y:=by
 have hv:(zG c fs).2.2=0↔(yw c fs).2=0∧∀f∈fs,f.kind=1→zCL c f.e=0:=by
  unfold zG;by_cases h:(!((yw c fs).2==0))=true
  ·rw[if_pos h]
   have:(yw c fs).2≠0:=by simpa using h
   exact⟨fun q=>absurd q this,fun q=>absurd q.1 this⟩
  ·rw[if_neg h,zLi]
   have:(yw c fs).2=0:=by simpa using h
   exact⟨fun q=>⟨this,q⟩,fun q=>q.2⟩
 have hl:(zG c fs).2.2=0→(zG c fs).1=(zEn fs).map (fun f=>ofL c f.e)∧(zG c fs).2.1=za fs []:=by
  intro h0;have hc:=(hv.1 h0).1;unfold zG at h0⊢;rw[if_neg (by rw[hc];decide)] at h0⊢;exact⟨by rw[zFg h0,List.nil_append],(zCN h0).2⟩
 unfold yB;by_cases h0:(!((zG c fs).2.2==0))=true
 ·rw[if_pos h0];have h0':(zG c fs).2.2≠0:=by simpa using h0
  constructor
  ·intro h;exact absurd h h0'
  ·intro W;exact absurd (hv.2 ⟨zIx.2 ⟨W.cat,W.len,W.fact⟩,W.of⟩) h0'
 rw[if_neg h0];have h0':(zG c fs).2.2=0:=by simpa using h0
 obtain⟨hcase,hof⟩:=hv.1 h0';obtain⟨c1,c2,c3⟩:=zIx.1 hcase;obtain⟨l1,l2⟩:=hl h0';rw[l1,l2];by_cases h1:(!((y.ts.length:Int)==(((zEn fs).map fun f=>ofL c f.e).length:Int))|| !((y.own.length:Int)==((za fs []).length:Int)))=true
 ·rw[if_pos h1];constructor
  ·intro h;exact absurd h (by decide)
  ·intro W;rw[List.length_map,W.tl,W.ol] at h1;simp at h1
 rw[if_neg h1];have h1':y.ts.length=(zEn fs).length∧y.own.length=(za fs []).length:=by
  rw[List.length_map] at h1;simp only[Bool.or_eq_true,Bool.not_eq_true',beq_eq_false_iff_ne,ne_eq,not_or,Decidable.not_not] at h1;omega
 have hterm:(∀i,i<y.ts.length→zBH ((zEn fs).map fun f=>ofL c f.e) y.ts false i=0)↔∀i (h:i<y.ts.length) (f:Fac),(zEn fs)[i]? =some f→(y.ts[i]).ts∈ofL c f.e:=by
  have key:∀i (h:i<y.ts.length),zBH ((zEn fs).map fun f=>ofL c f.e) y.ts false i=0↔(y.ts[i]).ts∈ofL c ((zEn fs)[i]'(by omega)).e:=by
   intro i h;unfold zBH;rw[List.getElem?_eq_getElem h];simp only[Bool.false_and,Bool.false_eq_true,if_false];have hg:((zEn fs).map fun f=>ofL c f.e).getD i []=ofL c ((zEn fs)[i]'(by omega)).e:=by
    rw[List.getD_eq_getElem?_getD,List.getElem?_map,List.getElem?_eq_getElem (by omega)];rfl
   rw[hg];by_cases q:(ofL c ((zEn fs)[i]'(by omega)).e).any (fun b=>zLr (y.ts[i]).ts b)=true
   ·rw[if_neg (by rw[q];decide)];obtain⟨b,hb,e⟩:=List.any_eq_true.1 q;rw[(zCs _ _).1 e];exact⟨fun _=>hb,fun _=>rfl⟩
   ·rw[if_pos (by simpa using q)];constructor
    ·intro h;exact absurd h (by decide)
    ·intro hm;exact absurd (List.any_eq_true.2 ⟨_,hm,(zCs _ _).2 rfl⟩) q
  constructor
  ·intro h i hi f hf;have h2:=(key i hi).1 (h i hi);rw[List.getElem?_eq_getElem (by omega)] at hf;cases hf;exact h2
  ·intro h i hi;exact(key i hi).2 (h i hi _ (List.getElem?_eq_getElem (by omega)))
 have hown:(∀i,i<y.own.length→zQn c y.own false i=0)↔∀s∈y.own,(c.ls.any fun x=>x.name==s)=true:=by
  have key:∀i (h:i<y.own.length),zQn c y.own false i=0↔(c.ls.any fun x=>x.name==y.own[i])=true:=by
   intro i h;unfold zQn;rw[List.getElem?_eq_getElem h];simp only[Bool.false_and,Bool.false_eq_true,if_false];cases(c.ls.any fun x=>x.name==y.own[i])<;>simp
  constructor
  ·intro h s hs;obtain⟨i,hi,rfl⟩:=List.mem_iff_getElem.1 hs;exact(key i hi).1 (h i hi)
  ·exact fun h i hi=>(key i hi).2 (h _ (List.getElem_mem hi))
 by_cases h2:(!(zDQ (zBH ((zEn fs).map fun f=>ofL c f.e) y.ts false) y.ts.length==0))=true
 ·rw[if_pos h2];have h2':zDQ (zBH ((zEn fs).map fun f=>ofL c f.e) y.ts false) y.ts.length≠0:=by simpa using h2
  constructor
  ·intro h;exact absurd h h2'
  ·intro W;exact absurd (zLj.2 (hterm.2 W.ts)) h2'
 rw[if_neg h2];have h2':zDQ (zBH ((zEn fs).map fun f=>ofL c f.e) y.ts false) y.ts.length=0:=by simpa using h2
 have ht:=hterm.1 (zLj.1 h2');rw[zLj,hown];exact⟨fun h=>⟨c1,c2,c3,hof,h1'.1,ht,h1'.2,h⟩,fun W=>W.own⟩
def zJ (fs:List Fac) (I:List Nat):List Fac:=I.filterMap fun i=>fs[i]?
def qJ (y:Cho) (fs:List Fac) (I:List Nat):List Alt:=(I.filter fun i=>yV fs i==1).map fun i=>zBI y (zAH fs i)
def zG2 (y:Cho) (outs names:List (List UInt8)):List (List UInt8):=names.map fun o=>zBm y (outs.findIdx fun z=>z==o)
structure InI (fs:List Fac) (I:List Nat):Prop where
 lt:∀i∈I,i<fs.length
 inc:I.Pairwise (· < ·)
theorem zNk {α:Type} {p:α→Bool} {l:List α} {j:Nat} {x:α} (h:l[j]? =some x) (hp:p x=true):(l.filter p)[((l.take j).filter p).length]? =some x:=by
 obtain⟨hj,rfl⟩:=List.getElem?_eq_some_iff.1 h;have e:l.filter p=(l.take j).filter p++(l[j]::(l.drop (j+1)).filter p):=by
  conv=>lhs;rw[←List.take_append_drop j l,List.filter_append,List.drop_eq_getElem_cons hj,List.filter_cons_of_pos hp]
 rw[e,List.getElem?_append_right (Nat.le_refl _),Nat.sub_self,List.getElem?_cons_zero]
section
variable {fs:List Fac} {I:List Nat}
theorem zGJ:∀ {I:List Nat},(∀i∈I,i<fs.length)→∀j:Nat,(zJ fs I)[j]? =I[j]?.bind fun i=>fs[i]?
 | [],_,j=>by simp[zJ]
 |i::I,h,j=>by
  have hi:=h i (by simp);have e:zJ fs (i::I)=fs[i]::zJ fs I:=by
   unfold zJ;rw[List.filterMap_cons_some (List.getElem?_eq_getElem hi)]
  rw[e];cases j with
  |zero=>simp[List.getElem?_eq_getElem hi]
  |succ j=>
   rw[List.getElem?_cons_succ,List.getElem?_cons_succ];exact zGJ (fun x hx=>h x (List.mem_cons_of_mem _ hx)) j
theorem qm:∀ {I:List Nat},(∀i∈I,i<fs.length)→(zJ fs I).length=I.length
 | [],_=>rfl
 |i::I,h=>by
  have hi:=h i (by simp);have e:zJ fs (i::I)=fs[i]::zJ fs I:=by
   unfold zJ;rw[List.filterMap_cons_some (List.getElem?_eq_getElem hi)]
  rw[e,List.length_cons,List.length_cons,qm fun x hx=>h x (List.mem_cons_of_mem _ hx)]
theorem zKI (I J:List Nat):zJ fs (I++J)=zJ fs I++zJ fs J:=by unfold zJ;rw[List.filterMap_append]
theorem zSA {i:Nat} (h:i<fs.length):zJ fs [i]= [fs[i]]:=by
 unfold zJ;rw[List.filterMap_cons_some (List.getElem?_eq_getElem h)];rfl
theorem zCO {f:Fac} (h:f∈zJ fs I):f∈fs:=by
 obtain⟨i,_,e⟩:=List.mem_filterMap.1 h;exact List.mem_of_getElem? e
theorem zCx:∀ {I:List Nat},(∀i∈I,i<fs.length)→zEn (zJ fs I)=zJ fs (I.filter fun i=>yV fs i==1)
 | [],_=>rfl
 |i::I,h=>by
  have hi:=h i (by simp);have ih:=zCx (I:=I) fun x hx=>h x (List.mem_cons_of_mem _ hx);have e:zJ fs (i::I)=fs[i]::zJ fs I:=by
   unfold zJ;rw[List.filterMap_cons_some (List.getElem?_eq_getElem hi)]
  have hk:=ql hi;rw[e];by_cases q:(fs[i].kind==1)=true
  ·have e1:zEn (fs[i]::zJ fs I)=fs[i]::zEn (zJ fs I):=List.filter_cons_of_pos (by exact q);rw[e1,ih,List.filter_cons_of_pos (by rw[hk];exact q)];unfold zJ;rw[List.filterMap_cons_some (List.getElem?_eq_getElem hi)]
  ·have e1:zEn (fs[i]::zJ fs I)=zEn (zJ fs I):=List.filter_cons_of_neg (by exact q);rw[e1,ih,List.filter_cons_of_neg (by rw[hk];exact q)]
theorem InI.emb (H:InI fs I):Emb fs (zJ fs I) (fun j=>I.getD j 0):=by
 have hl:=qm H.lt;refine⟨fun j hj=> ?_,fun i j hij hj=> ?_⟩
 ·have hj':j<I.length:=by omega
  rw[zGJ H.lt,List.getElem?_eq_getElem hj',List.getD_eq_getElem?_getD,List.getElem?_eq_getElem hj'];rfl
 ·have hj':j<I.length:=by omega
  have hi':i<I.length:=by omega
  show I.getD i 0<I.getD j 0;rw[List.getD_eq_getElem?_getD,List.getD_eq_getElem?_getD,List.getElem?_eq_getElem hj',List.getElem?_eq_getElem hi'];exact List.pairwise_iff_getElem.1 H.inc i j hi' hj' hij
theorem zPD (hI:∀i∈I,i<fs.length) {j:Nat} :zAH (zJ fs I) j=((I.take j).filter fun i=>yV fs i==1).length:=by
 have ht:(zJ fs I).take j=zJ fs (I.take j):=by
  rcases Nat.le_total j I.length with h|h
  ·conv=>lhs;rw[←List.take_append_drop j I,zKI]
   have:(zJ fs (I.take j)).length=j:=by
    rw[qm fun x hx=>hI x (List.mem_of_mem_take hx),List.length_take];omega
   rw[List.take_append_of_le_length (by omega),List.take_of_length_le (by omega)]
  ·rw[List.take_of_length_le (by rw[qm hI];exact h),List.take_of_length_le h]
 have hI':∀i∈I.take j,i<fs.length:=fun x hx=>hI x (List.mem_of_mem_take hx);show(zEn ((zJ fs I).take j)).length=_;rw[ht,zCx hI',qm fun i hi=>hI' i (List.mem_filter.1 hi).1]
theorem zQz {i:Nat} (h:i<fs.length) (hk:yV fs i=1):(zEn fs)[zAH fs i]? =some fs[i]:=by
 rw[ql h] at hk;exact zNk (List.getElem?_eq_getElem h) (by simp[hk])
theorem zCP:∀ {l:List Fac} {o:List (List UInt8)} {s:List UInt8},s∈za l o↔s∈o∨∃f∈l,f.kind=2∧f.out=s
 | [],o,s=>by simp[za]
 |f::fs,o,s=>by
  rw[za];by_cases h1:(f.kind==1)=true
  ·rw[if_pos h1,zCP];have h1':f.kind=1:=by simpa using h1
   constructor
   ·rintro(h| ⟨g,hg,h⟩)
    ·exact .inl h
    ·exact .inr ⟨g,List.mem_cons_of_mem _ hg,h⟩
   ·rintro(h| ⟨g,hg,h,e⟩)
    ·exact .inl h
    ·rcases List.mem_cons.1 hg with rfl|hg
     ·omega
     ·exact .inr ⟨g,hg,h,e⟩
  rw[if_neg h1];by_cases h2:(f.kind==2)=true
  ·rw[if_pos h2,zCP];have h2':f.kind=2:=by simpa using h2
   have key:(s∈if(o.any fun z=>z==f.out)=true then o else o++ [f.out])↔s∈o∨f.out=s:=by
    by_cases q:(o.any fun z=>z==f.out)=true
    ·rw[if_pos q];constructor
     ·exact .inl
     ·rintro(h|rfl)
      ·exact h
      ·obtain⟨z,hz,e⟩:=List.any_eq_true.1 q
       have:z=f.out:=by simpa using e
       rw[←this];exact hz
    ·rw[if_neg q];simp only[List.mem_append,List.mem_singleton];constructor
     ·rintro(h|rfl)
      ·exact .inl h
      ·exact .inr rfl
     ·rintro(h|rfl)
      ·exact .inl h
      ·exact .inr rfl
   rw[key];constructor
   ·rintro((h|h)| ⟨g,hg,h⟩)
    ·exact .inl h
    ·exact .inr ⟨f,by simp,h2',h⟩
    ·exact .inr ⟨g,List.mem_cons_of_mem _ hg,h⟩
   ·rintro(h| ⟨g,hg,h,e⟩)
    ·exact .inl (.inl h)
    ·rcases List.mem_cons.1 hg with rfl|hg
     ·exact .inl (.inr e)
     ·exact .inr ⟨g,hg,h,e⟩
  ·rw[if_neg h2,zCP];have h2':f.kind≠2:=by simpa using h2
   constructor
   ·rintro(h| ⟨g,hg,h⟩)
    ·exact .inl h
    ·exact .inr ⟨g,List.mem_cons_of_mem _ hg,h⟩
   ·rintro(h| ⟨g,hg,h,e⟩)
    ·exact .inl h
    ·rcases List.mem_cons.1 hg with rfl|hg
     ·exact absurd h h2'
     ·exact .inr ⟨g,hg,h,e⟩
def zbZ (y:Cho) (outs:List (List UInt8)) (o:List UInt8):Option (List UInt8):=
 if o∈outs∧zBm y (outs.findIdx fun z=>z==o)≠[] then some (zBm y (outs.findIdx fun z=>z==o)) else none
theorem zLk {y:Cho} :∀k,k≤fs.length→∀o,zAM o (zT y fs k).O=zbZ y (zT y fs k).outs o
 |0,_,o=>by simp[zT,zbZ,zAM]
 |k+1,hk,o=>by
  have ih:=zLk (y:=y) k (by omega);have hlt:k<fs.length:=by omega
  rw[zBn hlt];split
  ·split<;>exact ih o
  split
  ·split
   ·exact ih o
   ·rename_i hn;have hn:fs[k].out∉(zT y fs k).outs:=fun hm=>hn (List.any_eq_true.2 ⟨_,hm,by simp⟩);generalize(zT y fs k).outs=outs at *
    generalize(zT y fs k).O=O at *
    generalize fs[k].out=s at *
    show zAM o (if(!(zBm y outs.length== []))=true then zEX s (zBm y outs.length) O else O)=zbZ y (outs++ [s]) o
    have hs:(outs++ [s]).findIdx (fun z=>z==s)=outs.length:=by
     rw[List.findIdx_append]
     have:outs.findIdx (fun z=>z==s)=outs.length:=List.findIdx_eq_length.2 fun z hz=>by
      have:z≠s:=fun e=>hn (e▸hz);simpa using this
     rw[if_neg (by omega)];simp[List.findIdx_cons]
    have ho:o∈outs→(outs++ [s]).findIdx (fun z=>z==o)=outs.findIdx (fun z=>z==o):=fun hm=>by
     rw[List.findIdx_append];rw[if_pos (List.findIdx_lt_length.2 ⟨o,hm,by simp⟩)]
    have hkey:∀v,zAM o (zEX s v O)=if o=s then some v else zAM o O:=fun v=>by
     rw[zMr];by_cases e:o=s
     ·rw[if_pos e,if_pos (by simpa using e)]
     ·rw[if_neg e,if_neg (by simpa using e)]
    by_cases e:o=s
    ·subst e;unfold zbZ;rw[hs];by_cases q:zBm y outs.length= []
     ·rw[if_neg (by simp[q]),if_neg (by simp[q]),ih o,zbZ,if_neg (by simp[hn])]
     ·rw[if_pos (by simpa using q),hkey,if_pos rfl,if_pos ⟨by simp,q⟩]
    ·have h1:zAM o (if(!(zBm y outs.length== []))=true then zEX s (zBm y outs.length) O else O)=zAM o O:=by
      split
      ·rw[hkey,if_neg e]
      ·rfl
     rw[h1,ih o];unfold zbZ;by_cases hm:o∈outs
     ·rw[ho hm];simp[hm]
     ·rw[if_neg (by simp[hm]),if_neg (by simp[hm,e])]
  ·exact ih o
theorem zba {ts:List Alt} {y:Cho} {outs names:List (List UInt8)} {o:List UInt8} (h:o∈names):zBm ⟨ts,zG2 y outs names⟩ (names.findIdx fun z=>z==o)=zBm y (outs.findIdx fun z=>z==o):=by
 have hlt:names.findIdx (fun z=>z==o)<names.length:=List.findIdx_lt_length.2 ⟨o,h,by simp⟩;have hg:names[names.findIdx fun z=>z==o]=o:=by
  have:=List.findIdx_getElem (w:=hlt);simpa using this
 show(zG2 y outs names).getD _ []=_;unfold zG2;rw[List.getD_eq_getElem?_getD,List.getElem?_map,List.getElem?_eq_getElem hlt,hg];rfl
end
def zFh (y:Cho) (fs:List Fac) (I:List Nat):Cho:=⟨qJ y fs I,zG2 y (za fs []) (za (zJ fs I) [])⟩
section
variable {c:Cat} {fs:List Fac} {y:Cho} {I:List Nat}
theorem zNl {o:List UInt8} (h:o∈za (zJ fs I) []):o∈za fs []:=by
 rw[zCP] at h⊢;rcases h with h| ⟨f,hf,h⟩
 ·cases h
 ·exact .inr ⟨f,zCO hf,h⟩
theorem zVQ (W:Whole c fs y) {i:Nat} (h:i<fs.length) (hk:yV fs i=1):(zBI y (zAH fs i)).ts∈ofL c fs[i].e:=by
 have h1:=zQz h hk;have h2:zAH fs i<y.ts.length:=by rw[W.tl];exact(List.getElem?_eq_some_iff.1 h1).1
 have:=W.ts _ h2 _ h1;unfold zBI;rw[List.getD_eq_getElem?_getD,List.getElem?_eq_getElem h2];exact this
theorem zVR (W:Whole c fs y) {o:List UInt8} (h:o∈za fs []):zBm y ((za fs []).findIdx fun z=>z==o)∈y.own:=by
 have hlt:(za fs []).findIdx (fun z=>z==o)<y.own.length:=by rw[W.ol];exact List.findIdx_lt_length.2 ⟨o,h,by simp⟩
 unfold zBm;rw[List.getD_eq_getElem?_getD,List.getElem?_eq_getElem hlt];exact List.getElem_mem hlt
theorem zSB (H:InI fs I):(qJ y fs I).length=(zEn (zJ fs I)).length:=by
 unfold qJ;rw[List.length_map,zCx H.lt,qm fun i hi=>H.lt i (List.mem_filter.1 hi).1]
theorem zSC (W:Whole c fs y) (H:InI fs I) (hlen:I.length≤256):Whole c (zJ fs I) (zFh y fs I) where
 cat:=W.cat
 len:=by rw[qm H.lt];exact hlen
 fact:=fun f hf=>W.fact f (zCO hf)
 of:=fun f hf hk=>W.of f (zCO hf) hk
 tl:=zSB H
 ts:=fun i hi f hf=>by
  have hI':∀i∈I.filter (fun i=>yV fs i==1),i<fs.length:=fun i hi=>H.lt i (List.mem_filter.1 hi).1;rw[zCx H.lt,zGJ hI'] at hf;have hi2:i<(I.filter fun i=>yV fs i==1).length:=by
   have:i<(qJ y fs I).length:=hi;unfold qJ at this
   rwa [List.length_map] at this
  rw[List.getElem?_eq_getElem hi2] at hf;obtain⟨hm,hk⟩:=List.mem_filter.1 (List.getElem_mem hi2);have hlt:=H.lt _ hm;have hf:fs[(I.filter fun i=>yV fs i==1)[i]]? =some f:=hf;rw[List.getElem?_eq_getElem hlt] at hf;cases hf
  have:((zFh y fs I).ts[i])=zBI y (zAH fs (I.filter fun i=>yV fs i==1)[i]):=by
   show(qJ y fs I)[i]=_;simp only[qJ,List.getElem_map]
  rw[this];exact zVQ W hlt (by simpa using hk)
 ol:=by show(zG2 _ _ _).length=_;unfold zG2;rw[List.length_map]
 own:=fun s hs=>by
  obtain⟨o,ho,rfl⟩:=List.mem_map.1 hs;exact W.own _ (zVR W (zNl ho))
theorem zXg (W:Whole c fs y) (H:InI fs I):Cmp fs (zJ fs I) (fun j=>I.getD j 0) (alS fs y) (alS (zJ fs I) (zFh y fs I)) (zT y fs fs.length).O (zT (zFh y fs I) (zJ fs I) (zJ fs I).length).O where
 al:=fun j hj=>by
  have E:=H.emb;have hjI:j<I.length:=by rw[qm H.lt] at hj;exact hj
  have hgd:I.getD j 0=I[j]:=by rw[List.getD_eq_getElem?_getD,List.getElem?_eq_getElem hjI];rfl
  have hlt:=H.lt _ (List.getElem_mem hjI);have hget:=E.get j hj;show alS (zJ fs I) (zFh y fs I) j=alS fs y (I.getD j 0);have hget:(zJ fs I)[j]? =some fs[I[j]]:=by
   have:(zJ fs I)[j]? =fs[I.getD j 0]? :=hget;rw[this,hgd,List.getElem?_eq_getElem hlt]
  unfold alS;rw[hget,hgd,List.getElem?_eq_getElem hlt];by_cases hk:(fs[I[j]].kind==1)=true
  ·simp only[if_pos hk];have hk1:yV fs I[j]=1:=by rw[ql hlt];simpa using hk
   have ha:zBI (zFh y fs I) (zAH (zJ fs I) j)=zBI y (zAH fs I[j]):=by
    have:=zNk (p:=fun i=>yV fs i==1) (List.getElem?_eq_getElem hjI) (by simpa using hk1);rw[zPD H.lt];show(qJ y fs I).getD _ _=_;unfold qJ;rw[List.getD_eq_getElem?_getD,List.getElem?_map,this];rfl
   rw[ha]
  ·simp only[if_neg hk]
 O:=fun j hj hk=>by
  have hjf:=(List.getElem?_eq_getElem hj);have hm:qL (zJ fs I) j∈za (zJ fs I) []:=by
   rw[zCP];refine .inr ⟨_,List.getElem_mem hj,by rw[←ql hj];exact hk,(zLg hj).symm⟩
  rw[zLk _ (Nat.le_refl _),zLk _ (Nat.le_refl _),zAm _ (Nat.le_refl _),zAm _ (Nat.le_refl _),List.take_length,List.take_length];unfold zbZ;have e:zBm (zFh y fs I) ((za (zJ fs I) []).findIdx fun z=>z==qL (zJ fs I) j)=zBm y ((za fs []).findIdx fun z=>z==qL (zJ fs I) j):=zba hm;rw[e];have hm2:=zNl hm;simp only[hm,hm2,true_and]
end
theorem zNm (l:List Int):(zC5 l).Pairwise fun a b=>yn a b<0:=zas zCp (zF9 zCp _)
theorem zFi {l:List Int} {x:Int} :x∈zC5 l↔x∈l:=by unfold zC5;rw[zUp zOw,zEc]
theorem zbb {a b:Int} :yn a b<0↔a<b:=by
 unfold yn;split
 ·simp[*]
 ·split<;>simp<;>omega
theorem zVS {I:List Nat} (h:I.Pairwise (· < ·)):(I.map fun n:Nat=>(n:Int)).Pairwise fun a b=>yn a b<0:=by
 rw[List.pairwise_map];exact h.imp fun q=>zbb.2 (by omega)
section
variable {c:Cat} {fs:List Fac} {y:Cho} {I:List Nat}
theorem zLl {v:Vio} :v∈zCw c fs y↔∃i:Nat,i<6∧v.row=(i:Int)∧∃l,zB8 c fs (alS fs y) (zT y fs fs.length).O i l∧zC5 (l.map fun n:Nat=>(n:Int))=v.facts:=by
 rw[zVP];constructor
 ·rintro⟨i,h1,h2,z,hz,e⟩;obtain⟨l,hl,rfl⟩:=zQx.1 hz;exact⟨i,h1,h2,l,hl,e⟩
 ·rintro⟨i,h1,h2,l,hl,e⟩;exact⟨i,h1,h2,_,zQx.2 ⟨l,hl,rfl⟩,e⟩
theorem zSD (W:Whole c fs y) (H:InI fs I) {v:Vio} (hv:v∈zCw c fs y) (hI:∀x:Nat,x∈I↔(x:Int)∈v.facts):I.length=v.facts.length∧(⟨v.row,(List.range I.length).map fun n:Nat=>(n:Int)⟩:Vio)∈zCw c (zJ fs I) (zFh y fs I):=by
 obtain⟨i,h1,h2,l,hl,e⟩:=zLl.1 hv;have hmem:∀x:Nat,x∈l↔x∈I:=fun x=>by
  rw[hI,←e,zFi,List.mem_map];constructor
  ·exact fun h=>⟨x,h,rfl⟩
  ·rintro⟨z,hz,q⟩
   have:z=x:=by omega
   rw[←this];exact hz
 have hfacts:(I.map fun n:Nat=>(n:Int))=v.facts:=by
  rw[←e];refine zEd zCp (zVS H.inc) (zNm _) fun x=> ?_;rw[zFi,List.mem_map,List.mem_map];constructor
  ·rintro⟨z,hz,rfl⟩;exact⟨z,(hmem z).2 hz,rfl⟩
  ·rintro⟨z,hz,rfl⟩;exact⟨z,(hmem z).1 hz,rfl⟩
 refine⟨by rw[←hfacts,List.length_map],?_⟩;have hidx:∀x∈I,I.findIdx (fun z=>z==x)<I.length∧I.getD (I.findIdx fun z=>z==x) 0=x:=fun x hx=>by
  have hlt:I.findIdx (fun z=>z==x)<I.length:=List.findIdx_lt_length.2 ⟨x,hx,by simp⟩;refine⟨hlt,?_⟩;rw[List.getD_eq_getElem?_getD,List.getElem?_eq_getElem hlt];have:=List.findIdx_getElem (w:=hlt);simpa using this
 have hgl:=qm H.lt;have hback:(l.map fun x=>I.findIdx fun z=>z==x).map (fun j=>I.getD j 0)=l:=by
  rw[List.map_map]
  conv=>rhs;rw[←List.map_id l]
  refine List.map_congr_left fun x hx=> ?_;exact(hidx x ((hmem x).1 hx)).2
 have hlt:∀x∈l.map (fun x=>I.findIdx fun z=>z==x),x<(zJ fs I).length:=fun x hx=>by
  obtain⟨z,hz,rfl⟩:=List.mem_map.1 hx;rw[hgl];exact(hidx z ((hmem z).1 hz)).1
 have hrow:zB8 c (zJ fs I) (alS (zJ fs I) (zFh y fs I)) (zT (zFh y fs I) (zJ fs I) (zJ fs I).length).O i (l.map fun x=>I.findIdx fun z=>z==x):=by
  refine((H.emb).row (zXg W H) (c:=c) (r:=i) hlt).2 ?_;rw[hback];exact hl
 refine zLl.2 ⟨i,h1,h2,_,hrow,?_⟩;refine zEd zCp (zNm _) (zVS List.pairwise_lt_range) fun x=> ?_;rw[zFi,List.mem_map,List.mem_map];constructor
 ·rintro⟨j,hj,rfl⟩;have:=hlt j hj;exact⟨j,List.mem_range.2 (by omega),rfl⟩
 ·rintro⟨j,hj,rfl⟩;have hj:=List.mem_range.1 hj;refine⟨j,?_,rfl⟩;have hm:I[j]∈l:=(hmem _).2 (List.getElem_mem hj);refine List.mem_map.2 ⟨I[j],hm,?_⟩;obtain⟨k1,k2⟩:=hidx _ (List.getElem_mem hj);rw[List.getD_eq_getElem?_getD,List.getElem?_eq_getElem k1] at k2;have k2:I[I.findIdx fun z=>z==I[j]]=I[j]:=k2;rcases Nat.lt_trichotomy (I.findIdx fun z=>z==I[j]) j with q|q|q
  ·have:=List.pairwise_iff_getElem.1 H.inc _ _ k1 hj q;omega
  ·exact q
  ·have:=List.pairwise_iff_getElem.1 H.inc _ _ hj k1 q;omega
end
end Go.V
