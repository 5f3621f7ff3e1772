/- None, part 1. No condition. -/
import Derived.Test.YtmhkjfajejaniaaGreatDoorW38
set_option linter.all false
namespace Go.V
set_option maxRecDepth 100000
def yX (fs:List Fac) (i:Nat):Int:=match fs[i]? with
 |some f=>f.kind
 |none=> -1
theorem zIo {p:Fac→Bool} :∀ {l:List Fac} {k i:Nat},i∈yn p l k↔k≤i∧∃h:i-k<l.length,p l[i-k]=true
 | [],k,i=>by simp[yn]
 |f::l,k,i=>by
  have ih:=zIo (p:=p) (l:=l) (k:=k+1) (i:=i);have key:(i∈yn p (f::l) k)↔(p f=true∧i=k)∨i∈yn p l (k+1):=by
   rw[yn];split
   ·rename_i h;simp[h]
   ·rename_i h;simp[h]
  rw[key,ih];constructor
  ·rintro(⟨h1,rfl⟩ | ⟨h1,h2,h3⟩)
   ·exact⟨Nat.le_refl _,by simp,by simpa using h1⟩
   ·refine⟨by omega,by simp only[List.length_cons];omega,?_⟩
    have:i-k=(i- (k+1))+1:=by omega
    simp only[this,List.getElem_cons_succ];exact h3
  ·rintro⟨h1,h2,h3⟩;by_cases e:i=k
   ·subst e;left;exact⟨by simpa using h3,rfl⟩
   ·right
    have:i-k=(i- (k+1))+1:=by omega
    simp only[this,List.getElem_cons_succ] at h3;exact⟨by omega,by simp only[List.length_cons] at h2;omega,h3⟩
theorem zO1 {kind:Int} {q:Fac→Bool} {fs:List Fac} {i:Nat} :i∈fIx kind q fs↔∃h:i<fs.length,fs[i].kind=kind∧q fs[i]=true:=by
 unfold fIx;rw[zIo];simp only[Nat.zero_le,Nat.sub_zero,true_and,isF,Bool.and_eq_true,beq_iff_eq]
theorem qm {fs:List Fac} {i:Nat} (h:i<fs.length):yX fs i=fs[i].kind:=by
 unfold yX;rw[List.getElem?_eq_getElem h]
theorem wl {fs:List Fac} {i:Nat} {k:Int} (h:yX fs i=k) (hk:0≤k):i<fs.length:=by
 unfold yX at h;split at h
 ·rename_i q;exact(List.getElem?_eq_some_iff.1 q).1
 ·omega
theorem zNa {fs:List Fac} {i:Nat} (h:i<fs.length):qp fs i=fs[i].comp:=by
 unfold qp;rw[List.getElem?_eq_getElem h]
theorem zLh {fs:List Fac} {i:Nat} (h:i<fs.length):qN fs i=fs[i].out:=by
 unfold qN;rw[List.getElem?_eq_getElem h]
theorem zHN {fs:List Fac} {k:Int} (hk:0≤k) {i j:Nat} :j∈fIx k (fun g=>g.comp==qp fs i) fs↔yX fs j=k∧qp fs j=qp fs i:=by
 rw[zO1];constructor
 ·rintro⟨h,h1,h2⟩;exact⟨by rw[qm h,h1],by rw[zNa h];simpa using h2⟩
 ·rintro⟨h1,h2⟩;have h:=wl h1 hk;exact⟨h,by rw[←qm h,h1],by rw[zNa h] at h2;simpa using h2⟩
theorem zLi {fs:List Fac} {k:Int} (hk:0≤k) {i j:Nat} :j∈fIx k (fun g=>g.out==qN fs i) fs↔yX fs j=k∧qN fs j=qN fs i:=by
 rw[zO1];constructor
 ·rintro⟨h,h1,h2⟩;exact⟨by rw[qm h,h1],by rw[zLh h];simpa using h2⟩
 ·rintro⟨h1,h2⟩;have h:=wl h1 hk;exact⟨h,by rw[←qm h,h1],by rw[zLh h] at h2;simpa using h2⟩
theorem zHO {fs:List Fac} {k:Int} (hk:0≤k) {j:Nat} :j∈fIx k (fun _=>true) fs↔yX fs j=k:=by
 rw[zO1];constructor
 ·rintro⟨h,h1,_⟩;rw[qm h,h1]
 ·intro h1;have h:=wl h1 hk;exact⟨h,by rw[←qm h,h1],rfl⟩
structure TriP (fs:List Fac) (al:Nat→Option Alt) (i u h:Nat):Prop where
 lt:i<fs.length
 al:(al i).isSome=true
 ku:yX fs u=0
 cu:qp fs u=qp fs i
 kh:yX fs h=2
 oh:qN fs h=qN fs u
theorem wo {fs:List Fac} {al:Nat→Option Alt} {t:Tri} :t∈zq fs al↔TriP fs al t.1 t.2.1 t.2.2:=by
 unfold zq;rw[List.mem_flatMap];constructor
 ·rintro⟨i,hi,ht⟩;unfold zRj at ht;split at ht
  ·rename_i ha;rw[List.mem_flatMap] at ht;obtain⟨u,hu,ht⟩:=ht;unfold zRi at ht;rw[List.mem_map] at ht;obtain⟨h,hh,rfl⟩:=ht;rw[zHN (by decide)] at hu;rw[zLi (by decide)] at hh;exact⟨List.mem_range.1 hi,ha,hu.1,hu.2,hh.1,hh.2⟩
  ·cases ht
 ·intro h;obtain⟨i,u,k⟩:=t;refine⟨i,List.mem_range.2 h.lt,?_⟩;unfold zRj;rw[if_pos h.al,List.mem_flatMap];refine⟨u,(zHN (by decide)).2 ⟨h.ku,h.cu⟩,?_⟩;unfold zRi;exact List.mem_map.2 ⟨k,(zLi (by decide)).2 ⟨h.kh,h.oh⟩,rfl⟩
def zCS (c:Cat) (fs:List Fac) (al:Nat→Option Alt) (O:KV):Nat→List Nat→Prop
 |0,l=>∃i u h,TriP fs al i u h∧zOu c (zIh al i) (zC4 fs h) (zA1 fs u) 5 (fun _=>true)=true∧l= [i,u,h]
 |1,l=>∃i u h own,TriP fs al i u h∧zAM (qN fs u) O=some own∧zOu c (zIh al i) (zC4 fs h) (zA1 fs u) 4 (zIi own)=true∧l= [i,u,h]
 |2,l=>∃i u h k,TriP fs al i u h∧yX fs k=4∧qp fs k=qp fs i∧((!(zFZ fs k==2)||zOv fs u)&&zOu c (zIh al i) (zC4 fs h) (zA1 fs u) (zFZ fs k) (fun _=>true))=true∧l= [i,u,h,k]
 |3,l=>∃i u h i' u' h',TriP fs al i u h∧TriP fs al i' u' h'∧(zA1 fs u==0)=true∧(!(zJC fs (i,u,h) (i',u',h'))&&zar c (zIh al i) (zIh al i'))=true∧l= [i,i',u,u',h]
 |4,l=>∃i h own,yX fs i=3∧zAM (qN fs i) O=some own∧((zIj fs i).any fun s=>s==own)=false∧yX fs h=2∧qN fs h=qN fs i∧l= [i,h]
 |_,l=>c.ls.length=0∧∃h,yX fs h=2∧l= [h]
theorem zDg {α:Type} {b:Bool} {x y:α} :(y∈if b=true then [x] else [])↔b=true∧y=x:=by
 cases b<;>simp
theorem zQj {c:Cat} {fs:List Fac} {al:Nat→Option Alt} {O:KV} {r:Nat} {z:List Int} :z∈zEi c fs al O r↔∃l,zCS c fs al O r l∧z=l.map fun n:Nat=>(n:Int):=by
 rcases r with _|_|_|_|_|r
 ·show z∈zEi c fs al O 0↔∃l,zCS c fs al O 0 l∧z=l.map fun n:Nat=>(n:Int);simp only[zEi,zCS];rw[List.mem_flatMap];constructor
  ·rintro⟨t,ht,hz⟩;rw[wo] at ht;unfold wS at hz;rw[zDg] at hz;exact⟨_,⟨t.1,t.2.1,t.2.2,ht,hz.1,rfl⟩,hz.2⟩
  ·rintro⟨l,⟨i,u,h,ht,hh,rfl⟩,rfl⟩;refine⟨(i,u,h),wo.2 ht,?_⟩;unfold wS;rw[zDg];exact⟨hh,rfl⟩
 ·show z∈zEi c fs al O 1↔∃l,zCS c fs al O 1 l∧z=l.map fun n:Nat=>(n:Int);simp only[zEi,zCS];rw[List.mem_flatMap];constructor
  ·rintro⟨t,ht,hz⟩;rw[wo] at ht;unfold zAS at hz;split at hz
   ·cases hz
   ·rename_i own ho;rw[zDg] at hz;exact⟨_,⟨t.1,t.2.1,t.2.2,own,ht,ho,hz.1,rfl⟩,hz.2⟩
  ·rintro⟨l,⟨i,u,h,own,ht,ho,hh,rfl⟩,rfl⟩;refine⟨(i,u,h),wo.2 ht,?_⟩;unfold zAS;simp only[ho];rw[zDg];exact⟨hh,rfl⟩
 ·show z∈zEi c fs al O 2↔∃l,zCS c fs al O 2 l∧z=l.map fun n:Nat=>(n:Int);simp only[zEi,zCS];rw[List.mem_flatMap];constructor
  ·rintro⟨t,ht,hz⟩;rw[wo] at ht;unfold zD2 at hz;rw[List.mem_flatMap] at hz;obtain⟨k,hk,hz⟩:=hz;rw[zHN (by decide)] at hk;unfold zEf at hz;rw[zDg] at hz;exact⟨_,⟨t.1,t.2.1,t.2.2,k,ht,hk.1,hk.2,hz.1,rfl⟩,hz.2⟩
  ·rintro⟨l,⟨i,u,h,k,ht,hk,hc,hh,rfl⟩,rfl⟩;refine⟨(i,u,h),wo.2 ht,?_⟩;unfold zD2;rw[List.mem_flatMap];refine⟨k,(zHN (by decide)).2 ⟨hk,hc⟩,?_⟩;unfold zEf;rw[zDg];exact⟨hh,rfl⟩
 ·show z∈zEi c fs al O 3↔∃l,zCS c fs al O 3 l∧z=l.map fun n:Nat=>(n:Int);simp only[zEi,zCS];rw[List.mem_flatMap];constructor
  ·rintro⟨t,ht,hz⟩;rw[wo] at ht;unfold wk at hz;split at hz
   ·rename_i hr;rw[List.mem_flatMap] at hz;obtain⟨t',ht',hz⟩:=hz;rw[wo] at ht';unfold zBC at hz;rw[zDg] at hz;exact⟨_,⟨t.1,t.2.1,t.2.2,t'.1,t'.2.1,t'.2.2,ht,ht',hr,hz.1,rfl⟩,hz.2⟩
   ·cases hz
  ·rintro⟨l,⟨i,u,h,i',u',h',ht,ht',hr,hh,rfl⟩,rfl⟩;refine⟨(i,u,h),wo.2 ht,?_⟩;unfold wk;rw[if_pos hr,List.mem_flatMap];refine⟨(i',u',h'),wo.2 ht',?_⟩;unfold zBC;rw[zDg];exact⟨hh,rfl⟩
 ·show z∈zEi c fs al O 4↔∃l,zCS c fs al O 4 l∧z=l.map fun n:Nat=>(n:Int);simp only[zEi,zCS];rw[List.mem_flatMap];constructor
  ·rintro⟨i,hi,hz⟩;rw[zHO (by decide)] at hi;unfold zCQ at hz;split at hz
   ·cases hz
   ·rename_i own ho;split at hz
    ·cases hz
    ·rename_i hn;rw[List.mem_flatMap] at hz;obtain⟨h,hh,hz⟩:=hz;unfold zIl at hz;rw[List.mem_singleton] at hz;have hh:=(zLi (by decide)).1 hh;exact⟨_,⟨i,h,own,hi,ho,Bool.eq_false_iff.2 hn,hh.1,hh.2,rfl⟩,hz⟩
  ·rintro⟨l,⟨i,h,own,hi,ho,hn,hh,hoh,rfl⟩,rfl⟩;refine⟨i,(zHO (by decide)).2 hi,?_⟩;unfold zCQ;simp only[ho];rw[if_neg (by rw[hn];decide),List.mem_flatMap];refine⟨h,(zLi (by decide)).2 ⟨hh,hoh⟩,?_⟩;unfold zIl;exact List.mem_singleton.2 rfl
 ·show z∈zIm c fs↔∃l,(c.ls.length=0∧∃h,yX fs h=2∧l= [h])∧z=l.map fun n:Nat=>(n:Int);unfold zIm;constructor
  ·intro hz;split at hz
   ·cases hz
   ·rename_i hn;rw[List.mem_flatMap] at hz;obtain⟨h,hh,hz⟩:=hz;rw[zHO (by decide)] at hh;unfold zNQ at hz;rw[List.mem_singleton] at hz;exact⟨_,⟨by have:¬(c.ls.length:Int)>0:=fun q=>hn (decide_eq_true q);omega,h,hh,rfl⟩,hz⟩
  ·rintro⟨l,⟨hn,h,hh,rfl⟩,rfl⟩;rw[if_neg (fun q=>by have:=of_decide_eq_true q;omega),List.mem_flatMap];refine⟨h,(zHO (by decide)).2 hh,?_⟩;unfold zNQ;exact List.mem_singleton.2 rfl
structure Emb (fs gs:List Fac) (f:Nat→Nat):Prop where
 get:∀j,j<gs.length→gs[j]? =fs[f j]?
 mono:∀i j,i<j→j<gs.length→f i<f j
structure Cmp (fs gs:List Fac) (f:Nat→Nat) (al al':Nat→Option Alt) (O O':KV):Prop where
 al:∀j,j<gs.length→al' j=al (f j)
 O:∀j,j<gs.length→yX gs j=2→zAM (qN gs j) O'=zAM (qN gs j) O
section
variable {c:Cat} {fs gs:List Fac} {f:Nat→Nat} {al al':Nat→Option Alt} {O O':KV} (E:Emb fs gs f)
include E
theorem Emb.lt {j:Nat} (h:j<gs.length):f j<fs.length:=by
 have:=E.get j h;rw[List.getElem?_eq_getElem h] at this;exact(List.getElem?_eq_some_iff.1 this.symm).1
theorem Emb.kind {j:Nat} (h:j<gs.length):yX gs j=yX fs (f j):=by unfold yX;rw[E.get j h]
theorem Emb.comp {j:Nat} (h:j<gs.length):qp gs j=qp fs (f j):=by unfold qp;rw[E.get j h]
theorem Emb.out {j:Nat} (h:j<gs.length):qN gs j=qN fs (f j):=by unfold qN;rw[E.get j h]
theorem Emb.way {j:Nat} (h:j<gs.length):zC4 gs j=zC4 fs (f j):=by unfold zC4;rw[E.get j h]
theorem Emb.rel {j:Nat} (h:j<gs.length):zA1 gs j=zA1 fs (f j):=by unfold zA1;rw[E.get j h]
theorem Emb.duty {j:Nat} (h:j<gs.length):zFZ gs j=zFZ fs (f j):=by unfold zFZ;rw[E.get j h]
theorem Emb.chg {j:Nat} (h:j<gs.length):zOv gs j=zOv fs (f j):=by unfold zOv;rw[E.get j h]
theorem Emb.list {j:Nat} (h:j<gs.length):zIj gs j=zIj fs (f j):=by unfold zIj;rw[E.get j h]
theorem Emb.lt_iff {i j:Nat} (hi:i<gs.length) (hj:j<gs.length):f i<f j↔i<j:=by
 constructor
 ·intro h;rcases Nat.lt_trichotomy i j with q|q|q
  ·exact q
  ·subst q;omega
  ·have:=E.mono j i q hi;omega
 ·exact fun h=>E.mono i j h hj
theorem Emb.inj {i j:Nat} (hi:i<gs.length) (hj:j<gs.length):f i=f j↔i=j:=by
 constructor
 ·intro h;rcases Nat.lt_trichotomy i j with q|q|q
  ·have:=E.mono i j q hj;omega
  ·exact q
  ·have:=E.mono j i q hi;omega
 ·rintro rfl;rfl
theorem Emb.tri (C:Cmp fs gs f al al' O O') {i u h:Nat} (hi:i<gs.length) (hu:u<gs.length) (hh:h<gs.length):TriP gs al' i u h↔TriP fs al (f i) (f u) (f h):=by
 constructor
 ·rintro⟨h1,h2,h3,h4,h5,h6⟩;exact⟨E.lt hi,by rw[←C.al i hi];exact h2,by rw[←E.kind hu];exact h3,by rw[←E.comp hu,←E.comp hi];exact h4,by rw[←E.kind hh];exact h5,by rw[←E.out hh,←E.out hu];exact h6⟩
 ·rintro⟨h1,h2,h3,h4,h5,h6⟩;exact⟨hi,by rw[C.al i hi];exact h2,by rw[E.kind hu];exact h3,by rw[E.comp hu,E.comp hi];exact h4,by rw[E.kind hh];exact h5,by rw[E.out hh,E.out hu];exact h6⟩
theorem Emb.ts (C:Cmp fs gs f al al' O O') {i:Nat} (hi:i<gs.length):zIh al' i=zIh al (f i):=by unfold zIh;rw[C.al i hi]
theorem Emb.skip {i u h i' u' h':Nat} (hi:i<gs.length) (hu:u<gs.length) (hh:h<gs.length) (hi':i'<gs.length) (hu':u'<gs.length) (hh':h'<gs.length):zJC gs (i,u,h) (i',u',h')=zJC fs (f i,f u,f h) (f i',f u',f h'):=by
 have e1:decide ((i':Int)<(i:Int))=decide ((f i':Int)<(f i:Int)):=by
  have:=E.lt_iff hi' hi;rw[decide_eq_decide];omega
 have e2:((h':Int)==(h:Int))=((f h':Int)==(f h:Int)):=by
  have:=E.inj hh' hh;rw[Bool.eq_iff_iff,beq_iff_eq,beq_iff_eq];omega
 have e3:((u':Int)==(u:Int))=((f u':Int)==(f u:Int)):=by
  have:=E.inj hu' hu;rw[Bool.eq_iff_iff,beq_iff_eq,beq_iff_eq];omega
 unfold zJC;simp only[e1,e2,e3,E.rel hu',E.comp hi,E.comp hi']
theorem Emb.row (C:Cmp fs gs f al al' O O') {r:Nat} {l:List Nat} (hl:∀x∈l,x<gs.length):zCS c gs al' O' r l↔zCS c fs al O r (l.map f):=by
 have m3:∀ {a b d:Nat},l.map f= [a,b,d]→∃i u h,l= [i,u,h]∧f i=a∧f u=b∧f h=d:=by
  intro a b d e;rcases l with _| ⟨i,_| ⟨u,_| ⟨h,_| ⟨k,l⟩⟩⟩⟩ <;>simp at e;exact⟨i,u,h,rfl,e.1,e.2.1,e.2.2⟩
 have hO:∀ {u h:Nat},h<gs.length→yX gs h=2→qN gs h=qN gs u→zAM (qN gs u) O'=zAM (qN gs u) O:=by
  intro u h hh hk ho;rw[←ho];exact C.O h hh hk
 rcases r with _|_|_|_|_|r
 ·show zCS c gs al' O' 0 l↔zCS c fs al O 0 (l.map f);simp only[zCS];constructor
  ·rintro⟨i,u,h,T,hs,rfl⟩;have hi:=hl i (by simp);have hu:=hl u (by simp);have hh:=hl h (by simp);exact⟨f i,f u,f h,(E.tri C hi hu hh).1 T,by rw[←E.ts C hi,←E.way hh,←E.rel hu];exact hs,rfl⟩
  ·rintro⟨a,b,d,T,hs,e⟩;obtain⟨i,u,h,rfl,rfl,rfl,rfl⟩:=m3 e;have hi:=hl i (by simp);have hu:=hl u (by simp);have hh:=hl h (by simp);exact⟨i,u,h,(E.tri C hi hu hh).2 T,by rw[E.ts C hi,E.way hh,E.rel hu];exact hs,rfl⟩
 ·show zCS c gs al' O' 1 l↔zCS c fs al O 1 (l.map f);simp only[zCS];constructor
  ·rintro⟨i,u,h,own,T,ho,hs,rfl⟩;have hi:=hl i (by simp);have hu:=hl u (by simp);have hh:=hl h (by simp);refine⟨f i,f u,f h,own,(E.tri C hi hu hh).1 T,?_,by rw[←E.ts C hi,←E.way hh,←E.rel hu];exact hs,rfl⟩;rw[←E.out hu,←hO hh T.kh T.oh];exact ho
  ·rintro⟨a,b,d,own,T,ho,hs,e⟩;obtain⟨i,u,h,rfl,rfl,rfl,rfl⟩:=m3 e;have hi:=hl i (by simp);have hu:=hl u (by simp);have hh:=hl h (by simp);have T':=(E.tri C hi hu hh).2 T;refine⟨i,u,h,own,T',?_,by rw[E.ts C hi,E.way hh,E.rel hu];exact hs,rfl⟩;rw[hO hh T'.kh T'.oh,E.out hu];exact ho
 ·show zCS c gs al' O' 2 l↔zCS c fs al O 2 (l.map f);simp only[zCS];constructor
  ·rintro⟨i,u,h,k,T,hk,hc,hs,rfl⟩;have hi:=hl i (by simp);have hu:=hl u (by simp);have hh:=hl h (by simp);have hkk:=hl k (by simp);exact⟨f i,f u,f h,f k,(E.tri C hi hu hh).1 T,by rw[←E.kind hkk];exact hk,by rw[←E.comp hkk,←E.comp hi];exact hc,by rw[←E.ts C hi,←E.way hh,←E.rel hu,←E.duty hkk,←E.chg hu];exact hs,rfl⟩
  ·rintro⟨a,b,d,m,T,hk,hc,hs,e⟩;rcases l with _| ⟨i,_| ⟨u,_| ⟨h,_| ⟨k,_| ⟨z,l⟩⟩⟩⟩⟩ <;>simp at e;obtain⟨rfl,rfl,rfl,rfl⟩:=e;have hi:=hl i (by simp);have hu:=hl u (by simp);have hh:=hl h (by simp);have hkk:=hl k (by simp);exact⟨i,u,h,k,(E.tri C hi hu hh).2 T,by rw[E.kind hkk];exact hk,by rw[E.comp hkk,E.comp hi];exact hc,by rw[E.ts C hi,E.way hh,E.rel hu,E.duty hkk,E.chg hu];exact hs,rfl⟩
 ·show zCS c gs al' O' 3 l↔zCS c fs al O 3 (l.map f);simp only[zCS];constructor
  ·rintro⟨i,u,h,i',u',h',T,T',hr,hs,rfl⟩;have hi:=hl i (by simp);have hu:=hl u (by simp);have hh:=hl h (by simp);have hi':=hl i' (by simp);have hu':=hl u' (by simp);have hh':=wl T'.kh (by decide);exact⟨f i,f u,f h,f i',f u',f h',(E.tri C hi hu hh).1 T,(E.tri C hi' hu' hh').1 T',by rw[←E.rel hu];exact hr,by rw[←E.skip hi hu hh hi' hu' hh',←E.ts C hi,←E.ts C hi'];exact hs,rfl⟩
  ·rintro⟨a,b,d,a',b',d',T,T',hr,hs,e⟩;rcases l with _| ⟨i,_| ⟨i',_| ⟨u,_| ⟨u',_| ⟨h,_| ⟨z,l⟩⟩⟩⟩⟩⟩ <;>simp at e;obtain⟨rfl,rfl,rfl,rfl,rfl⟩:=e;have hi:=hl i (by simp);have hu:=hl u (by simp);have hh:=hl h (by simp);have hi':=hl i' (by simp);have hu':=hl u' (by simp);have hd:d'=f h:=by
    unfold zJC at hs;simp only[Bool.and_eq_true,Bool.not_eq_true',Bool.or_eq_false_iff,Bool.not_eq_false',beq_iff_eq] at hs;omega
   subst hd;exact⟨i,u,h,i',u',h,(E.tri C hi hu hh).2 T,(E.tri C hi' hu' hh).2 T',by rw[E.rel hu];exact hr,by rw[E.skip hi hu hh hi' hu' hh,E.ts C hi,E.ts C hi'];exact hs,rfl⟩
 ·show zCS c gs al' O' 4 l↔zCS c fs al O 4 (l.map f);simp only[zCS];constructor
  ·rintro⟨i,h,own,hk,ho,hn,hh2,hoh,rfl⟩;have hi:=hl i (by simp);have hh:=hl h (by simp);refine⟨f i,f h,own,by rw[←E.kind hi];exact hk,?_,by rw[←E.list hi];exact hn,by rw[←E.kind hh];exact hh2,by rw[←E.out hh,←E.out hi];exact hoh,rfl⟩;rw[←E.out hi,←hO hh hh2 hoh];exact ho
  ·rintro⟨a,b,own,hk,ho,hn,hh2,hoh,e⟩;rcases l with _| ⟨i,_| ⟨h,_| ⟨z,l⟩⟩⟩ <;>simp at e;obtain⟨rfl,rfl⟩:=e;have hi:=hl i (by simp);have hh:=hl h (by simp);have k2:yX gs h=2:=by rw[E.kind hh];exact hh2
   have o2:qN gs h=qN gs i:=by rw[E.out hh,E.out hi];exact hoh
   refine⟨i,h,own,by rw[E.kind hi];exact hk,?_,by rw[E.list hi];exact hn,k2,o2,rfl⟩;rw[hO hh k2 o2,E.out hi];exact ho
 ·show(c.ls.length=0∧∃h,yX gs h=2∧l= [h])↔(c.ls.length=0∧∃h,yX fs h=2∧l.map f= [h]);constructor
  ·rintro⟨h0,h,hk,rfl⟩;have hh:=hl h (by simp);exact⟨h0,f h,by rw[←E.kind hh];exact hk,rfl⟩
  ·rintro⟨h0,b,hk,e⟩;rcases l with _| ⟨h,_| ⟨z,l⟩⟩ <;>simp at e;subst e;have hh:=hl h (by simp);exact⟨h0,h,by rw[E.kind hh];exact hk,rfl⟩
end
theorem zCS.lt {c:Cat} {fs:List Fac} {al:Nat→Option Alt} {O:KV} {r:Nat} {l:List Nat} (h:zCS c fs al O r l):∀x∈l,x<fs.length:=by
 have hT:∀ {i u k:Nat},TriP fs al i u k→i<fs.length∧u<fs.length∧k<fs.length:=fun T=>⟨T.lt,wl T.ku (by decide),wl T.kh (by decide)⟩;rcases r with _|_|_|_|_|r
 ·have h:zCS c fs al O 0 l:=h;simp only[zCS] at h;obtain⟨i,u,k,T,_,rfl⟩:=h;have:=hT T;intro x hx;simp at hx;omega
 ·have h:zCS c fs al O 1 l:=h;simp only[zCS] at h;obtain⟨i,u,k,own,T,_,_,rfl⟩:=h;have:=hT T;intro x hx;simp at hx;omega
 ·have h:zCS c fs al O 2 l:=h;simp only[zCS] at h;obtain⟨i,u,k,m,T,hk,_,_,rfl⟩:=h;have:=hT T;have:=wl hk (by decide);intro x hx;simp at hx;omega
 ·have h:zCS c fs al O 3 l:=h;simp only[zCS] at h;obtain⟨i,u,k,i',u',k',T,T',_,_,rfl⟩:=h;have:=hT T;have:=hT T';intro x hx;simp at hx;omega
 ·have h:zCS c fs al O 4 l:=h;simp only[zCS] at h;obtain⟨i,k,own,hi,_,_,hk,_,rfl⟩:=h;have:=wl hi (by decide);have:=wl hk (by decide);intro x hx;simp at hx;omega
 ·have h:c.ls.length=0∧∃h,yX fs h=2∧l= [h]:=h;obtain⟨_,k,hk,rfl⟩:=h;have:=wl hk (by decide);intro x hx;simp at hx;omega
def zEj (fs:List Fac):List Fac:=fs.filter fun f=>f.kind==1
theorem zLj {c:Cat} :∀ {l:List Fac} {t:List (List (List Trm))} {o:List (List UInt8)},(zEL c l t o).2.2=0↔∀f∈l,f.kind=1→zCO c f.e=0
 | [],t,o=>by simp[zEL]
 |f::fs,t,o=>by
  rw[zEL];by_cases h1:(f.kind==1)=true
  ·rw[if_pos h1];have h1':f.kind=1:=by simpa using h1
   by_cases h2:(zCO c f.e==0)=true
   ·rw[if_pos h2,zLj];have h2':zCO c f.e=0:=by simpa using h2
    constructor
    ·intro h g hg hk;rcases List.mem_cons.1 hg with rfl|hg
     ·exact h2'
     ·exact h g hg hk
    ·exact fun h g hg hk=>h g (List.mem_cons_of_mem _ hg) hk
   ·rw[if_neg h2];have h2':zCO c f.e≠0:=by simpa using h2
    constructor
    ·exact fun h=>absurd h h2'
    ·exact fun h=>h f (by simp) h1'
  ·have key:∀o',(zEL c fs t o').2.2=0↔∀g∈f::fs,g.kind=1→zCO c g.e=0:=fun o'=>by
    rw[zLj];constructor
    ·intro h g hg hk;rcases List.mem_cons.1 hg with rfl|hg
     ·exact absurd (by simpa using hk) h1
     ·exact h g hg hk
    ·exact fun h g hg hk=>h g (List.mem_cons_of_mem _ hg) hk
   rw[if_neg h1];split<;>exact key _
theorem zFd {c:Cat} :∀ {l:List Fac} {t:List (List (List Trm))} {o:List (List UInt8)},(zEL c l t o).2.2=0→(zEL c l t o).1=t++(zEj l).map fun f=>ofL c f.e
 | [],t,o,_=>by simp[zEL,zEj]
 |f::fs,t,o,h=>by
  rw[zEL] at h⊢;by_cases h1:(f.kind==1)=true
  ·rw[if_pos h1] at h⊢;by_cases h2:(zCO c f.e==0)=true
   ·rw[if_pos h2] at h⊢;have e:zEj (f::fs)=f::zEj fs:=List.filter_cons_of_pos (by exact h1);rw[zFd h,e,List.map_cons,List.append_assoc];rfl
   ·rw[if_neg h2] at h;exact absurd h (by simpa using h2)
  ·have e:zEj (f::fs)=zEj fs:=List.filter_cons_of_neg (by exact h1);rw[if_neg h1] at h⊢;rw[e];split at h
   ·rename_i q;rw[if_pos q];exact zFd h
   ·rename_i q;rw[if_neg q];exact zFd h
theorem zQk {f:Nat→Int} :∀ {n:Nat},zRS f n=none→∀j,j<n→f j=0
 |0,_,j,hj=>by omega
 |n+1,h,j,hj=>by
  rw[zRS] at h;split at h
  ·cases h
  ·rename_i q;split at h
   ·rename_i q2;rcases Nat.lt_succ_iff_lt_or_eq.1 hj with p|rfl
    ·exact zQk q j p
    ·simpa using q2
   ·cases h
theorem zIp {c:Cat} {l:List Fac} :(yw c l).2=0↔zAx c=0∧l.length≤256∧∀f∈l,zBr c f=0:=by
 have hm:(∀j,j<l.length→wR c l j=0)↔∀f∈l,zBr c f=0:=by
  constructor
  ·intro h f hf;obtain⟨j,hj,rfl⟩:=List.mem_iff_getElem.1 hf;have:=h j hj;unfold wR at this;rw[List.getElem?_eq_getElem hj] at this;exact this
  ·intro h j hj;unfold wR;rw[List.getElem?_eq_getElem hj];exact h _ (List.getElem_mem hj)
 unfold yw;by_cases h1:(!(zAx c==0))=true
 ·rw[if_pos h1]
  have:zAx c≠0:=by simpa using h1
  constructor
  ·intro h;exact absurd h (by decide)
  ·exact fun h=>absurd h.1 this
 ·rw[if_neg h1];have h1':zAx c=0:=by simpa using h1
  by_cases h2:decide ((l.length:Int)>256)=true
  ·rw[if_pos h2];have:=of_decide_eq_true h2;constructor
   ·intro h;exact absurd h (by decide)
   ·intro h;omega
  ·rw[if_neg h2];have h2':l.length≤256:=by
    have:¬(l.length:Int)>256:=fun q=>h2 (decide_eq_true q);omega
   rw[←hm];cases hf:zRS (wR c l) l.length with
   |none=>exact⟨fun _=>⟨h1',h2',zQk hf⟩,fun _=>rfl⟩
   |some p=>
    constructor
    ·intro h;have hp:p.2≠0∧p.1<l.length∧wR c l p.1=p.2:=by
      clear h hm h1 h1' h2 h2';generalize l.length=n at hf
      induction n with
      |zero=>cases hf
      |succ n ih=>
       rw[zRS] at hf;split at hf
       ·rename_i q;cases hf;have:=ih q;exact⟨this.1,by omega,this.2.2⟩
       ·split at hf
        ·cases hf
        ·rename_i q;cases hf;exact⟨by simpa using q,by omega,rfl⟩
     exact absurd h hp.1
    ·rintro⟨_,_,h⟩;rw[zFN h] at hf;cases hf
structure Whole (c:Cat) (fs:List Fac) (y:Cho):Prop where
 cat:zAx c=0
 len:fs.length≤256
 fact:∀f∈fs,zBr c f=0
 of:∀f∈fs,f.kind=1→zCO c f.e=0
 tl:y.ts.length=(zEj fs).length
 ts:∀i (h:i<y.ts.length) (f:Fac),(zEj fs)[i]? =some f→(y.ts[i]).ts∈ofL c f.e
 ol:y.own.length=(zU fs []).length
 own:∀s∈y.own,(c.ls.any fun x=>x.name==s)=true
theorem zLk {f:Nat→Int} {n:Nat} :zDy f n=0↔∀i,i<n→f i=0:=⟨fun h i hi=>zFV h i hi,fun h=>ql h⟩
theorem zIq {c:Cat} {fs:List Fac} {y:Cho} :yO c fs y false=0↔Whole c fs y:=by
 have hv:(zG c fs).2.2=0↔(yw c fs).2=0∧∀f∈fs,f.kind=1→zCO c f.e=0:=by
  unfold zG;by_cases h:(!((yw c fs).2==0))=true
  ·rw[if_pos h]
   have:(yw c fs).2≠0:=by simpa using h
   exact⟨fun q=>absurd q this,fun q=>absurd q.1 this⟩
  ·rw[if_neg h,zLj]
   have:(yw c fs).2=0:=by simpa using h
   exact⟨fun q=>⟨this,q⟩,fun q=>q.2⟩
 have hl:(zG c fs).2.2=0→(zG c fs).1=(zEj fs).map (fun f=>ofL c f.e)∧(zG c fs).2.1=zU fs []:=by
  intro h0;have hc:=(hv.1 h0).1;unfold zG at h0⊢;rw[if_neg (by rw[hc];decide)] at h0⊢;exact⟨by rw[zFd h0,List.nil_append],(zCR h0).2⟩
 unfold yO;by_cases h0:(!((zG c fs).2.2==0))=true
 ·rw[if_pos h0];have h0':(zG c fs).2.2≠0:=by simpa using h0
  constructor
  ·intro h;exact absurd h h0'
  ·intro W;exact absurd (hv.2 ⟨zIp.2 ⟨W.cat,W.len,W.fact⟩,W.of⟩) h0'
 rw[if_neg h0];have h0':(zG c fs).2.2=0:=by simpa using h0
 obtain⟨hcase,hof⟩:=hv.1 h0';obtain⟨c1,c2,c3⟩:=zIp.1 hcase;obtain⟨l1,l2⟩:=hl h0';rw[l1,l2];by_cases h1:(!((y.ts.length:Int)==(((zEj fs).map fun f=>ofL c f.e).length:Int))|| !((y.own.length:Int)==((zU fs []).length:Int)))=true
 ·rw[if_pos h1];constructor
  ·intro h;exact absurd h (by decide)
  ·intro W;rw[List.length_map,W.tl,W.ol] at h1;simp at h1
 rw[if_neg h1];have h1':y.ts.length=(zEj fs).length∧y.own.length=(zU fs []).length:=by
  rw[List.length_map] at h1;simp only[Bool.or_eq_true,Bool.not_eq_true',beq_eq_false_iff_ne,ne_eq,not_or,Decidable.not_not] at h1;omega
 have hterm:(∀i,i<y.ts.length→zCA ((zEj fs).map fun f=>ofL c f.e) y.ts false i=0)↔∀i (h:i<y.ts.length) (f:Fac),(zEj fs)[i]? =some f→(y.ts[i]).ts∈ofL c f.e:=by
  have key:∀i (h:i<y.ts.length),zCA ((zEj fs).map fun f=>ofL c f.e) y.ts false i=0↔(y.ts[i]).ts∈ofL c ((zEj fs)[i]'(by omega)).e:=by
   intro i h;unfold zCA;rw[List.getElem?_eq_getElem h];simp only[Bool.false_and,Bool.false_eq_true,if_false];have hg:((zEj fs).map fun f=>ofL c f.e).getD i []=ofL c ((zEj fs)[i]'(by omega)).e:=by
    rw[List.getD_eq_getElem?_getD,List.getElem?_map,List.getElem?_eq_getElem (by omega)];rfl
   rw[hg];by_cases q:(ofL c ((zEj fs)[i]'(by omega)).e).any (fun b=>zLr (y.ts[i]).ts b)=true
   ·rw[if_neg (by rw[q];decide)];obtain⟨b,hb,e⟩:=List.any_eq_true.1 q;rw[(zCs _ _).1 e];exact⟨fun _=>hb,fun _=>rfl⟩
   ·rw[if_pos (by simpa using q)];constructor
    ·intro h;exact absurd h (by decide)
    ·intro hm;exact absurd (List.any_eq_true.2 ⟨_,hm,(zCs _ _).2 rfl⟩) q
  constructor
  ·intro h i hi f hf;have h2:=(key i hi).1 (h i hi);rw[List.getElem?_eq_getElem (by omega)] at hf;cases hf;exact h2
  ·intro h i hi;exact(key i hi).2 (h i hi _ (List.getElem?_eq_getElem (by omega)))
 have hown:(∀i,i<y.own.length→zRg c y.own false i=0)↔∀s∈y.own,(c.ls.any fun x=>x.name==s)=true:=by
  have key:∀i (h:i<y.own.length),zRg c y.own false i=0↔(c.ls.any fun x=>x.name==y.own[i])=true:=by
   intro i h;unfold zRg;rw[List.getElem?_eq_getElem h];simp only[Bool.false_and,Bool.false_eq_true,if_false];cases(c.ls.any fun x=>x.name==y.own[i])<;>simp
  constructor
  ·intro h s hs;obtain⟨i,hi,rfl⟩:=List.mem_iff_getElem.1 hs;exact(key i hi).1 (h i hi)
  ·exact fun h i hi=>(key i hi).2 (h _ (List.getElem_mem hi))
 by_cases h2:(!(zDy (zCA ((zEj fs).map fun f=>ofL c f.e) y.ts false) y.ts.length==0))=true
 ·rw[if_pos h2];have h2':zDy (zCA ((zEj fs).map fun f=>ofL c f.e) y.ts false) y.ts.length≠0:=by simpa using h2
  constructor
  ·intro h;exact absurd h h2'
  ·intro W;exact absurd (zLk.2 (hterm.2 W.ts)) h2'
 rw[if_neg h2];have h2':zDy (zCA ((zEj fs).map fun f=>ofL c f.e) y.ts false) y.ts.length=0:=by simpa using h2
 have ht:=hterm.1 (zLk.1 h2');rw[zLk,hown];exact⟨fun h=>⟨c1,c2,c3,hof,h1'.1,ht,h1'.2,h⟩,fun W=>W.own⟩
def zK (fs:List Fac) (I:List Nat):List Fac:=I.filterMap fun i=>fs[i]?
def qK (y:Cho) (fs:List Fac) (I:List Nat):List Alt:=(I.filter fun i=>yX fs i==1).map fun i=>zBM y (zAJ fs i)
def zD5 (y:Cho) (outs names:List (List UInt8)):List (List UInt8):=names.map fun o=>zBN y (outs.findIdx fun z=>z==o)
structure InI (fs:List Fac) (I:List Nat):Prop where
 lt:∀i∈I,i<fs.length
 inc:I.Pairwise (· < ·)
theorem zNb {α:Type} {p:α→Bool} {l:List α} {j:Nat} {x:α} (h:l[j]? =some x) (hp:p x=true):(l.filter p)[((l.take j).filter p).length]? =some x:=by
 obtain⟨hj,rfl⟩:=List.getElem?_eq_some_iff.1 h;have e:l.filter p=(l.take j).filter p++(l[j]::(l.drop (j+1)).filter p):=by
  conv=>lhs;rw[←List.take_append_drop j l,List.filter_append,List.drop_eq_getElem_cons hj,List.filter_cons_of_pos hp]
 rw[e,List.getElem?_append_right (Nat.le_refl _),Nat.sub_self,List.getElem?_cons_zero]
section
variable {fs:List Fac} {I:List Nat}
theorem zGD:∀ {I:List Nat},(∀i∈I,i<fs.length)→∀j:Nat,(zK fs I)[j]? =I[j]?.bind fun i=>fs[i]?
 | [],_,j=>by simp[zK]
 |i::I,h,j=>by
  have hi:=h i (by simp);have e:zK fs (i::I)=fs[i]::zK fs I:=by
   unfold zK;rw[List.filterMap_cons_some (List.getElem?_eq_getElem hi)]
  rw[e];cases j with
  |zero=>simp[List.getElem?_eq_getElem hi]
  |succ j=>
   rw[List.getElem?_cons_succ,List.getElem?_cons_succ];exact zGD (fun x hx=>h x (List.mem_cons_of_mem _ hx)) j
theorem wX:∀ {I:List Nat},(∀i∈I,i<fs.length)→(zK fs I).length=I.length
 | [],_=>rfl
 |i::I,h=>by
  have hi:=h i (by simp);have e:zK fs (i::I)=fs[i]::zK fs I:=by
   unfold zK;rw[List.filterMap_cons_some (List.getElem?_eq_getElem hi)]
  rw[e,List.length_cons,List.length_cons,wX fun x hx=>h x (List.mem_cons_of_mem _ hx)]
theorem zKH (I J:List Nat):zK fs (I++J)=zK fs I++zK fs J:=by unfold zK;rw[List.filterMap_append]
theorem zRt {i:Nat} (h:i<fs.length):zK fs [i]= [fs[i]]:=by
 unfold zK;rw[List.filterMap_cons_some (List.getElem?_eq_getElem h)];rfl
theorem zAn {f:Fac} (h:f∈zK fs I):f∈fs:=by
 obtain⟨i,_,e⟩:=List.mem_filterMap.1 h;exact List.mem_of_getElem? e
theorem zCx:∀ {I:List Nat},(∀i∈I,i<fs.length)→zEj (zK fs I)=zK fs (I.filter fun i=>yX fs i==1)
 | [],_=>rfl
 |i::I,h=>by
  have hi:=h i (by simp);have ih:=zCx (I:=I) fun x hx=>h x (List.mem_cons_of_mem _ hx);have e:zK fs (i::I)=fs[i]::zK fs I:=by
   unfold zK;rw[List.filterMap_cons_some (List.getElem?_eq_getElem hi)]
  have hk:=qm hi;rw[e];by_cases q:(fs[i].kind==1)=true
  ·have e1:zEj (fs[i]::zK fs I)=fs[i]::zEj (zK fs I):=List.filter_cons_of_pos (by exact q);rw[e1,ih,List.filter_cons_of_pos (by rw[hk];exact q)];unfold zK;rw[List.filterMap_cons_some (List.getElem?_eq_getElem hi)]
  ·have e1:zEj (fs[i]::zK fs I)=zEj (zK fs I):=List.filter_cons_of_neg (by exact q);rw[e1,ih,List.filter_cons_of_neg (by rw[hk];exact q)]
theorem InI.emb (H:InI fs I):Emb fs (zK fs I) (fun j=>I.getD j 0):=by
 have hl:=wX H.lt;refine⟨fun j hj=> ?_,fun i j hij hj=> ?_⟩
 ·have hj':j<I.length:=by omega
  rw[zGD H.lt,List.getElem?_eq_getElem hj',List.getD_eq_getElem?_getD,List.getElem?_eq_getElem hj'];rfl
 ·have hj':j<I.length:=by omega
  have hi':i<I.length:=by omega
  show I.getD i 0<I.getD j 0;rw[List.getD_eq_getElem?_getD,List.getD_eq_getElem?_getD,List.getElem?_eq_getElem hj',List.getElem?_eq_getElem hi'];exact List.pairwise_iff_getElem.1 H.inc i j hi' hj' hij
theorem zO2 (hI:∀i∈I,i<fs.length) {j:Nat} :zAJ (zK fs I) j=((I.take j).filter fun i=>yX fs i==1).length:=by
 have ht:(zK fs I).take j=zK fs (I.take j):=by
  rcases Nat.le_total j I.length with h|h
  ·conv=>lhs;rw[←List.take_append_drop j I,zKH]
   have:(zK fs (I.take j)).length=j:=by
    rw[wX fun x hx=>hI x (List.mem_of_mem_take hx),List.length_take];omega
   rw[List.take_append_of_le_length (by omega),List.take_of_length_le (by omega)]
  ·rw[List.take_of_length_le (by rw[wX hI];exact h),List.take_of_length_le h]
 have hI':∀i∈I.take j,i<fs.length:=fun x hx=>hI x (List.mem_of_mem_take hx);show(zEj ((zK fs I).take j)).length=_;rw[ht,zCx hI',wX fun i hi=>hI' i (List.mem_filter.1 hi).1]
theorem zQl {i:Nat} (h:i<fs.length) (hk:yX fs i=1):(zEj fs)[zAJ fs i]? =some fs[i]:=by
 rw[qm h] at hk;exact zNb (List.getElem?_eq_getElem h) (by simp[hk])
theorem zCT:∀ {l:List Fac} {o:List (List UInt8)} {s:List UInt8},s∈zU l o↔s∈o∨∃f∈l,f.kind=2∧f.out=s
 | [],o,s=>by simp[zU]
 |f::fs,o,s=>by
  rw[zU];by_cases h1:(f.kind==1)=true
  ·rw[if_pos h1,zCT];have h1':f.kind=1:=by simpa using h1
   constructor
   ·rintro(h| ⟨g,hg,h⟩)
    ·exact .inl h
    ·exact .inr ⟨g,List.mem_cons_of_mem _ hg,h⟩
   ·rintro(h| ⟨g,hg,h,e⟩)
    ·exact .inl h
    ·rcases List.mem_cons.1 hg with rfl|hg
     ·omega
     ·exact .inr ⟨g,hg,h,e⟩
  rw[if_neg h1];by_cases h2:(f.kind==2)=true
  ·rw[if_pos h2,zCT];have h2':f.kind=2:=by simpa using h2
   have key:(s∈if(o.any fun z=>z==f.out)=true then o else o++ [f.out])↔s∈o∨f.out=s:=by
    by_cases q:(o.any fun z=>z==f.out)=true
    ·rw[if_pos q];constructor
     ·exact .inl
     ·rintro(h|rfl)
      ·exact h
      ·obtain⟨z,hz,e⟩:=List.any_eq_true.1 q
       have:z=f.out:=by simpa using e
       rw[←this];exact hz
    ·rw[if_neg q];simp only[List.mem_append,List.mem_singleton];constructor
     ·rintro(h|rfl)
      ·exact .inl h
      ·exact .inr rfl
     ·rintro(h|rfl)
      ·exact .inl h
      ·exact .inr rfl
   rw[key];constructor
   ·rintro((h|h)| ⟨g,hg,h⟩)
    ·exact .inl h
    ·exact .inr ⟨f,by simp,h2',h⟩
    ·exact .inr ⟨g,List.mem_cons_of_mem _ hg,h⟩
   ·rintro(h| ⟨g,hg,h,e⟩)
    ·exact .inl (.inl h)
    ·rcases List.mem_cons.1 hg with rfl|hg
     ·exact .inl (.inr e)
     ·exact .inr ⟨g,hg,h,e⟩
  ·rw[if_neg h2,zCT];have h2':f.kind≠2:=by simpa using h2
   constructor
   ·rintro(h| ⟨g,hg,h⟩)
    ·exact .inl h
    ·exact .inr ⟨g,List.mem_cons_of_mem _ hg,h⟩
   ·rintro(h| ⟨g,hg,h,e⟩)
    ·exact .inl h
    ·rcases List.mem_cons.1 hg with rfl|hg
     ·exact absurd h h2'
     ·exact .inr ⟨g,hg,h,e⟩
def zbD (y:Cho) (outs:List (List UInt8)) (o:List UInt8):Option (List UInt8):=
 if o∈outs∧zBN y (outs.findIdx fun z=>z==o)≠[] then some (zBN y (outs.findIdx fun z=>z==o)) else none
theorem zLl {y:Cho} :∀k,k≤fs.length→∀o,zAM o (zV y fs k).O=zbD y (zV y fs k).outs o
 |0,_,o=>by simp[zV,zbD,zAM]
 |k+1,hk,o=>by
  have ih:=zLl (y:=y) k (by omega);have hlt:k<fs.length:=by omega
  rw[zBu hlt];split
  ·split<;>exact ih o
  split
  ·split
   ·exact ih o
   ·rename_i hn;have hn:fs[k].out∉(zV y fs k).outs:=fun hm=>hn (List.any_eq_true.2 ⟨_,hm,by simp⟩);generalize(zV y fs k).outs=outs at *
    generalize(zV y fs k).O=O at *
    generalize fs[k].out=s at *
    show zAM o (if(!(zBN y outs.length== []))=true then zEW s (zBN y outs.length) O else O)=zbD y (outs++ [s]) o
    have hs:(outs++ [s]).findIdx (fun z=>z==s)=outs.length:=by
     rw[List.findIdx_append]
     have:outs.findIdx (fun z=>z==s)=outs.length:=List.findIdx_eq_length.2 fun z hz=>by
      have:z≠s:=fun e=>hn (e▸hz);simpa using this
     rw[if_neg (by omega)];simp[List.findIdx_cons]
    have ho:o∈outs→(outs++ [s]).findIdx (fun z=>z==o)=outs.findIdx (fun z=>z==o):=fun hm=>by
     rw[List.findIdx_append];rw[if_pos (List.findIdx_lt_length.2 ⟨o,hm,by simp⟩)]
    have hkey:∀v,zAM o (zEW s v O)=if o=s then some v else zAM o O:=fun v=>by
     rw[zMk];by_cases e:o=s
     ·rw[if_pos e,if_pos (by simpa using e)]
     ·rw[if_neg e,if_neg (by simpa using e)]
    by_cases e:o=s
    ·subst e;unfold zbD;rw[hs];by_cases q:zBN y outs.length= []
     ·rw[if_neg (by simp[q]),if_neg (by simp[q]),ih o,zbD,if_neg (by simp[hn])]
     ·rw[if_pos (by simpa using q),hkey,if_pos rfl,if_pos ⟨by simp,q⟩]
    ·have h1:zAM o (if(!(zBN y outs.length== []))=true then zEW s (zBN y outs.length) O else O)=zAM o O:=by
      split
      ·rw[hkey,if_neg e]
      ·rfl
     rw[h1,ih o];unfold zbD;by_cases hm:o∈outs
     ·rw[ho hm];simp[hm]
     ·rw[if_neg (by simp[hm]),if_neg (by simp[hm,e])]
  ·exact ih o
theorem zbE {ts:List Alt} {y:Cho} {outs names:List (List UInt8)} {o:List UInt8} (h:o∈names):zBN ⟨ts,zD5 y outs names⟩ (names.findIdx fun z=>z==o)=zBN y (outs.findIdx fun z=>z==o):=by
 have hlt:names.findIdx (fun z=>z==o)<names.length:=List.findIdx_lt_length.2 ⟨o,h,by simp⟩;have hg:names[names.findIdx fun z=>z==o]=o:=by
  have:=List.findIdx_getElem (w:=hlt);simpa using this
 show(zD5 y outs names).getD _ []=_;unfold zD5;rw[List.getD_eq_getElem?_getD,List.getElem?_map,List.getElem?_eq_getElem hlt,hg];rfl
end
def zIr (y:Cho) (fs:List Fac) (I:List Nat):Cho:=⟨qK y fs I,zD5 y (zU fs []) (zU (zK fs I) [])⟩
section
variable {c:Cat} {fs:List Fac} {y:Cho} {I:List Nat}
theorem zIs {o:List UInt8} (h:o∈zU (zK fs I) []):o∈zU fs []:=by
 rw[zCT] at h⊢;rcases h with h| ⟨f,hf,h⟩
 ·cases h
 ·exact .inr ⟨f,zAn hf,h⟩
theorem zU9 (W:Whole c fs y) {i:Nat} (h:i<fs.length) (hk:yX fs i=1):(zBM y (zAJ fs i)).ts∈ofL c fs[i].e:=by
 have h1:=zQl h hk;have h2:zAJ fs i<y.ts.length:=by rw[W.tl];exact(List.getElem?_eq_some_iff.1 h1).1
 have:=W.ts _ h2 _ h1;unfold zBM;rw[List.getD_eq_getElem?_getD,List.getElem?_eq_getElem h2];exact this
theorem zVA (W:Whole c fs y) {o:List UInt8} (h:o∈zU fs []):zBN y ((zU fs []).findIdx fun z=>z==o)∈y.own:=by
 have hlt:(zU fs []).findIdx (fun z=>z==o)<y.own.length:=by rw[W.ol];exact List.findIdx_lt_length.2 ⟨o,h,by simp⟩
 unfold zBN;rw[List.getD_eq_getElem?_getD,List.getElem?_eq_getElem hlt];exact List.getElem_mem hlt
theorem zRu (H:InI fs I):(qK y fs I).length=(zEj (zK fs I)).length:=by
 unfold qK;rw[List.length_map,zCx H.lt,wX fun i hi=>H.lt i (List.mem_filter.1 hi).1]
theorem zRv (W:Whole c fs y) (H:InI fs I) (hlen:I.length≤256):Whole c (zK fs I) (zIr y fs I) where
 cat:=W.cat
 len:=by rw[wX H.lt];exact hlen
 fact:=fun f hf=>W.fact f (zAn hf)
 of:=fun f hf hk=>W.of f (zAn hf) hk
 tl:=zRu H
 ts:=fun i hi f hf=>by
  have hI':∀i∈I.filter (fun i=>yX fs i==1),i<fs.length:=fun i hi=>H.lt i (List.mem_filter.1 hi).1;rw[zCx H.lt,zGD hI'] at hf;have hi2:i<(I.filter fun i=>yX fs i==1).length:=by
   have:i<(qK y fs I).length:=hi;unfold qK at this
   rwa [List.length_map] at this
  rw[List.getElem?_eq_getElem hi2] at hf;obtain⟨hm,hk⟩:=List.mem_filter.1 (List.getElem_mem hi2);have hlt:=H.lt _ hm;have hf:fs[(I.filter fun i=>yX fs i==1)[i]]? =some f:=hf;rw[List.getElem?_eq_getElem hlt] at hf;cases hf
  have:((zIr y fs I).ts[i])=zBM y (zAJ fs (I.filter fun i=>yX fs i==1)[i]):=by
   show(qK y fs I)[i]=_;simp only[qK,List.getElem_map]
  rw[this];exact zU9 W hlt (by simpa using hk)
 ol:=by show(zD5 _ _ _).length=_;unfold zD5;rw[List.length_map]
 own:=fun s hs=>by
  obtain⟨o,ho,rfl⟩:=List.mem_map.1 hs;exact W.own _ (zVA W (zIs ho))
theorem zXK (W:Whole c fs y) (H:InI fs I):Cmp fs (zK fs I) (fun j=>I.getD j 0) (alS fs y) (alS (zK fs I) (zIr y fs I)) (zV y fs fs.length).O (zV (zIr y fs I) (zK fs I) (zK fs I).length).O where
 al:=fun j hj=>by
  have E:=H.emb;have hjI:j<I.length:=by rw[wX H.lt] at hj;exact hj
  have hgd:I.getD j 0=I[j]:=by rw[List.getD_eq_getElem?_getD,List.getElem?_eq_getElem hjI];rfl
  have hlt:=H.lt _ (List.getElem_mem hjI);have hget:=E.get j hj;show alS (zK fs I) (zIr y fs I) j=alS fs y (I.getD j 0);have hget:(zK fs I)[j]? =some fs[I[j]]:=by
   have:(zK fs I)[j]? =fs[I.getD j 0]? :=hget;rw[this,hgd,List.getElem?_eq_getElem hlt]
  unfold alS;rw[hget,hgd,List.getElem?_eq_getElem hlt];by_cases hk:(fs[I[j]].kind==1)=true
  ·simp only[if_pos hk];have hk1:yX fs I[j]=1:=by rw[qm hlt];simpa using hk
   have ha:zBM (zIr y fs I) (zAJ (zK fs I) j)=zBM y (zAJ fs I[j]):=by
    have:=zNb (p:=fun i=>yX fs i==1) (List.getElem?_eq_getElem hjI) (by simpa using hk1);rw[zO2 H.lt];show(qK y fs I).getD _ _=_;unfold qK;rw[List.getD_eq_getElem?_getD,List.getElem?_map,this];rfl
   rw[ha]
  ·simp only[if_neg hk]
 O:=fun j hj hk=>by
  have hjf:=(List.getElem?_eq_getElem hj);have hm:qN (zK fs I) j∈zU (zK fs I) []:=by
   rw[zCT];refine .inr ⟨_,List.getElem_mem hj,by rw[←qm hj];exact hk,(zLh hj).symm⟩
  rw[zLl _ (Nat.le_refl _),zLl _ (Nat.le_refl _),zAm _ (Nat.le_refl _),zAm _ (Nat.le_refl _),List.take_length,List.take_length];unfold zbD;have e:zBN (zIr y fs I) ((zU (zK fs I) []).findIdx fun z=>z==qN (zK fs I) j)=zBN y ((zU fs []).findIdx fun z=>z==qN (zK fs I) j):=zbE hm;rw[e];have hm2:=zIs hm;simp only[hm,hm2,true_and]
end
section
variable {c:Cat} {fs:List Fac} {y:Cho} {I:List Nat}
theorem zQm {v:Vio} :v∈zJF c fs y↔∃i:Nat,i<6∧v.row=(i:Int)∧∃l,zCS c fs (alS fs y) (zV y fs fs.length).O i l∧zD4 (l.map fun n:Nat=>(n:Int))=v.facts:=by
 rw[zU8];constructor
 ·rintro⟨i,h1,h2,z,hz,e⟩;obtain⟨l,hl,rfl⟩:=zQj.1 hz;exact⟨i,h1,h2,l,hl,e⟩
 ·rintro⟨i,h1,h2,l,hl,e⟩;exact⟨i,h1,h2,_,zQj.2 ⟨l,hl,rfl⟩,e⟩
theorem zLm (W:Whole c fs y) (H:InI fs I) (h0:zJF c fs y= []):zJF c (zK fs I) (zIr y fs I)= []:=by
 rw[List.eq_nil_iff_forall_not_mem];intro v hv;obtain⟨i,h1,h2,l,hl,e⟩:=zQm.1 hv;have h3:=((H.emb).row (zXK W H) (c:=c) (r:=i) hl.lt).1 hl
 have:(⟨(i:Int),zD4 ((l.map fun j=>I.getD j 0).map fun n:Nat=>(n:Int))⟩:Vio)∈zJF c fs y:=zQm.2 ⟨i,h1,rfl,_,h3,rfl⟩;rw[h0] at this;cases this
end
end Go.V
