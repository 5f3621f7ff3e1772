/- None, part 2. No condition. -/
import Derived.Test.YtmhkjfajejaniaaGreatDoorW40
import Derived.Test.YtmhkjfajejaniaaGreatDoorW32
import Derived.Test.YtmhkjfajejaniaaGreatDoorW30
import Derived.Test.YtmhkjfajejaniaaGreatDoorW31
set_option linter.all false
namespace Go.V
set_option maxRecDepth 100000
def wT (fs:List Fac) (i:Nat):Int:=match fs[i]? with
 |some f=>f.kind
 |none=> -1
theorem zIf {p:Fac→Bool} :∀ {l:List Fac} {k i:Nat},i∈ye p l k↔k≤i∧∃h:i-k<l.length,p l[i-k]=true
 | [],k,i=>by simp[ye]
 |f::l,k,i=>by
  have ih:=zIf (p:=p) (l:=l) (k:=k+1) (i:=i);have key:(i∈ye p (f::l) k)↔(p f=true∧i=k)∨i∈ye p l (k+1):=by
   rw[ye];split
   ·rename_i h;simp[h]
   ·rename_i h;simp[h]
  rw[key,ih];constructor
  ·rintro(⟨h1,rfl⟩ | ⟨h1,h2,h3⟩)
   ·exact⟨Nat.le_refl _,by simp,by simpa using h1⟩
   ·refine⟨by omega,by simp only[List.length_cons];omega,?_⟩
    have:i-k=(i- (k+1))+1:=by omega
    simp only[this,List.getElem_cons_succ];exact h3
  ·rintro⟨h1,h2,h3⟩;by_cases e:i=k
   ·subst e;left;exact⟨by simpa using h3,rfl⟩
   ·right
    have:i-k=(i- (k+1))+1:=by omega
    simp only[this,List.getElem_cons_succ] at h3;exact⟨by omega,by simp only[List.length_cons] at h2;omega,h3⟩
theorem zO5 {kind:Int} {q:Fac→Bool} {fs:List Fac} {i:Nat} :i∈fIx kind q fs↔∃h:i<fs.length,fs[i].kind=kind∧q fs[i]=true:=by
 unfold fIx;rw[zIf];simp only[Nat.zero_le,Nat.sub_zero,true_and,isF,Bool.and_eq_true,beq_iff_eq]
theorem zCG {fs:List Fac} {i:Nat} (h:i<fs.length):wT fs i=fs[i].kind:=by
 unfold wT;rw[List.getElem?_eq_getElem h]
theorem zDZ {fs:List Fac} {i:Nat} {k:Int} (h:wT fs i=k) (hk:0≤k):i<fs.length:=by
 unfold wT at h;split at h
 ·rename_i q;exact(List.getElem?_eq_some_iff.1 q).1
 ·omega
theorem zCH {fs:List Fac} {i:Nat} (h:i<fs.length):qH fs i=fs[i].comp:=by
 unfold qH;rw[List.getElem?_eq_getElem h]
theorem zQt {fs:List Fac} {i:Nat} (h:i<fs.length):qX fs i=fs[i].out:=by
 unfold qX;rw[List.getElem?_eq_getElem h]
theorem zG9 {fs:List Fac} {k:Int} (hk:0≤k) {i j:Nat} :j∈fIx k (fun g=>g.comp==qH fs i) fs↔wT fs j=k∧qH fs j=qH fs i:=by
 rw[zO5];constructor
 ·rintro⟨h,h1,h2⟩;exact⟨by rw[zCG h,h1],by rw[zCH h];simpa using h2⟩
 ·rintro⟨h1,h2⟩;have h:=zDZ h1 hk;exact⟨h,by rw[←zCG h,h1],by rw[zCH h] at h2;simpa using h2⟩
theorem zLY {fs:List Fac} {k:Int} (hk:0≤k) {i j:Nat} :j∈fIx k (fun g=>g.out==qX fs i) fs↔wT fs j=k∧qX fs j=qX fs i:=by
 rw[zO5];constructor
 ·rintro⟨h,h1,h2⟩;exact⟨by rw[zCG h,h1],by rw[zQt h];simpa using h2⟩
 ·rintro⟨h1,h2⟩;have h:=zDZ h1 hk;exact⟨h,by rw[←zCG h,h1],by rw[zQt h] at h2;simpa using h2⟩
theorem zHA {fs:List Fac} {k:Int} (hk:0≤k) {j:Nat} :j∈fIx k (fun _=>true) fs↔wT fs j=k:=by
 rw[zO5];constructor
 ·rintro⟨h,h1,_⟩;rw[zCG h,h1]
 ·intro h1;have h:=zDZ h1 hk;exact⟨h,by rw[←zCG h,h1],rfl⟩
structure TriP (fs:List Fac) (al:Nat→Option Alt) (i u h:Nat):Prop where
 lt:i<fs.length
 al:(al i).isSome=true
 ku:wT fs u=0
 cu:qH fs u=qH fs i
 kh:wT fs h=2
 oh:qX fs h=qX fs u
theorem wd {fs:List Fac} {al:Nat→Option Alt} {t:Tri} :t∈zo fs al↔TriP fs al t.1 t.2.1 t.2.2:=by
 unfold zo;rw[List.mem_flatMap];constructor
 ·rintro⟨i,hi,ht⟩;unfold zRr at ht;split at ht
  ·rename_i ha;rw[List.mem_flatMap] at ht;obtain⟨u,hu,ht⟩:=ht;unfold zRq at ht;rw[List.mem_map] at ht;obtain⟨h,hh,rfl⟩:=ht;rw[zG9 (by decide)] at hu;rw[zLY (by decide)] at hh;exact⟨List.mem_range.1 hi,ha,hu.1,hu.2,hh.1,hh.2⟩
  ·cases ht
 ·intro h;obtain⟨i,u,k⟩:=t;refine⟨i,List.mem_range.2 h.lt,?_⟩;unfold zRr;rw[if_pos h.al,List.mem_flatMap];refine⟨u,(zG9 (by decide)).2 ⟨h.ku,h.cu⟩,?_⟩;unfold zRq;exact List.mem_map.2 ⟨k,(zLY (by decide)).2 ⟨h.kh,h.oh⟩,rfl⟩
def zLl (c:Cat) (fs:List Fac) (al:Nat→Option Alt) (O:KV):Nat→List Nat→Prop
 |0,l=>∃i u h,TriP fs al i u h∧zNH c (zIT al i) (zBh fs h) (zAH fs u) 5 (fun _=>true)=true∧l= [i,u,h]
 |1,l=>∃i u h own,TriP fs al i u h∧zFr (qX fs u) O=some own∧zNH c (zIT al i) (zBh fs h) (zAH fs u) 4 (zIU own)=true∧l= [i,u,h]
 |2,l=>∃i u h k,TriP fs al i u h∧wT fs k=4∧qH fs k=qH fs i∧((!(zGS fs k==2)||zLQ fs u)&&zNH c (zIT al i) (zBh fs h) (zAH fs u) (zGS fs k) (fun _=>true))=true∧l= [i,u,h,k]
 |3,l=>∃i u h i' u' h',TriP fs al i u h∧TriP fs al i' u' h'∧(zAH fs u==0)=true∧(!(zRu fs (i,u,h) (i',u',h'))&&zbK c (zIT al i) (zIT al i'))=true∧l= [i,i',u,u',h]
 |4,l=>∃i h own,wT fs i=3∧zFr (qX fs i) O=some own∧((zQl fs i).any fun s=>s==own)=false∧wT fs h=2∧qX fs h=qX fs i∧l= [i,h]
 |_,l=>c.ls.length=0∧∃h,wT fs h=2∧l= [h]
theorem zDa {α:Type} {b:Bool} {x y:α} :(y∈if b=true then [x] else [])↔b=true∧y=x:=by
 cases b<;>simp
theorem zQu {c:Cat} {fs:List Fac} {al:Nat→Option Alt} {O:KV} {r:Nat} {z:List Int} :z∈zEV c fs al O r↔∃l,zLl c fs al O r l∧z=l.map fun n:Nat=>(n:Int):=by
 rcases r with _|_|_|_|_|r
 ·show z∈zEV c fs al O 0↔∃l,zLl c fs al O 0 l∧z=l.map fun n:Nat=>(n:Int);simp only[zEV,zLl];rw[List.mem_flatMap];constructor
  ·rintro⟨t,ht,hz⟩;rw[wd] at ht;unfold wM at hz;rw[zDa] at hz;exact⟨_,⟨t.1,t.2.1,t.2.2,ht,hz.1,rfl⟩,hz.2⟩
  ·rintro⟨l,⟨i,u,h,ht,hh,rfl⟩,rfl⟩;refine⟨(i,u,h),wd.2 ht,?_⟩;unfold wM;rw[zDa];exact⟨hh,rfl⟩
 ·show z∈zEV c fs al O 1↔∃l,zLl c fs al O 1 l∧z=l.map fun n:Nat=>(n:Int);simp only[zEV,zLl];rw[List.mem_flatMap];constructor
  ·rintro⟨t,ht,hz⟩;rw[wd] at ht;unfold zAK at hz;split at hz
   ·cases hz
   ·rename_i own ho;rw[zDa] at hz;exact⟨_,⟨t.1,t.2.1,t.2.2,own,ht,ho,hz.1,rfl⟩,hz.2⟩
  ·rintro⟨l,⟨i,u,h,own,ht,ho,hh,rfl⟩,rfl⟩;refine⟨(i,u,h),wd.2 ht,?_⟩;unfold zAK;simp only[ho];rw[zDa];exact⟨hh,rfl⟩
 ·show z∈zEV c fs al O 2↔∃l,zLl c fs al O 2 l∧z=l.map fun n:Nat=>(n:Int);simp only[zEV,zLl];rw[List.mem_flatMap];constructor
  ·rintro⟨t,ht,hz⟩;rw[wd] at ht;unfold zDt at hz;rw[List.mem_flatMap] at hz;obtain⟨k,hk,hz⟩:=hz;rw[zG9 (by decide)] at hk;unfold zES at hz;rw[zDa] at hz;exact⟨_,⟨t.1,t.2.1,t.2.2,k,ht,hk.1,hk.2,hz.1,rfl⟩,hz.2⟩
  ·rintro⟨l,⟨i,u,h,k,ht,hk,hc,hh,rfl⟩,rfl⟩;refine⟨(i,u,h),wd.2 ht,?_⟩;unfold zDt;rw[List.mem_flatMap];refine⟨k,(zG9 (by decide)).2 ⟨hk,hc⟩,?_⟩;unfold zES;rw[zDa];exact⟨hh,rfl⟩
 ·show z∈zEV c fs al O 3↔∃l,zLl c fs al O 3 l∧z=l.map fun n:Nat=>(n:Int);simp only[zEV,zLl];rw[List.mem_flatMap];constructor
  ·rintro⟨t,ht,hz⟩;rw[wd] at ht;unfold wc at hz;split at hz
   ·rename_i hr;rw[List.mem_flatMap] at hz;obtain⟨t',ht',hz⟩:=hz;rw[wd] at ht';unfold zAz at hz;rw[zDa] at hz;exact⟨_,⟨t.1,t.2.1,t.2.2,t'.1,t'.2.1,t'.2.2,ht,ht',hr,hz.1,rfl⟩,hz.2⟩
   ·cases hz
  ·rintro⟨l,⟨i,u,h,i',u',h',ht,ht',hr,hh,rfl⟩,rfl⟩;refine⟨(i,u,h),wd.2 ht,?_⟩;unfold wc;rw[if_pos hr,List.mem_flatMap];refine⟨(i',u',h'),wd.2 ht',?_⟩;unfold zAz;rw[zDa];exact⟨hh,rfl⟩
 ·show z∈zEV c fs al O 4↔∃l,zLl c fs al O 4 l∧z=l.map fun n:Nat=>(n:Int);simp only[zEV,zLl];rw[List.mem_flatMap];constructor
  ·rintro⟨i,hi,hz⟩;rw[zHA (by decide)] at hi;unfold zCD at hz;split at hz
   ·cases hz
   ·rename_i own ho;split at hz
    ·cases hz
    ·rename_i hn;rw[List.mem_flatMap] at hz;obtain⟨h,hh,hz⟩:=hz;unfold zIW at hz;rw[List.mem_singleton] at hz;have hh:=(zLY (by decide)).1 hh;exact⟨_,⟨i,h,own,hi,ho,Bool.eq_false_iff.2 hn,hh.1,hh.2,rfl⟩,hz⟩
  ·rintro⟨l,⟨i,h,own,hi,ho,hn,hh,hoh,rfl⟩,rfl⟩;refine⟨i,(zHA (by decide)).2 hi,?_⟩;unfold zCD;simp only[ho];rw[if_neg (by rw[hn];decide),List.mem_flatMap];refine⟨h,(zLY (by decide)).2 ⟨hh,hoh⟩,?_⟩;unfold zIW;exact List.mem_singleton.2 rfl
 ·show z∈zIX c fs↔∃l,(c.ls.length=0∧∃h,wT fs h=2∧l= [h])∧z=l.map fun n:Nat=>(n:Int);unfold zIX;constructor
  ·intro hz;split at hz
   ·cases hz
   ·rename_i hn;rw[List.mem_flatMap] at hz;obtain⟨h,hh,hz⟩:=hz;rw[zHA (by decide)] at hh;unfold zNM at hz;rw[List.mem_singleton] at hz;exact⟨_,⟨by have:¬(c.ls.length:Int)>0:=fun q=>hn (decide_eq_true q);omega,h,hh,rfl⟩,hz⟩
  ·rintro⟨l,⟨hn,h,hh,rfl⟩,rfl⟩;rw[if_neg (fun q=>by have:=of_decide_eq_true q;omega),List.mem_flatMap];refine⟨h,(zHA (by decide)).2 hh,?_⟩;unfold zNM;exact List.mem_singleton.2 rfl
structure Emb (fs gs:List Fac) (f:Nat→Nat):Prop where
 get:∀j,j<gs.length→gs[j]? =fs[f j]?
 mono:∀i j,i<j→j<gs.length→f i<f j
section
variable {c:Cat} {fs gs:List Fac} {f:Nat→Nat} {al al':Nat→Option Alt} {O O':KV} (E:Emb fs gs f)
include E
end
def zIk (fs:List Fac):List Fac:=fs.filter fun f=>f.kind==1
theorem zLZ {c:Cat} :∀ {l:List Fac} {t:List (List (List Trm))} {o:List (List UInt8)},(zEB c l t o).2.2=0↔∀f∈l,f.kind=1→zCB c f.e=0
 | [],t,o=>by simp[zEB]
 |f::fs,t,o=>by
  rw[zEB];by_cases h1:(f.kind==1)=true
  ·rw[if_pos h1];have h1':f.kind=1:=by simpa using h1
   by_cases h2:(zCB c f.e==0)=true
   ·rw[if_pos h2,zLZ];have h2':zCB c f.e=0:=by simpa using h2
    constructor
    ·intro h g hg hk;rcases List.mem_cons.1 hg with rfl|hg
     ·exact h2'
     ·exact h g hg hk
    ·exact fun h g hg hk=>h g (List.mem_cons_of_mem _ hg) hk
   ·rw[if_neg h2];have h2':zCB c f.e≠0:=by simpa using h2
    constructor
    ·exact fun h=>absurd h h2'
    ·exact fun h=>h f (by simp) h1'
  ·have key:∀o',(zEB c fs t o').2.2=0↔∀g∈f::fs,g.kind=1→zCB c g.e=0:=fun o'=>by
    rw[zLZ];constructor
    ·intro h g hg hk;rcases List.mem_cons.1 hg with rfl|hg
     ·exact absurd (by simpa using hk) h1
     ·exact h g hg hk
    ·exact fun h g hg hk=>h g (List.mem_cons_of_mem _ hg) hk
   rw[if_neg h1];split<;>exact key _
theorem zFQ {c:Cat} :∀ {l:List Fac} {t:List (List (List Trm))} {o:List (List UInt8)},(zEB c l t o).2.2=0→(zEB c l t o).1=t++(zIk l).map fun f=>ofL c f.e
 | [],t,o,_=>by simp[zEB,zIk]
 |f::fs,t,o,h=>by
  rw[zEB] at h⊢;by_cases h1:(f.kind==1)=true
  ·rw[if_pos h1] at h⊢;by_cases h2:(zCB c f.e==0)=true
   ·rw[if_pos h2] at h⊢;have e:zIk (f::fs)=f::zIk fs:=List.filter_cons_of_pos (by exact h1);rw[zFQ h,e,List.map_cons,List.append_assoc];rfl
   ·rw[if_neg h2] at h;exact absurd h (by simpa using h2)
  ·have e:zIk (f::fs)=zIk fs:=List.filter_cons_of_neg (by exact h1);rw[if_neg h1] at h⊢;rw[e];split at h
   ·rename_i q;rw[if_pos q];exact zFQ h
   ·rename_i q;rw[if_neg q];exact zFQ h
theorem zQv {f:Nat→Int} :∀ {n:Nat},zRe f n=none→∀j,j<n→f j=0
 |0,_,j,hj=>by omega
 |n+1,h,j,hj=>by
  rw[zRe] at h;split at h
  ·cases h
  ·rename_i q;split at h
   ·rename_i q2;rcases Nat.lt_succ_iff_lt_or_eq.1 hj with p|rfl
    ·exact zQv q j p
    ·simpa using q2
   ·cases h
theorem zIg {c:Cat} {l:List Fac} :(yq c l).2=0↔wb c=0∧l.length≤256∧∀f∈l,zBc c f=0:=by
 have hm:(∀j,j<l.length→wL c l j=0)↔∀f∈l,zBc c f=0:=by
  constructor
  ·intro h f hf;obtain⟨j,hj,rfl⟩:=List.mem_iff_getElem.1 hf;have:=h j hj;unfold wL at this;rw[List.getElem?_eq_getElem hj] at this;exact this
  ·intro h j hj;unfold wL;rw[List.getElem?_eq_getElem hj];exact h _ (List.getElem_mem hj)
 unfold yq;by_cases h1:(!(wb c==0))=true
 ·rw[if_pos h1]
  have:wb c≠0:=by simpa using h1
  constructor
  ·intro h;exact absurd h (by decide)
  ·exact fun h=>absurd h.1 this
 ·rw[if_neg h1];have h1':wb c=0:=by simpa using h1
  by_cases h2:decide ((l.length:Int)>256)=true
  ·rw[if_pos h2];have:=of_decide_eq_true h2;constructor
   ·intro h;exact absurd h (by decide)
   ·intro h;omega
  ·rw[if_neg h2];have h2':l.length≤256:=by
    have:¬(l.length:Int)>256:=fun q=>h2 (decide_eq_true q);omega
   rw[←hm];cases hf:zRe (wL c l) l.length with
   |none=>exact⟨fun _=>⟨h1',h2',zQv hf⟩,fun _=>rfl⟩
   |some p=>
    constructor
    ·intro h;have hp:p.2≠0∧p.1<l.length∧wL c l p.1=p.2:=by
      clear h hm h1 h1' h2 h2';generalize l.length=n at hf
      induction n with
      |zero=>cases hf
      |succ n ih=>
       rw[zRe] at hf;split at hf
       ·rename_i q;cases hf;have:=ih q;exact⟨this.1,by omega,this.2.2⟩
       ·split at hf
        ·cases hf
        ·rename_i q;cases hf;exact⟨by simpa using q,by omega,rfl⟩
     exact absurd h hp.1
    ·rintro⟨_,_,h⟩;rw[zFE h] at hf;cases hf
structure Whole (c:Cat) (fs:List Fac) (y:Cho):Prop where
 cat:wb c=0
 len:fs.length≤256
 fact:∀f∈fs,zBc c f=0
 of:∀f∈fs,f.kind=1→zCB c f.e=0
 tl:y.ts.length=(zIk fs).length
 ts:∀i (h:i<y.ts.length) (f:Fac),(zIk fs)[i]? =some f→(y.ts[i]).ts∈ofL c f.e
 ol:y.own.length=(zAu fs []).length
 own:∀s∈y.own,(c.ls.any fun x=>x.name==s)=true
theorem zLa {f:Nat→Int} {n:Nat} :zDH f n=0↔∀i,i<n→f i=0:=⟨fun h i hi=>zCk h i hi,fun h=>qF h⟩
theorem zNY {c:Cat} {fs:List Fac} {y:Cho} :zi c fs y false=0↔Whole c fs y:=by
 have hv:(zH c fs).2.2=0↔(yq c fs).2=0∧∀f∈fs,f.kind=1→zCB c f.e=0:=by
  unfold zH;by_cases h:(!((yq c fs).2==0))=true
  ·rw[if_pos h]
   have:(yq c fs).2≠0:=by simpa using h
   exact⟨fun q=>absurd q this,fun q=>absurd q.1 this⟩
  ·rw[if_neg h,zLZ]
   have:(yq c fs).2=0:=by simpa using h
   exact⟨fun q=>⟨this,q⟩,fun q=>q.2⟩
 have hl:(zH c fs).2.2=0→(zH c fs).1=(zIk fs).map (fun f=>ofL c f.e)∧(zH c fs).2.1=zAu fs []:=by
  intro h0;have hc:=(hv.1 h0).1;unfold zH at h0⊢;rw[if_neg (by rw[hc];decide)] at h0⊢;exact⟨by rw[zFQ h0,List.nil_append],(zDY h0).2⟩
 unfold zi;by_cases h0:(!((zH c fs).2.2==0))=true
 ·rw[if_pos h0];have h0':(zH c fs).2.2≠0:=by simpa using h0
  constructor
  ·intro h;exact absurd h h0'
  ·intro W;exact absurd (hv.2 ⟨zIg.2 ⟨W.cat,W.len,W.fact⟩,W.of⟩) h0'
 rw[if_neg h0];have h0':(zH c fs).2.2=0:=by simpa using h0
 obtain⟨hcase,hof⟩:=hv.1 h0';obtain⟨c1,c2,c3⟩:=zIg.1 hcase;obtain⟨l1,l2⟩:=hl h0';rw[l1,l2];by_cases h1:(!((y.ts.length:Int)==(((zIk fs).map fun f=>ofL c f.e).length:Int))|| !((y.own.length:Int)==((zAu fs []).length:Int)))=true
 ·rw[if_pos h1];constructor
  ·intro h;exact absurd h (by decide)
  ·intro W;rw[List.length_map,W.tl,W.ol] at h1;simp at h1
 rw[if_neg h1];have h1':y.ts.length=(zIk fs).length∧y.own.length=(zAu fs []).length:=by
  rw[List.length_map] at h1;simp only[Bool.or_eq_true,Bool.not_eq_true',beq_eq_false_iff_ne,ne_eq,not_or,Decidable.not_not] at h1;omega
 have hterm:(∀i,i<y.ts.length→zA9 ((zIk fs).map fun f=>ofL c f.e) y.ts false i=0)↔∀i (h:i<y.ts.length) (f:Fac),(zIk fs)[i]? =some f→(y.ts[i]).ts∈ofL c f.e:=by
  have key:∀i (h:i<y.ts.length),zA9 ((zIk fs).map fun f=>ofL c f.e) y.ts false i=0↔(y.ts[i]).ts∈ofL c ((zIk fs)[i]'(by omega)).e:=by
   intro i h;unfold zA9;rw[List.getElem?_eq_getElem h];simp only[Bool.false_and,Bool.false_eq_true,if_false];have hg:((zIk fs).map fun f=>ofL c f.e).getD i []=ofL c ((zIk fs)[i]'(by omega)).e:=by
    rw[List.getD_eq_getElem?_getD,List.getElem?_map,List.getElem?_eq_getElem (by omega)];rfl
   rw[hg];by_cases q:(ofL c ((zIk fs)[i]'(by omega)).e).any (fun b=>zLj (y.ts[i]).ts b)=true
   ·rw[if_neg (by rw[q];decide)];obtain⟨b,hb,e⟩:=List.any_eq_true.1 q;rw[(zCl _ _).1 e];exact⟨fun _=>hb,fun _=>rfl⟩
   ·rw[if_pos (by simpa using q)];constructor
    ·intro h;exact absurd h (by decide)
    ·intro hm;exact absurd (List.any_eq_true.2 ⟨_,hm,(zCl _ _).2 rfl⟩) q
  constructor
  ·intro h i hi f hf;have h2:=(key i hi).1 (h i hi);rw[List.getElem?_eq_getElem (by omega)] at hf;cases hf;exact h2
  ·intro h i hi;exact(key i hi).2 (h i hi _ (List.getElem?_eq_getElem (by omega)))
 have hown:(∀i,i<y.own.length→zQh c y.own false i=0)↔∀s∈y.own,(c.ls.any fun x=>x.name==s)=true:=by
  have key:∀i (h:i<y.own.length),zQh c y.own false i=0↔(c.ls.any fun x=>x.name==y.own[i])=true:=by
   intro i h;unfold zQh;rw[List.getElem?_eq_getElem h];simp only[Bool.false_and,Bool.false_eq_true,if_false];cases(c.ls.any fun x=>x.name==y.own[i])<;>simp
  constructor
  ·intro h s hs;obtain⟨i,hi,rfl⟩:=List.mem_iff_getElem.1 hs;exact(key i hi).1 (h i hi)
  ·exact fun h i hi=>(key i hi).2 (h _ (List.getElem_mem hi))
 by_cases h2:(!(zDH (zA9 ((zIk fs).map fun f=>ofL c f.e) y.ts false) y.ts.length==0))=true
 ·rw[if_pos h2];have h2':zDH (zA9 ((zIk fs).map fun f=>ofL c f.e) y.ts false) y.ts.length≠0:=by simpa using h2
  constructor
  ·intro h;exact absurd h h2'
  ·intro W;exact absurd (zLa.2 (hterm.2 W.ts)) h2'
 rw[if_neg h2];have h2':zDH (zA9 ((zIk fs).map fun f=>ofL c f.e) y.ts false) y.ts.length=0:=by simpa using h2
 have ht:=hterm.1 (zLa.1 h2');rw[zLa,hown];exact⟨fun h=>⟨c1,c2,c3,hof,h1'.1,ht,h1'.2,h⟩,fun W=>W.own⟩
section
variable {fs:List Fac} {I:List Nat}
end
section
variable {c:Cat} {fs:List Fac} {y:Cho} {I:List Nat}
end
section
variable {c:Cat} {fs:List Fac} {y:Cho} {I:List Nat}
theorem zLb {v:Vio} :v∈zDw c fs y↔∃i:Nat,i<6∧v.row=(i:Int)∧∃l,zLl c fs (alS fs y) (zW y fs fs.length).O i l∧zDv (l.map fun n:Nat=>(n:Int))=v.facts:=by
 rw[zVU];constructor
 ·rintro⟨i,h1,h2,z,hz,e⟩;obtain⟨l,hl,rfl⟩:=zQu.1 hz;exact⟨i,h1,h2,l,hl,e⟩
 ·rintro⟨i,h1,h2,l,hl,e⟩;exact⟨i,h1,h2,_,zQu.2 ⟨l,hl,rfl⟩,e⟩
end
section
variable {h0 h h':Heap} {L L':List (Nat×List (List D) ×D)}
end
section
variable {α:Type} {a b c d:α}
end
section
variable {fs:List Fac} {y:Cho} {K:Nat→Bool} {i:Nat}
end
open Go.Proofs
theorem zVV {c:Cat} {fs:List Fac} (h:(wv c fs==0)=true) (hm:((zLM c fs:Int)==0)=false) (n:Nat):zCt c fs ((n%zLM c fs:Nat):Int)=0:=by
 have hp:0<zLM c fs:=by
  have:(zLM c fs:Int)≠0:=by simpa using hm
  omega
 have hlt:=Nat.mod_lt n hp;unfold zCt;rw[h];simp only[Bool.not_true,Bool.false_eq_true,if_false];rw[if_neg];simp only[Bool.or_eq_true,decide_eq_true_eq,not_or];omega
theorem zbj {n m:Nat} (hm:((m:Int)==0)=false):wx .rem .i64 .i64 (n:Int) (m:Int)=some (.int .i64 ((n%m:Nat):Int)):=by
 have b0:¬(m:Int)=0:=by simpa using hm
 have b1:(n:Int).tmod (m:Int)=((n%m:Nat):Int):=by rw[Int.tmod_eq_emod_of_nonneg (by omega)];rfl
 simp only[wx,zLm,if_true];rw[if_neg b0,b1]
theorem zVW {sz:Nat} {xs:List (List D)} :zf sz xs (nd sz xs):=by
 cases xs with
 |nil=>exact .inl ⟨rfl,rfl⟩
 |cons x xs=>exact zf.mk .no
theorem zbk {c:Cat} {fs:List Fac} {k:Int} (hl:fs.length≤65536) (hk:zCt c fs k=0):(zG8 c fs k.toNat).Sm:=by
 obtain⟨vl1,vl2⟩:=zDl (c:=c) (l:=fs);have hT:(zG8 c fs k.toNat).ts.length=(zH c fs).1.length:=by simp[zG8,zXQ,ym]
 have hO:(zG8 c fs k.toNat).own.length=(zH c fs).2.1.length:=by simp[zG8,zXR,zAq]
 refine⟨by omega,by omega,fun a ha=> ?_⟩;obtain⟨t,ht,rfl⟩:=List.mem_map.1 ha;refine⟨zf.mk .no,?_⟩;show t.length≤1048576;unfold zXQ ym at ht;obtain⟨i,hi,rfl⟩:=List.mem_map.1 ht;have hi:=List.mem_range.1 hi;rw[List.getD_eq_getElem?_getD (l:=(zH c fs).1),List.getElem?_eq_getElem hi,Option.getD_some];have hv:=(zBe (c:=c) (l:=fs) _ (List.getElem_mem hi)).2;rw[List.getD_eq_getElem?_getD];cases hg:((zH c fs).1[i])[(zEU (zDr c (zH c fs).1 (zH c fs).2.1) k.toNat).1.getD i 0]? with
 |none=>simp
 |some z=>
  have:=(hv.ts z (List.mem_of_getElem? hg)).2;simp only[Option.getD_some];omega
theorem zbl {c:Cat} {fs:List Fac} {d x td od:D} (hc:qW c d) (hs:c.Sm) (hx:zf 12 (zFC fs) x) (hF:zg5 fs) (hok:∀f∈fs,f.Ok) {k:Int} (hk:zCt c fs k=0) (h1:zf 1 (yO ((zXQ c fs k.toNat).map mkA)) td) (h2:zf 1 (yW (zXR c fs k.toNat)) od):CIn c fs (zG8 c fs k.toNat) d x (.agg [td,od]):=
 ⟨hc,hs,hx,by have:=hF.1.2;omega,hF.1.1,hok,⟨td,od,rfl,h1,h2⟩,zbk (by have:=hF.1.2;omega) hk⟩
end Go.V
