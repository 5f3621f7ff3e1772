/- None, part 1. No condition. -/
import Derived.Test.YtmhkjfajejaniaaGreatDoorW38
import Derived.Test.YtmhkjfajejaniaaGreatDoorW32
import Derived.Test.YtmhkjfajejaniaaGreatDoorW30
import Derived.Test.YtmhkjfajejaniaaGreatDoorW31
import Derived.Test.YtmhkjfajejaniaaGreatDoorW21
import Derived.Test.YtmhkjfajejaniaaGreatDoorW34
set_option linter.all false
namespace Go.V
set_option maxRecDepth 100000
def zBl (fs:List Fac) (i:Nat):Int:=match fs[i]? with
 |some f=>f.kind
 |none=> -1
theorem zIi {p:Fac→Bool} :∀ {l:List Fac} {k i:Nat},i∈yc p l k↔k≤i∧∃h:i-k<l.length,p l[i-k]=true
 | [],k,i=>by simp[yc]
 |f::l,k,i=>by
  have ih:=zIi (p:=p) (l:=l) (k:=k+1) (i:=i);have key:(i∈yc p (f::l) k)↔(p f=true∧i=k)∨i∈yc p l (k+1):=by
   rw[yc];split
   ·rename_i h;simp[h]
   ·rename_i h;simp[h]
  rw[key,ih];constructor
  ·rintro(⟨h1,rfl⟩ | ⟨h1,h2,h3⟩)
   ·exact⟨Nat.le_refl _,by simp,by simpa using h1⟩
   ·refine⟨by omega,by simp only[List.length_cons];omega,?_⟩
    have:i-k=(i- (k+1))+1:=by omega
    simp only[this,List.getElem_cons_succ];exact h3
  ·rintro⟨h1,h2,h3⟩;by_cases e:i=k
   ·subst e;left;exact⟨by simpa using h3,rfl⟩
   ·right
    have:i-k=(i- (k+1))+1:=by omega
    simp only[this,List.getElem_cons_succ] at h3;exact⟨by omega,by simp only[List.length_cons] at h2;omega,h3⟩
theorem zOx {kind:Int} {q:Fac→Bool} {fs:List Fac} {i:Nat} :i∈fIx kind q fs↔∃h:i<fs.length,fs[i].kind=kind∧q fs[i]=true:=by
 unfold fIx;rw[zIi];simp only[Nat.zero_le,Nat.sub_zero,true_and,isF,Bool.and_eq_true,beq_iff_eq]
theorem zCE {fs:List Fac} {i:Nat} (h:i<fs.length):zBl fs i=fs[i].kind:=by
 unfold zBl;rw[List.getElem?_eq_getElem h]
theorem zIj {fs:List Fac} {i:Nat} {k:Int} (h:zBl fs i=k) (hk:0≤k):i<fs.length:=by
 unfold zBl at h;split at h
 ·rename_i q;exact(List.getElem?_eq_some_iff.1 q).1
 ·omega
theorem zNW {fs:List Fac} {i:Nat} (h:i<fs.length):wI fs i=fs[i].comp:=by
 unfold wI;rw[List.getElem?_eq_getElem h]
theorem zQi {fs:List Fac} {i:Nat} (h:i<fs.length):wP fs i=fs[i].out:=by
 unfold wP;rw[List.getElem?_eq_getElem h]
theorem zG9 {fs:List Fac} {k:Int} (hk:0≤k) {i j:Nat} :j∈fIx k (fun g=>g.comp==wI fs i) fs↔zBl fs j=k∧wI fs j=wI fs i:=by
 rw[zOx];constructor
 ·rintro⟨h,h1,h2⟩;exact⟨by rw[zCE h,h1],by rw[zNW h];simpa using h2⟩
 ·rintro⟨h1,h2⟩;have h:=zIj h1 hk;exact⟨h,by rw[←zCE h,h1],by rw[zNW h] at h2;simpa using h2⟩
theorem zLW {fs:List Fac} {k:Int} (hk:0≤k) {i j:Nat} :j∈fIx k (fun g=>g.out==wP fs i) fs↔zBl fs j=k∧wP fs j=wP fs i:=by
 rw[zOx];constructor
 ·rintro⟨h,h1,h2⟩;exact⟨by rw[zCE h,h1],by rw[zQi h];simpa using h2⟩
 ·rintro⟨h1,h2⟩;have h:=zIj h1 hk;exact⟨h,by rw[←zCE h,h1],by rw[zQi h] at h2;simpa using h2⟩
theorem zHA {fs:List Fac} {k:Int} (hk:0≤k) {j:Nat} :j∈fIx k (fun _=>true) fs↔zBl fs j=k:=by
 rw[zOx];constructor
 ·rintro⟨h,h1,_⟩;rw[zCE h,h1]
 ·intro h1;have h:=zIj h1 hk;exact⟨h,by rw[←zCE h,h1],rfl⟩
structure TriP (fs:List Fac) (al:Nat→Option Alt) (i u h:Nat):Prop where
 lt:i<fs.length
 al:(al i).isSome=true
 ku:zBl fs u=0
 cu:wI fs u=wI fs i
 kh:zBl fs h=2
 oh:wP fs h=wP fs u
theorem wY {fs:List Fac} {al:Nat→Option Alt} {t:Tri} :t∈zo fs al↔TriP fs al t.1 t.2.1 t.2.2:=by
 unfold zo;rw[List.mem_flatMap];constructor
 ·rintro⟨i,hi,ht⟩;unfold zRe at ht;split at ht
  ·rename_i ha;rw[List.mem_flatMap] at ht;obtain⟨u,hu,ht⟩:=ht;unfold zRd at ht;rw[List.mem_map] at ht;obtain⟨h,hh,rfl⟩:=ht;rw[zG9 (by decide)] at hu;rw[zLW (by decide)] at hh;exact⟨List.mem_range.1 hi,ha,hu.1,hu.2,hh.1,hh.2⟩
  ·cases ht
 ·intro h;obtain⟨i,u,k⟩:=t;refine⟨i,List.mem_range.2 h.lt,?_⟩;unfold zRe;rw[if_pos h.al,List.mem_flatMap];refine⟨u,(zG9 (by decide)).2 ⟨h.ku,h.cu⟩,?_⟩;unfold zRd;exact List.mem_map.2 ⟨k,(zLW (by decide)).2 ⟨h.kh,h.oh⟩,rfl⟩
def zEZ (c:Cat) (fs:List Fac) (al:Nat→Option Alt) (O:KV):Nat→List Nat→Prop
 |0,l=>∃i u h,TriP fs al i u h∧zOq c (zIX al i) (zER fs h) (zBW fs u) 5 (fun _=>true)=true∧l= [i,u,h]
 |1,l=>∃i u h own,TriP fs al i u h∧ww (wP fs u) O=some own∧zOq c (zIX al i) (zER fs h) (zBW fs u) 4 (zIY own)=true∧l= [i,u,h]
 |2,l=>∃i u h k,TriP fs al i u h∧zBl fs k=4∧wI fs k=wI fs i∧((!(zJ4 fs k==2)||zXD fs u)&&zOq c (zIX al i) (zER fs h) (zBW fs u) (zJ4 fs k) (fun _=>true))=true∧l= [i,u,h,k]
 |3,l=>∃i u h i' u' h',TriP fs al i u h∧TriP fs al i' u' h'∧(zBW fs u==0)=true∧(!(zRg fs (i,u,h) (i',u',h'))&&zao c (zIX al i) (zIX al i'))=true∧l= [i,i',u,u',h]
 |4,l=>∃i h own,zBl fs i=3∧ww (wP fs i) O=some own∧((zQb fs i).any fun s=>s==own)=false∧zBl fs h=2∧wP fs h=wP fs i∧l= [i,h]
 |_,l=>c.ls.length=0∧∃h,zBl fs h=2∧l= [h]
theorem zDU {α:Type} {b:Bool} {x y:α} :(y∈if b=true then [x] else [])↔b=true∧y=x:=by
 cases b<;>simp
theorem zQj {c:Cat} {fs:List Fac} {al:Nat→Option Alt} {O:KV} {r:Nat} {z:List Int} :z∈zEV c fs al O r↔∃l,zEZ c fs al O r l∧z=l.map fun n:Nat=>(n:Int):=by
 rcases r with _|_|_|_|_|r
 ·show z∈zEV c fs al O 0↔∃l,zEZ c fs al O 0 l∧z=l.map fun n:Nat=>(n:Int);simp only[zEV,zEZ];rw[List.mem_flatMap];constructor
  ·rintro⟨t,ht,hz⟩;rw[wY] at ht;unfold qk at hz;rw[zDU] at hz;exact⟨_,⟨t.1,t.2.1,t.2.2,ht,hz.1,rfl⟩,hz.2⟩
  ·rintro⟨l,⟨i,u,h,ht,hh,rfl⟩,rfl⟩;refine⟨(i,u,h),wY.2 ht,?_⟩;unfold qk;rw[zDU];exact⟨hh,rfl⟩
 ·show z∈zEV c fs al O 1↔∃l,zEZ c fs al O 1 l∧z=l.map fun n:Nat=>(n:Int);simp only[zEV,zEZ];rw[List.mem_flatMap];constructor
  ·rintro⟨t,ht,hz⟩;rw[wY] at ht;unfold wp at hz;split at hz
   ·cases hz
   ·rename_i own ho;rw[zDU] at hz;exact⟨_,⟨t.1,t.2.1,t.2.2,own,ht,ho,hz.1,rfl⟩,hz.2⟩
  ·rintro⟨l,⟨i,u,h,own,ht,ho,hh,rfl⟩,rfl⟩;refine⟨(i,u,h),wY.2 ht,?_⟩;unfold wp;simp only[ho];rw[zDU];exact⟨hh,rfl⟩
 ·show z∈zEV c fs al O 2↔∃l,zEZ c fs al O 2 l∧z=l.map fun n:Nat=>(n:Int);simp only[zEV,zEZ];rw[List.mem_flatMap];constructor
  ·rintro⟨t,ht,hz⟩;rw[wY] at ht;unfold zDQ at hz;rw[List.mem_flatMap] at hz;obtain⟨k,hk,hz⟩:=hz;rw[zG9 (by decide)] at hk;unfold zET at hz;rw[zDU] at hz;exact⟨_,⟨t.1,t.2.1,t.2.2,k,ht,hk.1,hk.2,hz.1,rfl⟩,hz.2⟩
  ·rintro⟨l,⟨i,u,h,k,ht,hk,hc,hh,rfl⟩,rfl⟩;refine⟨(i,u,h),wY.2 ht,?_⟩;unfold zDQ;rw[List.mem_flatMap];refine⟨k,(zG9 (by decide)).2 ⟨hk,hc⟩,?_⟩;unfold zET;rw[zDU];exact⟨hh,rfl⟩
 ·show z∈zEV c fs al O 3↔∃l,zEZ c fs al O 3 l∧z=l.map fun n:Nat=>(n:Int);simp only[zEV,zEZ];rw[List.mem_flatMap];constructor
  ·rintro⟨t,ht,hz⟩;rw[wY] at ht;unfold wR at hz;split at hz
   ·rename_i hr;rw[List.mem_flatMap] at hz;obtain⟨t',ht',hz⟩:=hz;rw[wY] at ht';unfold zAu at hz;rw[zDU] at hz;exact⟨_,⟨t.1,t.2.1,t.2.2,t'.1,t'.2.1,t'.2.2,ht,ht',hr,hz.1,rfl⟩,hz.2⟩
   ·cases hz
  ·rintro⟨l,⟨i,u,h,i',u',h',ht,ht',hr,hh,rfl⟩,rfl⟩;refine⟨(i,u,h),wY.2 ht,?_⟩;unfold wR;rw[if_pos hr,List.mem_flatMap];refine⟨(i',u',h'),wY.2 ht',?_⟩;unfold zAu;rw[zDU];exact⟨hh,rfl⟩
 ·show z∈zEV c fs al O 4↔∃l,zEZ c fs al O 4 l∧z=l.map fun n:Nat=>(n:Int);simp only[zEV,zEZ];rw[List.mem_flatMap];constructor
  ·rintro⟨i,hi,hz⟩;rw[zHA (by decide)] at hi;unfold zBx at hz;split at hz
   ·cases hz
   ·rename_i own ho;split at hz
    ·cases hz
    ·rename_i hn;rw[List.mem_flatMap] at hz;obtain⟨h,hh,hz⟩:=hz;unfold zIb at hz;rw[List.mem_singleton] at hz;have hh:=(zLW (by decide)).1 hh;exact⟨_,⟨i,h,own,hi,ho,Bool.eq_false_iff.2 hn,hh.1,hh.2,rfl⟩,hz⟩
  ·rintro⟨l,⟨i,h,own,hi,ho,hn,hh,hoh,rfl⟩,rfl⟩;refine⟨i,(zHA (by decide)).2 hi,?_⟩;unfold zBx;simp only[ho];rw[if_neg (by rw[hn];decide),List.mem_flatMap];refine⟨h,(zLW (by decide)).2 ⟨hh,hoh⟩,?_⟩;unfold zIb;exact List.mem_singleton.2 rfl
 ·show z∈zF0 c fs↔∃l,(c.ls.length=0∧∃h,zBl fs h=2∧l= [h])∧z=l.map fun n:Nat=>(n:Int);unfold zF0;constructor
  ·intro hz;split at hz
   ·cases hz
   ·rename_i hn;rw[List.mem_flatMap] at hz;obtain⟨h,hh,hz⟩:=hz;rw[zHA (by decide)] at hh;unfold zNJ at hz;rw[List.mem_singleton] at hz;exact⟨_,⟨by have:¬(c.ls.length:Int)>0:=fun q=>hn (decide_eq_true q);omega,h,hh,rfl⟩,hz⟩
  ·rintro⟨l,⟨hn,h,hh,rfl⟩,rfl⟩;rw[if_neg (fun q=>by have:=of_decide_eq_true q;omega),List.mem_flatMap];refine⟨h,(zHA (by decide)).2 hh,?_⟩;unfold zNJ;exact List.mem_singleton.2 rfl
structure Emb (fs gs:List Fac) (f:Nat→Nat):Prop where
 get:∀j,j<gs.length→gs[j]? =fs[f j]?
 mono:∀i j,i<j→j<gs.length→f i<f j
section
variable {c:Cat} {fs gs:List Fac} {f:Nat→Nat} {al al':Nat→Option Alt} {O O':KV} (E:Emb fs gs f)
include E
end
section
variable {fs:List Fac} {I:List Nat}
def zbA (y:Cho) (outs:List (List UInt8)) (o:List UInt8):Option (List UInt8):=
 if o∈outs∧zDs y (outs.findIdx fun z=>z==o)≠[] then some (zDs y (outs.findIdx fun z=>z==o)) else none
theorem zQk {y:Cho} :∀k,k≤fs.length→∀o,ww o (zT y fs k).O=zbA y (zT y fs k).outs o
 |0,_,o=>by simp[zT,zbA,ww]
 |k+1,hk,o=>by
  have ih:=zQk (y:=y) k (by omega);have hlt:k<fs.length:=by omega
  rw[zBX hlt];split
  ·split<;>exact ih o
  split
  ·split
   ·exact ih o
   ·rename_i hn;have hn:fs[k].out∉(zT y fs k).outs:=fun hm=>hn (List.any_eq_true.2 ⟨_,hm,by simp⟩);generalize(zT y fs k).outs=outs at *
    generalize(zT y fs k).O=O at *
    generalize fs[k].out=s at *
    show ww o (if(!(zDs y outs.length== []))=true then zEI s (zDs y outs.length) O else O)=zbA y (outs++ [s]) o
    have hs:(outs++ [s]).findIdx (fun z=>z==s)=outs.length:=by
     rw[List.findIdx_append]
     have:outs.findIdx (fun z=>z==s)=outs.length:=List.findIdx_eq_length.2 fun z hz=>by
      have:z≠s:=fun e=>hn (e▸hz);simpa using this
     rw[if_neg (by omega)];simp[List.findIdx_cons]
    have ho:o∈outs→(outs++ [s]).findIdx (fun z=>z==o)=outs.findIdx (fun z=>z==o):=fun hm=>by
     rw[List.findIdx_append];rw[if_pos (List.findIdx_lt_length.2 ⟨o,hm,by simp⟩)]
    have hkey:∀v,ww o (zEI s v O)=if o=s then some v else ww o O:=fun v=>by
     rw[zMb];by_cases e:o=s
     ·rw[if_pos e,if_pos (by simpa using e)]
     ·rw[if_neg e,if_neg (by simpa using e)]
    by_cases e:o=s
    ·subst e;unfold zbA;rw[hs];by_cases q:zDs y outs.length= []
     ·rw[if_neg (by simp[q]),if_neg (by simp[q]),ih o,zbA,if_neg (by simp[hn])]
     ·rw[if_pos (by simpa using q),hkey,if_pos rfl,if_pos ⟨by simp,q⟩]
    ·have h1:ww o (if(!(zDs y outs.length== []))=true then zEI s (zDs y outs.length) O else O)=ww o O:=by
      split
      ·rw[hkey,if_neg e]
      ·rfl
     rw[h1,ih o];unfold zbA;by_cases hm:o∈outs
     ·rw[ho hm];simp[hm]
     ·rw[if_neg (by simp[hm]),if_neg (by simp[hm,e])]
  ·exact ih o
end
section
variable {c:Cat} {fs:List Fac} {y:Cho} {I:List Nat}
end
section
variable {c:Cat} {fs:List Fac} {y:Cho} {I:List Nat}
theorem zXN {v:Vio} :v∈zCq c fs y↔∃i:Nat,i<6∧v.row=(i:Int)∧∃l,zEZ c fs (alS fs y) (zT y fs fs.length).O i l∧zEU (l.map fun n:Nat=>(n:Int))=v.facts:=by
 rw[zU5];constructor
 ·rintro⟨i,h1,h2,z,hz,e⟩;obtain⟨l,hl,rfl⟩:=zQj.1 hz;exact⟨i,h1,h2,l,hl,e⟩
 ·rintro⟨i,h1,h2,l,hl,e⟩;exact⟨i,h1,h2,_,zQj.2 ⟨l,hl,rfl⟩,e⟩
end
section
variable {h0 h h':Heap} {L L':List (Nat×List (List D) ×D)}
end
section
variable {α:Type} {a b c d:α}
end
section
variable {fs:List Fac} {y:Cho} {K:Nat→Bool} {i:Nat}
end
open Go.Proofs
theorem zU6 {c:Cat} {fs:List Fac} (h:(wn c fs==0)=true) (hm:((zLP c fs:Int)==0)=false) (n:Nat):zCk c fs ((n%zLP c fs:Nat):Int)=0:=by
 have hp:0<zLP c fs:=by
  have:(zLP c fs:Int)≠0:=by simpa using hm
  omega
 have hlt:=Nat.mod_lt n hp;unfold zCk;rw[h];simp only[Bool.not_true,Bool.false_eq_true,if_false];rw[if_neg];simp only[Bool.or_eq_true,decide_eq_true_eq,not_or];omega
theorem zbB {n m:Nat} (hm:((m:Int)==0)=false):wr .rem .i64 .i64 (n:Int) (m:Int)=some (.int .i64 ((n%m:Nat):Int)):=by
 have b0:¬(m:Int)=0:=by simpa using hm
 have b1:(n:Int).tmod (m:Int)=((n%m:Nat):Int):=by rw[Int.tmod_eq_emod_of_nonneg (by omega)];rfl
 simp only[wr,zLd,if_true];rw[if_neg b0,b1]
theorem zLX {sz:Nat} {xs:List (List D)} :zX sz xs (nd sz xs):=by
 cases xs with
 |nil=>exact .inl ⟨rfl,rfl⟩
 |cons x xs=>exact zX.mk .no
theorem zbC {c:Cat} {fs:List Fac} {k:Int} (hl:fs.length≤65536) (hk:zCk c fs k=0):(zG8 c fs k.toNat).Sm:=by
 obtain⟨vl1,vl2⟩:=zDh (c:=c) (l:=fs);have hT:(zG8 c fs k.toNat).ts.length=(zI c fs).1.length:=by simp[zG8,zW3,ym]
 have hO:(zG8 c fs k.toNat).own.length=(zI c fs).2.1.length:=by simp[zG8,zW4,zAl]
 refine⟨by omega,by omega,fun a ha=> ?_⟩;obtain⟨t,ht,rfl⟩:=List.mem_map.1 ha;refine⟨zX.mk .no,?_⟩;show t.length≤1048576;unfold zW3 ym at ht;obtain⟨i,hi,rfl⟩:=List.mem_map.1 ht;have hi:=List.mem_range.1 hi;rw[List.getD_eq_getElem?_getD (l:=(zI c fs).1),List.getElem?_eq_getElem hi,Option.getD_some];have hv:=(zBV (c:=c) (l:=fs) _ (List.getElem_mem hi)).2;rw[List.getD_eq_getElem?_getD];cases hg:((zI c fs).1[i])[(zEY (zDp c (zI c fs).1 (zI c fs).2.1) k.toNat).1.getD i 0]? with
 |none=>simp
 |some z=>
  have:=(hv.ts z (List.mem_of_getElem? hg)).2;simp only[Option.getD_some];omega
theorem zbD {c:Cat} {fs:List Fac} {d x td od:D} (hc:qX c d) (hs:c.Sm) (hx:zX 12 (zIH fs) x) (hF:zgZ fs) (hok:∀f∈fs,f.Ok) {k:Int} (hk:zCk c fs k=0) (h1:zX 1 (yJ ((zW3 c fs k.toNat).map mkA)) td) (h2:zX 1 (yP (zW4 c fs k.toNat)) od):CIn c fs (zG8 c fs k.toNat) d x (.agg [td,od]):=
 ⟨hc,hs,hx,by have:=hF.1.2;omega,hF.1.1,hok,⟨td,od,rfl,h1,h2⟩,zbC (by have:=hF.1.2;omega) hk⟩
def zbE:Alt:=⟨[], .nilsl⟩
structure Gap (T:List Alt) (O:List (List UInt8)) (y:Cho):Prop where
 tl:T.length=y.ts.length
 ol:O.length=y.own.length
 ts:∀ (i:Nat) a,T[i]? =some a→a=zbE∨y.ts[i]? =some a
 own:∀ (i:Nat) s,O[i]? =some s→s= []∨y.own[i]? =some s
section
variable {c:Cat} {fs:List Fac} {y:Cho} {T:List Alt} {O:List (List UInt8)}
theorem Gap.start:Gap y.ts y.own y:=⟨rfl,rfl,fun _ _ h=> .inr h,fun _ _ h=> .inr h⟩
theorem Gap.setT (S:Gap T O y) (k:Nat):Gap (T.set k zbE) O y where
 tl:=by rw[List.length_set];exact S.tl
 ol:=S.ol
 ts:=fun i a h=>by
  rw[List.getElem?_set] at h;split at h
  ·split at h
   ·cases h;exact .inl rfl
   ·cases h
  ·exact S.ts i a h
 own:=S.own
theorem Gap.setO (S:Gap T O y) (k:Nat):Gap T (O.set k []) y where
 tl:=S.tl
 ol:=by rw[List.length_set];exact S.ol
 ts:=S.ts
 own:=fun i a h=>by
  rw[List.getElem?_set] at h;split at h
  ·split at h
   ·cases h;exact .inl rfl
   ·cases h
  ·exact S.own i a h
theorem Gap.sm (S:Gap T O y) (h:y.Sm):Cho.Sm ⟨T,O⟩ where
 tl:=by show T.length≤_;rw[S.tl];exact h.tl
 ol:=by show O.length≤_;rw[S.ol];exact h.ol
 ts:=fun a ha=>by
  obtain⟨i,hi⟩:=List.mem_iff_getElem?.1 ha;rcases S.ts i a hi with rfl|q
  ·exact⟨zX.nil,Nat.zero_le _⟩
  ·exact h.ts a (List.mem_of_getElem? q)
theorem Gap.err (S:Gap T O y) (h:zl c fs y true=0):zl c fs ⟨T,O⟩ true=0:=by
 have hT:(Cho.mk T O).ts=T:=rfl;have hO:(Cho.mk T O).own=O:=rfl;unfold zl at h⊢;rw[hT,hO,S.tl,S.ol];split at h
 ·rename_i q;rw[h] at q;exact absurd q (by decide)
 ·rename_i q1;rw[if_neg q1];split at h
  ·exact absurd h (by decide)
  ·rename_i q2;rw[if_neg q2];split at h
   ·rename_i q;rw[h] at q;exact absurd q (by decide)
   ·rename_i q3;have t0:zDn (zBu (zI c fs).1 y.ts true) y.ts.length=0:=by simpa using q3
    have t1:zDn (zBu (zI c fs).1 T true) y.ts.length=0:=yr fun i hi=>by
     have:=zBj t0 i hi;have hi':i<T.length:=by rw[S.tl];exact hi
     unfold zBu at this⊢;rw[List.getElem?_eq_getElem hi'];rcases S.ts i _ (List.getElem?_eq_getElem hi') with e|e
     ·rw[e];rfl
     ·rw[e] at this;exact this
    rw[t1];simp only[beq_self_eq_true,Bool.not_true,Bool.false_eq_true,if_false];refine yr fun i hi=> ?_;have:=zBj h i hi;have hi':i<O.length:=by rw[S.ol];exact hi
    unfold zRx at this⊢;rw[List.getElem?_eq_getElem hi'];rcases S.own i _ (List.getElem?_eq_getElem hi') with e|e
    ·rw[e];rfl
    ·rw[e] at this;exact this
theorem Gap.al (S:Gap T O y) {i:Nat} {a:Alt} (h:alS fs ⟨T,O⟩ i=some a):alS fs y i=some a:=by
 unfold alS at h⊢;cases hf:fs[i]? with
 |none=>rw[hf] at h;cases h
 |some f=>
  rw[hf] at h;simp only at h⊢;split at h
  ·rename_i hk;rw[if_pos hk];split at h
   ·rename_i hl;have hlp:=of_decide_eq_true hl;have e:zCp y (zD9 fs i)=zCp ⟨T,O⟩ (zD9 fs i):=by
     unfold zCp;show y.ts.getD _ _=T.getD _ _;rw[List.getD_eq_getElem?_getD,List.getD_eq_getElem?_getD];cases ht:T[zD9 fs i]? with
     |none=>
      have:zCp ⟨T,O⟩ (zD9 fs i)=mkA []:=by unfold zCp;show T.getD _ _=_;rw[List.getD_eq_getElem?_getD,ht];rfl
      rw[this] at hlp;simp[mkA] at hlp
     |some b=>
      have:zCp ⟨T,O⟩ (zD9 fs i)=b:=by unfold zCp;show T.getD _ _=_;rw[List.getD_eq_getElem?_getD,ht];rfl
      rw[this] at hlp;rcases S.ts _ b ht with rfl|q
      ·simp[zbE] at hlp
      ·rw[q]
    rw[e,if_pos hl];exact h
   ·cases h
  ·cases h
theorem Gap.get (S:Gap T O y) {o w:List UInt8} (h:ww o (zT ⟨T,O⟩ fs fs.length).O=some w):ww o (zT y fs fs.length).O=some w:=by
 rw[zQk _ (Nat.le_refl _),zEW _ (Nat.le_refl _)] at h⊢;unfold zbA at h⊢;generalize zBY (fs.take fs.length) []=outs at *
 split at h
 ·rename_i q;cases h;have e:zDs y (outs.findIdx fun z=>z==o)=zDs ⟨T,O⟩ (outs.findIdx fun z=>z==o):=by
   have q2:=q.2;unfold zDs at q2⊢;have q2:O.getD (outs.findIdx fun z=>z==o) []≠[]:=q2;show y.own.getD _ _=O.getD _ _;rw[List.getD_eq_getElem?_getD] at q2⊢;rw[List.getD_eq_getElem?_getD];cases ho:O[outs.findIdx fun z=>z==o]? with
   |none=>rw[ho] at q2;exact absurd rfl q2
   |some s=>
    rw[ho] at q2;rcases S.own _ s ho with rfl|p
    ·exact absurd rfl q2
    ·rw[p]
  rw[e,if_pos q]
 ·cases h
end
theorem TriP.more {fs:List Fac} {al al':Nat→Option Alt} (ha:∀i a,al' i=some a→al i=some a) {i u h:Nat} (T:TriP fs al' i u h):TriP fs al i u h∧zIX al' i=zIX al i:=by
 obtain⟨a,e⟩:=Option.isSome_iff_exists.1 T.al;have e2:=ha i a e;refine⟨⟨T.lt,by rw[e2];rfl,T.ku,T.cu,T.kh,T.oh⟩,?_⟩;unfold zIX;rw[e,e2]
theorem zEZ.more {c:Cat} {fs:List Fac} {al al':Nat→Option Alt} {O O':KV} (ha:∀i a,al' i=some a→al i=some a) (hO:∀o w,ww o O'=some w→ww o O=some w) {r:Nat} {l:List Nat} (hr:zEZ c fs al' O' r l):zEZ c fs al O r l:=by
 rcases r with _|_|_|_|_|r
 ·have hr:zEZ c fs al' O' 0 l:=hr;show zEZ c fs al O 0 l;simp only[zEZ] at hr⊢;obtain⟨i,u,h,T,hs,e⟩:=hr;obtain⟨T2,e2⟩:=T.more ha;exact⟨i,u,h,T2,by rw[←e2];exact hs,e⟩
 ·have hr:zEZ c fs al' O' 1 l:=hr;show zEZ c fs al O 1 l;simp only[zEZ] at hr⊢;obtain⟨i,u,h,own,T,ho,hs,e⟩:=hr;obtain⟨T2,e2⟩:=T.more ha;exact⟨i,u,h,own,T2,hO _ _ ho,by rw[←e2];exact hs,e⟩
 ·have hr:zEZ c fs al' O' 2 l:=hr;show zEZ c fs al O 2 l;simp only[zEZ] at hr⊢;obtain⟨i,u,h,k,T,hk,hc,hs,e⟩:=hr;obtain⟨T2,e2⟩:=T.more ha;exact⟨i,u,h,k,T2,hk,hc,by rw[←e2];exact hs,e⟩
 ·have hr:zEZ c fs al' O' 3 l:=hr;show zEZ c fs al O 3 l;simp only[zEZ] at hr⊢;obtain⟨i,u,h,i',u',h',T,T',hrel,hs,e⟩:=hr;obtain⟨T2,e2⟩:=T.more ha;obtain⟨T3,e3⟩:=T'.more ha;exact⟨i,u,h,i',u',h',T2,T3,hrel,by rw[←e2,←e3];exact hs,e⟩
 ·have hr:zEZ c fs al' O' 4 l:=hr;show zEZ c fs al O 4 l;simp only[zEZ] at hr⊢;obtain⟨i,h,own,hi,ho,hrest⟩:=hr;exact⟨i,h,own,hi,hO _ _ ho,hrest⟩
 ·exact hr
theorem Gap.vios {c:Cat} {fs:List Fac} {y:Cho} {T:List Alt} {O:List (List UInt8)} (S:Gap T O y) {v:Vio} (hv:v∈zCq c fs ⟨T,O⟩):v∈zCq c fs y:=by
 rw[zXN] at hv⊢;obtain⟨i,h1,h2,l,h3,h4⟩:=hv;exact⟨i,h1,h2,l,h3.more (fun i a=>S.al) (fun o w=>S.get),h4⟩
end Go.V
