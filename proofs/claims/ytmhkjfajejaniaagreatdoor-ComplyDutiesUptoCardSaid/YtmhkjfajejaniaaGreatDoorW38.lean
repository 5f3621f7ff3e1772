/- Contracts of functions that the law reaches, part 1. No condition. -/
import Derived.Test.YtmhkjfajejaniaaGreatDoorW37
import Derived.Test.YtmhkjfajejaniaaGreatDoorW30
import Derived.Test.YtmhkjfajejaniaaGreatDoorW35
set_option linter.all false
namespace Go.V
open Go.Proofs
set_option maxRecDepth 100000
def zAu:List Fac→List (List UInt8)→List (List UInt8)
 | [],o=>o
 |f::fs,o=>if(f.kind==1)=true then zAu fs o else if(f.kind==2)=true then zAu fs (if(o.any fun z=>z==f.out)=true then o else o++ [f.out]) else zAu fs o
theorem zBp:∀ (l:List Fac) (f:Fac) (o:List (List UInt8)),zAu (l++ [f]) o=zAu [f] (zAu l o)
 | [],f,o=>rfl
 |g::l,f,o=>by
  by_cases h1:(g.kind==1)=true
  ·have e:∀m,zAu (g::m) o=zAu m o:=fun m=>by rw[zAu,if_pos h1]
   rw[List.cons_append,e,e,zBp l f]
  ·by_cases h2:(g.kind==2)=true
   ·have e:∀m,zAu (g::m) o=zAu m (if(o.any fun z=>z==g.out)=true then o else o++ [g.out]):=fun m=>by rw[zAu,if_neg h1,if_pos h2]
    rw[List.cons_append,e,e,zBp l f]
   ·have e:∀m,zAu (g::m) o=zAu m o:=fun m=>by rw[zAu,if_neg h1,if_neg h2]
    rw[List.cons_append,e,e,zBp l f]
theorem zIb {y:Cho} {fs:List Fac} :∀k,k≤fs.length→(zW y fs k).outs=zAu (fs.take k) []
 |0,_=>rfl
 |k+1,h=>by
  have hlt:k<fs.length:=by omega
  have ih:=zIb (y:=y) (fs:=fs) k (by omega);rw[List.take_succ_eq_append_getElem hlt,zBp,←ih,zCq hlt];simp only[zAu];split
  ·split<;>rfl
  ·split
   ·split<;>rfl
   ·rfl
theorem zDY {c:Cat} :∀ {l:List Fac} {t:List (List (List Trm))} {o:List (List UInt8)},(zEB c l t o).2.2=0→(zEB c l t o).1.length=t.length+(l.filter fun f=>f.kind==1).length∧(zEB c l t o).2.1=zAu l o
 | [],t,o,_=>⟨rfl,rfl⟩
 |f::fs,t,o,h=>by
  rw[zEB] at h⊢;by_cases h1:(f.kind==1)=true
  ·rw[if_pos h1] at h⊢;by_cases h2:(zCB c f.e==0)=true
   ·rw[if_pos h2] at h⊢;obtain⟨a1,a2⟩:=zDY h;refine⟨?_,by rw[a2,zAu,if_pos h1]⟩;rw[a1,List.filter_cons_of_pos (by exact h1)];simp only[List.length_append,List.length_cons,List.length_nil];omega
   ·rw[if_neg h2] at h;exact absurd h (by simpa using h2)
  ·rw[if_neg h1] at h⊢;by_cases h2:(f.kind==2)=true
   ·rw[if_pos h2] at h⊢;obtain⟨a1,a2⟩:=zDY h;exact⟨by rw[a1,List.filter_cons_of_neg (by exact h1)],by rw[a2,zAu,if_neg h1,if_pos h2]⟩
   ·rw[if_neg h2] at h⊢;obtain⟨a1,a2⟩:=zDY h;exact⟨by rw[a1,List.filter_cons_of_neg (by exact h1)],by rw[a2,zAu,if_neg h1,if_neg h2]⟩
theorem zOz {c:Cat} {l:List Fac} (h:(yq c l).2=0):l.length≤256:=by
 unfold yq at h;split at h
 ·exact absurd h (by decide)
 ·split at h
  ·exact absurd h (by decide)
  ·rename_i q
   have:¬((l.length:Int)>256):=by simpa using q
   omega
structure ChoiceOk (c:Cat) (fs:List Fac) (y:Cho):Prop where
 case:(yq c fs).2=0
 lic:zCE fs fs.length=y.ts.length
 outs:(zW y fs fs.length).outs.length=y.own.length
 okk:∀a∈y.ts,a.ts≠[]→a.Ok∧a.ts.length≤64
theorem zIc {c:Cat} {fs:List Fac} {y:Cho} {p:Bool} (h:zi c fs y p=0) (ysm:y.Sm):ChoiceOk c fs y:=by
 unfold zi at h;split at h
 ·rename_i q;rw[h] at q;exact absurd q (by decide)
 ·rename_i q1;have v0:(zH c fs).2.2=0:=by simpa using q1
  split at h
  ·exact absurd h (by decide)
  ·rename_i q2;split at h
   ·rename_i q;rw[h] at q;exact absurd q (by decide)
   ·rename_i q3;have t0:zDH (zA9 (zH c fs).1 y.ts p) y.ts.length=0:=by simpa using q3
    have hv:=zBe (c:=c) (l:=fs);unfold zH at v0 q2 t0 hv;by_cases qc:(!((yq c fs).2==0))=true
    ·rw[if_pos qc] at v0;rw[v0] at qc;exact absurd qc (by decide)
    ·rw[if_neg qc] at v0 q2 t0 hv;obtain⟨a1,a2⟩:=zDY v0;have hl:(zEB c fs [] []).1.length=y.ts.length∧(zEB c fs [] []).2.1.length=y.own.length:=by
      simp only[Bool.or_eq_true,Bool.not_eq_true',beq_eq_false_iff_ne,ne_eq,not_or,Decidable.not_not] at q2;omega
     refine⟨by simpa using qc,?_,?_,fun a ha hne=> ?_⟩
     ·rw[←hl.1,a1];simp[zCE]
     ·rw[zIb _ (Nat.le_refl _),List.take_length,←a2];exact hl.2
     ·obtain⟨i,hi,rfl⟩:=List.mem_iff_getElem.1 ha;have:=zCk t0 i hi;unfold zA9 at this;rw[List.getElem?_eq_getElem hi] at this;simp only at this;have hn:(((y.ts[i].ts.length:Int))==0)=false:=by
       have:=List.length_pos_iff.2 hne;simp;omega
      rw[hn,Bool.and_false,if_neg (by decide)] at this;split at this
      ·exact absurd this (by decide)
      ·rename_i q;have hany:((zEB c fs [] []).1.getD i []).any (fun b=>zLj y.ts[i].ts b)=true:=by simpa using q
       obtain⟨b,hb,he⟩:=List.any_eq_true.1 hany;have e:=(zCl _ _).1 he;have key:y.ts[i].ts.length≤64→y.ts[i].Ok∧y.ts[i].ts.length≤64:=fun q=>⟨⟨(ysm.ts _ ha).sl,hne,by omega⟩,q⟩;refine key ?_;rw[e];rw[List.getD_eq_getElem?_getD] at hb;cases hq:(zEB c fs [] []).1[i]? with
       |none=>rw[hq] at hb;cases hb
       |some z=>
        rw[hq] at hb;have:=((hv z (List.mem_of_getElem? hq)).2.ts b hb).2;omega
structure CIn (c:Cat) (fs:List Fac) (y:Cho) (d x yd:D):Prop where
 cat:qW c d
 sm:c.Sm
 x:zf 12 (zFC fs) x
 len:fs.length≤1048576
 few:fs.length≤16∨256<fs.length
 ok:∀f∈fs,f.Ok
 cho:zbD y yd
 ysm:y.Sm
section
variable {c:Cat} {fs:List Fac} {y:Cho} {d x yd:D} (I:CIn c fs y d x yd)
include I
theorem CIn.check (p:Bool) (g:Heap):zA Tryz.prog 39 [d,x,yd, .bool p] g fun r h'=>h'=g∧r= .int .i64 (zi c fs y p):=zLK I.cat I.sm I.x I.len I.ok I.cho I.ysm p g
theorem CIn.n16 {p:Bool} (h:zi c fs y p=0):fs.length≤16:=by
 have:=zOz (zIc h I.ysm).case;rcases I.few with q|q
 ·exact q
 ·omega
end
theorem zO0 {c:Cat} {l:List Fac} (h:(yq c l).2=0):wb c=0:=by
 unfold yq at h;by_cases h1:(!(wb c==0))=true
 ·rw[if_pos h1] at h;exact absurd h (by decide)
 ·simpa using h1
theorem wD.app3 {P:Program} {h:Heap} {sz:Nat} {xs ys:List (List D)} {d x:D} {t e:TypeId} {K:D→Heap→Prop} (ho:wD h sz xs d) (he:qC P t=some e) (hz:zGk P e=true) (hs:szT P e=sz) (h0:0<sz) (hys:∀y∈ys,y.length=sz) (hx:(x= .nilsl∧ys= [])∨(ys≠[]∧∃tk,x= .sl sz ys tk))
  (hb:(xs.length+ys.length)*yL P e≤lim) (hl:xs.length+ys.length≤lim) (hK:∀d' h',wD h' sz (xs++ys) d'→h.next≤h'.next→(∀i,i<h.next→¬wo d i→h'.at' i=h.at' i)→(∀i,wo d' i→h.next≤i)→d'.cells= [d']→d'.flat=true→K d' h'):onR (z8 P false h.next t d x h) K:=by
 rcases hx with⟨rfl,rfl⟩ | ⟨hy0,tk,rfl⟩
 ·simp only[List.append_nil,List.length_nil,Nat.add_zero] at hK hb hl;simp only[z8,he,hz,hs,zSJ,if_true,List.length_nil,Nat.zero_div];rcases ho with⟨rfl,rfl⟩ | ⟨q,rfl,h1,h2⟩
  ·simp only[qO,if_true,zGu];exact hK _ _ (.inl ⟨rfl,rfl⟩) (Nat.le_refl _) (fun i hi _=>rfl) (fun i hi=>hi.elim) rfl rfl
  ·simp only[qO];rw[if_pos (by simp only[Nat.add_zero,Bool.and_eq_true,decide_eq_true_eq];exact⟨⟨trivial,hb⟩,hl⟩)];simp only[h1,Bool.false_eq_true,if_false,zGu];have hc:yD sz 0 []= []:=rfl;rw[hc,List.append_nil];refine hK _ _ (.inr ⟨h.next,rfl,zJ _ _ _,?_⟩) ?_ (fun i hi hn=> ?_) (fun i hi=> ?_) rfl rfl
   ·exact Nat.lt_of_lt_of_le (Nat.lt_succ_self _) (Nat.le_max_right _ _)
   ·exact qY (h.del q) _ _
   ·rw[zF (by omega),yV fun e=>hn (by rw[e];rfl)]
   ·simp only[wo] at hi;omega
 ·exact ho.app2 he hz hs h0 hys hy0 hb hl hK
theorem wD.app4 {P:Program} {h:Heap} {sz:Nat} {xs ys:List (List D)} {d x:D} {t e:TypeId} (ho:wD h sz xs d) (he:qC P t=some e) (hz:zGk P e=true) (hs:szT P e=sz) (h0:0<sz) (hys:∀y∈ys,y.length=sz) (hx:(x= .nilsl∧ys= [])∨(ys≠[]∧∃tk,x= .sl sz ys tk))
  (hb:(xs.length+ys.length)*yL P e≤lim) (hl:xs.length+ys.length≤lim):∃d' h',z8 P false h.next t d x h=some (d',h')∧wD h' sz (xs++ys) d'∧h.next≤h'.next∧(∀i,i<h.next→¬wo d i→h'.at' i=h.at' i)∧(∀i,wo d' i→h.next≤i)∧d'.cells= [d']∧d'.flat=true:=by
 have:=ho.app3 (K:=fun d' h'=>wD h' sz (xs++ys) d'∧h.next≤h'.next∧(∀i,i<h.next→¬wo d i→h'.at' i=h.at' i)∧(∀i,wo d' i→h.next≤i)∧d'.cells= [d']∧d'.flat=true) he hz hs h0 hys hx hb hl fun d' h' a b c e f g=>⟨a,b,c,e,f,g⟩;unfold onR at this;split at this
 ·rename_i d' h' hv;exact⟨d',h',hv,this⟩
 ·exact this.elim
def ofS (l:List Due):Nat→List Due
 |0=>[]
 |k+1=>match l[k]? with
  |none=>ofS l k
  |some x=>if((ofS l k).any fun z=>x==z)=true then ofS l k else ofS l k++ [x]
theorem zLT {l:List Due} {k:Nat} {x:Due} (h:l[k]? =some x):ofS l (k+1)=if((ofS l k).any fun z=>x==z)=true then ofS l k else ofS l k++ [x]:=by
 show(match l[k]? with
  |none=>ofS l k
  |some x=>if((ofS l k).any fun z=>x==z)=true then ofS l k else ofS l k++ [x])=_
 rw[h]
theorem zO1 (l:List Due):∀k,(ofS l k).length≤k
 |0=>Nat.le_refl _
 |k+1=>by
  have ih:=zO1 l k;cases h:l[k]? with
  |none=>
   have e:ofS l (k+1)=ofS l k:=by
    show(match l[k]? with
     |none=>ofS l k
     |some x=>if((ofS l k).any fun z=>x==z)=true then ofS l k else ofS l k++ [x])=_
    rw[h]
   rw[e];omega
  |some x=>
   rw[zLT h];split
   ·omega
   ·rw[List.length_append,List.length_singleton];omega
theorem zVG {l:List Due} {x:Due} :∀k,k≤l.length→(x∈ofS l k↔∃j,j<k∧l[j]? =some x)
 |0,_=>by simp[ofS]
 |k+1,hk=>by
  have ih:=zVG (l:=l) (x:=x) k (by omega);have h:l[k]? =some l[k]:=List.getElem?_eq_getElem (by omega);have key:x∈ofS l (k+1)↔x∈ofS l k∨x=l[k]:=by
   rw[zLT h];split
   ·rename_i q;obtain⟨z,hz,e⟩:=List.any_eq_true.1 q;have e:l[k]=z:=by simpa using e
    constructor
    ·exact .inl
    ·rintro(q|rfl)
     ·exact q
     ·rw[e];exact hz
   ·rw[List.mem_append,List.mem_singleton]
  rw[key,ih];constructor
  ·rintro(⟨j,h1,h2⟩ |rfl)
   ·exact⟨j,by omega,h2⟩
   ·exact⟨k,by omega,h⟩
  ·rintro⟨j,h1,h2⟩;rcases Nat.lt_succ_iff_lt_or_eq.1 h1 with q|rfl
   ·exact .inl ⟨j,q,h2⟩
   ·rw[h] at h2;exact .inr (Option.some.inj h2).symm
theorem zO2 {l:List Due} {x:Due} :x∈ofS l l.length↔x∈l:=by
 rw[zVG _ (Nat.le_refl _),List.mem_iff_getElem?];constructor
 ·rintro⟨j,_,h⟩;exact⟨j,h⟩
 ·rintro⟨j,h⟩;exact⟨j,(List.getElem?_eq_some_iff.1 h).1,h⟩
def mpS (l:List Due):KM Due:=l.map fun x=>(x,D.bool true)
def zYy (x:Due):D:= .agg (zCy x)
theorem zVH (x:Due):∀l:List Due,zCw x (mpS l)=if(l.any fun z=>x==z)=true then some (.bool true) else none
 | []=>rfl
 |z::l=>by
  have ih:=zVH x l;show(if(x==z)=true then some (D.bool true) else zCw x (mpS l))=_
  rw[ih,List.any_cons];cases h:(x==z)<;>simp
theorem zVI (x:Due):∀l:List Due,(l.any fun z=>x==z)=false→zDs x (.bool true) (mpS l)=mpS (l++ [x])
 | [],_=>rfl
 |z::l,h=>by
  rw[List.any_cons,Bool.or_eq_false_iff] at h;have ih:=zVI x l h.2;show(if(x==z)=true then(x,D.bool true)::mpS l else(z,D.bool true)::zDs x (.bool true) (mpS l))=_
  rw[h.1,ih];rfl
theorem zfz:KEnc zYy true [.s, .s, .s, .s, .i, .i, .i] where
 eq a b:=by
  obtain⟨a1,a2,a3,a4,a5,a6,a7⟩:=a;obtain⟨b1,b2,b3,b4,b5,b6,b7⟩:=b;show eqK _ (zCy _) (zCy _)=_;simp only[zCy,eqK,if_true,Option.map_some,Option.some.injEq,Bool.and_true];rfl
 shape _:=rfl
theorem lkD {l:List Due} {m:Nat} {h:Heap} (hi:h.at' m=some (.map (kmD zYy (mpS l)))) (x:Due):yQ Tryz.prog 112 (.map m) (.agg (zCy x)) false h=some (.bool (l.any fun z=>x==z)):=by
 have:=zJx zfz hi zPY zS3 zZN x (by simp) false;rw[zVH] at this;refine Eq.trans this ?_;cases(l.any fun z=>x==z)<;>rfl
theorem upD {l:List Due} {m:Nat} {h:Heap} (hi:h.at' m=some (.map (kmD zYy (mpS l)))) {x:Due} (hx:(l.any fun z=>x==z)=false):yJ Tryz.prog 112 (.map m) (.agg (zCy x)) (.bool true) h=some (h.set m (.map (kmD zYy (mpS (l++ [x]))))):=by
 have:=zFM zfz hi zPY zS3 x (.bool true);rw[zVI x l hx] at this;exact this
theorem zNP {c:Cat} {fs:List Fac} {y:Cho} {m:Nat} (h16:fs.length≤16) (hts:∀a∈y.ts,a.ts.length≤m) (hcs:c.cs.length≤128):(wR c fs y).length≤m*524288:=by
 have hfm:∀ {α β:Type} {l:List α} {f:α→List β} {m n k:Nat},l.length≤n→(∀x∈l,(f x).length≤m)→n*m≤k→(l.flatMap f).length≤k:=fun h1 h2 h3=>Nat.le_trans (qI h2) (Nat.le_trans (Nat.mul_le_mul_right _ h1) h3);have hD:∀comp p t,∀n∈zDX c p t,(zG7 comp p t n).length≤1:=fun comp p t n _=>by unfold zG7;split<;>simp
 have hS:∀p t,(zDX c p t).length≤128:=fun p t=>by
  unfold zDX;rw[List.length_map]
  have:(wV c t.a t.b p.2 p.1.rel).length≤c.cs.length:=by
   unfold wV;split
   ·simp
   ·exact List.length_filter_le _ _
  omega
 have hTt:∀comp p t,(zR0 c comp p t).length≤128:=fun comp p t=>hfm (hS p t) (hD comp p t) (by decide);have hP:∀comp ts p,ts.length≤m→(zOy c comp ts p).length≤m*128:=fun comp ts p h=>hfm h (fun t _=>hTt comp p t) (Nat.le_refl _);have hps:∀u:Fac,∀s∈fs,(zBA u s).length≤1:=fun u s _=>by unfold zBA;split<;>simp
 have hpu:∀comp,∀u∈fs,(zAg fs comp u).length≤16:=fun comp u _=>by
  unfold zAg;split
  ·exact hfm h16 (hps u) (by decide)
  ·simp
 have hpl:∀comp,(qr fs comp).length≤256:=fun comp=>hfm h16 (hpu comp) (by decide);have ha:∀k,(zCx y k).ts.length≤m:=fun k=>by
  unfold zCx;rw[List.getD_eq_getElem?_getD];cases h:y.ts[k]? with
  |none=>simp[mkA]
  |some a=>exact hts a (List.mem_of_getElem? h)
 have hF:∀i∈List.range fs.length,(zQp c fs y i).length≤256*(m*128):=fun i _=>by
  unfold zQp;split
  ·simp
  ·split
   ·exact hfm (hpl _) (fun p _=>hP _ _ p (ha _)) (Nat.le_refl _)
   ·simp
 exact hfm (by rw[List.length_range];exact h16) hF (by omega)
theorem zf0 {fs:List Fac} {x:D} (hx:zf 12 (zFC fs) x) (a b e p ta oa:D) (h:Heap):zA Tryz.prog 51 [.agg [a,b,e,p],x, .agg [ta,oa]] h fun r h'=>h'=h∧r=zQq [x] [ta,oa] [a,b,e,p]:=by
 rcases hx with⟨rfl,_⟩ | ⟨tk,rfl⟩
 ·refine zA.of_fn (g:=zWC) mix Tryz.func51 zkD rfl rfl ?_;simp only[Tryz.f51,gJ]
  repeat' first|simp only[go_sem,zkC,zQq, *]|apply bc<;>intro hc
 ·refine zA.of_fn (g:=zWC) mix Tryz.func51 zkD rfl rfl ?_;simp only[Tryz.f51,gJ]
  repeat' first|simp only[go_sem,zkC,zQq, *]|apply bc<;>intro hc
def WOf (L:List Due) (n0 k:Nat) (S:Nat→Prop) (h:Heap):Prop:=
 n0+2<h.next∧∃d,h.at' n0=some (.row [d])∧h.at' (n0+1)=some (.map (kmD zYy (mpS (ofS L k))))∧h.at' (n0+2)=some (.row [.map (n0+1)])∧wD h 7 ((ofS L k).map zCy) d∧∀i,S i↔(i=n0∨i=n0+1∨i=n0+2∨wo d i)
theorem WOf.lcl (L:List Due) (n0:Nat):Lcl (WOf L n0):=by
 refine⟨fun k S h y i hi=> ?_,fun k S h h' y hn hk=> ?_⟩
 ·obtain⟨a1,d,a2,a3,a4,a5,a6⟩:=y;rcases(a6 i).1 hi with rfl|rfl|rfl|q
  ·omega
  ·omega
  ·exact a1
  ·exact(a5.tok q).1
 ·obtain⟨a1,d,a2,a3,a4,a5,a6⟩:=y;exact⟨by omega,d,by rw[hk _ ((a6 _).2 (.inl rfl))];exact a2,by rw[hk _ ((a6 _).2 (.inr (.inl rfl)))];exact a3,by rw[hk _ ((a6 _).2 (.inr (.inr (.inl rfl))))];exact a4,a5.loc hn fun i hi=>hk i ((a6 i).2 (.inr (.inr (.inr hi)))),a6⟩
set_option maxHeartbeats 8000000 in
theorem zbd {c:Cat} {fs:List Fac} {y:Cho} {d x yd:D} (I:CIn c fs y d x yd) (g:Heap):
  zA Tryz.prog 30 [d,x,yd] g fun r h'=>h'=g∧∃l,r= .tuple [l, .int .i64 (zi c fs y true)]∧(zi c fs y true=0→Fin 7 ((ofS (wR c fs y) (wR c fs y).length).map zCy) l):=by
 refine zA.pure (by kernel_rfl) fun hok'=>zA.strip ?_;refine zA.post fun Q hQ=> ?_;have hcc:=I.check true;have h16:=fun h=>I.n16 (p:=true) h;have hIc:=I.cat;have hIs:=I.sm;have hIx:=I.x;have hIl:=I.len;have hIk:=I.ok;have hIy:=I.ysm;obtain⟨a,b,e,p,rfl,_⟩:=I.cat;obtain⟨ta,oa,rfl,hta,_⟩:=I.cho;have hv4:zO true 4 [a,b,e,p] 0=some (.agg [a,b,e,p]):=zB rfl (by omega);have hv2:zO true 2 [ta,oa] 0=some (.agg [ta,oa]):=zB rfl (by omega);refine zA.of_fn (g:=zWV) mix Tryz.func30 zla rfl rfl ?_;simp only[Tryz.f30,gJ];cases he:(zi c fs y true==0) with
 |false=>
  have hne:zi c fs y true≠0:=by simpa using he
  have hfin:Q (.tuple [.nilsl, .int .i64 (zi c fs y true)]) g:=hQ _ _ ⟨Ext.refl g,⟨trivial,trivial,trivial⟩,_,rfl,fun q=>absurd q hne⟩;clear hQ h16 hne I hIc hIs hIx hIl hIk hIy hta
  repeat' first|simp only[go_sem,zcI, *]|apply bc<;>intro hc|(refine zA.mono (hcc _) ?_;rintro r h ⟨hq,rfl⟩)
 |true=>
  have h0:zi c fs y true=0:=by simpa using he
  have hn:=h16 h0;have hco:=zIc h0 hIy;rw[h0] at hcc he;have hQ:=fun l h' hE (hb:below g.next (yE l)) (hF:Fin 7 ((ofS (wR c fs y) (wR c fs y).length).map zCy) (yE l))=>hQ (.tuple [l, .int .i64 0]) h' ⟨hE,⟨hb,trivial,trivial⟩,yE l,by rw[h0];rfl,fun _=>hF⟩;obtain⟨L,hL0⟩:∃L,wR c fs y=L:=⟨_,rfl⟩;have hlen:L.length≤33554432:=by
   rw[←hL0];refine zNP (m:=64) hn (fun a ha=> ?_) ?_
   ·by_cases q:a.ts= []
    ·rw[q];simp
    ·exact(hco.okk a ha q).2
   ·have:=zO0 hco.case;unfold wb at this;split at this
    ·exact absurd this (by decide)
    ·rename_i q;unfold Cat.big at q;simp only[Bool.or_eq_true,decide_eq_true_eq,not_or] at q;omega
  have hdu:=fun h=>zf0 hIx a b e p ta oa h;have hd1:=fun {id:Nat} {Y:Nat→(Nat→Prop)→Heap→Prop} (yl:Yld Tryz.prog id (wR c fs y).length (zGi zg7 (wR c fs y)) Y fun _ _=>False) {S:Nat→Prop} {w:Heap} (hY:Y 0 S w)=>zbc hIc hIs hIx hIl hIk (oa:=oa) hta hIy (by rw[hco.lic];exact Nat.le_refl _) yl hY;rw[hL0] at hd1 hQ;obtain⟨G,hG,hGn,g1,g2,g3,hE⟩:∃G:Heap,((g.new g.next (.row [.nilsl])).new (g.next+1) (.map [])).new (g.next+2) (.row [.map (g.next+1)])=G∧G.next=g.next+3∧G.at' g.next=some (.row [.nilsl])∧G.at' (g.next+1)=some (.map [])∧G.at' (g.next+2)=some (.row [.map (g.next+1)])∧Ext g G:=
   ⟨_,rfl,zb _ (by rw[zb _ (by rw[zD];exact Nat.le_refl _)];exact Nat.le_refl _) _,by rw[zF (by omega),zF (by omega),zJ],by rw[zF (by omega),zJ],zJ _ _ _,(((Ext.refl g).new (Nat.le_refl _) _).new (by omega) _).new (by omega) _⟩
  have hst:zQ Tryz.prog 112 (.ptr (g.next+2) 0) (.map (g.next+1)) (((g.new g.next (.row [.nilsl])).new (g.next+1) (.map [])).new (g.next+2) (.row [.nilmap]))=some G:=by
   rw[zV (zJ _ _ _) zZ1 (by simp) rfl rfl,zCW,←hG];rfl
  have nx1:(g.new g.next (.row [.nilsl])).next=g.next+1:=zD _ _;have nx2:((g.new g.next (.row [.nilsl])).new (g.next+1) (.map [])).next=g.next+2:=zb _ (by rw[zD];exact Nat.le_refl _) _;have hal:∀ (t:TypeId) (nid:Nat) (h:Heap),zGG t nid h (some .nilmap)=some (.ptr nid 0,h.new nid (.row [.nilmap])):=fun _ _ _=>rfl;clear hL0 hco h16 I hIc hIs hIx hIl hIk hIy hta h0 hG
  repeat' first|simp only[go_sem,zcI,zQq, *]|apply bc<;>intro hc|(refine zA.mono (hcc _) ?_;rintro r h ⟨hq,rfl⟩)|(refine zA.mono (hdu _) ?_;rintro r h ⟨hq,rfl⟩)
  subst hq
  rename Heap=>G
  generalize hL:LRec.mk _ _ _ _ _ _ _=R;have hpe:R.pending=none:=by rw[←hL]
  have hrd:R.st= .ready:=by rw[←hL]
  have hW:=WOf.lcl L g.next;have hW0:WOf L g.next 0 (fun j=>j=g.next∨j=g.next+1∨j=g.next+2∨wo .nilsl j) G:=⟨by omega, .nilsl,g1,g2,g3, .inl ⟨rfl,rfl⟩,fun _=>Iff.rfl⟩;clear hst nx1 nx2 hal hdu;refine wQ (n:=L.length) (el:=zGi zg7 L) hGn hW hrd hpe hW0 (fun yl hY0=>hd1 yl hY0) ?_ ?_
  ·intro k S0 h3 hk hid3 hl3 hw3 hn3;obtain⟨v,hv⟩:∃v,L[k]? =some v:=⟨_,List.getElem?_eq_getElem hk⟩;have hgv:zGi zg7 L k= [.agg (zCy v)]:=by unfold zGi;rw[hv];rfl
   rw[hgv];have hl3':=hl3;rw[←hL] at hl3';have hst7:zQ Tryz.prog 81 (.ptr h3.next 0) (.agg (zCy v)) (h3.new h3.next (.row [.str [], .str [], .str [], .str [], .int .i64 0, .int .i64 0, .int .i64 0]))=some (h3.new h3.next (.row (zCy v))):=zU zJX (by omega) rfl rfl rfl;refine yT.round (g:=zWV) mix hl3' rfl (by kernel_rfl) (by kernel_rfl) (by kernel_rfl) ?_;simp only[go_sem,zcI,hst7];refine⟨by rw[zF (by omega)];exact hl3',?_⟩;generalize hB:LRec.mk .busy _ _ _ _ _ _=B;have hLB:({ B with st:= .ready,pending:=none } :LRec)=R:=by rw[←hB,←hL]
   obtain⟨H,hHe,hHn,hrow,hHi,hbs⟩:∃H:Heap,(h3.new h3.next (.row (zCy v))).set (g.next+3) (.loop B)=H∧H.next=h3.next+1∧H.at' h3.next=some (.row (zCy v))∧H.at' (g.next+3)=some (.loop B)∧But (fun i=>i=g.next+3) h3 H:=
    ⟨_,rfl,by rw[ze,zD],by rw[zE (by omega),zJ],zC _ _ _,by rw[ze,zD];omega,fun j hj hn=>by rw[zE hn,zF (by omega)]⟩
   obtain⟨b1,d,b2,b3,b4,b5,b6⟩:=hW.round hw3 (fun i hi=>hi) hn3 hbs;rw[hHe];have hbn:=hbs.1;have hvD:zO true 7 (zCy v) 0=some (.agg (zCy v)):=zB rfl (by omega);have hlk:=lkD b3 v;have hou:=zLT hv;clear hst7 hHe hB hgv hL hW0;cases hs:((ofS L k).any fun z=>v==z) with
   |true=>
    rw[hs] at hlk;rw[hs,if_pos rfl] at hou;have hfin:∀fr,wB (LpK (g.next+3) R (WOf L g.next) k S0 h3) (g.next+3) .normal fr H:=fun fr=>Lp.fin hW hLB hid3 hn3 (S':=S0) hHi (fun i hi=> .inl hi) ⟨hbn,fun i hi hne=>hbs.2 i hi fun e=>hne (.inl e)⟩ ⟨b1,d,b2,by rw[hou];exact b3,b4,by rw[hou];exact b5,b6⟩;clear hou hLB hW b5 b6 hbs hs
    repeat' first|simp only[go_sem,zcI, *]|apply bc<;>intro hc
   |false=>
    rw[hs] at hlk;rw[hs,if_neg (by decide)] at hou;have hup:=upD b3 hs;have hol:=zO1 L k;obtain⟨H1,hH1,hH1n,e1,e2,e3,e4,e5⟩:∃H1,H.set (g.next+1) (.map (kmD zYy (mpS (ofS L k++ [v]))))=H1∧H1.next=H.next∧H1.at' g.next=some (.row [d])∧H1.at' (g.next+1)=some (.map (kmD zYy (mpS (ofS L k++ [v]))))∧H1.at' (g.next+2)=some (.row [.map (g.next+1)])∧H1.at' h3.next=some (.row (zCy v))∧H1.at' (g.next+3)=some (.loop B):=
     ⟨_,rfl,ze _ _ _,by rw[zE (by omega)];exact b2,zC _ _ _,by rw[zE (by omega)];exact b4,by rw[zE (by omega)];exact hrow,by rw[zE (by omega)];exact hHi⟩
    rw[hH1] at hup;have hnt:∀i,wo d i→i<H.next∧i≠g.next∧i≠g.next+1∧i≠g.next+2∧i≠g.next+3:=fun i hi=>by
     have:=(b5.tok hi).2;exact⟨(b5.tok hi).1,fun e=>(by rw[e,b2] at this;cases this),fun e=>(by rw[e,b3] at this;cases this),fun e=>(by rw[e,b4] at this;cases this),fun e=>(by rw[e,hHi] at this;cases this)⟩
    have b51:wD H1 7 ((ofS L k).map zCy) d:=b5.loc (by omega) fun i hi=>by
     rw[←hH1,zE (hnt i hi).2.2.1]
    have hbs1:∀nid h,zK Tryz.prog false nid 75 1 [(0, .agg (zCy v))] h=some (.sl 7 [zCy v] .full,h):=fun nid h=>yU zKg zPW zJX rfl rfl (by omega) (by omega) rfl rfl;obtain⟨d',h6,v1,v2,v3,v4,v5,v6,v7⟩:=b51.app4 (P:=Tryz.prog) (t:=75) (x:= .sl 7 [zCy v] .full) (ys:=[zCy v]) zKg zZc zJX (by omega) (fun y hy=>by rw[List.mem_singleton.1 hy];rfl) (.inr ⟨by simp, .full,rfl⟩) (by rw[zS2,List.length_map,List.length_singleton];unfold lim;omega) (by rw[List.length_map,List.length_singleton];unfold lim;omega);have q1:H1.next=h3.next+1:=by omega
    rw[q1] at v1;have v2:wD h6 7 ((ofS L k++ [v]).map zCy) d':=by rw[List.map_append];exact v2
    have c0:h6.at' g.next=some (.row [d]):=by rw[v4 _ (by omega) fun e=>(hnt _ e).2.1 rfl];exact e1
    have c1:h6.at' (g.next+1)=some (.map (kmD zYy (mpS (ofS L k++ [v])))):=by rw[v4 _ (by omega) fun e=>(hnt _ e).2.2.1 rfl];exact e2
    have c2:h6.at' (g.next+2)=some (.row [.map (g.next+1)]):=by rw[v4 _ (by omega) fun e=>(hnt _ e).2.2.2.1 rfl];exact e3
    have c3:h6.at' (g.next+3)=some (.loop B):=by rw[v4 _ (by omega) fun e=>(hnt _ e).2.2.2.2 rfl];exact e5
    have hst:zQ Tryz.prog 75 (.ptr g.next 0) d' h6=some (h6.set g.next (.row [d'])):=by
     rw[zV c0 zdU (by simp) v6 v7];rfl
    have hfin:∀fr,wB (LpK (g.next+3) R (WOf L g.next) k S0 h3) (g.next+3) .normal fr (h6.set g.next (.row [d'])):=fun fr=>by
     refine Lp.fin hW hLB hid3 hn3 (S':=fun i=>i=g.next∨i=g.next+1∨i=g.next+2∨wo d' i) ?_ (fun i hi=> ?_) ⟨by rw[ze];omega,fun i hi hne=> ?_⟩ ⟨by rw[ze];omega,d',zC _ _ _,by rw[zE (by omega),hou];exact c1,by rw[zE (by omega)];exact c2,by rw[hou];exact v2.loc (by rw[ze];exact Nat.le_refl _) fun i hi=>zE fun e=>by have:=v5 i hi;omega,fun i=>Iff.rfl⟩
     ·rw[zE (by omega)];exact c3
     ·rcases hi with rfl|rfl|rfl|hi
      ·exact .inl ((b6 _).2 (.inl rfl))
      ·exact .inl ((b6 _).2 (.inr (.inl rfl)))
      ·exact .inl ((b6 _).2 (.inr (.inr (.inl rfl))))
      ·exact .inr (by have:=v5 i hi;omega)
     ·have n1:i≠g.next:=fun e=>hne (.inr ((b6 i).2 (.inl e)));have n2:i≠g.next+1:=fun e=>hne (.inr ((b6 i).2 (.inr (.inl e))));rw[zE n1,v4 i (by omega) fun e=>hne (.inr ((b6 i).2 (.inr (.inr (.inr e))))),←hH1,zE n2,hbs.2 i hi fun e=>hne (.inl e)]
    clear hou hLB hW b5 b51 b6 hbs hs v2 v4 v5 v6 v7 hnt hol hH1 b2 b3 hHi
    repeat' first|simp only[go_sem,zcI, *]|apply bc<;>intro hc
  ·intro S' h2 hsub hb hw2;obtain⟨a1,d,a2,_,_,a5,_⟩:=hw2;have hf:=a5.fin fun x hx=>by
    obtain⟨v,_,rfl⟩:=List.mem_map.1 hx;exact⟨rfl,by simp[zCy,zg,below],rfl⟩
   have hE2:Ext g h2:=Ext.of_but hE hb fun j hj=>by
    rcases hj with rfl|rfl|rfl|hj
    ·omega
    ·omega
    ·omega
    ·exact hj.elim
   have hfn:=hQ d h2 hE2 (zz (Nat.zero_le _) _ hf.1) hf.2;clear hL hW0 hd1 hQ
   repeat' first|simp only[go_sem,zcI, *]|apply bc<;>intro hc
end Go.V
