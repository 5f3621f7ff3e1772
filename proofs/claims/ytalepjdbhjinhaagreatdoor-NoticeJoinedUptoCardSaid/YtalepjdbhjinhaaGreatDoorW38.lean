/- Contracts of functions that the law reaches, part 3. No condition. -/
import Derived.Test.YtalepjdbhjinhaaGreatDoorW37
import Derived.Test.YtalepjdbhjinhaaGreatDoorW32
import Derived.Test.YtalepjdbhjinhaaGreatDoorW36
set_option linter.all false
namespace Go.V
open Go.Proofs
set_option maxRecDepth 100000
def zBf:List Fac→List (List UInt8)→List (List UInt8)
 | [],o=>o
 |f::fs,o=>if(f.kind==1)=true then zBf fs o else if(f.kind==2)=true then zBf fs (if(o.any fun z=>z==f.out)=true then o else o++ [f.out]) else zBf fs o
theorem zBV:∀ (l:List Fac) (f:Fac) (o:List (List UInt8)),zBf (l++ [f]) o=zBf [f] (zBf l o)
 | [],f,o=>rfl
 |g::l,f,o=>by
  by_cases h1:(g.kind==1)=true
  ·have e:∀m,zBf (g::m) o=zBf m o:=fun m=>by rw[zBf,if_pos h1]
   rw[List.cons_append,e,e,zBV l f]
  ·by_cases h2:(g.kind==2)=true
   ·have e:∀m,zBf (g::m) o=zBf m (if(o.any fun z=>z==g.out)=true then o else o++ [g.out]):=fun m=>by rw[zBf,if_neg h1,if_pos h2]
    rw[List.cons_append,e,e,zBV l f]
   ·have e:∀m,zBf (g::m) o=zBf m o:=fun m=>by rw[zBf,if_neg h1,if_neg h2]
    rw[List.cons_append,e,e,zBV l f]
theorem zH5 {y:Cho} {fs:List Fac} :∀k,k≤fs.length→(zAC y fs k).outs=zBf (fs.take k) []
 |0,_=>rfl
 |k+1,h=>by
  have hlt:k<fs.length:=by omega
  have ih:=zH5 (y:=y) (fs:=fs) k (by omega);rw[List.take_succ_eq_append_getElem hlt,zBV,←ih,zNv hlt];simp only[zBf];split
  ·split<;>rfl
  ·split
   ·split<;>rfl
   ·rfl
theorem zEv {c:Cat} :∀ {l:List Fac} {t:List (List (List Trm))} {o:List (List UInt8)},(zJV c l t o).2.2=0→(zJV c l t o).1.length=t.length+(l.filter fun f=>f.kind==1).length∧(zJV c l t o).2.1=zBf l o
 | [],t,o,_=>⟨rfl,rfl⟩
 |f::fs,t,o,h=>by
  rw[zJV] at h⊢;by_cases h1:(f.kind==1)=true
  ·rw[if_pos h1] at h⊢;by_cases h2:(zGI c f.e==0)=true
   ·rw[if_pos h2] at h⊢;obtain⟨a1,a2⟩:=zEv h;refine⟨?_,by rw[a2,zBf,if_pos h1]⟩;rw[a1,List.filter_cons_of_pos (by exact h1)];simp only[List.length_append,List.length_cons,List.length_nil];omega
   ·rw[if_neg h2] at h;exact absurd h (by simpa using h2)
  ·rw[if_neg h1] at h⊢;by_cases h2:(f.kind==2)=true
   ·rw[if_pos h2] at h⊢;obtain⟨a1,a2⟩:=zEv h;exact⟨by rw[a1,List.filter_cons_of_neg (by exact h1)],by rw[a2,zBf,if_neg h1,if_pos h2]⟩
   ·rw[if_neg h2] at h⊢;obtain⟨a1,a2⟩:=zEv h;exact⟨by rw[a1,List.filter_cons_of_neg (by exact h1)],by rw[a2,zBf,if_neg h1,if_neg h2]⟩
theorem zNw {c:Cat} {l:List Fac} (h:(qm c l).2=0):l.length≤256:=by
 unfold qm at h;split at h
 ·exact absurd h (by decide)
 ·split at h
  ·exact absurd h (by decide)
  ·rename_i q
   have:¬((l.length:Int)>256):=by simpa using q
   omega
structure ChoiceOk (c:Cat) (fs:List Fac) (y:Cho):Prop where
 case:(qm c fs).2=0
 lic:zGl fs fs.length=y.ts.length
 outs:(zAC y fs fs.length).outs.length=y.own.length
 okk:∀a∈y.ts,a.ts≠[]→a.Ok∧a.ts.length≤64
theorem zC4 {c:Cat} {fs:List Fac} {y:Cho} {p:Bool} (h:yL c fs y p=0) (ysm:y.Sm):ChoiceOk c fs y:=by
 unfold yL at h;split at h
 ·rename_i q;rw[h] at q;exact absurd q (by decide)
 ·rename_i q1;have v0:(qD c fs).2.2=0:=by simpa using q1
  split at h
  ·exact absurd h (by decide)
  ·rename_i q2;split at h
   ·rename_i q;rw[h] at q;exact absurd q (by decide)
   ·rename_i q3;have t0:zEy (zFY (qD c fs).1 y.ts p) y.ts.length=0:=by simpa using q3
    have hv:=zMY (c:=c) (l:=fs);unfold qD at v0 q2 t0 hv;by_cases qc:(!((qm c fs).2==0))=true
    ·rw[if_pos qc] at v0;rw[v0] at qc;exact absurd qc (by decide)
    ·rw[if_neg qc] at v0 q2 t0 hv;obtain⟨a1,a2⟩:=zEv v0;have hl:(zJV c fs [] []).1.length=y.ts.length∧(zJV c fs [] []).2.1.length=y.own.length:=by
      simp only[Bool.or_eq_true,Bool.not_eq_true',beq_eq_false_iff_ne,ne_eq,not_or,Decidable.not_not] at q2;omega
     refine⟨by simpa using qc,?_,?_,fun a ha hne=> ?_⟩
     ·rw[←hl.1,a1];simp[zGl]
     ·rw[zH5 _ (Nat.le_refl _),List.take_length,←a2];exact hl.2
     ·obtain⟨i,hi,rfl⟩:=List.mem_iff_getElem.1 ha;have:=zEu t0 i hi;unfold zFY at this;rw[List.getElem?_eq_getElem hi] at this;simp only at this;have hn:(((y.ts[i].ts.length:Int))==0)=false:=by
       have:=List.length_pos_iff.2 hne;simp;omega
      rw[hn,Bool.and_false,if_neg (by decide)] at this;split at this
      ·exact absurd this (by decide)
      ·rename_i q;have hany:((zJV c fs [] []).1.getD i []).any (fun b=>zMi y.ts[i].ts b)=true:=by simpa using q
       obtain⟨b,hb,he⟩:=List.any_eq_true.1 hany;have e:=(zGk _ _).1 he;have key:y.ts[i].ts.length≤64→y.ts[i].Ok∧y.ts[i].ts.length≤64:=fun q=>⟨⟨(ysm.ts _ ha).sl,hne,by omega⟩,q⟩;refine key ?_;rw[e];rw[List.getD_eq_getElem?_getD] at hb;cases hq:(zJV c fs [] []).1[i]? with
       |none=>rw[hq] at hb;cases hb
       |some z=>
        rw[hq] at hb;have:=((hv z (List.mem_of_getElem? hq)).2.ts b hb).2;omega
structure CIn (c:Cat) (fs:List Fac) (y:Cho) (d x yd:D):Prop where
 cat:wR c d
 sm:c.Sm
 x:zX 12 (zK1 fs) x
 len:fs.length≤1048576
 few:fs.length≤16∨256<fs.length
 ok:∀f∈fs,f.Ok
 cho:zNt y yd
 ysm:y.Sm
section
variable {c:Cat} {fs:List Fac} {y:Cho} {d x yd:D} (I:CIn c fs y d x yd)
include I
theorem CIn.check (p:Bool) (g:Heap):zA Tryz.prog 39 [d,x,yd, .bool p] g fun r h'=>h'=g∧r= .int .i64 (yL c fs y p):=zKo I.cat I.sm I.x I.len I.ok I.cho I.ysm p g
theorem CIn.n16 {p:Bool} (h:yL c fs y p=0):fs.length≤16:=by
 have:=zNw (zC4 h I.ysm).case;rcases I.few with q|q
 ·exact q
 ·omega
end
theorem zCL {c:Cat} {l:List Fac} (h:(qm c l).2=0):wk c=0:=by
 unfold qm at h;by_cases h1:(!(wk c==0))=true
 ·rw[if_pos h1] at h;exact absurd h (by decide)
 ·simpa using h1
theorem wI.app3 {P:Program} {h:Heap} {sz:Nat} {xs ys:List (List D)} {d x:D} {t e:TypeId} {K:D→Heap→Prop} (ho:wI h sz xs d) (he:yr P t=some e) (hz:zGM P e=true) (hs:szT P e=sz) (h0:0<sz) (hys:∀y∈ys,y.length=sz) (hx:(x= .nilsl∧ys= [])∨(ys≠[]∧∃tk,x= .sl sz ys tk))
  (hb:(xs.length+ys.length)*yY P e≤lim) (hl:xs.length+ys.length≤lim) (hK:∀d' h',wI h' sz (xs++ys) d'→h.next≤h'.next→(∀i,i<h.next→¬wm d i→h'.at' i=h.at' i)→(∀i,wm d' i→h.next≤i)→d'.cells= [d']→d'.flat=true→K d' h'):onR (zZ P false h.next t d x h) K:=by
 rcases hx with⟨rfl,rfl⟩ | ⟨hy0,tk,rfl⟩
 ·simp only[List.append_nil,List.length_nil,Nat.add_zero] at hK hb hl;simp only[zZ,he,hz,hs,zKy,if_true,List.length_nil,Nat.zero_div];rcases ho with⟨rfl,rfl⟩ | ⟨q,rfl,h1,h2⟩
  ·simp only[yk,if_true,zGV];exact hK _ _ (.inl ⟨rfl,rfl⟩) (Nat.le_refl _) (fun i hi _=>rfl) (fun i hi=>hi.elim) rfl rfl
  ·simp only[yk];rw[if_pos (by simp only[Nat.add_zero,Bool.and_eq_true,decide_eq_true_eq];exact⟨⟨trivial,hb⟩,hl⟩)];simp only[h1,Bool.false_eq_true,if_false,zGV];have hc:yT sz 0 []= []:=rfl;rw[hc,List.append_nil];refine hK _ _ (.inr ⟨h.next,rfl,zQ _ _ _,?_⟩) ?_ (fun i hi hn=> ?_) (fun i hi=> ?_) rfl rfl
   ·exact Nat.lt_of_lt_of_le (Nat.lt_succ_self _) (Nat.le_max_right _ _)
   ·exact qd (h.del q) _ _
   ·rw[zM (by omega),qP fun e=>hn (by rw[e];rfl)]
   ·simp only[wm] at hi;omega
 ·exact ho.app2 he hz hs h0 hys hy0 hb hl hK
theorem wI.app4 {P:Program} {h:Heap} {sz:Nat} {xs ys:List (List D)} {d x:D} {t e:TypeId} (ho:wI h sz xs d) (he:yr P t=some e) (hz:zGM P e=true) (hs:szT P e=sz) (h0:0<sz) (hys:∀y∈ys,y.length=sz) (hx:(x= .nilsl∧ys= [])∨(ys≠[]∧∃tk,x= .sl sz ys tk))
  (hb:(xs.length+ys.length)*yY P e≤lim) (hl:xs.length+ys.length≤lim):∃d' h',zZ P false h.next t d x h=some (d',h')∧wI h' sz (xs++ys) d'∧h.next≤h'.next∧(∀i,i<h.next→¬wm d i→h'.at' i=h.at' i)∧(∀i,wm d' i→h.next≤i)∧d'.cells= [d']∧d'.flat=true:=by
 have:=ho.app3 (K:=fun d' h'=>wI h' sz (xs++ys) d'∧h.next≤h'.next∧(∀i,i<h.next→¬wm d i→h'.at' i=h.at' i)∧(∀i,wm d' i→h.next≤i)∧d'.cells= [d']∧d'.flat=true) he hz hs h0 hys hx hb hl fun d' h' a b c e f g=>⟨a,b,c,e,f,g⟩;unfold onR at this;split at this
 ·rename_i d' h' hv;exact⟨d',h',hv,this⟩
 ·exact this.elim
def ofS (l:List Due):Nat→List Due
 |0=>[]
 |k+1=>match l[k]? with
  |none=>ofS l k
  |some x=>if((ofS l k).any fun z=>x==z)=true then ofS l k else ofS l k++ [x]
theorem zKs {l:List Due} {k:Nat} {x:Due} (h:l[k]? =some x):ofS l (k+1)=if((ofS l k).any fun z=>x==z)=true then ofS l k else ofS l k++ [x]:=by
 show(match l[k]? with
  |none=>ofS l k
  |some x=>if((ofS l k).any fun z=>x==z)=true then ofS l k else ofS l k++ [x])=_
 rw[h]
theorem zNx (l:List Due):∀k,(ofS l k).length≤k
 |0=>Nat.le_refl _
 |k+1=>by
  have ih:=zNx l k;cases h:l[k]? with
  |none=>
   have e:ofS l (k+1)=ofS l k:=by
    show(match l[k]? with
     |none=>ofS l k
     |some x=>if((ofS l k).any fun z=>x==z)=true then ofS l k else ofS l k++ [x])=_
    rw[h]
   rw[e];omega
  |some x=>
   rw[zKs h];split
   ·omega
   ·rw[List.length_append,List.length_singleton];omega
theorem zTw {l:List Due} {x:Due} :∀k,k≤l.length→(x∈ofS l k↔∃j,j<k∧l[j]? =some x)
 |0,_=>by simp[ofS]
 |k+1,hk=>by
  have ih:=zTw (l:=l) (x:=x) k (by omega);have h:l[k]? =some l[k]:=List.getElem?_eq_getElem (by omega);have key:x∈ofS l (k+1)↔x∈ofS l k∨x=l[k]:=by
   rw[zKs h];split
   ·rename_i q;obtain⟨z,hz,e⟩:=List.any_eq_true.1 q;have e:l[k]=z:=by simpa using e
    constructor
    ·exact .inl
    ·rintro(q|rfl)
     ·exact q
     ·rw[e];exact hz
   ·rw[List.mem_append,List.mem_singleton]
  rw[key,ih];constructor
  ·rintro(⟨j,h1,h2⟩ |rfl)
   ·exact⟨j,by omega,h2⟩
   ·exact⟨k,by omega,h⟩
  ·rintro⟨j,h1,h2⟩;rcases Nat.lt_succ_iff_lt_or_eq.1 h1 with q|rfl
   ·exact .inl ⟨j,q,h2⟩
   ·rw[h] at h2;exact .inr (Option.some.inj h2).symm
theorem zaO {l:List Due} {x:Due} :x∈ofS l l.length↔x∈l:=by
 rw[zTw _ (Nat.le_refl _),List.mem_iff_getElem?];constructor
 ·rintro⟨j,_,h⟩;exact⟨j,h⟩
 ·rintro⟨j,h⟩;exact⟨j,(List.getElem?_eq_some_iff.1 h).1,h⟩
def mpS (l:List Due):KM Due:=l.map fun x=>(x,D.bool true)
def zXk (x:Due):D:= .agg (qz x)
theorem zTx (x:Due):∀l:List Due,zGJ x (mpS l)=if(l.any fun z=>x==z)=true then some (.bool true) else none
 | []=>rfl
 |z::l=>by
  have ih:=zTx x l;show(if(x==z)=true then some (D.bool true) else zGJ x (mpS l))=_
  rw[ih,List.any_cons];cases h:(x==z)<;>simp
theorem zTy (x:Due):∀l:List Due,(l.any fun z=>x==z)=false→zGK x (.bool true) (mpS l)=mpS (l++ [x])
 | [],_=>rfl
 |z::l,h=>by
  rw[List.any_cons,Bool.or_eq_false_iff] at h;have ih:=zTy x l h.2;show(if(x==z)=true then(x,D.bool true)::mpS l else(z,D.bool true)::zGK x (.bool true) (mpS l))=_
  rw[h.1,ih];rfl
theorem zd8:KEnc zXk true [.s, .s, .s, .s, .i, .i, .i] where
 eq a b:=by
  obtain⟨a1,a2,a3,a4,a5,a6,a7⟩:=a;obtain⟨b1,b2,b3,b4,b5,b6,b7⟩:=b;show eqK _ (qz _) (qz _)=_;simp only[qz,eqK,if_true,Option.map_some,Option.some.injEq,Bool.and_true];rfl
 shape _:=rfl
theorem lkD {l:List Due} {m:Nat} {h:Heap} (hi:h.at' m=some (.map (kmD zXk (mpS l)))) (x:Due):wB Tryz.prog 96 (.map m) (.agg (qz x)) false h=some (.bool (l.any fun z=>x==z)):=by
 have:=zQU zd8 hi zRc zRY zYF x (by simp) false;rw[zTx] at this;refine Eq.trans this ?_;cases(l.any fun z=>x==z)<;>rfl
theorem upD {l:List Due} {m:Nat} {h:Heap} (hi:h.at' m=some (.map (kmD zXk (mpS l)))) {x:Due} (hx:(l.any fun z=>x==z)=false):yU Tryz.prog 96 (.map m) (.agg (qz x)) (.bool true) h=some (h.set m (.map (kmD zXk (mpS (l++ [x]))))):=by
 have:=zKq zd8 hi zRc zRY x (.bool true);rw[zTy x l hx] at this;exact this
theorem zMb {c:Cat} {fs:List Fac} {y:Cho} {m:Nat} (h16:fs.length≤16) (hts:∀a∈y.ts,a.ts.length≤m) (hcs:c.cs.length≤128):(zAA c fs y).length≤m*524288:=by
 have hfm:∀ {α β:Type} {l:List α} {f:α→List β} {m n k:Nat},l.length≤n→(∀x∈l,(f x).length≤m)→n*m≤k→(l.flatMap f).length≤k:=fun h1 h2 h3=>Nat.le_trans (zDx h2) (Nat.le_trans (Nat.mul_le_mul_right _ h1) h3);have hD:∀comp p t,∀n∈zC3 c p t,(zH4 comp p t n).length≤1:=fun comp p t n _=>by unfold zH4;split<;>simp
 have hS:∀p t,(zC3 c p t).length≤128:=fun p t=>by
  unfold zC3;rw[List.length_map]
  have:(zBL c t.a t.b p.2 p.1.rel).length≤c.cs.length:=by
   unfold zBL;split
   ·simp
   ·exact List.length_filter_le _ _
  omega
 have hTt:∀comp p t,(zQl c comp p t).length≤128:=fun comp p t=>hfm (hS p t) (hD comp p t) (by decide);have hP:∀comp ts p,ts.length≤m→(zPT c comp ts p).length≤m*128:=fun comp ts p h=>hfm h (fun t _=>hTt comp p t) (Nat.le_refl _);have hps:∀u:Fac,∀s∈fs,(zBQ u s).length≤1:=fun u s _=>by unfold zBQ;split<;>simp
 have hpu:∀comp,∀u∈fs,(zAj fs comp u).length≤16:=fun comp u _=>by
  unfold zAj;split
  ·exact hfm h16 (hps u) (by decide)
  ·simp
 have hpl:∀comp,(wK fs comp).length≤256:=fun comp=>hfm h16 (hpu comp) (by decide);have ha:∀k,(zIY y k).ts.length≤m:=fun k=>by
  unfold zIY;rw[List.getD_eq_getElem?_getD];cases h:y.ts[k]? with
  |none=>simp[mkA]
  |some a=>exact hts a (List.mem_of_getElem? h)
 have hF:∀i∈List.range fs.length,(zQX c fs y i).length≤256*(m*128):=fun i _=>by
  unfold zQX;split
  ·simp
  ·split
   ·exact hfm (hpl _) (fun p _=>hP _ _ p (ha _)) (Nat.le_refl _)
   ·simp
 exact hfm (by rw[List.length_range];exact h16) hF (by omega)
theorem zd9 {fs:List Fac} {x:D} (hx:zX 12 (zK1 fs) x) (a b e p ta oa:D) (h:Heap):zA Tryz.prog 40 [.agg [a,b,e,p],x, .agg [ta,oa]] h fun r h'=>h'=h∧r=zPU [x] [ta,oa] [a,b,e,p]:=by
 rcases hx with⟨rfl,_⟩ | ⟨tk,rfl⟩
 ·refine zA.of_fn (g:=zRs) mix Tryz.func40 zfp rfl rfl ?_;simp only[Tryz.f40,gJ]
  repeat' first|simp only[go_sem,ziS,zPU, *]|apply bc<;>intro hc
 ·refine zA.of_fn (g:=zRs) mix Tryz.func40 zfp rfl rfl ?_;simp only[Tryz.f40,gJ]
  repeat' first|simp only[go_sem,ziS,zPU, *]|apply bc<;>intro hc
def WOf (L:List Due) (n0 k:Nat) (S:Nat→Prop) (h:Heap):Prop:=
 n0+2<h.next∧∃d,h.at' n0=some (.row [d])∧h.at' (n0+1)=some (.map (kmD zXk (mpS (ofS L k))))∧h.at' (n0+2)=some (.row [.map (n0+1)])∧wI h 7 ((ofS L k).map qz) d∧∀i,S i↔(i=n0∨i=n0+1∨i=n0+2∨wm d i)
theorem WOf.lcl (L:List Due) (n0:Nat):Lcl (WOf L n0):=by
 refine⟨fun k S h y i hi=> ?_,fun k S h h' y hn hk=> ?_⟩
 ·obtain⟨a1,d,a2,a3,a4,a5,a6⟩:=y;rcases(a6 i).1 hi with rfl|rfl|rfl|q
  ·omega
  ·omega
  ·exact a1
  ·exact(a5.tok q).1
 ·obtain⟨a1,d,a2,a3,a4,a5,a6⟩:=y;exact⟨by omega,d,by rw[hk _ ((a6 _).2 (.inl rfl))];exact a2,by rw[hk _ ((a6 _).2 (.inr (.inl rfl)))];exact a3,by rw[hk _ ((a6 _).2 (.inr (.inr (.inl rfl))))];exact a4,a5.loc hn fun i hi=>hk i ((a6 i).2 (.inr (.inr (.inr hi)))),a6⟩
set_option maxHeartbeats 8000000 in
theorem zaP {c:Cat} {fs:List Fac} {y:Cho} {d x yd:D} (I:CIn c fs y d x yd) (g:Heap):
  zA Tryz.prog 10 [d,x,yd] g fun r h'=>h'=g∧∃l,r= .tuple [l, .int .i64 (yL c fs y true)]∧(yL c fs y true=0→Fin 7 ((ofS (zAA c fs y) (zAA c fs y).length).map qz) l):=by
 refine zA.pure (by kernel_rfl) fun hok'=>zA.strip ?_;refine zA.post fun Q hQ=> ?_;have hcc:=I.check true;have h16:=fun h=>I.n16 (p:=true) h;have hIc:=I.cat;have hIs:=I.sm;have hIx:=I.x;have hIl:=I.len;have hIk:=I.ok;have hIy:=I.ysm;obtain⟨a,b,e,p,rfl,_⟩:=I.cat;obtain⟨ta,oa,rfl,hta,_⟩:=I.cho;have hv4:ze true 4 [a,b,e,p] 0=some (.agg [a,b,e,p]):=zB rfl (by omega);have hv2:ze true 2 [ta,oa] 0=some (.agg [ta,oa]):=zB rfl (by omega);refine zA.of_fn (g:=zRr) mix Tryz.func10 ziP rfl rfl ?_;simp only[Tryz.f10,gJ];cases he:(yL c fs y true==0) with
 |false=>
  have hne:yL c fs y true≠0:=by simpa using he
  have hfin:Q (.tuple [.nilsl, .int .i64 (yL c fs y true)]) g:=hQ _ _ ⟨Ext.refl g,⟨trivial,trivial,trivial⟩,_,rfl,fun q=>absurd q hne⟩;clear hQ h16 hne I hIc hIs hIx hIl hIk hIy hta
  repeat' first|simp only[go_sem,za4, *]|apply bc<;>intro hc|(refine zA.mono (hcc _) ?_;rintro r h ⟨hq,rfl⟩)
 |true=>
  have h0:yL c fs y true=0:=by simpa using he
  have hn:=h16 h0;have hco:=zC4 h0 hIy;rw[h0] at hcc he;have hQ:=fun l h' hE (hb:below g.next (yC l)) (hF:Fin 7 ((ofS (zAA c fs y) (zAA c fs y).length).map qz) (yC l))=>hQ (.tuple [l, .int .i64 0]) h' ⟨hE,⟨hb,trivial,trivial⟩,yC l,by rw[h0];rfl,fun _=>hF⟩;obtain⟨L,hL0⟩:∃L,zAA c fs y=L:=⟨_,rfl⟩;have hlen:L.length≤33554432:=by
   rw[←hL0];refine zMb (m:=64) hn (fun a ha=> ?_) ?_
   ·by_cases q:a.ts= []
    ·rw[q];simp
    ·exact(hco.okk a ha q).2
   ·have:=zCL hco.case;unfold wk at this;split at this
    ·exact absurd this (by decide)
    ·rename_i q;unfold Cat.big at q;simp only[Bool.or_eq_true,decide_eq_true_eq,not_or] at q;omega
  have hdu:=fun h=>zd9 hIx a b e p ta oa h;have hd1:=fun {id:Nat} {Y:Nat→(Nat→Prop)→Heap→Prop} (yl:Yld Tryz.prog id (zAA c fs y).length (zGL zfC (zAA c fs y)) Y fun _ _=>False) {S:Nat→Prop} {w:Heap} (hY:Y 0 S w)=>zaN hIc hIs hIx hIl hIk (oa:=oa) hta hIy (by rw[hco.lic];exact Nat.le_refl _) yl hY;rw[hL0] at hd1 hQ;obtain⟨G,hG,hGn,g1,g2,g3,hE⟩:∃G:Heap,((g.new g.next (.row [.nilsl])).new (g.next+1) (.map [])).new (g.next+2) (.row [.map (g.next+1)])=G∧G.next=g.next+3∧G.at' g.next=some (.row [.nilsl])∧G.at' (g.next+1)=some (.map [])∧G.at' (g.next+2)=some (.row [.map (g.next+1)])∧Ext g G:=
   ⟨_,rfl,yJ _ (by rw[yJ _ (by rw[zK];exact Nat.le_refl _)];exact Nat.le_refl _) _,by rw[zM (by omega),zM (by omega),zQ],by rw[zM (by omega),zQ],zQ _ _ _,(((Ext.refl g).new (Nat.le_refl _) _).new (by omega) _).new (by omega) _⟩
  have hst:zW Tryz.prog 96 (.ptr (g.next+2) 0) (.map (g.next+1)) (((g.new g.next (.row [.nilsl])).new (g.next+1) (.map [])).new (g.next+2) (.row [.nilmap]))=some G:=by
   rw[zh (zQ _ _ _) zcA (by simp) rfl rfl,zFI,←hG];rfl
  have nx1:(g.new g.next (.row [.nilsl])).next=g.next+1:=zK _ _;have nx2:((g.new g.next (.row [.nilsl])).new (g.next+1) (.map [])).next=g.next+2:=yJ _ (by rw[zK];exact Nat.le_refl _) _;have hal:∀ (t:TypeId) (nid:Nat) (h:Heap),zFp t nid h (some .nilmap)=some (.ptr nid 0,h.new nid (.row [.nilmap])):=fun _ _ _=>rfl;clear hL0 hco h16 I hIc hIs hIx hIl hIk hIy hta h0 hG
  repeat' first|simp only[go_sem,za4,zPU, *]|apply bc<;>intro hc|(refine zA.mono (hcc _) ?_;rintro r h ⟨hq,rfl⟩)|(refine zA.mono (hdu _) ?_;rintro r h ⟨hq,rfl⟩)
  subst hq
  rename Heap=>G
  generalize hL:LRec.mk _ _ _ _ _ _ _=R;have hpe:R.pending=none:=by rw[←hL]
  have hrd:R.st= .ready:=by rw[←hL]
  have hW:=WOf.lcl L g.next;have hW0:WOf L g.next 0 (fun j=>j=g.next∨j=g.next+1∨j=g.next+2∨wm .nilsl j) G:=⟨by omega, .nilsl,g1,g2,g3, .inl ⟨rfl,rfl⟩,fun _=>Iff.rfl⟩;clear hst nx1 nx2 hal hdu;refine zPS (n:=L.length) (el:=zGL zfC L) hGn hW hrd hpe hW0 (fun yl hY0=>hd1 yl hY0) ?_ ?_
  ·intro k S0 h3 hk hid3 hl3 hw3 hn3;obtain⟨v,hv⟩:∃v,L[k]? =some v:=⟨_,List.getElem?_eq_getElem hk⟩;have hgv:zGL zfC L k= [.agg (qz v)]:=by unfold zGL;rw[hv];rfl
   rw[hgv];have hl3':=hl3;rw[←hL] at hl3';have hst7:zW Tryz.prog 53 (.ptr h3.next 0) (.agg (qz v)) (h3.new h3.next (.row [.str [], .str [], .str [], .str [], .int .i64 0, .int .i64 0, .int .i64 0]))=some (h3.new h3.next (.row (qz v))):=zg zBT (by omega) rfl rfl rfl;refine qp.round (g:=zRr) mix hl3' rfl (by kernel_rfl) (by kernel_rfl) (by kernel_rfl) ?_;simp only[go_sem,za4,hst7];refine⟨by rw[zM (by omega)];exact hl3',?_⟩;generalize hB:LRec.mk .busy _ _ _ _ _ _=B;have hLB:({ B with st:= .ready,pending:=none } :LRec)=R:=by rw[←hB,←hL]
   obtain⟨H,hHe,hHn,hrow,hHi,hbs⟩:∃H:Heap,(h3.new h3.next (.row (qz v))).set (g.next+3) (.loop B)=H∧H.next=h3.next+1∧H.at' h3.next=some (.row (qz v))∧H.at' (g.next+3)=some (.loop B)∧But (fun i=>i=g.next+3) h3 H:=
    ⟨_,rfl,by rw[z8,zK],by rw[zH (by omega),zQ],zF _ _ _,by rw[z8,zK];omega,fun j hj hn=>by rw[zH hn,zM (by omega)]⟩
   obtain⟨b1,d,b2,b3,b4,b5,b6⟩:=hW.round hw3 (fun i hi=>hi) hn3 hbs;rw[hHe];have hbn:=hbs.1;have hvD:ze true 7 (qz v) 0=some (.agg (qz v)):=zB rfl (by omega);have hlk:=lkD b3 v;have hou:=zKs hv;clear hst7 hHe hB hgv hL hW0;cases hs:((ofS L k).any fun z=>v==z) with
   |true=>
    rw[hs] at hlk;rw[hs,if_pos rfl] at hou;have hfin:∀fr,zFq (LpK (g.next+3) R (WOf L g.next) k S0 h3) (g.next+3) .normal fr H:=fun fr=>Lp.fin hW hLB hid3 hn3 (S':=S0) hHi (fun i hi=> .inl hi) ⟨hbn,fun i hi hne=>hbs.2 i hi fun e=>hne (.inl e)⟩ ⟨b1,d,b2,by rw[hou];exact b3,b4,by rw[hou];exact b5,b6⟩;clear hou hLB hW b5 b6 hbs hs
    repeat' first|simp only[go_sem,za4, *]|apply bc<;>intro hc
   |false=>
    rw[hs] at hlk;rw[hs,if_neg (by decide)] at hou;have hup:=upD b3 hs;have hol:=zNx L k;obtain⟨H1,hH1,hH1n,e1,e2,e3,e4,e5⟩:∃H1,H.set (g.next+1) (.map (kmD zXk (mpS (ofS L k++ [v]))))=H1∧H1.next=H.next∧H1.at' g.next=some (.row [d])∧H1.at' (g.next+1)=some (.map (kmD zXk (mpS (ofS L k++ [v]))))∧H1.at' (g.next+2)=some (.row [.map (g.next+1)])∧H1.at' h3.next=some (.row (qz v))∧H1.at' (g.next+3)=some (.loop B):=
     ⟨_,rfl,z8 _ _ _,by rw[zH (by omega)];exact b2,zF _ _ _,by rw[zH (by omega)];exact b4,by rw[zH (by omega)];exact hrow,by rw[zH (by omega)];exact hHi⟩
    rw[hH1] at hup;have hnt:∀i,wm d i→i<H.next∧i≠g.next∧i≠g.next+1∧i≠g.next+2∧i≠g.next+3:=fun i hi=>by
     have:=(b5.tok hi).2;exact⟨(b5.tok hi).1,fun e=>(by rw[e,b2] at this;cases this),fun e=>(by rw[e,b3] at this;cases this),fun e=>(by rw[e,b4] at this;cases this),fun e=>(by rw[e,hHi] at this;cases this)⟩
    have b51:wI H1 7 ((ofS L k).map qz) d:=b5.loc (by omega) fun i hi=>by
     rw[←hH1,zH (hnt i hi).2.2.1]
    have hbs1:∀nid h,zS Tryz.prog false nid 45 1 [(0, .agg (qz v))] h=some (.sl 7 [qz v] .full,h):=fun nid h=>yR zAr zGX zBT rfl rfl (by omega) (by omega) rfl rfl;obtain⟨d',h6,v1,v2,v3,v4,v5,v6,v7⟩:=b51.app4 (P:=Tryz.prog) (t:=45) (x:= .sl 7 [qz v] .full) (ys:=[qz v]) zAr zNA zBT (by omega) (fun y hy=>by rw[List.mem_singleton.1 hy];rfl) (.inr ⟨by simp, .full,rfl⟩) (by rw[zHJ,List.length_map,List.length_singleton];unfold lim;omega) (by rw[List.length_map,List.length_singleton];unfold lim;omega);have q1:H1.next=h3.next+1:=by omega
    rw[q1] at v1;have v2:wI h6 7 ((ofS L k++ [v]).map qz) d':=by rw[List.map_append];exact v2
    have c0:h6.at' g.next=some (.row [d]):=by rw[v4 _ (by omega) fun e=>(hnt _ e).2.1 rfl];exact e1
    have c1:h6.at' (g.next+1)=some (.map (kmD zXk (mpS (ofS L k++ [v])))):=by rw[v4 _ (by omega) fun e=>(hnt _ e).2.2.1 rfl];exact e2
    have c2:h6.at' (g.next+2)=some (.row [.map (g.next+1)]):=by rw[v4 _ (by omega) fun e=>(hnt _ e).2.2.2.1 rfl];exact e3
    have c3:h6.at' (g.next+3)=some (.loop B):=by rw[v4 _ (by omega) fun e=>(hnt _ e).2.2.2.2 rfl];exact e5
    have hst:zW Tryz.prog 45 (.ptr g.next 0) d' h6=some (h6.set g.next (.row [d'])):=by
     rw[zh c0 zb9 (by simp) v6 v7];rfl
    have hfin:∀fr,zFq (LpK (g.next+3) R (WOf L g.next) k S0 h3) (g.next+3) .normal fr (h6.set g.next (.row [d'])):=fun fr=>by
     refine Lp.fin hW hLB hid3 hn3 (S':=fun i=>i=g.next∨i=g.next+1∨i=g.next+2∨wm d' i) ?_ (fun i hi=> ?_) ⟨by rw[z8];omega,fun i hi hne=> ?_⟩ ⟨by rw[z8];omega,d',zF _ _ _,by rw[zH (by omega),hou];exact c1,by rw[zH (by omega)];exact c2,by rw[hou];exact v2.loc (by rw[z8];exact Nat.le_refl _) fun i hi=>zH fun e=>by have:=v5 i hi;omega,fun i=>Iff.rfl⟩
     ·rw[zH (by omega)];exact c3
     ·rcases hi with rfl|rfl|rfl|hi
      ·exact .inl ((b6 _).2 (.inl rfl))
      ·exact .inl ((b6 _).2 (.inr (.inl rfl)))
      ·exact .inl ((b6 _).2 (.inr (.inr (.inl rfl))))
      ·exact .inr (by have:=v5 i hi;omega)
     ·have n1:i≠g.next:=fun e=>hne (.inr ((b6 i).2 (.inl e)));have n2:i≠g.next+1:=fun e=>hne (.inr ((b6 i).2 (.inr (.inl e))));rw[zH n1,v4 i (by omega) fun e=>hne (.inr ((b6 i).2 (.inr (.inr (.inr e))))),←hH1,zH n2,hbs.2 i hi fun e=>hne (.inl e)]
    clear hou hLB hW b5 b51 b6 hbs hs v2 v4 v5 v6 v7 hnt hol hH1 b2 b3 hHi
    repeat' first|simp only[go_sem,za4, *]|apply bc<;>intro hc
  ·intro S' h2 hsub hb hw2;obtain⟨a1,d,a2,_,_,a5,_⟩:=hw2;have hf:=a5.fin fun x hx=>by
    obtain⟨v,_,rfl⟩:=List.mem_map.1 hx;exact⟨rfl,by simp[qz,yB,below],rfl⟩
   have hE2:Ext g h2:=Ext.of_but hE hb fun j hj=>by
    rcases hj with rfl|rfl|rfl|hj
    ·omega
    ·omega
    ·omega
    ·exact hj.elim
   have hfn:=hQ d h2 hE2 (zu (Nat.zero_le _) _ hf.1) hf.2;clear hL hW0 hd1 hQ
   repeat' first|simp only[go_sem,za4, *]|apply bc<;>intro hc
structure Con where
 path:List UInt8
 hs:List (List UInt8)
 e1:D
 e2:D
 e3:D
 e4:D
 hd:D
 ev:D
 dg:D
def Con.cells (x:Con):List D:=[.str x.path,x.e1,x.e2,x.e3,x.e4,x.hd,x.ev,x.dg]
structure Con.Ok (x:Con):Prop where
 sl:zX 1 (zt x.hs) x.hd
 sm:∀s∈x.hs,s.length≤1048576
 len:x.hs.length≤1048576
def cons (l:List Con):List (List D):=l.map Con.cells
theorem zNy (l:List Con):(cons l).length=l.length:=List.length_map ..
theorem zPV {l:List Con} {d:D} (hd:zX 8 (cons l) d) (h:Heap):zAd Tryz.prog 34 d h=some (.int .i64 l.length):=by rw[zP hd Tryz.underlying34,zNy]
theorem zNz {l:List Con} {d:D} (hd:zX 8 (cons l) d) {i:Nat} (hi:i<l.length):zR Tryz.prog 34 d (.int .i64 (i:Int))=some (.iptr l[i].cells 0):=zE hd zUe zWa (by simp[cons,hi])
theorem zKt {l:List Con} {d:D} (hd:zX 8 (cons l) d) (hl:l.length≤1048576) {f:FuncId} {cap:List D} {p:Con→Bool} {g:Heap} (hp:∀s∈l,zA Tryz.prog f ([]++ [.agg s.cells]++cap) g fun r h'=>h'=g∧r= .bool (p s)):
  zA Tryz.prog 44 [d, .fn (.func f) [] cap] g fun r h'=>h'=g∧r= .int .i64 (zIT p l):=by
 have hlen:=zPV hd;refine zA.of_fn (g:=zU9) mix Tryz.func44 ziy rfl rfl ?_;simp only[Tryz.f44,gJ]
 repeat' first|simp only[go_sem,zdF, *]|apply bc<;>intro hc
 refine zD (fun i fr h=>fr 1= .fn (.func f) [] cap∧fr 0=d∧fr 6=d∧fr 7= .int .i64 (l.length:Int)∧fr 8= .int .i64 (i:Int)∧h=g∧∀j (hj:j<l.length),j<i→p l[j]=false) l.length (by omega) ?_ ?_ ?_
 ·simp only[go_sem,zdF,true_and,and_true,Int.ofNat_zero];exact fun j hj h0=>by omega
 ·rintro i fr h hlt e1 ew ⟨f1,f0,f6,f7,f8,rfl,hj⟩;have a1:=zNz hd hlt;have hq:=hp _ (List.getElem_mem hlt);simp only[List.nil_append,List.cons_append] at hq;have hv8:ze true 8 l[i].cells 0=some (.agg l[i].cells):=zB rfl (by omega);cases hb:p l[i] with
  |true=>
   have hx:=zCr hlt hj hb;rw[hb] at hq;clear hj hp hd
   repeat' first|simp only[go_sem,zdF, *]|apply bc<;>intro hc|(refine zA.mono hq ?_;rintro r h ⟨rfl,rfl⟩)
  |false=>
   have hn:=ql (p:=p) hlt hj hb;rw[hb] at hq;clear hj hp hd
   repeat' first|simp only[go_sem,zdF, *]|apply bc<;>intro hc|(refine zA.mono hq ?_;rintro r h ⟨rfl,rfl⟩)
   exact hn
 ·rintro fr h e1 ⟨f1,f0,f6,f7,f8,rfl,hj⟩;have hx:=zCs (p:=p) fun j hj'=>hj j hj' hj';clear hj hp hd
  repeat' first|simp only[go_sem,zdF, *]|apply bc<;>intro hc
theorem zQY (x:Con) (comp:List UInt8) (h:Heap):zA Tryz.prog 83 ([]++ [.agg x.cells]++ [.iptr [.str comp] 0]) h fun r h'=>h'=h∧r= .bool (x.path==comp):=by
 have k0:x.cells[0]? =some (.str x.path):=rfl;show zA _ _ [.agg x.cells, .iptr [.str comp] 0] _ _;generalize x.cells=xc at *
 refine zA.of_fn (g:=zVB) mix Tryz.func83 zi2 rfl rfl ?_;simp only[Tryz.f83,gJ]
 repeat' first|simp only[go_sem,zjy, *]|apply bc<;>intro hc
def zDy (l:List Con) (comp:List UInt8):Option Con:=l.find? fun x=>x.path==comp
def zMc (l:List Con) (comp:List UInt8):D:=match zDy l comp with
 |none=> .tuple [.nilsl, .bool false]
 |some x=> .tuple [x.hd, .bool true]
theorem zTz {α:Type} {p:α→Bool} :∀ {l:List α},(l.find? p=none∧zIT p l= -1)∨∃ (i:Nat) (h:i<l.length),l.find? p=some l[i]∧zIT p l=(i:Int):=by
 intro l;cases h:l.findIdx? p with
 |none=>
  refine .inl ⟨?_,by unfold zIT;rw[h]⟩;rw[List.find?_eq_none];intro x hx;have:=List.findIdx?_eq_none_iff.1 h x hx;rw[this];decide
 |some i=>
  obtain⟨hi,hp,hn⟩:=List.findIdx?_eq_some_iff_getElem.1 h;refine .inr ⟨i,hi,?_,by unfold zIT;rw[h]⟩;rw[List.find?_eq_some_iff_getElem];exact⟨hp,i,hi,rfl,fun j hj=>by have:=hn j hj;simpa using this⟩
theorem zH6 {l:List Con} {ld:D} (hl:zX 8 (cons l) ld) (hn:l.length≤1048576) (hok:∀x∈l,x.Ok) (comp:List UInt8) (g:Heap):zA Tryz.prog 36 [ld, .str comp] g fun r h'=>h'=g∧r=zMc l comp:=by
 have hix:=zKt hl hn (f:=83) (cap:=[.iptr [.str comp] 0]) (p:=fun x=>x.path==comp) (g:=g) fun x _=>zQY x comp g;unfold zMc zDy;rcases zTz (p:=fun x:Con=>x.path==comp) (l:=l) with⟨e1,e2⟩ | ⟨i,hi,e1,e2⟩
 ·rw[e1];rw[e2] at hix;have e3:decide ((-1:Int)<0)=true:=rfl;clear e1 e2;refine zA.of_fn (g:=zSD) mix Tryz.func36 zgQ rfl rfl ?_;simp only[Tryz.f36,gJ]
  repeat' first|simp only[go_sem,zih, *]|apply bc<;>intro hc|(refine zA.mono hix ?_;rintro r h ⟨hq,rfl⟩)
 ·rw[e1];rw[e2] at hix;have e3:decide ((i:Int)<0)=false:=decide_eq_false (by omega);have a1:=zNz hl hi;have h5:l[i].cells[5]? =some l[i].hd:=rfl;obtain⟨q1,q2,_⟩:=zY (hok _ (List.getElem_mem hi)).sl;generalize l[i]=x at *
  clear e1 e2;refine zA.of_fn (g:=zSD) mix Tryz.func36 zgQ rfl rfl ?_;simp only[Tryz.f36,gJ]
  repeat' first|simp only[go_sem,zih, *]|apply bc<;>intro hc|(refine zA.mono hix ?_;rintro r h ⟨hq,rfl⟩)
end Go.V
