/- Rules of the machine of abstract values, part 10. No condition. -/
import Derived.Test.YtalepjdbhjinhaaGreatDoorW35
import Derived.Test.YtalepjdbhjinhaaGreatDoorW22
import Derived.Test.YtalepjdbhjinhaaGreatDoorW32
set_option linter.all false
namespace Go.V
structure Lcl (W:Nat→(Nat→Prop)→Heap→Prop):Prop where
 here:∀k S h,W k S h→∀i,S i→i<h.next
 loc:∀k S h h',W k S h→h.next≤h'.next→(∀i,S i→h'.at' i=h.at' i)→W k S h'
def YLp (id:Nat) (L:LRec) (W:Nat→(Nat→Prop)→Heap→Prop) (k:Nat) (S:Nat→Prop) (h:Heap):Prop:=
 id<h.next∧h.at' id=some (.loop L)∧∃S0,W k S0 h∧¬S0 id∧∀i,S i↔(i=id∨S0 i)
def LpK (id:Nat) (L:LRec) (W:Nat→(Nat→Prop)→Heap→Prop) (k:Nat) (S0:Nat→Prop) (h:Heap) (r:D) (h':Heap):Prop:=
 r= .bool true∧∃S',(∀i,S' i→S0 i∨h.next≤i)∧But (fun i=>i=id∨S0 i) h h'∧h'.at' id=some (.loop L)∧W (k+1) S' h'
section
variable {P:Program} {W:Nat→(Nat→Prop)→Heap→Prop} {id n:Nat} {L:LRec} {el:Nat→List D}
theorem YLp.yld (hW:Lcl W) (go:∀k S0 h3,k<n→id<h3.next→h3.at' id=some (.loop L)→W k S0 h3→¬S0 id→qp P id (el k) h3 (LpK id L W k S0 h3)):Yld P id n el (YLp id L W) fun _ _=>False:=by
 refine⟨fun k S h y i hi=> ?_,fun k S h h' y hn hk=> ?_,fun S h hz=>hz.elim,fun S h h' hz=>hz.elim,fun k S h hk y=> ?_⟩
 ·obtain⟨a1,_,S0,a3,_,a5⟩:=y;rcases(a5 i).1 hi with rfl|hs
  ·exact a1
  ·exact hW.here _ _ _ a3 i hs
 ·obtain⟨a1,a2,S0,a3,a4,a5⟩:=y;exact⟨by omega,by rw[hk id ((a5 id).2 (.inl rfl))];exact a2,S0,hW.loc _ _ _ _ a3 hn fun i hi=>hk i ((a5 i).2 (.inr hi)),a4,a5⟩
 ·obtain⟨a1,a2,S0,a3,a4,a5⟩:=y;refine(go k S0 h hk a1 a2 a3 a4).mono ?_;rintro r h' ⟨rfl,S',b1,b2,b3,b4⟩;refine⟨fun i=>i=id∨S' i,fun i hi=> ?_,⟨b2.1,fun i hi hn=>b2.2 i hi fun e=>hn ((a5 i).2 e)⟩, .inl ⟨rfl,Nat.lt_of_lt_of_le a1 b2.1,b3,S',b4,fun e=> ?_,fun i=>Iff.rfl⟩⟩
  ·rcases hi with rfl|hi
   ·exact .inl ((a5 _).2 (.inl rfl))
   ·exact(b1 i hi).imp (fun q=>(a5 i).2 (.inr q)) fun q=>q
  ·rcases b1 _ e with q|q
   ·exact a4 q
   ·omega
theorem Lp.fin (hW:Lcl W) {B:LRec} (hLB:({ B with st:= .ready,pending:=none } :LRec)=L) {h3 h6:Heap} {S0 S':Nat→Prop} {k:Nat} (h3i:id<h3.next) (hn:¬S0 id) (hid:h6.at' id=some (.loop B)) (hs:∀i,S' i→S0 i∨h3.next≤i) (hb:But (fun i=>i=id∨S0 i) h3 h6) (hw:W (k+1) S' h6) {fr:Frm} :
  zFq (LpK id L W k S0 h3) id .normal fr h6:=by
 refine wP hid ⟨rfl,S',hs,hb.set (.inl (.inl rfl)) _,by rw[zF,hLB],hW.loc _ _ _ _ hw (Nat.le_refl _) fun i hi=>zH fun e=> ?_⟩;subst e;rcases hs _ hi with q|q
 ·exact hn q
 ·omega
theorem zPS {f:FuncId} {args:List D} {h:Heap} {n0:Nat} (hn0:h.next=n0) {S:Nat→Prop} {Q:Exit→Frm→Heap→Prop} {fr:Frm} (hW:Lcl W) (hst:L.st= .ready) (hpe:L.pending=none) (hY:W 0 S h)
  (prod:Yld P n0 n el (YLp n0 L W) (fun _ _=>False)→YLp n0 L W 0 (fun i=>i=n0∨S i) (h.new n0 (.loop L))→zA P f args (h.new n0 (.loop L)) fun _ h'=>∃S',(∀j,S' j→(j=n0∨S j)∨(h.new n0 (.loop L)).next≤j)∧But (fun i=>i=n0∨S i) (h.new n0 (.loop L)) h'∧YLp n0 L W n S' h')
  (go:∀k S0 h3,k<n→n0<h3.next→h3.at' n0=some (.loop L)→W k S0 h3→¬S0 n0→qp P n0 (el k) h3 (LpK n0 L W k S0 h3))
  (fin:∀S' h2,(∀j,S' j→S j∨n0≤j)→But S h h2→W n S' h2→Q .normal fr h2):
  zA P f args (h.new n0 (.loop L)) fun _ h'=>∃r,h'.at' n0=some (.loop r)∧r.st≠ .busy∧zLK r.pending Q fr (h'.del n0):=by
 subst hn0;have hn:(h.new h.next (.loop L)).next=h.next+1:=zK _ _;have hSn:¬S h.next:=fun e=>Nat.lt_irrefl _ (hW.here _ _ _ hY _ e);refine(prod (YLp.yld hW go) ⟨by omega,zQ _ _ _,S,hW.loc _ _ _ _ hY (by omega) fun i hi=>zM (by have:=hW.here _ _ _ hY _ hi;omega),hSn,fun i=>Iff.rfl⟩).mono ?_;rintro r h2 ⟨S',hs,hb,b1,b2,S0,b3,b4,b5⟩;refine⟨L,b2,(by rw[hst];intro q;cases q),?_⟩;rw[hpe,zBt];refine fin S0 _ (fun j hj=> ?_) ⟨by have:=hb.1;show h.next≤h2.next;omega,fun i hi hni=> ?_⟩ (hW.loc _ _ _ _ b3 (Nat.le_refl _) fun i hi=>qP fun e=>by subst e;exact b4 hi)
 ·rcases hs j ((b5 j).2 (.inr hj)) with(q|q)|q
  ·subst q;exact absurd hj b4
  ·exact .inl q
  ·exact .inr (by omega)
 ·have hne:i≠h.next:=by omega
  rw[qP hne,hb.2 i (by omega) (fun e=>e.elim hne hni),zM hne]
end
def WK (m1:Nat) (o1:Obj) (m2:Nat) (o2:Obj) (W:Nat→(Nat→Prop)→Heap→Prop) (k:Nat) (S:Nat→Prop) (h:Heap):Prop:=
 ∃S1,W k S1 h∧(m1<h.next∧m2<h.next)∧(h.at' m1=some o1∧h.at' m2=some o2)∧(¬S1 m1∧¬S1 m2)∧∀i,S i↔(i=m1∨i=m2∨S1 i)
theorem WK.lcl {m1 m2:Nat} {o1 o2:Obj} {W:Nat→(Nat→Prop)→Heap→Prop} (hW:Lcl W):Lcl (WK m1 o1 m2 o2 W):=by
 refine⟨fun k S h y i hi=> ?_,fun k S h h' y hn hk=> ?_⟩
 ·obtain⟨S1,a1,⟨a2,a3⟩,_,_,a5⟩:=y;rcases(a5 i).1 hi with rfl|rfl|q
  ·exact a2
  ·exact a3
  ·exact hW.here _ _ _ a1 i q
 ·obtain⟨S1,a1,⟨a2,a3⟩,⟨a4,a5⟩,a6,a7⟩:=y;exact⟨S1,hW.loc _ _ _ _ a1 hn fun i hi=>hk i ((a7 i).2 (.inr (.inr hi))),⟨by omega,by omega⟩,⟨by rw[hk m1 ((a7 m1).2 (.inl rfl))];exact a4,by rw[hk m2 ((a7 m2).2 (.inr (.inl rfl)))];exact a5⟩,a6,a7⟩
theorem WK.start {m1 m2:Nat} {o1 o2:Obj} {W:Nat→(Nat→Prop)→Heap→Prop} {k:Nat} {S:Nat→Prop} {h:Heap} (hw:W k S h) (h1:m1<h.next) (h2:m2<h.next) (e1:h.at' m1=some o1) (e2:h.at' m2=some o2) (n1:¬S m1) (n2:¬S m2):WK m1 o1 m2 o2 W k (fun i=>i=m1∨i=m2∨S i) h:=
 ⟨S,hw,⟨h1,h2⟩,⟨e1,e2⟩,⟨n1,n2⟩,fun _=>Iff.rfl⟩
theorem WK.stop {m1 m2:Nat} {o1 o2:Obj} {W:Nat→(Nat→Prop)→Heap→Prop} {k:Nat} {S S':Nat→Prop} {h h':Heap} (e1:h.at' m1=some o1) (e2:h.at' m2=some o2) (hs:∀i,S' i→(i=m1∨i=m2∨S i)∨h.next≤i) (hb:But (fun i=>i=m1∨i=m2∨S i) h h') (hw:WK m1 o1 m2 o2 W k S' h'):
  ∃S1,(∀i,S1 i→S i∨h.next≤i)∧But S h h'∧W k S1 h':=by
 obtain⟨S1,a1,_,⟨a4,a5⟩,⟨a6,a7⟩,a8⟩:=hw;refine⟨S1,fun i hi=> ?_,⟨hb.1,fun i hi hn=> ?_⟩,a1⟩
 ·rcases hs i ((a8 i).2 (.inr (.inr hi))) with(rfl|rfl|q)|q
  ·exact absurd hi a6
  ·exact absurd hi a7
  ·exact .inl q
  ·exact .inr q
 ·by_cases q1:i=m1
  ·subst q1;rw[a4,e1]
  ·by_cases q2:i=m2
   ·subst q2;rw[a5,e2]
   ·exact hb.2 i hi fun e=>by rcases e with q|q|q<;>contradiction
def yS {α β:Type} (l:List α) (f:α→List β) (a:Nat):Nat:=((l.take a).flatMap f).length
theorem zQT {α β:Type} {l:List α} {f:α→List β} {a:Nat} (h:a<l.length):yS l f (a+1)=yS l f a+(f l[a]).length:=by
 unfold yS;rw[List.take_succ_eq_append_getElem h,List.flatMap_append,List.length_append];simp
theorem zA0 {α β:Type} (l:List α) (f:α→List β):yS l f 0=0:=by simp[yS]
theorem zB1 {α β:Type} (l:List α) (f:α→List β):yS l f l.length=(l.flatMap f).length:=by simp[yS]
theorem zd7 {α β:Type} {l:List α} {f:α→List β} {a b:Nat} (h:a<l.length) (hb:b<(f l[a]).length):(l.flatMap f)[yS l f a+b]? =some (f l[a])[b]:=by
 have:l.flatMap f=(l.take a).flatMap f++(f l[a]++(l.drop (a+1)).flatMap f):=by
  conv=>lhs;rw[←List.take_append_drop a l,List.drop_eq_getElem_cons h,List.flatMap_append,List.flatMap_cons]
 rw[this,List.getElem?_append_right (by unfold yS;omega)];unfold yS;rw[Nat.add_sub_cancel_left,List.getElem?_append_left hb,List.getElem?_eq_getElem]
abbrev KM (κ:Type):=List (κ×D)
def kmD {κ:Type} (enc:κ→D) (m:KM κ):List (D×D):=m.map fun p=>(enc p.1,p.2)
def zGJ {κ:Type} [BEq κ] (k:κ):KM κ→Option D
 | []=>none
 |(k',v)::m=>if k==k' then some v else zGJ k m
def zGK {κ:Type} [BEq κ] (k:κ) (v:D):KM κ→KM κ
 | []=>[(k,v)]
 |(k',v')::m=>if k==k' then(k,v)::m else(k',v')::zGK k v m
structure KEnc {κ:Type} [BEq κ] (enc:κ→D) (ag:Bool) (ks:List Kd):Prop where
 eq:∀a b,eqK ks (enc a).cells (enc b).cells=some (a==b)
 shape:∀a,zT ag (enc a)=true
section
variable {κ:Type} [BEq κ] {enc:κ→D} {ag:Bool} {ks:List Kd} (E:KEnc enc ag ks)
include E
theorem zKp (k:κ):∀m:KM κ,zBX ks (enc k) (kmD enc m)=some (zGJ k m)
 | []=>rfl
 |(k',v)::m=>by
  have ih:=zKp k m;show(match eqK ks (enc k).cells (enc k').cells with|some true=>some (some v)|some false=>zBX ks (enc k) (kmD enc m)|none=>none)=_
  rw[E.eq];cases h:(k==k') with
  |true=>simp[zGJ,h]
  |false=>simp only[zGJ,h,ih];rfl
theorem zTt (k:κ) (v:D):∀m:KM κ,zN4 ks (enc k) v (kmD enc m)=some (kmD enc (zGK k v m))
 | []=>rfl
 |(k',v')::m=>by
  have ih:=zTt k v m;show(match eqK ks (enc k).cells (enc k').cells with|some true=>some ((enc k,v)::kmD enc m)|some false=>(zN4 ks (enc k) v (kmD enc m)).map ((enc k',v'):: ·)|none=>none)=_
  rw[E.eq];cases h:(k==k') with
  |true=>simp[zGK,h,kmD]
  |false=>simp only[zGK,h,ih];rfl
theorem zMZ (m:KM κ):(kmD enc m).all (fun x=>zT ag x.1)=true:=by
 rw[List.all_eq_true];intro x hx;obtain⟨p,_,rfl⟩:=List.mem_map.1 hx;exact E.shape _
omit E in
theorem zTu [LawfulBEq κ] (k k':κ) (v:D):∀m:KM κ,zGJ k (zGK k' v m)=if k==k' then some v else zGJ k m
 | []=>by simp[zGK,zGJ]
 |(k2,v2)::m=>by
  have ih:=zTu k k' v m;simp only[zGK];by_cases h:k'=k2
  ·subst h;simp only[beq_self_eq_true,if_true,zGJ];by_cases g:k=k'
   ·subst g;simp
   ·simp[g]
  ·have hb:(k'==k2)=false:=by simp[h]
   simp only[hb,Bool.false_eq_true,if_false,zGJ,ih];by_cases g:k=k2
   ·subst g
    have:(k==k')=false:=by simp;exact fun e=>h e.symm
    simp[this]
   ·simp[g]
variable {P:Program} {t kt e:TypeId} {z:D} {id:Nat} {h:Heap} {m:KM κ}
theorem zQU (hi:h.at' id=some (.map (kmD enc m))) (hm:zN5 P t=some (kt,e)) (hk:zN6 P kt=some (ag,ks)) (hz:qS P e=some z) (k:κ) (hr:(k==k)=true) (ok:Bool):
  wB P t (.map id) (enc k) ok h=some (zCO ok z (zGJ k m)):=by
 simp only[wB,hm,hk,hz,zID,hi,zCX,zMZ E,E.eq,E.shape,zKp E,Option.isSome_some,Bool.and_self,if_true]
theorem zKq (hi:h.at' id=some (.map (kmD enc m))) (hm:zN5 P t=some (kt,e)) (hk:zN6 P kt=some (ag,ks)) (k:κ) (v:D):
  yU P t (.map id) (enc k) v h=some (h.set id (.map (kmD enc (zGK k v m)))):=by
 simp only[yU,hm,hk,hi,zMZ E,E.eq,E.shape,zKp E,zTt E,Option.isSome_some,Bool.and_self,if_true]
end
section
variable {W:Nat→(Nat→Prop)→Heap→Prop} {id m1 m2 k:Nat} {o1 o2:Obj} {L B:LRec} {h3 H h5:Heap} {S0 S1 S5:Nat→Prop} {fr:Frm}
theorem Lcl.round (hW:Lcl W) (hw:W k S1 h3) (hS0:∀i,S1 i→S0 i) (hn3:¬S0 id) (hbH:But (fun i=>i=id) h3 H):W k S1 H:=
 hW.loc _ _ _ _ hw hbH.1 fun i hi=>hbH.2 i (hW.here _ _ _ hw i hi) fun e=>hn3 (by rw[←e];exact hS0 i hi)
theorem Lp.call (hW:Lcl W) (hLB:({ B with st:= .ready,pending:=none } :LRec)=L) (h3i:id<h3.next) (hn3:¬S0 id) (hw3:W k S1 h3∧(m1<h3.next∧m2<h3.next)∧(h3.at' m1=some o1∧h3.at' m2=some o2)∧(¬S1 m1∧¬S1 m2)∧∀i,S0 i↔(i=m1∨i=m2∨S1 i))
  (hHi:H.at' id=some (.loop B)) (hbH:But (fun i=>i=id) h3 H) (hs5:∀j,S5 j→S1 j∨H.next≤j) (hb5:But S1 H h5) (hw:W (k+1) S5 h5):
  zFq (LpK id L (WK m1 o1 m2 o2 W) k S0 h3) id .normal fr h5:=by
 obtain⟨_,⟨l1,l2⟩,⟨a1,a2⟩,⟨n1,n2⟩,hS0⟩:=hw3;have hb0:=hbH.1;have hb50:=hb5.1;have i1:m1≠id:=fun e=>hn3 (by rw[←e];exact(hS0 _).2 (.inl rfl));have i2:m2≠id:=fun e=>hn3 (by rw[←e];exact(hS0 _).2 (.inr (.inl rfl)));have i3:¬S1 id:=fun e=>hn3 ((hS0 _).2 (.inr (.inr e)));refine Lp.fin (WK.lcl hW) hLB h3i hn3 (S':=fun i=>i=m1∨i=m2∨S5 i) ?_ (fun i hi=> ?_) ⟨by omega,fun i hi hn=> ?_⟩ ⟨S5,hw,⟨by omega,by omega⟩,⟨?_,?_⟩,⟨fun e=> ?_,fun e=> ?_⟩,fun i=>Iff.rfl⟩
 ·rw[hb5.2 _ (by omega) i3];exact hHi
 ·rcases hi with rfl|rfl|hi
  ·exact .inl ((hS0 _).2 (.inl rfl))
  ·exact .inl ((hS0 _).2 (.inr (.inl rfl)))
  ·exact(hs5 i hi).imp (fun q=>(hS0 _).2 (.inr (.inr q))) fun q=>by omega
 ·rw[hb5.2 i (by omega) fun e=>hn (.inr ((hS0 _).2 (.inr (.inr e)))),hbH.2 i hi fun e=>hn (.inl e)]
 ·rw[hb5.2 _ (by omega) n1,hbH.2 _ l1 i1];exact a1
 ·rw[hb5.2 _ (by omega) n2,hbH.2 _ l2 i2];exact a2
 ·rcases hs5 _ e with q|q
  ·exact n1 q
  ·omega
 ·rcases hs5 _ e with q|q
  ·exact n2 q
  ·omega
theorem Lp.open (hW:Lcl W) (hw3:WK m1 o1 m2 o2 W k S0 h3) (hid:id<h3.next) (hn3:¬S0 id) (o:Obj) (B:LRec):
  ∃S1 H,(h3.new h3.next o).set id (.loop B)=H∧H.next=h3.next+1∧H.at' h3.next=some o∧H.at' id=some (.loop B)∧But (fun j=>j=id) h3 H∧W k S1 H∧((H.at' m1=some o1∧H.at' m2=some o2)∧(m1<H.next∧m2<H.next))∧
   (W k S1 h3∧(m1<h3.next∧m2<h3.next)∧(h3.at' m1=some o1∧h3.at' m2=some o2)∧(¬S1 m1∧¬S1 m2)∧∀i,S0 i↔(i=m1∨i=m2∨S1 i)):=by
 obtain⟨S1,a1,⟨l1,l2⟩,⟨e1,e2⟩,⟨n1,n2⟩,hS0⟩:=hw3;have i1:m1≠id:=fun e=>hn3 (by rw[←e];exact(hS0 _).2 (.inl rfl));have i2:m2≠id:=fun e=>hn3 (by rw[←e];exact(hS0 _).2 (.inr (.inl rfl)));have hnx:((h3.new h3.next o).set id (.loop B)).next=h3.next+1:=by rw[z8,zK]
 have hb:But (fun j=>j=id) h3 ((h3.new h3.next o).set id (.loop B)):=⟨by omega,fun j hj hn=>by rw[zH hn,zM (by omega)]⟩;exact⟨S1,_,rfl,hnx,by rw[zH (by omega),zQ],zF _ _ _,hb,Lcl.round hW a1 (fun i hi=>(hS0 _).2 (.inr (.inr hi))) hn3 hb,⟨⟨by rw[hb.2 _ l1 i1];exact e1,by rw[hb.2 _ l2 i2];exact e2⟩,by omega,by omega⟩,a1,⟨l1,l2⟩,⟨e1,e2⟩,⟨n1,n2⟩,hS0⟩
end
section
variable {l:List (Nat×Obj)} {W:Nat→(Nat→Prop)→Heap→Prop} {id k:Nat} {L B:LRec} {h h3 H h5:Heap} {S S0 S1 S5 S':Nat→Prop} {fr:Frm}
end
open Go.Proofs
set_option maxRecDepth 100000
theorem zaK {α β:Type} {l:List α} {f:α→List β} {a b:Nat} {x:α} (h:l[a]? =some x) (hb:b<(f x).length):(l.flatMap f)[yS l f a+b]? =(f x)[b]? :=by
 obtain⟨h1,rfl⟩:=List.getElem?_eq_some_iff.1 h;rw[zd7 h1 hb,List.getElem?_eq_getElem hb]
theorem zAR {α β:Type} {l:List α} {f:α→List β} {a:Nat} {x:α} (h:l[a]? =some x):yS l f (a+1)=yS l f a+(f x).length:=by
 obtain⟨h1,rfl⟩:=List.getElem?_eq_some_iff.1 h;exact zQT h1
theorem zDx {α β:Type} {f:α→List β} {m:Nat} :∀ {l:List α},(∀x∈l,(f x).length≤m)→(l.flatMap f).length≤l.length*m
 | [],_=>by simp
 |x::l,h=>by
  have:=zDx (f:=f) (l:=l) fun y hy=>h y (List.mem_cons_of_mem _ hy);have h2:=h x (by simp);rw[List.flatMap_cons,List.length_append,List.length_cons,Nat.succ_mul];omega
def IY (Y:Nat→(Nat→Prop)→Heap→Prop) (S:Nat→Prop) (w:Heap) (k:Nat) (h:Heap):Prop:=∃S',(∀j,S' j→S j∨w.next≤j)∧But S w h∧Y k S' h
def zGL {α:Type} (enc:α→List D) (l:List α) (k:Nat):List D:=match l[k]? with
 |some x=>enc x
 |none=>[]
section
variable {P:Program} {α:Type} {enc:α→List D} {L:List α} {id:Nat} {Y:Nat→(Nat→Prop)→Heap→Prop} {S:Nat→Prop} {w h g:Heap} {k:Nat}
theorem IY.start (hY:Y k S w):IY Y S w k w:=⟨S,fun _ hj=> .inl hj,But.refl S w,hY⟩
variable (y:Yld P id L.length (zGL enc L) Y fun _ _=>False)
include y
theorem IY.ext (i:IY Y S w k h) (e:Ext h g):IY Y S w k g:=by
 obtain⟨S',a,b,c⟩:=i;exact⟨S',a,b.trans (e.but S) fun i hi=> .inl hi,y.ext c e⟩
theorem IY.go {x:α} (hx:L[k]? =some x) (i:IY Y S w k h):qp P id (enc x) h fun r h'=>r= .bool true∧IY Y S w (k+1) h':=by
 obtain⟨S',a,b,c⟩:=i;have hg:=y.go k S' h (List.getElem?_eq_some_iff.1 hx).1 c;have he:zGL enc L k=enc x:=by unfold zGL;rw[hx]
 rw[he] at hg;refine hg.mono ?_;rintro r h' ⟨S2,b1,b2,⟨rfl,b3⟩ | ⟨_,b3⟩⟩
 ·have b0:=b.1;refine⟨rfl,S2,fun j hj=> ?_,b.trans b2 a,b3⟩;rcases b1 j hj with q|q
  ·exact a j q
  ·exact .inr (by omega)
 ·exact b3.elim
theorem IY.cut (i:IY Y S w k h) (e:Ext h g):∃S2,Y k S2 g∧(∀j,j<w.next→¬S j→¬S2 j)∧(∀j,h.next≤j→¬S2 j)∧(∀j,j<w.next→¬S j→g.at' j=w.at' j)∧∀k' h',IY Y S2 g k' h'→IY Y S w k' h':=by
 obtain⟨S',a,b,c⟩:=i;have e0:=e.1;have b0:=b.1;have hh:=y.here k S' h c;refine⟨S',y.ext c e,fun j h1 h2 h3=> ?_,fun j h1 h2=> ?_,fun j h1 h2=> ?_,fun k' h' q=> ?_⟩
 ·rcases a j h3 with q|q
  ·exact h2 q
  ·omega
 ·have:=hh j h2;omega
 ·rw[e.2 j (by omega),b.2 j h1 h2]
 ·obtain⟨S2,q1,q2,q3⟩:=q;have q0:=q2.1;refine⟨S2,fun j hj=> ?_,(b.trans (e.but S) fun i hi=> .inl hi).trans q2 a,q3⟩;rcases q1 j hj with q|q
  ·exact a j q
  ·exact .inr (by omega)
end
theorem IY.at {Y:Nat→(Nat→Prop)→Heap→Prop} {S:Nat→Prop} {w h:Heap} {k:Nat} (i:IY Y S w k h) {j:Nat} (h1:j<w.next) (h2:¬S j):h.at' j=w.at' j:=by
 obtain⟨_,_,b,_⟩:=i;exact b.2 j h1 h2
theorem IY.le {Y:Nat→(Nat→Prop)→Heap→Prop} {S:Nat→Prop} {w h:Heap} {k:Nat} (i:IY Y S w k h):w.next≤h.next:=by
 obtain⟨_,_,b,_⟩:=i;exact b.1
theorem zQV {α β:Type} {l:List α} {f:α→List β} {a q:Nat} {x:α} {v:β} (h:l[a]? =some x) (hv:(f x)[q]? =some v):(l.flatMap f)[yS l f a+q]? =some v:=by
 rw[zaK h (List.getElem?_eq_some_iff.1 hv).1];exact hv
theorem qx (h:Heap) (o:Obj):∃G,h.new h.next o=G∧G.next=h.next+1∧G.at' h.next=some o∧Ext h G:=⟨_,rfl,zK _ _,zQ _ _ _,(Ext.refl h).new (Nat.le_refl _) _⟩
def zBQ (u s:Fac):List (Fac×Int):=if(s.kind==2&&s.out==u.out)=true then [(u,s.way)] else []
def zAj (fs:List Fac) (comp:List UInt8) (u:Fac):List (Fac×Int):=if(u.kind==0&&u.comp==comp)=true then fs.flatMap (zBQ u) else []
def wK (fs:List Fac) (comp:List UInt8):List (Fac×Int):=fs.flatMap (zAj fs comp)
def zaL (p:Fac×Int):List D:=[.agg p.1.cells, .int .i64 p.2]
def zKr (x:D) (comp:List UInt8):D:= .fn (.func 138) [] [.iptr [x] 0, .iptr [.str comp] 0]
theorem zQW {fs:List Fac} {x:D} (hx:zX 12 (zK1 fs) x) (comp:List UInt8) (h:Heap):zA Tryz.prog 93 [x, .str comp] h fun r h'=>h'=h∧r=zKr x comp:=by
 rcases hx with⟨rfl,_⟩ | ⟨tk,rfl⟩
 ·refine zA.of_fn (g:=zSF) mix Tryz.func93 zgR rfl rfl ?_;simp only[Tryz.f93,gJ]
  repeat' first|simp only[go_sem,zin,zKr, *]|apply bc<;>intro hc
 ·refine zA.of_fn (g:=zSF) mix Tryz.func93 zgR rfl rfl ?_;simp only[Tryz.f93,gJ]
  repeat' first|simp only[go_sem,zin,zKr, *]|apply bc<;>intro hc
set_option maxHeartbeats 4000000 in
theorem zNu {fs:List Fac} {x:D} (hx:zX 12 (zK1 fs) x) (hlen:fs.length≤1048576) (hok:∀f∈fs,f.Ok) (comp:List UInt8)
  {id:Nat} {Y:Nat→(Nat→Prop)→Heap→Prop} (y:Yld Tryz.prog id (wK fs comp).length (zGL zaL (wK fs comp)) Y fun _ _=>False) {S:Nat→Prop} {w:Heap} (hY:Y 0 S w):
  zA Tryz.prog 138 [.yld id, .iptr [x] 0, .iptr [.str comp] 0] w fun _ h'=>IY Y S w (wK fs comp).length h':=by
 have hll:=zEn hx;obtain⟨x1,x2,_⟩:=zY hx;refine zA.of_fn (g:=zOp) mix Tryz.func138 zc6 rfl rfl ?_;simp only[Tryz.f138,gJ]
 repeat' first|simp only[go_sem,zGA, *]|apply bc<;>intro hc
 refine zD (fun i fr h'=>fr 0= .yld id∧fr 1= .iptr [x] 0∧fr 2= .iptr [.str comp] 0∧fr 8=x∧fr 9= .int .i64 (fs.length:Int)∧fr 10= .int .i64 (i:Int)∧IY Y S w (yS fs (zAj fs comp) i) h') fs.length (by omega) ?_ ?_ ?_
 ·have hst:IY Y S w (yS fs (zAj fs comp) 0) w:=by rw[zA0];exact IY.start hY
  simp only[go_sem,zGA,true_and,and_true,Int.ofNat_zero,hst]
 ·rintro i fr h1 hlt e1 ew ⟨f0,f1,f2,f8,f9,f10,hI⟩;have a1:=zFV hx hlt;have hm:fs[i]∈fs:=List.getElem_mem hlt;have hgi:fs[i]? =some fs[i]:=List.getElem?_eq_getElem hlt;have hw:ze true 12 fs[i].cells 0=some (.agg fs[i].cells):=zB rfl (by omega);have hst:=zJJ (hok _ hm);have hsu:=zAR (f:=zAj fs comp) hgi;generalize fs[i]=u at *
  have k0:u.cells[0]? =some (.int .i64 u.kind):=rfl;have k1:u.cells[1]? =some (.str u.comp):=rfl;have k2:u.cells[2]? =some (.str u.out):=rfl;obtain⟨G,hG,hGn,g1,hE⟩:=qx h1 (.row u.cells);have hIG:=hI.ext y hE;have hst1:=hst h1 h1.next;rw[hG] at hst1;clear hst;cases hk:(u.kind==0) with
  |false=>
   have hfin:IY Y S w (yS fs (zAj fs comp) (i+1)) G:=by
    rw[hsu,show zAj fs comp u= [] from(by unfold zAj;rw[hk];rfl)];exact hIG
   clear hsu hIG hI hgi hE y hok
   repeat' first|simp only[go_sem,zGA, *]|apply bc<;>intro hc
  |true=>
  cases hc:(u.comp==comp) with
  |false=>
   have hfin:IY Y S w (yS fs (zAj fs comp) (i+1)) G:=by
    rw[hsu,show zAj fs comp u= [] from(by unfold zAj;rw[hk,hc];rfl)];exact hIG
   clear hsu hIG hI hgi hE y hok
   repeat' first|simp only[go_sem,zGA, *]|apply bc<;>intro hc
  |true=>
  have hP:zAj fs comp u=fs.flatMap (zBQ u):=by unfold zAj;rw[hk,hc];rfl
  obtain⟨S1,hY1,c1,c2,c3,back⟩:=hI.cut y hE;have hI0:IY Y S1 G (yS fs (zAj fs comp) i+yS fs (zBQ u) 0) G:=by rw[zA0,Nat.add_zero];exact IY.start hY1
  have hend:∀ {h2:Heap},IY Y S1 G (yS fs (zAj fs comp) i+yS fs (zBQ u) fs.length) h2→IY Y S w (yS fs (zAj fs comp) (i+1)) h2:=fun q=>by
   have:=back _ _ q;rw[zB1] at this;rw[hsu,hP];exact this
  have hel0:∀ {j:Nat} {s:Fac},fs[j]? =some s→zBQ u s= [(u,s.way)]→(wK fs comp)[yS fs (zAj fs comp) i+yS fs (zBQ u) j]? =some (u,s.way):=fun {j s} h1 h2=>zQV hgi (by
   rw[hP];have:=zQV (f:=zBQ u) (q:=0) h1 (by rw[h2];rfl)
   rwa [Nat.add_zero] at this)
  clear hsu hIG hI c1 c3 hY1 hgi hP back
  repeat' first|simp only[go_sem,zGA, *]|apply bc<;>intro hc
  refine zD (fun j fr h'=>fr 0= .yld id∧fr 1= .iptr [x] 0∧fr 2= .iptr [.str comp] 0∧fr 5= .ptr h1.next 0∧fr 8=x∧fr 9= .int .i64 (fs.length:Int)∧fr 10= .int .i64 (i:Int)∧fr 23=x∧fr 24= .int .i64 (fs.length:Int)∧fr 25= .int .i64 (j:Int)∧IY Y S1 G (yS fs (zAj fs comp) i+yS fs (zBQ u) j) h') fs.length (by omega) ?_ ?_ ?_
  ·simp only[go_sem,zGA,true_and,and_true,Int.ofNat_zero,f0,f1,f2,f8,f9,f10,hI0]
  ·clear f0 f1 f2 f8 f9 f10 hI0 hend;rintro j fr h2 hltj e2 ew2 ⟨f0,f1,f2,f5,f8,f9,f10,f23,f24,f25,hI2⟩;have b1:=zFV hx hltj;have hms:fs[j]∈fs:=List.getElem_mem hltj;have hgj:fs[j]? =some fs[j]:=List.getElem?_eq_getElem hltj;have hws:ze true 12 fs[j].cells 0=some (.agg fs[j].cells):=zB rfl (by omega);have hst2:=zJJ (hok _ hms);have hsv:=zAR (f:=zBQ u) hgj;have hel:=hel0 hgj;generalize fs[j]=s at *
   have l0:s.cells[0]? =some (.int .i64 s.kind):=rfl;have l2:s.cells[2]? =some (.str s.out):=rfl;have l4:s.cells[4]? =some (.int .i64 s.way):=rfl;obtain⟨G2,hG2,hG2n,q1,hE2⟩:=qx h2 (.row s.cells);have hIG2:=hI2.ext y hE2;have q2:G2.at' h1.next=some (.row u.cells):=by rw[hIG2.at (by omega) (c2 _ (Nat.le_refl _))];exact g1
   have hst3:=hst2 h2 h2.next;rw[hG2] at hst3;cases hk2:(s.kind==2) with
   |false=>
    have hfin:IY Y S1 G (yS fs (zAj fs comp) i+yS fs (zBQ u) (j+1)) G2:=by
     rw[hsv,show zBQ u s= [] from(by unfold zBQ;rw[hk2];rfl)];exact hIG2
    clear hsv hel hel0 hIG2 hI2 hst2 hst1 hE2 hE y hok hgj g1 hG a1 c2
    repeat' first|simp only[go_sem,zGA, *]|apply bc<;>intro hc
   |true=>
   cases ho:(s.out==u.out) with
   |false=>
    have hfin:IY Y S1 G (yS fs (zAj fs comp) i+yS fs (zBQ u) (j+1)) G2:=by
     rw[hsv,show zBQ u s= [] from(by unfold zBQ;rw[hk2,ho];rfl)];exact hIG2
    clear hsv hel hel0 hIG2 hI2 hst2 hst1 hE2 hE y hok hgj g1 hG a1 c2
    repeat' first|simp only[go_sem,zGA, *]|apply bc<;>intro hc
   |true=>
    have hps:zBQ u s= [(u,s.way)]:=by unfold zBQ;rw[hk2,ho];rfl
    rw[hps] at hsv;have hgo:=hIG2.go y (hel hps);have hfin:∀ {h5:Heap},IY Y S1 G (yS fs (zAj fs comp) i+yS fs (zBQ u) j+1) h5→IY Y S1 G (yS fs (zAj fs comp) i+yS fs (zBQ u) (j+1)) h5:=fun q=>by rw[hsv];exact q
    clear hsv hel hel0 hIG2 hI2 hst2 hst1 hE2 hE y hok hgj g1 hG a1 c2 hps
    repeat' first|simp only[go_sem,zGA, *]|apply bc<;>intro hc
    refine hgo.mono ?_;rintro r h5 ⟨rfl,hI5⟩;have hfin:=hfin hI5;clear hgo
    repeat' first|simp only[go_sem,zGA, *]|apply bc<;>intro hc
  ·clear f0 f1 f2 f8 f9 f10 hI0 hel0;rintro fr h2 e2 ⟨f0,f1,f2,f5,f8,f9,f10,f23,f24,f25,hI2⟩;have hfin:=hend hI2;clear hend hI2 y hok
   repeat' first|simp only[go_sem,zGA, *]|apply bc<;>intro hc
 ·rintro fr h2 e1 ⟨f0,f1,f2,f8,f9,f10,hI⟩;have hfin:IY Y S w (wK fs comp).length h2:=by rw[show(wK fs comp).length=yS fs (zAj fs comp) fs.length from(zB1 _ _).symm];exact hI
  repeat' first|simp only[go_sem,zGA, *]|apply bc<;>intro hc
end Go.V
