/- Rules of the machine of abstract values, part 8. No condition. -/
import Derived.Test.YtmhkjfajejaniaaGreatDoorW31
import Derived.Test.YtmhkjfajejaniaaGreatDoorW30
set_option linter.all false
namespace Go.V
def zNb (h0 h:Heap) (sz:Nat) (xs:List (List D)) (d:D):Prop:=Ext h0 h∧((d= .nilsl∧xs= [])∨∃id,d= .rs id sz 0 xs.length∧h.at' id=some (.row xs.flatten)∧h0.next≤id∧id<h.next∧xs≠[])
section
variable {h0 h h':Heap} {sz:Nat} {xs:List (List D)} {d:D}
theorem zNb.start (he:Ext h0 h) (sz:Nat):zNb h0 h sz [] .nilsl:=⟨he, .inl ⟨rfl,rfl⟩⟩
theorem zNb.ext (ho:zNb h0 h sz xs d) (he:Ext h h'):zNb h0 h' sz xs d:=by
 refine⟨ho.1.trans he,?_⟩;rcases ho.2 with h1| ⟨id,rfl,h1,h2,h3,h4⟩
 ·exact .inl h1
 ·exact .inr ⟨id,rfl,by rw[he.2 _ h3];exact h1,h2,Nat.lt_of_lt_of_le h3 he.1,h4⟩
theorem zNb.trunc (ho:zNb h0 h sz xs d) (hxs:∀y∈xs,y.length=sz) (x:D):qi d x h=h:=by
 rcases ho.2 with⟨rfl,_⟩ | ⟨id,rfl,h1,_⟩
 ·rfl
 ·unfold qi;simp only;split
  ·rfl
  ·rw[h1];simp only;rw[if_neg (by rw[yv hxs];simp)]
theorem zUm {P:Program} {e x:TypeId} {cs:List D} (hu:P.underlying e=some (.slice x)):zAv P e cs= .row cs:=by simp[zAv,hu]
theorem zNb.app {P:Program} {ys:List (List D)} {tk:Tk} {t e:TypeId} (ho:zNb h0 h sz xs d) (he:qC P t=some e) (hz:zGk P e=true) (hs:szT P e=sz) (hp:0<sz) (hr:∀cs,zAv P e cs= .row cs) (hxs:∀y∈xs,y.length=sz) (hys:∀y∈ys,y.length=sz) (hy0:ys≠[])
  (hb:(xs.length+ys.length)*yL P e≤lim) (hl:xs.length+ys.length≤lim):∃d' G,z8 P true h.next t d (.sl sz ys tk) h=some (d',G)∧zNb h0 G sz (xs++ys) d'∧qi d (.sl sz ys tk) h=h:=by
 have htr:=ho.trunc hxs (.sl sz ys tk)
 suffices∃d' G,z8 P true h.next t d (.sl sz ys tk) h=some (d',G)∧zNb h0 G sz (xs++ys) d' from by
  obtain⟨d',G,q1,q2⟩:=this;exact⟨d',G,q1,q2,htr⟩
 clear htr;have hfl:ys.flatten.length=ys.length*sz:=yv hys;have hlen:0<ys.length:=List.length_pos_iff.2 hy0;obtain⟨hx,hc⟩:=ho;simp only[z8,he,hz,hs,zSJ,if_true,hfl,Nat.mul_div_cancel _ hp];have hx2:∀o,Ext h0 (h.new h.next o):=fun o=>hx.new hx.1 o;rcases hc with⟨rfl,rfl⟩ | ⟨id,rfl,h1,h2,h3,h4⟩
 ·refine⟨.rs h.next sz 0 ys.length,h.new h.next (.row ys.flatten),?_,hx2 _, .inr ⟨h.next,by simp,by rw[zJ];rfl,hx.1,by rw[zD];omega,by simpa using hy0⟩⟩;simp only[qO];rw[if_neg (by omega),if_pos (by simp only[Bool.and_eq_true,decide_eq_true_eq];simp only[List.length_nil,Nat.zero_add] at hb hl;exact⟨hb,hl⟩)];simp[hr]
 ·have hf2:xs.flatten.length=xs.length*sz:=yv hxs;have hE:Ext h0 ((h.del id).new h.next (.row (xs.flatten++ys.flatten))):=by
   refine⟨Nat.le_trans hx.1 (by show h.next≤max h.next _;omega),fun i hi=> ?_⟩;rw[zF (by have:=hx.1;omega),yV (by omega)];exact hx.2 i hi
  refine⟨.rs h.next sz 0 (xs.length+ys.length),(h.del id).new h.next (.row (xs.flatten++ys.flatten)),?_,hE, .inr ⟨h.next,by simp,by rw[zJ,List.flatten_append],hx.1,by show h.next<max h.next (h.next+1);omega,by simp[hy0]⟩⟩;simp only[qO,Bool.true_and,decide_true];rw[if_pos (by simp only[Bool.and_eq_true,decide_eq_true_eq];exact⟨hb,hl⟩)];simp only[h1,hf2,if_true,hr]
end
structure Own2 (h0 h:Heap) (s1:Nat) (xs:List (List D)) (d:D) (s2:Nat) (ys:List (List D)) (e:D):Prop where
 a:Own h0 h s1 xs d
 b:Own h0 h s2 ys e
 ap:∀i,wo d i→wo e i→False
section
variable {h0 h h':Heap} {s1 s2:Nat} {xs ys:List (List D)} {d e:D}
theorem Own2.start (he:Ext h0 h) (s1 s2:Nat):Own2 h0 h s1 [] .nilsl s2 [] .nilsl:=⟨Own.start he _,Own.start he _,fun i h=>h.elim⟩
theorem Own2.ext (ho:Own2 h0 h s1 xs d s2 ys e) (he:Ext h h'):Own2 h0 h' s1 xs d s2 ys e:=⟨ho.a.ext he,ho.b.ext he,ho.ap⟩
theorem Own2.swap (ho:Own2 h0 h s1 xs d s2 ys e):Own2 h0 h s2 ys e s1 xs d:=⟨ho.b,ho.a,fun i q p=>ho.ap i p q⟩
theorem Own2.appH {P:Program} {zs:List (List D)} {tk:Tk} {t u:TypeId} {K:D→Heap→Prop} {w:HidR K} (ho:Own2 h0 h s1 xs d s2 ys e) (he:qC P t=some u) (hz:zGk P u=true) (hs:szT P u=s1) (hp:0<s1) (hzs:∀y∈zs,y.length=s1) (hz0:zs≠[])
  (hb:(xs.length+zs.length)*yL P u≤lim) (hl:xs.length+zs.length≤lim) (hK:∀d' h',Own2 h0 h' s1 (xs++zs) d' s2 ys e→K d' h'):zae (z8 P false h.next t d (.sl s1 zs tk) h) K w:=
 ho.a.2.1.app2 he hz hs hp hzs hz0 hb hl fun d' h' o n keep tk c f=>hK d' h' ⟨⟨⟨Nat.le_trans ho.a.1.1 n,fun i hi=>by rw[keep i (Nat.lt_of_lt_of_le hi ho.a.1.1) (fun q=>by have:=ho.a.2.2 i q;omega)];exact ho.a.1.2 i hi⟩,o,fun i hi=>Nat.le_trans ho.a.1.1 (tk i hi)⟩,
  ⟨⟨Nat.le_trans ho.a.1.1 n,fun i hi=>by rw[keep i (Nat.lt_of_lt_of_le hi ho.a.1.1) (fun q=>by have:=ho.a.2.2 i q;omega)];exact ho.a.1.2 i hi⟩,ho.b.2.1.loc n fun i hi=>keep i (ho.b.2.1.tok hi).1 fun q=>ho.ap i q hi,ho.b.2.2⟩,
  fun i q1 q2=>by have:=tk i q1;have:=(ho.b.2.1.tok q2).1;omega⟩
end
section
variable {h0 h h':Heap} {sz:Nat} {xs:List (List D)} {d:D}
theorem Own.appK {P:Program} {ys:List (List D)} {tk:Tk} {t e:TypeId} {K:D→Heap→Prop} {w:HidR K} (ho:Own h0 h sz xs d) (he:qC P t=some e) (hz:zGk P e=true) (hs:szT P e=sz) (hp:0<sz) (hys:∀y∈ys,y.length=sz) (hy0:ys≠[])
  (hb:(xs.length+ys.length)*yL P e≤lim) (hl:xs.length+ys.length≤lim) (hK:∀d' h',Own h0 h' sz (xs++ys) d'→h.next≤h'.next→(∀i,i<h.next→h.at' i≠some .tok→h'.at' i=h.at' i)→K d' h'):zae (z8 P false h.next t d (.sl sz ys tk) h) K w:=
 ho.2.1.app2 he hz hs hp hys hy0 hb hl fun d' h' o n keep tk c f=>hK d' h' ⟨⟨Nat.le_trans ho.1.1 n,fun i hi=>by rw[keep i (Nat.lt_of_lt_of_le hi ho.1.1) (fun q=>by have:=ho.2.2 i q;omega)];exact ho.1.2 i hi⟩,o,fun i hi=>Nat.le_trans ho.1.1 (tk i hi)⟩ n fun i hi hn=>keep i hi fun q=>hn (ho.2.1.tok q).2
theorem Own.setK (ho:Own h0 h sz xs d) {id:Nat} {o:Obj} (hi:h0.next≤id) (hr:h.at' id=some o) (hne:o≠ .tok) (o':Obj):Own h0 (h.set id o') sz xs d:=
 ⟨ho.1.set hi _,ho.2.1.loc (Nat.le_refl _) fun i ht=>zE fun e=>by subst e;have:=(ho.2.1.tok ht).2;rw[hr] at this;exact hne (Option.some.inj this),ho.2.2⟩
theorem Own2.appK {P:Program} {s1 s2:Nat} {ys zs:List (List D)} {e:D} {tk:Tk} {t u:TypeId} {K:D→Heap→Prop} {w:HidR K} (ho:Own2 h0 h s1 xs d s2 ys e) (he:qC P t=some u) (hz:zGk P u=true) (hs:szT P u=s1) (hp:0<s1) (hzs:∀y∈zs,y.length=s1) (hz0:zs≠[])
  (hb:(xs.length+zs.length)*yL P u≤lim) (hl:xs.length+zs.length≤lim) (hK:∀d' h',Own2 h0 h' s1 (xs++zs) d' s2 ys e→h.next≤h'.next→(∀i,i<h.next→h.at' i≠some .tok→h'.at' i=h.at' i)→K d' h'):zae (z8 P false h.next t d (.sl s1 zs tk) h) K w:=
 ho.a.2.1.app2 he hz hs hp hzs hz0 hb hl fun d' h' o n keep tk c f=>hK d' h' ⟨⟨⟨Nat.le_trans ho.a.1.1 n,fun i hi=>by rw[keep i (Nat.lt_of_lt_of_le hi ho.a.1.1) (fun q=>by have:=ho.a.2.2 i q;omega)];exact ho.a.1.2 i hi⟩,o,fun i hi=>Nat.le_trans ho.a.1.1 (tk i hi)⟩,
  ⟨⟨Nat.le_trans ho.a.1.1 n,fun i hi=>by rw[keep i (Nat.lt_of_lt_of_le hi ho.a.1.1) (fun q=>by have:=ho.a.2.2 i q;omega)];exact ho.a.1.2 i hi⟩,ho.b.2.1.loc n fun i hi=>keep i (ho.b.2.1.tok hi).1 fun q=>ho.ap i q hi,ho.b.2.2⟩,
  fun i q1 q2=>by have:=tk i q1;have:=(ho.b.2.1.tok q2).1;omega⟩ n fun i hi hn=>keep i hi fun q=>hn (ho.a.2.1.tok q).2
theorem Own2.setK {s1 s2:Nat} {ys:List (List D)} {e:D} (ho:Own2 h0 h s1 xs d s2 ys e) {id:Nat} {o:Obj} (hi:h0.next≤id) (hr:h.at' id=some o) (hne:o≠ .tok) (o':Obj):Own2 h0 (h.set id o') s1 xs d s2 ys e:=⟨ho.a.setK hi hr hne o',ho.b.setK hi hr hne o',ho.ap⟩
end
structure Lcl (W:Nat→(Nat→Prop)→Heap→Prop):Prop where
 here:∀k S h,W k S h→∀i,S i→i<h.next
 loc:∀k S h h',W k S h→h.next≤h'.next→(∀i,S i→h'.at' i=h.at' i)→W k S h'
def YLp (id:Nat) (L:LRec) (W:Nat→(Nat→Prop)→Heap→Prop) (k:Nat) (S:Nat→Prop) (h:Heap):Prop:=
 id<h.next∧h.at' id=some (.loop L)∧∃S0,W k S0 h∧¬S0 id∧∀i,S i↔(i=id∨S0 i)
def LpK (id:Nat) (L:LRec) (W:Nat→(Nat→Prop)→Heap→Prop) (k:Nat) (S0:Nat→Prop) (h:Heap) (r:D) (h':Heap):Prop:=
 r= .bool true∧∃S',(∀i,S' i→S0 i∨h.next≤i)∧But (fun i=>i=id∨S0 i) h h'∧h'.at' id=some (.loop L)∧W (k+1) S' h'
section
variable {P:Program} {W:Nat→(Nat→Prop)→Heap→Prop} {id n:Nat} {L:LRec} {el:Nat→List D}
theorem YLp.yld (hW:Lcl W) (go:∀k S0 h3,k<n→id<h3.next→h3.at' id=some (.loop L)→W k S0 h3→¬S0 id→yT P id (el k) h3 (LpK id L W k S0 h3)):Yld P id n el (YLp id L W) fun _ _=>False:=by
 refine⟨fun k S h y i hi=> ?_,fun k S h h' y hn hk=> ?_,fun S h hz=>hz.elim,fun S h h' hz=>hz.elim,fun k S h hk y=> ?_⟩
 ·obtain⟨a1,_,S0,a3,_,a5⟩:=y;rcases(a5 i).1 hi with rfl|hs
  ·exact a1
  ·exact hW.here _ _ _ a3 i hs
 ·obtain⟨a1,a2,S0,a3,a4,a5⟩:=y;exact⟨by omega,by rw[hk id ((a5 id).2 (.inl rfl))];exact a2,S0,hW.loc _ _ _ _ a3 hn fun i hi=>hk i ((a5 i).2 (.inr hi)),a4,a5⟩
 ·obtain⟨a1,a2,S0,a3,a4,a5⟩:=y;refine(go k S0 h hk a1 a2 a3 a4).mono ?_;rintro r h' ⟨rfl,S',b1,b2,b3,b4⟩;refine⟨fun i=>i=id∨S' i,fun i hi=> ?_,⟨b2.1,fun i hi hn=>b2.2 i hi fun e=>hn ((a5 i).2 e)⟩, .inl ⟨rfl,Nat.lt_of_lt_of_le a1 b2.1,b3,S',b4,fun e=> ?_,fun i=>Iff.rfl⟩⟩
  ·rcases hi with rfl|hi
   ·exact .inl ((a5 _).2 (.inl rfl))
   ·exact(b1 i hi).imp (fun q=>(a5 i).2 (.inr q)) fun q=>q
  ·rcases b1 _ e with q|q
   ·exact a4 q
   ·omega
theorem Lp.fin (hW:Lcl W) {B:LRec} (hLB:({ B with st:= .ready,pending:=none } :LRec)=L) {h3 h6:Heap} {S0 S':Nat→Prop} {k:Nat} (h3i:id<h3.next) (hn:¬S0 id) (hid:h6.at' id=some (.loop B)) (hs:∀i,S' i→S0 i∨h3.next≤i) (hb:But (fun i=>i=id∨S0 i) h3 h6) (hw:W (k+1) S' h6) {fr:Frm} :
  wB (LpK id L W k S0 h3) id .normal fr h6:=by
 refine qk hid ⟨rfl,S',hs,hb.set (.inl (.inl rfl)) _,by rw[zC,hLB],hW.loc _ _ _ _ hw (Nat.le_refl _) fun i hi=>zE fun e=> ?_⟩;subst e;rcases hs _ hi with q|q
 ·exact hn q
 ·omega
theorem wQ {f:FuncId} {args:List D} {h:Heap} {n0:Nat} (hn0:h.next=n0) {S:Nat→Prop} {Q:Exit→Frm→Heap→Prop} {fr:Frm} (hW:Lcl W) (hst:L.st= .ready) (hpe:L.pending=none) (hY:W 0 S h)
  (prod:Yld P n0 n el (YLp n0 L W) (fun _ _=>False)→YLp n0 L W 0 (fun i=>i=n0∨S i) (h.new n0 (.loop L))→zA P f args (h.new n0 (.loop L)) fun _ h'=>∃S',(∀j,S' j→(j=n0∨S j)∨(h.new n0 (.loop L)).next≤j)∧But (fun i=>i=n0∨S i) (h.new n0 (.loop L)) h'∧YLp n0 L W n S' h')
  (go:∀k S0 h3,k<n→n0<h3.next→h3.at' n0=some (.loop L)→W k S0 h3→¬S0 n0→yT P n0 (el k) h3 (LpK n0 L W k S0 h3))
  (fin:∀S' h2,(∀j,S' j→S j∨n0≤j)→But S h h2→W n S' h2→Q .normal fr h2):
  zA P f args (h.new n0 (.loop L)) fun _ h'=>∃r,h'.at' n0=some (.loop r)∧r.st≠ .busy∧zKM r.pending Q fr (h'.del n0):=by
 subst hn0;have hn:(h.new h.next (.loop L)).next=h.next+1:=zD _ _;have hSn:¬S h.next:=fun e=>Nat.lt_irrefl _ (hW.here _ _ _ hY _ e);refine(prod (YLp.yld hW go) ⟨by omega,zJ _ _ _,S,hW.loc _ _ _ _ hY (by omega) fun i hi=>zF (by have:=hW.here _ _ _ hY _ hi;omega),hSn,fun i=>Iff.rfl⟩).mono ?_;rintro r h2 ⟨S',hs,hb,b1,b2,S0,b3,b4,b5⟩;refine⟨L,b2,(by rw[hst];intro q;cases q),?_⟩;rw[hpe,zBF];refine fin S0 _ (fun j hj=> ?_) ⟨by have:=hb.1;show h.next≤h2.next;omega,fun i hi hni=> ?_⟩ (hW.loc _ _ _ _ b3 (Nat.le_refl _) fun i hi=>yV fun e=>by subst e;exact b4 hi)
 ·rcases hs j ((b5 j).2 (.inr hj)) with(q|q)|q
  ·subst q;exact absurd hj b4
  ·exact .inl q
  ·exact .inr (by omega)
 ·have hne:i≠h.next:=by omega
  rw[yV hne,hb.2 i (by omega) (fun e=>e.elim hne hni),zF hne]
end
def WK (m1:Nat) (o1:Obj) (m2:Nat) (o2:Obj) (W:Nat→(Nat→Prop)→Heap→Prop) (k:Nat) (S:Nat→Prop) (h:Heap):Prop:=
 ∃S1,W k S1 h∧(m1<h.next∧m2<h.next)∧(h.at' m1=some o1∧h.at' m2=some o2)∧(¬S1 m1∧¬S1 m2)∧∀i,S i↔(i=m1∨i=m2∨S1 i)
theorem WK.lcl {m1 m2:Nat} {o1 o2:Obj} {W:Nat→(Nat→Prop)→Heap→Prop} (hW:Lcl W):Lcl (WK m1 o1 m2 o2 W):=by
 refine⟨fun k S h y i hi=> ?_,fun k S h h' y hn hk=> ?_⟩
 ·obtain⟨S1,a1,⟨a2,a3⟩,_,_,a5⟩:=y;rcases(a5 i).1 hi with rfl|rfl|q
  ·exact a2
  ·exact a3
  ·exact hW.here _ _ _ a1 i q
 ·obtain⟨S1,a1,⟨a2,a3⟩,⟨a4,a5⟩,a6,a7⟩:=y;exact⟨S1,hW.loc _ _ _ _ a1 hn fun i hi=>hk i ((a7 i).2 (.inr (.inr hi))),⟨by omega,by omega⟩,⟨by rw[hk m1 ((a7 m1).2 (.inl rfl))];exact a4,by rw[hk m2 ((a7 m2).2 (.inr (.inl rfl)))];exact a5⟩,a6,a7⟩
theorem WK.start {m1 m2:Nat} {o1 o2:Obj} {W:Nat→(Nat→Prop)→Heap→Prop} {k:Nat} {S:Nat→Prop} {h:Heap} (hw:W k S h) (h1:m1<h.next) (h2:m2<h.next) (e1:h.at' m1=some o1) (e2:h.at' m2=some o2) (n1:¬S m1) (n2:¬S m2):WK m1 o1 m2 o2 W k (fun i=>i=m1∨i=m2∨S i) h:=
 ⟨S,hw,⟨h1,h2⟩,⟨e1,e2⟩,⟨n1,n2⟩,fun _=>Iff.rfl⟩
theorem WK.stop {m1 m2:Nat} {o1 o2:Obj} {W:Nat→(Nat→Prop)→Heap→Prop} {k:Nat} {S S':Nat→Prop} {h h':Heap} (e1:h.at' m1=some o1) (e2:h.at' m2=some o2) (hs:∀i,S' i→(i=m1∨i=m2∨S i)∨h.next≤i) (hb:But (fun i=>i=m1∨i=m2∨S i) h h') (hw:WK m1 o1 m2 o2 W k S' h'):
  ∃S1,(∀i,S1 i→S i∨h.next≤i)∧But S h h'∧W k S1 h':=by
 obtain⟨S1,a1,_,⟨a4,a5⟩,⟨a6,a7⟩,a8⟩:=hw;refine⟨S1,fun i hi=> ?_,⟨hb.1,fun i hi hn=> ?_⟩,a1⟩
 ·rcases hs i ((a8 i).2 (.inr (.inr hi))) with(rfl|rfl|q)|q
  ·exact absurd hi a6
  ·exact absurd hi a7
  ·exact .inl q
  ·exact .inr q
 ·by_cases q1:i=m1
  ·subst q1;rw[a4,e1]
  ·by_cases q2:i=m2
   ·subst q2;rw[a5,e2]
   ·exact hb.2 i hi fun e=>by rcases e with q|q|q<;>contradiction
theorem WK.st {m1 m2:Nat} {o1 o2:Obj} {W:Nat→(Nat→Prop)→Heap→Prop} {k:Nat} {S:Nat→Prop} {h:Heap} (hw:WK m1 o1 m2 o2 W k S h):(h.at' m1=some o1∧h.at' m2=some o2)∧(m1<h.next∧m2<h.next):=by
 obtain⟨S1,_,b,a,_⟩:=hw;exact⟨a,b⟩
def yH {α β:Type} (l:List α) (f:α→List β) (a:Nat):Nat:=((l.take a).flatMap f).length
theorem zRh {α β:Type} {l:List α} {f:α→List β} {a:Nat} (h:a<l.length):yH l f (a+1)=yH l f a+(f l[a]).length:=by
 unfold yH;rw[List.take_succ_eq_append_getElem h,List.flatMap_append,List.length_append];simp
theorem zAe {α β:Type} (l:List α) (f:α→List β):yH l f 0=0:=by simp[yH]
theorem zAp {α β:Type} (l:List α) (f:α→List β):yH l f l.length=(l.flatMap f).length:=by simp[yH]
theorem zYp {α β:Type} {l:List α} {f:α→List β} {a b:Nat} (h:a<l.length) (hb:b<(f l[a]).length):(l.flatMap f)[yH l f a+b]? =some (f l[a])[b]:=by
 have:l.flatMap f=(l.take a).flatMap f++(f l[a]++(l.drop (a+1)).flatMap f):=by
  conv=>lhs;rw[←List.take_append_drop a l,List.drop_eq_getElem_cons h,List.flatMap_append,List.flatMap_cons]
 rw[this,List.getElem?_append_right (by unfold yH;omega)];unfold yH;rw[Nat.add_sub_cancel_left,List.getElem?_append_left hb,List.getElem?_eq_getElem]
theorem zjN {α β:Type} {l:List α} {f:α→List β} {a b:Nat} (h:a<l.length) (hb:b<(f l[a]).length):yH l f a+b<(l.flatMap f).length:=(List.getElem?_eq_some_iff.1 (zYp h hb)).1
open Go.Proofs
set_option maxRecDepth 100000
structure Trm where
 a:List UInt8
 b:List UInt8
def Trm.cells (l:Trm):List D:=[.str l.a, .str l.b]
def qN (l:List Trm):List (List D):=l.map Trm.cells
theorem yc (l:List Trm):(qN l).length=l.length:=List.length_map ..
theorem zK7 {l:List Trm} {i:Nat} (h:i<l.length):(qN l)[i]? =some l[i].cells:=by simp[qN,h]
theorem ql {l:List Trm} {d:D} (hd:zf 2 (qN l) d) (h:Heap):zCr Tryz.prog 62 d h=some (.int .i64 l.length):=by rw[yo hd Tryz.underlying62,yc]
theorem zBv {l:List Trm} {d:D} (hd:zf 2 (qN l) d) {i:Nat} (hi:i<l.length):zT Tryz.prog 62 d (.int .i64 (i:Int))=some (.iptr l[i].cells 0):=zY hd yu qz (zK7 hi)
def zN (a b:Trm):Int:=orL [zDo a.a b.a,zDo a.b b.b]
theorem zD7 (a b:Trm) (g:Heap):zA Tryz.prog 176 [.agg a.cells, .agg b.cells] g fun r h'=>h'=g∧r= .int .i64 (zN a b):=by
 have h1:=zMj a.a b.a;have h2:=zMj a.b b.b;have h3:=zfW (l:=[zDo a.a b.a,zDo a.b b.b]) (zf.mk .full) (by simp);have hr:=fun nid=>zjF (zDo a.a b.a) (zDo a.b b.b) nid;have hc:orL [zDo a.a b.a,zDo a.b b.b]=zN a b:=rfl;rw[hc] at h3;have hle0:∀h:Heap,HLe Heap.emp h:=fun h i ob e=>by cases e
 refine zA.of_fn (g:=zTo) mix Tryz.func176 ziX rfl rfl ?_;simp only[Tryz.f176,gJ];simp only[Trm.cells]
 repeat' first|simp only[go_sem,zeV, *]|apply bc<;>intro hc
 refine zx Heap.emp [(0, .no,true),(1, .no,true),(2, .no,true),(3, .no,true),(5, .no,true),(6, .st,true),(7, .no,true),(8, .st,true),(4, .no,true),(9, .no,true),(10, .no,true),(11, .no,true),(12, .no,true)] (by kernel_rfl) (by kernel_rfl) (fun i ob e=>by cases e) ?_
 repeat' first|simp only[go_sem,zeV, *]|apply bc<;>intro hc|(refine zA.mono (h1 _) ?_;rintro r h ⟨rfl,rfl⟩)|(refine zA.mono (h2 _) ?_;rintro r h ⟨rfl,rfl⟩)|(refine zA.mono (h3 _) ?_;rintro r h ⟨rfl,rfl⟩)
theorem zUn (x y:Trm) (c:Bool):zCz Tryz.prog .eql 79 c (.agg [.str x.a, .str x.b]) (.agg [.str y.a, .str y.b])=some (.bool (x.a==y.a&&x.b==y.b)):=by
 have he:eqT Tryz.prog 79=some [.s, .s]:=by kernel_rfl
 simp only[zCz,he,zQx,eqK,Option.map_some,Bool.and_true,zAJ]
theorem zXD {l:List Trm} {d:D} (hd:zf 2 (qN l) d) (hl:l.length≤1048576) (n:Trm) (g:Heap):
  zA Tryz.prog 300 [d, .agg [.str n.a, .str n.b]] g fun r h'=>h'=g∧r= .int .i64 (zLi (fun x:Trm=>n.a==x.a&&n.b==x.b) l):=by
 have hlen:=ql hd;have hv2:∀a b:D,zO true 2 [a,b] 0=some (.agg [a,b]):=fun a b=>zB rfl (by omega);have heq:=zUn n;obtain⟨p,hp⟩:∃p:Trm→Bool,(fun x:Trm=>n.a==x.a&&n.b==x.b)=p:=⟨_,rfl⟩;have hpe:∀x,(n.a==x.a&&n.b==x.b)=p x:=fun x=>by rw[←hp]
 rw[hp];clear hp;refine zA.of_fn (g:=zTN) mix Tryz.func300 zht rfl rfl ?_;simp only[Tryz.f300,gJ]
 repeat' first|simp only[go_sem,zOE, *]|apply bc<;>intro hc
 refine zG (fun i fr h=>fr 0=d∧fr 3= .iptr [.str n.a, .str n.b] 0∧fr 7= .int .i64 (l.length:Int)∧fr 8= .int .i64 (i:Int)∧h=g∧∀j (hj:j<l.length),j<i→p l[j]=false) l.length (by omega) ?_ ?_ ?_
 ·simp only[go_sem,zOE,true_and,and_true,Int.ofNat_zero];exact fun j hj h0=>absurd h0 (Nat.not_lt_zero _)
 ·rintro i fr h hlt e1 ew ⟨f0,f3,f7,f8,rfl,hj⟩;have a1:=zBv hd hlt;simp only[Trm.cells] at a1;have hq:=heq l[i];rw[hpe] at hq;cases hb:p l[i] with
  |true=>
   have hx:=zCd (p:=p) hlt hj hb;rw[hb] at hq;clear hj hd hpe heq
   repeat' first|simp only[go_sem,zOE, *]|apply bc<;>intro hc
   refine zS (by kernel_rfl) ?_
   repeat' first|simp only[go_sem,zOE, *]|apply bc<;>intro hc
  |false=>
   have hn:=yi (p:=p) hlt hj hb;rw[hb] at hq;clear hj hd hpe heq
   repeat' first|simp only[go_sem,zOE, *]|apply bc<;>intro hc
   refine zS (by kernel_rfl) ?_
   repeat' first|simp only[go_sem,zOE, *]|apply bc<;>intro hc
   exact hn
 ·rintro fr h e1 ⟨f0,f3,f7,f8,rfl,hj⟩;have hx:=zCe (p:=p) fun j hj'=>hj j hj' hj';clear hj hd hpe heq
  repeat' first|simp only[go_sem,zOE, *]|apply bc<;>intro hc
theorem zOi {l:List Trm} {d:D} (hd:zf 2 (qN l) d) (hl:l.length≤1048576) (n:Trm) (g:Heap):
  zA Tryz.prog 238 [d, .agg [.str n.a, .str n.b]] g fun r h'=>h'=g∧r= .bool (l.any fun x:Trm=>n.a==x.a&&n.b==x.b):=by
 have hix:=zXD hd hl n;have hv2:∀a b:D,zO true 2 [a,b] 0=some (.agg [a,b]):=fun a b=>zB rfl (by omega);have hge:=zDG (l:=l) (p:=fun x:Trm=>n.a==x.a&&n.b==x.b);refine zA.of_fn (g:=zTf) mix Tryz.func238 ziM rfl rfl ?_;simp only[Tryz.f238,gJ]
 repeat' first|simp only[go_sem,ziL, *]|apply bc<;>intro hc|(refine zA.mono (hix _) ?_;rintro r h ⟨rfl,rfl⟩)
theorem zMt {l:List Trm} {d:D} (hd:zf 2 (qN l) d) (hl:l.length≤1048576) {f:FuncId} {cap:List D} {p:Trm→Bool} (hp:∀s∈l,∀h,zA Tryz.prog f ([]++ [.agg s.cells]++cap) h fun r h'=>h'=h∧r= .bool (p s)) (g:Heap):
  zA Tryz.prog 299 [d, .fn (.func f) [] cap] g fun r h'=>h'=g∧r= .int .i64 (zLi p l):=by
 have hlen:=ql hd;have hv2:∀a b:D,zO true 2 [a,b] 0=some (.agg [a,b]):=fun a b=>zB rfl (by omega);refine zA.of_fn (g:=zUF) mix Tryz.func299 zi6 rfl rfl ?_;simp only[Tryz.f299,gJ]
 repeat' first|simp only[go_sem,zUG, *]|apply bc<;>intro hc
 refine zG (fun i fr h=>fr 1= .fn (.func f) [] cap∧fr 0=d∧fr 6=d∧fr 7= .int .i64 (l.length:Int)∧fr 8= .int .i64 (i:Int)∧h=g∧∀j (hj:j<l.length),j<i→p l[j]=false) l.length (by omega) ?_ ?_ ?_
 ·simp only[go_sem,zUG,true_and,and_true,Int.ofNat_zero];exact fun j hj h0=>by omega
 ·rintro i fr h hlt e1 ew ⟨f1,f0,f6,f7,f8,rfl,hj⟩;have a1:=zBv hd hlt;have hq:=hp _ (List.getElem_mem hlt);simp only[List.nil_append,List.cons_append,Trm.cells] at hq;simp only[Trm.cells] at a1;cases hb:p l[i] with
  |true=>
   have hx:=zCd hlt hj hb;rw[hb] at hq;clear hj hp hd
   repeat' first|simp only[go_sem,zUG, *]|apply bc<;>intro hc|(refine zA.mono (hq _) ?_;rintro r h ⟨rfl,rfl⟩)
  |false=>
   have hn:=yi (p:=p) hlt hj hb;rw[hb] at hq;clear hj hp hd
   repeat' first|simp only[go_sem,zUG, *]|apply bc<;>intro hc|(refine zA.mono (hq _) ?_;rintro r h ⟨rfl,rfl⟩)
   exact hn
 ·rintro fr h e1 ⟨f1,f0,f6,f7,f8,rfl,hj⟩;have hx:=zCe (p:=p) fun j hj'=>hj j hj' hj';clear hj hp hd
  repeat' first|simp only[go_sem,zUG, *]|apply bc<;>intro hc
theorem zIG {l:List Trm} {d:D} (hd:zf 2 (qN l) d) (hl:l.length≤1048576) {f:FuncId} {cap:List D} {p:Trm→Bool} (hp:∀s∈l,∀h,zA Tryz.prog f ([]++ [.agg s.cells]++cap) h fun r h'=>h'=h∧r= .bool (p s)) (g:Heap):
  zA Tryz.prog 236 [d, .fn (.func f) [] cap] g fun r h'=>h'=g∧r= .bool (l.any p):=by
 have hix:=zMt hd hl hp;have hge:=zDG (l:=l) (p:=p);refine zA.of_fn (g:=zTM) mix Tryz.func236 zhr rfl rfl ?_;simp only[Tryz.f236,gJ]
 repeat' first|simp only[go_sem,zhq, *]|apply bc<;>intro hc|(refine zA.mono (hix _) ?_;rintro r h ⟨rfl,rfl⟩)
theorem zYq (x:Trm) (h:Heap) (id:Nat):zQ Tryz.prog 79 (.ptr id 0) (.agg [.str x.a, .str x.b]) (h.new id (.row [.str [], .str []]))=some (h.new id (.row [.str x.a, .str x.b])):=zU qz (by omega) rfl rfl rfl
def zAy:List Trm→List Trm→Int
 | [],[]=>0
 | [],_::_=> -1
 |_::_,[]=>1
 |x::xs,y::ys=>if(!(zN x y==0))=true then zN x y else zAy xs ys
theorem zMu:∀ {a b:List Trm} {i:Nat} (ha:i<a.length) (hb:i<b.length),(∀j (h1:j<a.length) (h2:j<b.length),j<i→zN a[j] b[j]=0)→zN a[i] b[i]≠0→zAy a b=zN a[i] b[i]
 |x::xs,y::ys,0,_,_,_,h0=>by
  have h0':zN x y≠0:=h0;simp[zAy,h0']
 |x::xs,y::ys,i+1,ha,hb,hj,h0=>by
  have e:zN x y=0:=hj 0 (by simp) (by simp) (by omega);have:=zMu (a:=xs) (b:=ys) (i:=i) (by simpa using ha) (by simpa using hb) (fun j h1 h2 h3=>hj (j+1) (Nat.succ_lt_succ h1) (Nat.succ_lt_succ h2) (by omega)) (by simpa using h0);simp only[zAy,e,List.getElem_cons_succ];simpa using this
theorem zIH:∀ {a b:List Trm},(∀j (h1:j<a.length) (h2:j<b.length),zN a[j] b[j]=0)→zAy a b=if b.length<a.length then 1 else if a.length<b.length then -1 else 0
 | [],[],_=>rfl
 | [],y::ys,_=>by simp[zAy]
 |x::xs,[],_=>by simp[zAy]
 |x::xs,y::ys,hj=>by
  have e:zN x y=0:=hj 0 (by simp) (by simp);have:=zIH (a:=xs) (b:=ys) (fun j h1 h2=>hj (j+1) (Nat.succ_lt_succ h1) (Nat.succ_lt_succ h2));simp only[zAy,e,List.length_cons];simpa using this
set_option maxHeartbeats 4000000 in
theorem zIz {a b:List Trm} {d x:D} (ha:zf 2 (qN a) d) (hb:zf 2 (qN b) x) (hla:a.length≤1048576) (hlb:b.length≤1048576) (g:Heap):
  zA Tryz.prog 235 [d,x, .fn (.func 176) [] []] g fun r h'=>h'=g∧r= .int .i64 (zAy a b):=by
 refine zA.pure (by kernel_rfl) fun hh=> ?_;have hbel:∀k:Int,below g.next (.int .i64 k):=fun k=>by simp[below,zg]
 have hcm:=fun p q h=>zD7 p q h;simp only[Trm.cells] at hcm;have hl1:=ql ha;have hl2:=ql hb;have hE0:=Ext.refl g;have hv2:∀a b:D,zO true 2 [a,b] 0=some (.agg [a,b]):=fun a b=>zB rfl (by omega);obtain⟨R,hR⟩:∃R,zAy a b=R:=⟨_,rfl⟩;rw[hR];refine zA.of_fn (g:=zUD) mix Tryz.func235 zi5 rfl rfl ?_;simp only[Tryz.f235,gJ]
 repeat' first|simp only[go_sem,zOK, *]|apply bc<;>intro hc
 refine zG (fun k fr h=>fr 0=d∧fr 1=x∧fr 2= .fn (.func 176) [] []∧fr 11=d∧fr 12= .int .i64 (a.length:Int)∧fr 13= .int .i64 (k:Int)∧Ext g h∧k≤b.length∧∀j (h1:j<a.length) (h2:j<b.length),j<k→zN a[j] b[j]=0) a.length (by omega) ?_ ?_ ?_
 ·simp only[go_sem,zOK,true_and,and_true,Int.ofNat_zero];exact⟨hE0,Nat.zero_le _,fun j h1 h2 hj=>absurd hj (Nat.not_lt_zero _)⟩
 ·rintro k fr h hlt ec ew ⟨f0,f1,f2,f11,f12,f13,hE,hkb,hj⟩;have a1:=zBv ha hlt;have hst:=zYq a[k] h h.next;have hE2:=hE.new hE.1 (.row a[k].cells);simp only[Trm.cells] at a1 hE2;by_cases hk:k<b.length
  ·have a2:=zBv hb hk;have hq:decide ((k:Int)≥(b.length:Int))=false:=by simp only[decide_eq_false_iff_not];omega
   obtain⟨H2,eH2⟩:∃H2,h.new h.next (.row [.str a[k].a, .str a[k].b])=H2:=⟨_,rfl⟩;rw[eH2] at hst hE2;have n1:=zJ h h.next (.row [.str a[k].a, .str a[k].b]);rw[eH2] at n1;have hst2:=zYq b[k] H2 H2.next;have hE3:=hE2.new hE2.1 (.row b[k].cells);simp only[Trm.cells] at a2 hE3;have n2:=zJ H2 H2.next (.row [.str b[k].a, .str b[k].b]);have hlt2:h.next<H2.next:=by rw[←eH2,zD];omega
   have n3:(H2.new H2.next (.row [.str b[k].a, .str b[k].b])).at' h.next=some (.row [.str a[k].a, .str a[k].b]):=by rw[zF (by omega)];exact n1
   cases hv:(zN a[k] b[k]==0) with
   |true=>
    have hn:∀j (h1:j<a.length) (h2:j<b.length),j<k+1→zN a[j] b[j]=0:=fun j h1 h2 h3=>by
     rcases Nat.lt_succ_iff_lt_or_eq.1 h3 with q|rfl
     ·exact hj j h1 h2 q
     ·simpa using hv
    have hkb1:k+1≤b.length:=hk;clear hj ha hb hR
    repeat' first|simp only[go_sem,zOK, *]|apply bc<;>intro hc|(refine zA.mono (hcm _ _ _) ?_;rintro r h ⟨hq2,rfl⟩)
    exact hn
   |false=>
    have hx:=zMu hlt hk hj (by simpa using hv);rw[hR] at hx;clear hj ha hb hR
    repeat' first|simp only[go_sem,zOK, *]|apply bc<;>intro hc|(refine zA.mono (hcm _ _ _) ?_;rintro r h ⟨hq2,rfl⟩)
  ·have hq:decide ((k:Int)≥(b.length:Int))=true:=by simp only[decide_eq_true_eq];omega
   have hx:=zIH (a:=a) (b:=b) (fun j h1 h2=>hj j h1 h2 (by omega));rw[if_pos (by omega),hR] at hx;clear hj ha hb hR
   repeat' first|simp only[go_sem,zOK, *]|apply bc<;>intro hc
 ·rintro fr h ec ⟨f0,f1,f2,f11,f12,f13,hE,hkb,hj⟩;have hx:=zIH (a:=a) (b:=b) (fun j h1 h2=>hj j h1 h2 h1);rw[if_neg (by omega),hR] at hx;clear hj ha hb hR;cases hq:decide ((a.length:Int)<(b.length:Int)) with
  |true=>
   rw[if_pos (by have:=of_decide_eq_true hq;omega)] at hx
   repeat' first|simp only[go_sem,zOK, *]|apply bc<;>intro hc
  |false=>
   rw[if_neg (by have:=of_decide_eq_false hq;omega)] at hx
   repeat' first|simp only[go_sem,zOK, *]|apply bc<;>intro hc
def zD8 (a b:List Trm):Int:=orL [yj a.length b.length,zAy a b]
theorem zMv {a b:List Trm} {d x:D} (ha:zf 2 (qN a) d) (hb:zf 2 (qN b) x) (hla:a.length≤1048576) (hlb:b.length≤1048576) (g:Heap):
  zA Tryz.prog 179 [d,x] g fun r h'=>h'=g∧r= .int .i64 (zD8 a b):=by
 have hl1:=ql ha;have hl2:=ql hb;have h1:=zH5 a.length b.length;have h2:=zIz ha hb hla hlb;have h3:=zfW (l:=[yj a.length b.length,zAy a b]) (zf.mk .full) (by simp);have hr:=fun nid=>zjF (yj a.length b.length) (zAy a b) nid;have hc:orL [yj a.length b.length,zAy a b]=zD8 a b:=rfl;rw[hc] at h3;refine zA.of_fn (g:=zTH) mix Tryz.func179 zhm rfl rfl ?_;simp only[Tryz.f179,gJ]
 repeat' first|simp only[go_sem,zhl, *]|apply bc<;>intro hc|(refine zA.mono (h1 _) ?_;rintro r h ⟨rfl,rfl⟩)|(refine zA.mono (h2 _) ?_;rintro r h ⟨rfl,rfl⟩)|(refine zA.mono (h3 _) ?_;rintro r h ⟨rfl,rfl⟩)
def zg6 (l:List Trm) (n:Trm):Bool:=l.any fun x:Trm=>n.a==x.a&&n.b==x.b
theorem zau {l:List Trm} {d:D} (hd:zf 2 (qN l) d) (hl:l.length≤1048576) (n:Trm) (g:Heap):
  zA Tryz.prog 237 [.agg n.cells, .iptr [d] 0] g fun r h'=>h'=g∧r= .bool (!(zg6 l n)):=by
 have hc:=zOi hd hl n;have hm:(l.any fun x:Trm=>n.a==x.a&&n.b==x.b)=zg6 l n:=rfl;rw[hm] at hc;have hv2:∀a b:D,zO true 2 [a,b] 0=some (.agg [a,b]):=fun a b=>zB rfl (by omega);refine zA.of_fn (g:=zTY) mix Tryz.func237 zh8 rfl rfl ?_;simp only[Tryz.f237,gJ];simp only[Trm.cells]
 repeat' first|simp only[go_sem,zh7, *]|apply bc<;>intro hc|(refine zA.mono (hc _) ?_;rintro r h ⟨rfl,rfl⟩)
def zFG (a b:List Trm):Bool:= !(b.any fun n=> !(zg6 a n))
theorem zK8 {a b:List Trm} {d x:D} (ha:zf 2 (qN a) d) (hb:zf 2 (qN b) x) (hla:a.length≤1048576) (hlb:b.length≤1048576) (g:Heap):
  zA Tryz.prog 181 [d,x] g fun r h'=>h'=g∧r= .bool (zFG a b):=by
 have hc:=zIG hb hlb (f:=237) (cap:=[.iptr [d] 0]) fun n _ h=>zau ha hla n h;have hm:(b.any fun n=> !(zg6 a n))= !(zFG a b):=by simp[zFG]
 rw[hm] at hc;refine zA.of_fn (g:=zTe) mix Tryz.func181 ziI rfl rfl ?_;simp only[Tryz.f181,gJ];rcases ha with⟨rfl,_⟩ | ⟨_,rfl⟩
 ·repeat' first|simp only[go_sem,zeC, *]|apply bc<;>intro hc|(refine zA.mono (hc _) ?_;rintro r h ⟨rfl,rfl⟩)
 ·repeat' first|simp only[go_sem,zeC, *]|apply bc<;>intro hc|(refine zA.mono (hc _) ?_;rintro r h ⟨rfl,rfl⟩)
structure QC {β:Type} (c:β→β→Int):Prop where
 anti:∀x y,c x y<0↔0<c y x
 trans:∀x y z,c x y≤0→c y z≤0→c x z≤0
theorem QC.refl {β:Type} {c:β→β→Int} (h:QC c) (x:β):c x x=0:=by
 have:=h.anti x x;omega
theorem QC.eq0 {β:Type} {c:β→β→Int} (h:QC c) {x y:β} (e:c x y=0):c y x=0:=by
 have h1:=h.anti x y;have h2:=h.anti y x;omega
theorem QC.ltle {β:Type} {c:β→β→Int} (h:QC c) {x y z:β} (h1:c x y<0) (h2:c y z≤0):c x z<0:=by
 have a:=h.trans x y z (by omega) h2;rcases Int.lt_or_eq_of_le a with q|q
 ·exact q
 ·have b:=h.trans y z x h2 (by rw[h.eq0 q];exact Int.le_refl _);have:=(h.anti x y).1 h1;omega
theorem QC.lelt {β:Type} {c:β→β→Int} (h:QC c) {x y z:β} (h1:c x y≤0) (h2:c y z<0):c x z<0:=by
 have a:=h.trans x y z h1 (by omega);rcases Int.lt_or_eq_of_le a with q|q
 ·exact q
 ·have b:=h.trans z x y (by rw[h.eq0 q];exact Int.le_refl _) h1;have:=(h.anti y z).1 h2;omega
theorem QC.key {β γ:Type} {c:β→β→Int} (h:QC c) (f:γ→β):QC fun x y=>c (f x) (f y):=⟨fun _ _=>h.anti _ _,fun _ _ _=>h.trans _ _ _⟩
def zMw (a b:Int):Int:=if a=0 then b else a
theorem QC.lex {β:Type} {c d:β→β→Int} (h:QC c) (k:QC d):QC fun x y=>zMw (c x y) (d x y) where
 anti x y:=by
  have h1:=h.anti x y;have h2:=h.anti y x;have h3:=k.anti x y;simp only[zMw];split<;>split<;>omega
 trans x y z h1 h2:=by
  simp only[zMw] at *
  by_cases e1:c x y=0
  ·by_cases e2:c y z=0
   ·rw[if_pos e1] at h1;rw[if_pos e2] at h2;have e3:c x z=0:=by
     have a:=h.trans x y z (by omega) (by omega);have b:=h.trans z y x (by rw[h.eq0 e2];omega) (by rw[h.eq0 e1];omega);have:=h.anti z x;have:=h.anti x z;omega
    rw[if_pos e3];exact k.trans x y z h1 h2
   ·rw[if_neg e2] at h2;have:=h.lelt (x:=x) (y:=y) (z:=z) (by omega) (by omega);rw[if_neg (by omega)];omega
  ·rw[if_neg e1] at h1;by_cases e2:c y z=0
   ·have:=h.ltle (x:=x) (y:=y) (z:=z) (by omega) (by omega);rw[if_neg (by omega)];omega
   ·rw[if_neg e2] at h2;have:=h.ltle (x:=x) (y:=y) (z:=z) (by omega) (by omega);rw[if_neg (by omega)];omega
def zGQ {β:Type} (c:β→β→Int):List β→List β→Int
 | [],[]=>0
 | [],_::_=> -1
 |_::_,[]=>1
 |x::xs,y::ys=>zMw (c x y) (zGQ c xs ys)
theorem zMx {β:Type} {c:β→β→Int} (h:QC c):∀x y,zGQ c x y<0↔0<zGQ c y x
 | [],[]=>by simp[zGQ]
 | [],_::_=>by simp[zGQ]
 |_::_,[]=>by simp[zGQ]
 |a::x,b::y=>by
  have h1:=h.anti a b;have h2:=h.anti b a;have h3:=zMx h x y;simp only[zGQ,zMw];split<;>split<;>omega
theorem zJp {β:Type} {c:β→β→Int} (h:QC c):∀x y z,zGQ c x y≤0→zGQ c y z≤0→zGQ c x z≤0
 | [],_,[],_,_=>by simp[zGQ]
 | [],_,_::_,_,_=>by simp[zGQ]
 |_::_,[],_,h1,_=>by simp[zGQ] at h1
 |_::_,_::_,[],_,h2=>by simp[zGQ] at h2
 |a::x,b::y,d::z,h1,h2=>by
  have ih:=zJp h x y z;simp only[zGQ,zMw] at *
  by_cases e1:c a b=0
  ·by_cases e2:c b d=0
   ·rw[if_pos e1] at h1;rw[if_pos e2] at h2;have e3:c a d=0:=by
     have p:=h.trans a b d (by omega) (by omega);have q:=h.trans d b a (by rw[h.eq0 e2];omega) (by rw[h.eq0 e1];omega);have:=h.anti d a;have:=h.anti a d;omega
    rw[if_pos e3];exact ih h1 h2
   ·rw[if_neg e2] at h2;have:=h.lelt (x:=a) (y:=b) (z:=d) (by omega) (by omega);rw[if_neg (by omega)];omega
  ·rw[if_neg e1] at h1;by_cases e2:c b d=0
   ·have:=h.ltle (x:=a) (y:=b) (z:=d) (by omega) (by omega);rw[if_neg (by omega)];omega
   ·rw[if_neg e2] at h2;have:=h.ltle (x:=a) (y:=b) (z:=d) (by omega) (by omega);rw[if_neg (by omega)];omega
theorem QC.list {β:Type} {c:β→β→Int} (h:QC c):QC (zGQ c):=⟨zMx h,zJp h⟩
theorem zK9 {β:Type} {c:β→β→Int} (h:∀x y,c x y=0→x=y):∀x y,zGQ c x y=0→x=y
 | [],[],_=>rfl
 | [],_::_,e=>by simp[zGQ] at e
 |_::_,[],e=>by simp[zGQ] at e
 |a::x,b::y,e=>by
  simp only[zGQ,zMw] at e;split at e
  ·rename_i q;rw[h _ _ q,zK9 h x y e]
  ·exact absurd e (by assumption)
section
variable {β:Type} {c:β→β→Int}
def srt (c:β→β→Int) (l:List β):List β:=l.mergeSort fun a b=> !(decide (c b a<0))
theorem qR (l:List β):(srt c l).Perm l:=List.mergeSort_perm _ _
theorem zII {l:List β} {x:β} :x∈srt c l↔x∈l:=(qR l).mem_iff
theorem zFv (h:QC c) (l:List β):(srt c l).Pairwise fun a b=>¬c b a<0:=by
 have:=List.pairwise_mergeSort (le:=fun a b=> !(decide (c b a<0))) (fun x y z h1 h2=>by
  simp only[Bool.not_eq_true',decide_eq_false_iff_not] at *
  have a1:=h.anti y x;have a2:=h.anti z y;have a3:=h.anti z x;have:=h.trans x y z (by omega) (by omega);omega) (fun x y=>by
  have:=h.anti x y;simp only[Bool.or_eq_true,Bool.not_eq_true',decide_eq_false_iff_not];omega) l
 exact this.imp fun hx=>by simpa using hx
theorem zFH (h:QC c) (he:∀x y,c x y=0→x=y):∀ {l m:List β},l.Perm m→l.Pairwise (fun a b=>¬c b a<0)→m.Pairwise (fun a b=>¬c b a<0)→l=m
 | [],m,hp,_,_=>(List.nil_perm.1 hp).symm
 |x::l,[],hp,_,_=>by cases List.perm_nil.1 hp
 |x::l,y::m,hp,h1,h2=>by
  have hx:x∈y::m:=hp.mem_iff.1 (by simp);have hy:y∈x::l:=hp.mem_iff.2 (by simp);have e:x=y:=by
   rcases List.mem_cons.1 hx with q|q
   ·exact q
   ·rcases List.mem_cons.1 hy with q2|q2
    ·exact q2.symm
    ·have a1:=(List.pairwise_cons.1 h1).1 y q2;have a2:=(List.pairwise_cons.1 h2).1 x q;have a3:=h.anti x y;exact he _ _ (by have:=h.anti y x;omega)
  subst e;rw[zFH h he (List.perm_cons x |>.1 hp) (List.pairwise_cons.1 h1).2 (List.pairwise_cons.1 h2).2]
theorem zQX (h:QC c) (he:∀x y,c x y=0→x=y) {l m:List β} (hp:m.Perm l) (hs:m.Pairwise fun a b=>¬c b a<0):m=srt c l:=zFH h he (hp.trans (qR l).symm) hs (zFv h l)
theorem zUo (h:QC c) (he:∀x y,c x y=0→x=y) {l m:List β} (hp:m.Perm l):srt c m=srt c l:=zQX h he ((qR m).trans hp) (zFv h m)
def yk (c:β→β→Int) (l:List β):Nat→List β
 |0=>[]
 |n+1=>match l[n]? with
  |none=>yk c l n
  |some x=>match n with
   |0=>[x]
   |k+1=>match l[k]? with
    |none=>yk c l (k+1)
    |some y=>if(c x y==0)=true then yk c l (k+1) else yk c l (k+1)++ [x]
def cpt (c:β→β→Int) (l:List β):List β:=yk c l l.length
theorem zDi {l:List β} (h:0<l.length):yk c l 1= [l[0]]:=by simp[yk,h]
theorem zAE {l:List β} {k:Nat} (h:k+1<l.length):yk c l (k+2)=if(c l[k+1] l[k]==0)=true then yk c l (k+1) else yk c l (k+1)++ [l[k+1]]:=by
 have h1:l[k+1]? =some l[k+1]:=List.getElem?_eq_getElem h;have h2:l[k]? =some l[k]:=List.getElem?_eq_getElem (by omega);rw[yk];simp only[h1,h2]
theorem zOj {l:List β} {k:Nat} {x y:β} (h1:l[k+1]? =some x) (h2:l[k]? =some y):yk c l (k+2)=if(c x y==0)=true then yk c l (k+1) else yk c l (k+1)++ [x]:=by
 rw[yk];simp only[h1,h2]
theorem zBo {l:List β} :∀n,(yk c l n).length≤n
 |0=>Nat.le_refl _
 |1=>by
  rw[yk];split
  ·simp[yk]
  ·simp
 |k+2=>by
  have ih:=zBo (l:=l) (k+1);rw[yk];split
  ·omega
  ·simp only;split
   ·omega
   ·split
    ·omega
    ·rw[List.length_append];simp only[List.length_cons,List.length_nil];omega
theorem zLA {l:List β} (h:0<l.length):∀n,n≤l.length→0<n→0<(yk c l n).length
 |1,_,_=>by rw[zDi h];simp
 |k+2,hn,_=>by
  rw[zAE (by omega)];have:=zLA h (k+1) (by omega) (by omega);split
  ·exact this
  ·rw[List.length_append];omega
theorem zFI {l:List β} :∀n,∀x∈yk c l n,x∈l
 |0,x,h=>by cases h
 |n+1,x,h=>by
  rw[yk] at h;split at h
  ·exact zFI n x h
  ·rename_i y e1;split at h
   ·cases List.mem_singleton.1 h;exact List.mem_of_getElem? e1
   ·split at h
    ·exact zFI _ x h
    ·split at h
     ·exact zFI _ x h
     ·rcases List.mem_append.1 h with h|h
      ·exact zFI _ x h
      ·cases List.mem_singleton.1 h;exact List.mem_of_getElem? e1
theorem zLB (he:∀x y,c x y=0→x=y) {l:List β} :∀n,n≤l.length→∀x,x∈l.take n→x∈yk c l n
 |0,_,x,h=>by simp at h
 |1,hn,x,h=>by rw[zDi (by omega)];rw[List.take_one] at h;simp[List.head?_eq_getElem?,show 0<l.length by omega] at h;simp[h]
 |k+2,hn,x,h=>by
  rw[zAE (by omega)];rw[List.take_succ_eq_append_getElem (by omega)] at h;rcases List.mem_append.1 h with h|h
  ·have:=zLB he (k+1) (by omega) x h;split
   ·exact this
   ·exact List.mem_append_left _ this
  ·cases List.mem_singleton.1 h;split
   ·rename_i q;have q':c l[k+1] l[k]=0:=by simpa using q
    rw[he _ _ q'];exact zLB he (k+1) (by omega) _ (List.mem_take_iff_getElem.2 ⟨k,by omega,rfl⟩)
   ·simp
theorem zav (he:∀x y,c x y=0→x=y) {l:List β} {x:β} :x∈cpt c l↔x∈l:=
 ⟨zFI _ _,fun h=>zLB he _ (Nat.le_refl _) x (by rw[List.take_length];exact h)⟩
theorem zQY (h:QC c) {l:List β} (hs:l.Pairwise fun a b=>¬c b a<0):∀n,n≤l.length→(yk c l n).Pairwise (fun a b=>c a b<0)∧(∀x∈yk c l n,∀k (hk:k<n) (hl:k<l.length),k+1=n→c x l[k]≤0)
 |0,_=>⟨List.Pairwise.nil,fun x h=>by cases h⟩
 |1,hn=>by
  rw[zDi (by omega)];refine⟨List.pairwise_singleton _ _,fun x hx k hk hl e=> ?_⟩;cases List.mem_singleton.1 hx
  have:k=0:=by omega
  subst this;rw[h.refl];exact Int.le_refl _
 |k+2,hn=>by
  obtain⟨i1,i2⟩:=zQY h hs (k+1) (by omega);have i3:=fun x hx=>i2 x hx k (by omega) (by omega) rfl;have hle:¬c l[k+1] l[k]<0:=List.pairwise_iff_getElem.1 hs k (k+1) (by omega) (by omega) (by omega);have a1:=h.anti l[k] l[k+1];have a2:=h.anti l[k+1] l[k];rw[zAE (by omega)];split
  ·rename_i q;have q0:c l[k+1] l[k]=0:=by simpa using q
   refine⟨i1,fun x hx j hj hl e=> ?_⟩
   have:j=k+1:=by omega
   subst this;exact h.trans _ _ _ (i3 x hx) (by rw[h.eq0 q0];exact Int.le_refl _)
  ·rename_i q;have q0:c l[k+1] l[k]≠0:=by simpa using q
   have hlt:c l[k] l[k+1]<0:=by omega
   refine⟨List.pairwise_append.2 ⟨i1,List.pairwise_singleton _ _,fun x hx y hy=> ?_⟩,fun x hx j hj hl e=> ?_⟩
   ·cases List.mem_singleton.1 hy;exact h.lelt (i3 x hx) hlt
   ·have:j=k+1:=by omega
    subst this;rcases List.mem_append.1 hx with hx|hx
    ·exact Int.le_of_lt (h.lelt (i3 x hx) hlt)
    ·cases List.mem_singleton.1 hx;rw[h.refl];exact Int.le_refl _
theorem zaw (h:QC c) {l:List β} (hs:l.Pairwise fun a b=>¬c b a<0):(cpt c l).Pairwise fun a b=>c a b<0:=(zQY h hs _ (Nat.le_refl _)).1
end
theorem zAF (l:List Trm):∀x∈qN l,x.length=2:=fun x hx=>by
 obtain⟨y,_,rfl⟩:=List.mem_map.1 hx;rfl
theorem zQZ (a b:List UInt8):(zDo a b==0)=(a==b):=by
 unfold zDo;split
 ·rename_i h
  have:a≠b:=fun e=>by subst e;rw[zKw,decide_eq_true_eq] at h;exact absurd h (List.lt_irrefl _)
  simp[this]
 ·split
  ·rename_i h;simp[h]
  ·rename_i h;simp[h]
theorem zDj (x y:Trm):(zN x y==0)=(x.a==y.a&&x.b==y.b):=by
 unfold zN orL;have h1:=zQZ x.a y.a;have h2:=zQZ x.b y.b;split
 ·rename_i h;rw[h] at h1;rw[←h1,←h2];simp only[orL];split
  ·rename_i q;rw[q];rfl
  ·simp
 ·rename_i h;rw[←h1];simp[h]
theorem zXE (l m:List Trm):(qN (l++m)).flatten=(qN l).flatten++(qN m).flatten:=by simp[qN]
set_option maxHeartbeats 4000000 in
theorem zRi {l:List Trm} {id:Nat} {g:Heap} (h0:l≠[]) (hl:l.length≤1048576) (hrow:g.at' id=some (.row (qN l).flatten)):
  zA Tryz.prog 177 [.rs id 2 0 l.length] g fun r h'=>r= .rs id 2 0 (cpt zN l).length∧∃rest,h'=g.set id (.row ((qN (cpt zN l)).flatten++rest)):=by
 have hlen:=fun(h:Heap)=>zCU (P:=Tryz.prog) (t:=62) (sz:=2) (id:=id) (off:=0) (len:=l.length) (h:=h) Tryz.underlying62;have hpos:0<l.length:=List.length_pos_iff.2 h0;have hflat:∀x:Trm,([.str x.a, .str x.b]:List D).all D.flat=true:=fun x=>rfl;have hsame:∀n,n≤l.length→(∀i (h:i+1<l.length),i+1<n→(zN l[i+1] l[i]==0)=false)→yk zN l n=l.take n:=fun n hn hh=>by
  induction n with
  |zero=>rfl
  |succ n ih=>
   cases n with
   |zero=>rw[zDi hpos,List.take_one];simp[List.head?_eq_getElem?,hpos]
   |succ k=>
    rw[zAE (by omega),if_neg (by rw[hh k (by omega) (by omega)];exact Bool.false_ne_true),ih (by omega) fun i h1 h2=>hh i h1 (by omega)];exact(List.take_succ_eq_append_getElem (by omega)).symm
 refine zA.post fun Q hQ=> ?_;have hdone:(∀i (h:i+1<l.length),i+1<l.length→(zN l[i+1] l[i]==0)=false)→Q (.rs id 2 0 l.length) g:=fun hh=>hQ _ _ (by
  have e:cpt zN l=l:=by
   have:=hsame l.length (Nat.le_refl _) hh;rw[List.take_length] at this;exact this
  rw[e];exact⟨rfl,[],by rw[List.append_nil,zA7 hrow]⟩)
 refine zA.of_fn (g:=zTx) mix Tryz.func177 zil rfl rfl ?_;simp only[Tryz.f177,gJ];cases q1:decide ((l.length:Int)<2) with
 |true=>
  have hd:=hdone fun i h1 h2=>by have:=of_decide_eq_true q1;omega
  clear hdone hQ
  repeat' first|simp only[go_sem,zEy, *]|apply bc<;>intro hc
 |false=>
 repeat' first|simp only[go_sem,zEy, *]|apply bc<;>intro hc
 refine zy (fun i fr h=>fr 0= .rs id 2 0 l.length∧fr 3= .int .i64 ((i+1:Nat):Int)∧h=g∧i+1≤l.length∧∀j (h:j+1<l.length),j+1<i+1→(zN l[j+1] l[j]==0)=false) l.length ?_ ?_
 ·simp only[go_sem,zEy,true_and,and_true,Int.ofNat_zero];exact⟨rfl,hpos,fun j h1 h2=>by omega⟩
 rintro i fr h hi ⟨f0,f3,rfl,hile,hj⟩;by_cases hlt:i+1<l.length
 ·have e1:decide (((i+1:Nat):Int)<(l.length:Int))=true:=decide_eq_true (by omega);have ew:IntKind.i64.wrap (((i+1:Nat):Int)+1)=((i+2:Nat):Int):=zh (by unfold lim;omega);have ew2:IntKind.i64.wrap (((i+1:Nat):Int)-1)=((i:Nat):Int):=by rw[zZ (by omega) (by omega)];omega
  have a1:=zt (P:=Tryz.prog) (sz:=2) (id:=id) yu qz (k:= .i64) hlt;have a2:=zt (P:=Tryz.prog) (sz:=2) (id:=id) yu qz (k:= .i64) (show i<l.length by omega);have p1:=zBG (zAF l) (by omega) (zK7 hlt);have p2:=zBG (zAF l) (by omega) (zK7 (show i<l.length by omega));have hq:=zUn l[i+1] l[i];have hb0:=zDj l[i+1] l[i];rw[←hb0] at hq;clear hb0;simp only[Trm.cells] at p1 p2;cases hb:(zN l[i+1] l[i]==0) with
  |false=>
   rw[hb] at hq;have hn:∀j (h:j+1<l.length),j+1<i+2→(zN l[j+1] l[j]==0)=false:=fun j h1 h2=>by
    by_cases e:j=i
    ·subst e;exact hb
    ·exact hj j h1 (by omega)
   clear hj hdone hsame q1 h0 hb
   repeat' first|simp only[go_sem,zEy, *]|apply bc<;>intro hc
   refine zS (by kernel_rfl) ?_
   repeat' first|simp only[go_sem,zEy, *]|apply bc<;>intro hc
   exact⟨by omega,hlt,hn⟩
  |true=>
   rw[hb] at hq;have hcs:yk zN l (i+2)=l.take (i+1):=by
    rw[zAE hlt,if_pos hb,hsame (i+1) (by omega) fun j h1 h2=>hj j h1 h2]
   have hsl:=wu (P:=Tryz.prog) (t:=62) (sz:=2) (id:=id) (h:=h) zHh yu qz (k:= .i64) hile;clear hj hdone hsame q1 h0 hb
   repeat' first|simp only[go_sem,zEy, *]|apply bc<;>intro hc
   refine zS (by kernel_rfl) ?_
   repeat' first|simp only[go_sem,zEy, *]|apply bc<;>intro hc
   refine zy (fun m fr h'=>fr 0= .rs id 2 0 l.length∧fr 4= .rs id 2 ((i+1)*2) (l.length- (i+1))∧fr 5= .int .i64 ((m+1:Nat):Int)∧i+1+(m+1)≤l.length∧∃ys:List Trm,ys.length=l.length∧h'=h.set id (.row (qN ys).flatten)∧
    (yk zN l (i+2+m)).length≤i+1+m∧fr 3= .int .i64 (((yk zN l (i+2+m)).length:Nat):Int)∧ys.take (yk zN l (i+2+m)).length=yk zN l (i+2+m)∧ys.drop (i+1+m)=l.drop (i+1+m)) l.length ?_ ?_
   ·have hc1:(yk zN l (i+2)).length=i+1:=by rw[hcs,List.length_take];omega
    have hc2:yk zN l (i+2+0)=yk zN l (i+2):=rfl;have hres:i+1+(0+1)≤l.length∧∃ys:List Trm,ys.length=l.length∧h=h.set id (.row (qN ys).flatten)∧
     (yk zN l (i+2+0)).length≤i+1+0∧D.int .i64 ((i+1:Nat):Int)= .int .i64 (((yk zN l (i+2+0)).length:Nat):Int)∧ys.take (yk zN l (i+2+0)).length=yk zN l (i+2+0)∧ys.drop (i+1+0)=l.drop (i+1+0):=
     ⟨by omega,l,rfl,(zA7 hrow).symm,by rw[hc2,hc1];omega,by rw[hc2,hc1],by rw[hc2,hc1,hcs],rfl⟩
    clear hc1 hc2 hcs;simp only[go_sem,zEy,true_and,and_true,Int.ofNat_zero];obtain⟨r0,ys,r1,r2,r3,r4,r5,r6⟩:=hres;exact⟨f0,rfl,r0,ys,r1,r2,r3,f3.trans r4,r5,r6⟩
   clear hcs hsl hq p1 p2 a1 a2 f0 f3 e1 ew ew2;rintro m fr2 h2 hm ⟨f0,f4,f5,hml,ys,hyl,rfl,hcl,f3,hyt,hyd⟩;have hrow2:(h.set id (.row (qN ys).flatten)).at' id=some (.row (qN ys).flatten):=zC _ _ _;have hlen2:=fun(H:Heap)=>zCU (P:=Tryz.prog) (t:=62) (sz:=2) (id:=id) (off:=(i+1)*2) (len:=l.length- (i+1)) (h:=H) Tryz.underlying62;by_cases hlt2:m+1<l.length- (i+1)
   ·have e1:decide (((m+1:Nat):Int)<((l.length- (i+1):Nat):Int))=true:=decide_eq_true (by omega);have ew:IntKind.i64.wrap (((m+1:Nat):Int)+1)=((m+2:Nat):Int):=zh (by unfold lim;omega);have ew2:IntKind.i64.wrap (((m+1:Nat):Int)-1)=((m:Nat):Int):=by rw[zZ (by omega) (by omega)];omega
    have a1:=qv (P:=Tryz.prog) (sz:=2) (id:=id) (off:=(i+1)*2) yu qz (k:= .i64) hlt2;have a2:=qv (P:=Tryz.prog) (sz:=2) (id:=id) (off:=(i+1)*2) yu qz (k:= .i64) (show m<l.length- (i+1) by omega);obtain⟨x,hx⟩:∃x,l[i+1+m+1]? =some x:=⟨_,List.getElem?_eq_getElem (by omega)⟩;obtain⟨y,hy⟩:∃y,l[i+1+m]? =some y:=⟨_,List.getElem?_eq_getElem (by omega)⟩;have g1:ys[i+1+(m+1)]? =some x:=by
     have:=congrArg (fun z=>z[1]?) hyd;simp only[List.getElem?_drop] at this;rw[show i+1+(m+1)=i+1+m+1 by omega,this,hx]
    have g2:ys[i+1+m]? =some y:=by
     have:=congrArg (fun z=>z[0]?) hyd;simp only[List.getElem?_drop,Nat.add_zero] at this;rw[this,hy]
    have cg:∀ (k:Nat) (x:Trm),ys[k]? =some x→(qN ys)[k]? =some x.cells:=fun k x e=>by simp[qN,e]
    have p1:=zCh (zAF ys) (by omega) (cg _ _ g1);have p2:=zCh (zAF ys) (by omega) (cg _ _ g2);have hsx:yk zN l (i+2+(m+1))=if(zN x y==0)=true then yk zN l (i+2+m) else yk zN l (i+2+m)++ [x]:=by
     have:=zOj (c:=zN) hx hy;rw[show i+2+(m+1)=i+1+m+2 by omega,this,show i+2+m=i+1+m+1 by omega]
    have hyd2:∀zs:List Trm,zs.drop (i+1+m)=l.drop (i+1+m)→zs.drop (i+1+(m+1))=l.drop (i+1+(m+1)):=fun zs e=>by
     have:=congrArg (List.drop 1) e;simpa [List.drop_drop,Nat.add_assoc] using this
    generalize hR:yk zN l (i+2+m)=R at *
    have hq:=zUn x y;have hb0:=zDj x y;rw[←hb0] at hq;have hqn:∀c,zCz Tryz.prog .neq 79 c (.agg [.str x.a, .str x.b]) (.agg [.str y.a, .str y.b])=some (.bool (!(zN x y==0))):=fun c=>by
     have he:eqT Tryz.prog 79=some [.s, .s]:=by kernel_rfl
     rw[hb0];simp only[zCz,he,zQx,eqK,Option.map_some,Bool.and_true,zAJ]
    clear hb0 hq;simp only[Trm.cells] at p1 p2;cases hb:(zN x y==0) with
    |true=>
     rw[hb] at hqn;rw[if_pos hb] at hsx;have hres:m<l.length∧i+1+(m+1+1)≤l.length∧∃zs:List Trm,zs.length=l.length∧h.set id (.row (qN ys).flatten)=h.set id (.row (qN zs).flatten)∧
      (yk zN l (i+2+(m+1))).length≤i+1+(m+1)∧D.int .i64 ((R.length:Nat):Int)= .int .i64 (((yk zN l (i+2+(m+1))).length:Nat):Int)∧zs.take (yk zN l (i+2+(m+1))).length=yk zN l (i+2+(m+1))∧zs.drop (i+1+(m+1))=l.drop (i+1+(m+1)):=
      ⟨by omega,by omega,ys,hyl,rfl,by rw[hsx];omega,by rw[hsx],by rw[hsx];exact hyt,hyd2 _ hyd⟩
     clear hyt hyd hyd2 hsx g1 g2 cg hx hy hR hcl hb
     repeat' first|simp only[go_sem,zEy, *]|apply bc<;>intro hc
     refine zS (by kernel_rfl) ?_
     repeat' first|simp only[go_sem,zEy, *]|apply bc<;>intro hc
    |false=>
     rw[hb] at hqn;rw[if_neg (by rw[hb];exact Bool.false_ne_true)] at hsx;have hRl:R.length<l.length:=by omega
     have a3:=zt (P:=Tryz.prog) (sz:=2) (id:=id) yu qz (k:= .i64) hRl;have hst:=zHx (P:=Tryz.prog) (t:=79) hrow2 (zAF ys) (by omega) qz (i:=R.length) (by rw[yc,hyl];exact hRl) (x:=[.str x.a, .str x.b]) rfl rfl;have hset:(qN ys).set R.length [.str x.a, .str x.b]=qN (ys.set R.length x):=by
      have:([.str x.a, .str x.b]:List D)=x.cells:=rfl;rw[this,qN,qN,List.map_set]
     rw[hset,zEN] at hst;have ew3:IntKind.i64.wrap (((R.length:Nat):Int)+1)=((R.length+1:Nat):Int):=zh (by unfold lim;omega);have hres:m<l.length∧i+1+(m+1+1)≤l.length∧∃zs:List Trm,zs.length=l.length∧h.set id (.row (qN (ys.set R.length x)).flatten)=h.set id (.row (qN zs).flatten)∧
      (yk zN l (i+2+(m+1))).length≤i+1+(m+1)∧D.int .i64 ((R.length+1:Nat):Int)= .int .i64 (((yk zN l (i+2+(m+1))).length:Nat):Int)∧zs.take (yk zN l (i+2+(m+1))).length=yk zN l (i+2+(m+1))∧zs.drop (i+1+(m+1))=l.drop (i+1+(m+1)):=by
      have hRn:(R++ [x]).length=R.length+1:=by simp
      refine⟨by omega,by omega,ys.set R.length x,by simpa using hyl,rfl,by rw[hsx,hRn];omega,by rw[hsx,hRn],?_,?_⟩
      ·rw[hsx,hRn,List.take_succ_eq_append_getElem (by rw[List.length_set];omega),List.getElem_set_self,List.take_set_of_le (Nat.le_refl _),hyt]
      ·rw[List.drop_set_of_lt (by omega)];exact hyd2 _ hyd
     clear hyt hyd hyd2 hsx g1 g2 cg hx hy hR hcl hb hset
     repeat' first|simp only[go_sem,zEy, *]|apply bc<;>intro hc
     refine zS (by kernel_rfl) ?_
     repeat' first|simp only[go_sem,zEy, *]|apply bc<;>intro hc
   ·have e1:decide (((m+1:Nat):Int)<((l.length- (i+1):Nat):Int))=false:=decide_eq_false (by omega);have hme:i+2+m=l.length:=by omega
    have hce:yk zN l (i+2+m)=cpt zN l:=by rw[hme];rfl
    rw[hce] at hyt f3 hcl;have hcle:(cpt zN l).length≤l.length:=zBo _;have hsl:=fun(H:Heap)=>wu (P:=Tryz.prog) (t:=62) (sz:=2) (id:=id) (h:=H) zHh yu qz (k:= .i64) hcle;have hsh:=fun(H:Heap)=>zAn (P:=Tryz.prog) (t:=62) (h:=H) zHh yu (id:=id) (sz:=2) qz (k:= .i64) hcle;obtain⟨rest,hclr⟩:=zIF (P:=Tryz.prog) (sz:=2) (t:=62) yu zBm rfl rfl hrow2 (zAF ys) (n:=(cpt zN l).length) (by rw[yc];omega);have htk:(qN ys).take (cpt zN l).length=qN (cpt zN l):=by rw[qN,←List.map_take,hyt];rfl
    rw[htk,zEN,yc,hyl] at hclr;have hfin:=hQ (.rs id 2 0 (cpt zN l).length) (h.set id (.row ((qN (cpt zN l)).flatten++rest))) ⟨rfl,rest,rfl⟩;clear hyt hyd hme hce htk hQ
    repeat' first|simp only[go_sem,zEy, *]|apply bc<;>intro hc
 ·have e1:decide (((i+1:Nat):Int)<(l.length:Int))=false:=decide_eq_false (by omega);have hd:=hdone fun j h1 h2=>hj j h1 (by omega);clear hj hdone hsame q1 h0 hQ
  repeat' first|simp only[go_sem,zEy, *]|apply bc<;>intro hc
theorem zXF (l:List Trm) (n:Nat):below n (.sl 2 (qN l) .no):=zz (Nat.zero_le _) _ (yg (sz:=2) (xs:=qN l) (fun x hx=>by
 obtain⟨y,_,rfl⟩:=List.mem_map.1 hx;exact⟨rfl,by simp[Trm.cells,zg,below],rfl⟩) .no).2
theorem zLC {id sz:Nat} {cs rest:List D} {xs:List (List D)} {n:Nat} (hx:∀x∈xs,x.length=sz) (hl:xs.length=n) (hc:cs=xs.flatten++rest):frz id cs (.rs id sz 0 n)= .sl sz xs .no:=by
 subst hc hl;simp only[frz];rw[if_pos ⟨trivial,by rw[List.length_append,yv hx];omega⟩,List.drop_zero,List.take_append_of_le_length (by rw[yv hx];omega),List.take_of_length_le (by rw[yv hx];omega),zBW hx]
theorem zOk (h:Heap) (i:Nat) (o:Obj):(h.set i o).del i=h.del i:=by
 unfold Heap.set Heap.del;simp only[Heap.mk.injEq,true_and]
 funext j
 by_cases e:j=i<;>simp[e]
theorem zOl {l:List Trm} {id:Nat} {g:Heap} (h0:l≠[]) (hl:l.length≤1048576) (hrow:g.at' id=some (.row (qN l).flatten)):
  zA Tryz.prog 177 [.rs id 2 0 l.length] g fun r h'=>h'=g.del id∧r= .sl 2 (qN (cpt zN l)) .no:=
 zA.freezeD ((zRi h0 hl hrow).mono (by
  rintro r h' ⟨rfl,rest,rfl⟩;exact⟨id,_,zC _ _ _,by rw[zOk],zLC (zAF _) (yc _) rfl⟩))
theorem zUp {l:List Trm} {d:D} (hd:zf 2 (qN l) d) (h0:l≠[]) (hl:l.length≤1048576) (h:Heap):
  zA Tryz.prog 69 [d] h fun r h'=>r= .rs h.next 2 0 l.length∧h'=h.new h.next (.row (qN l).flatten):=by
 rcases hd with⟨rfl,hs⟩ | ⟨tk,rfl⟩
 ·exact absurd (List.map_eq_nil_iff.1 hs) h0
 have hpos:0<l.length:=List.length_pos_iff.2 h0;have hn:zCz Tryz.prog .eql 62 true (.sl 2 (qN l) tk) .nilsl=some (.bool false):=by rw[zBX (zf.mk tk) Tryz.underlying62];rfl
 have hz:=fun nid h=>wk (P:=Tryz.prog) (nid:=nid) (h:=h) yu zBm qz rfl rfl (by omega:0<2);have hap:z8 Tryz.prog true h.next 62 (.sl 2 [] .full) (.sl 2 (qN l) tk) h=some (.rs h.next 2 0 l.length,h.new h.next (.row (qN l).flatten)):=by
  rw[zE3 yu zN8 qz (by omega) (zAF l) (by rw[zEt,yc];unfold lim;omega) (by rw[yc];unfold lim;omega),yc,if_neg (by omega),zA6 Tryz.underlying79]
 refine zA.of_fn (g:=zWE) mix Tryz.func69 zkG rfl rfl ?_;simp only[Tryz.f69,gJ];simp only[qi,go_sem,zlG,hn,hz,hap]
theorem zUq:QC zDo where
 anti x y:=by
  unfold zDo;rw[zKw,zKw];rcases Std.lt_trichotomy x y with h|h|h
  ·have:=List.lt_asymm h;have n:¬x=y:=fun e=>by subst e;exact this h
   simp[h,this,n,Ne.symm n]
  ·subst h;simp[List.lt_irrefl]
  ·have:=List.lt_asymm h;have n:¬x=y:=fun e=>by subst e;exact this h
   simp[h,this,n,Ne.symm n]
 trans x y z h1 h2:=by
  unfold zDo at *
  rw[zKw] at *
  have le1:x<y∨x=y:=by
   split at h1
   ·rename_i q;exact .inl (by simpa using q)
   ·split at h1
    ·rename_i q;exact .inr (by simpa using q)
    ·omega
  have le2:y<z∨y=z:=by
   split at h2
   ·rename_i q;exact .inl (by simpa using q)
   ·split at h2
    ·rename_i q;exact .inr (by simpa using q)
    ·omega
  have le3:x<z∨x=z:=by
   rcases le1 with a|rfl
   ·rcases le2 with b|rfl
    ·exact .inl (List.lt_trans a b)
    ·exact .inl a
   ·exact le2
  rcases le3 with a|rfl
  ·simp[a]
  ·simp[List.lt_irrefl]
theorem zB9 (x y:Trm):zN x y=zMw (zDo x.a y.a) (zDo x.b y.b):=by
 unfold zN zMw;simp only[orL];split
 ·split
  ·rename_i q;exact q.symm
  ·rfl
 ·rfl
theorem zDM:QC zN:=by
 have:=(zUq.key Trm.a).lex (zUq.key Trm.b);exact⟨fun x y=>by rw[zB9,zB9];exact this.anti x y,fun x y z=>by rw[zB9,zB9,zB9];exact this.trans x y z⟩
theorem zFJ (x y:Trm) (h:zN x y=0):x=y:=by
 have:=zDj x y;rw[h] at this
 have:(x.a==y.a&&x.b==y.b)=true:=this.symm;cases x;cases y;simp only[Bool.and_eq_true,beq_iff_eq] at this;obtain⟨rfl,rfl⟩:=this;rfl
end Go.V
