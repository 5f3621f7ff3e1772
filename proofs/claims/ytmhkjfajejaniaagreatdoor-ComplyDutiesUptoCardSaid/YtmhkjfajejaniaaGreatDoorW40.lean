/- A machine of abstract values for programs of the model, further rules, part 3. No condition. -/
import Derived.Test.YtmhkjfajejaniaaGreatDoorW38
import Derived.Test.YtmhkjfajejaniaaGreatDoorW39
import Derived.Test.YtmhkjfajejaniaaGreatDoorW30
import Derived.Test.YtmhkjfajejaniaaGreatDoorW37
set_option linter.all false
namespace Go.V
def ZLp (id:Nat) (L:LRec) (V:(Nat→Prop)→Heap→Prop) (S:Nat→Prop) (h:Heap):Prop:=
 id<h.next∧h.at' id=some (.loop { L with st:= .done,pending:=some .ret })∧∃S0,V S0 h∧¬S0 id∧∀i,S i↔(i=id∨S0 i)
def LpZ (id:Nat) (L:LRec) (W:Nat→(Nat→Prop)→Heap→Prop) (V:(Nat→Prop)→Heap→Prop) (k:Nat) (S0:Nat→Prop) (h:Heap) (r:D) (h':Heap):Prop:=
 ∃S',(∀i,S' i→S0 i∨h.next≤i)∧But (fun i=>i=id∨S0 i) h h'∧((r= .bool true∧h'.at' id=some (.loop L)∧W (k+1) S' h')∨(r= .bool false∧h'.at' id=some (.loop { L with st:= .done,pending:=some .ret })∧V S' h'))
section
variable {P:Program} {W:Nat→(Nat→Prop)→Heap→Prop} {V:(Nat→Prop)→Heap→Prop} {id n:Nat} {L:LRec} {el:Nat→List D}
theorem YLp.yldZ (hW:Lcl W) (hV:Lcl fun _=>V) (go:∀k S0 h3,k<n→id<h3.next→h3.at' id=some (.loop L)→W k S0 h3→¬S0 id→yT P id (el k) h3 (LpZ id L W V k S0 h3)):Yld P id n el (YLp id L W) (ZLp id L V):=by
 refine⟨fun k S h y i hi=> ?_,fun k S h h' y hn hk=> ?_,fun S h y i hi=> ?_,fun S h h' y hn hk=> ?_,fun k S h hk y=> ?_⟩
 ·obtain⟨a1,_,S0,a3,_,a5⟩:=y;rcases(a5 i).1 hi with rfl|hs
  ·exact a1
  ·exact hW.here _ _ _ a3 i hs
 ·obtain⟨a1,a2,S0,a3,a4,a5⟩:=y;exact⟨by omega,by rw[hk id ((a5 id).2 (.inl rfl))];exact a2,S0,hW.loc _ _ _ _ a3 hn fun i hi=>hk i ((a5 i).2 (.inr hi)),a4,a5⟩
 ·obtain⟨a1,_,S0,a3,_,a5⟩:=y;rcases(a5 i).1 hi with rfl|hs
  ·exact a1
  ·exact hV.here 0 _ _ a3 i hs
 ·obtain⟨a1,a2,S0,a3,a4,a5⟩:=y;exact⟨by omega,by rw[hk id ((a5 id).2 (.inl rfl))];exact a2,S0,hV.loc 0 _ _ _ a3 hn fun i hi=>hk i ((a5 i).2 (.inr hi)),a4,a5⟩
 ·obtain⟨a1,a2,S0,a3,a4,a5⟩:=y;refine(go k S0 h hk a1 a2 a3 a4).mono ?_;rintro r h' ⟨S',b1,b2,hb⟩;have hni:¬S' id:=fun e=>by
   rcases b1 _ e with q|q
   ·exact a4 q
   ·omega
  refine⟨fun i=>i=id∨S' i,fun i hi=> ?_,⟨b2.1,fun i hi hn=>b2.2 i hi fun e=>hn ((a5 i).2 e)⟩,?_⟩
  ·rcases hi with rfl|hi
   ·exact .inl ((a5 _).2 (.inl rfl))
   ·exact(b1 i hi).imp (fun q=>(a5 i).2 (.inr q)) fun q=>q
  ·rcases hb with⟨rfl,b3,b4⟩ | ⟨rfl,b3,b4⟩
   ·exact .inl ⟨rfl,Nat.lt_of_lt_of_le a1 b2.1,b3,S',b4,hni,fun i=>Iff.rfl⟩
   ·exact .inr ⟨rfl,Nat.lt_of_lt_of_le a1 b2.1,b3,S',b4,hni,fun i=>Iff.rfl⟩
theorem Lp.finZ (hW:Lcl W) {B:LRec} (hLB:({ B with st:= .ready,pending:=none } :LRec)=L) {h3 h6:Heap} {S0 S':Nat→Prop} {k:Nat} (h3i:id<h3.next) (hn:¬S0 id) (hid:h6.at' id=some (.loop B)) (hs:∀i,S' i→S0 i∨h3.next≤i) (hb:But (fun i=>i=id∨S0 i) h3 h6) (hw:W (k+1) S' h6) {fr:Frm} :
  wB (LpZ id L W V k S0 h3) id .normal fr h6:=by
 refine qk hid ⟨S',hs,hb.set (.inl (.inl rfl)) _, .inl ⟨rfl,by rw[zC,hLB],hW.loc _ _ _ _ hw (Nat.le_refl _) fun i hi=>zE fun e=> ?_⟩⟩;subst e;rcases hs _ hi with q|q
 ·exact hn q
 ·omega
theorem Lp.retZ (hV:Lcl fun _=>V) {B:LRec} (hLB:({ B with st:= .ready,pending:=none } :LRec)=L) {h3 h6:Heap} {S0 S':Nat→Prop} {k:Nat} (h3i:id<h3.next) (hn:¬S0 id) (hid:h6.at' id=some (.loop B)) (hs:∀i,S' i→S0 i∨h3.next≤i) (hb:But (fun i=>i=id∨S0 i) h3 h6) (hw:V S' h6) {fr:Frm} :
  wB (LpZ id L W V k S0 h3) id .ret fr h6:=by
 refine zFo hid ⟨S',hs,hb.set (.inl (.inl rfl)) _, .inr ⟨rfl,by rw[zC,←hLB],hV.loc 0 _ _ _ hw (Nat.le_refl _) fun i hi=>zE fun e=> ?_⟩⟩;subst e;rcases hs _ hi with q|q
 ·exact hn q
 ·omega
theorem zVP {f:FuncId} {args:List D} {h:Heap} {n0:Nat} (hn0:h.next=n0) {S:Nat→Prop} {Q:Exit→Frm→Heap→Prop} {fr:Frm} (hW:Lcl W) (hV:Lcl fun _=>V) (hst:L.st= .ready) (hpe:L.pending=none) (hY:W 0 S h)
  (prod:Yld P n0 n el (YLp n0 L W) (ZLp n0 L V)→YLp n0 L W 0 (fun i=>i=n0∨S i) (h.new n0 (.loop L))→zA P f args (h.new n0 (.loop L)) fun _ h'=>∃S',(∀j,S' j→(j=n0∨S j)∨(h.new n0 (.loop L)).next≤j)∧But (fun i=>i=n0∨S i) (h.new n0 (.loop L)) h'∧(YLp n0 L W n S' h'∨ZLp n0 L V S' h'))
  (go:∀k S0 h3,k<n→n0<h3.next→h3.at' n0=some (.loop L)→W k S0 h3→¬S0 n0→yT P n0 (el k) h3 (LpZ n0 L W V k S0 h3))
  (fin:∀S' h2,(∀j,S' j→S j∨n0≤j)→But S h h2→W n S' h2→Q .normal fr h2)
  (fret:∀S' h2,(∀j,S' j→S j∨n0≤j)→But S h h2→V S' h2→Q .ret fr h2):
  zA P f args (h.new n0 (.loop L)) fun _ h'=>∃r,h'.at' n0=some (.loop r)∧r.st≠ .busy∧zKM r.pending Q fr (h'.del n0):=by
 subst hn0;have hn:(h.new h.next (.loop L)).next=h.next+1:=zD _ _;have hSn:¬S h.next:=fun e=>Nat.lt_irrefl _ (hW.here _ _ _ hY _ e);refine(prod (YLp.yldZ hW hV go) ⟨by omega,zJ _ _ _,S,hW.loc _ _ _ _ hY (by omega) fun i hi=>zF (by have:=hW.here _ _ _ hY _ hi;omega),hSn,fun i=>Iff.rfl⟩).mono ?_;have key:∀ (S' S0:Nat→Prop) (h2:Heap),(∀j,S' j→(j=h.next∨S j)∨(h.new h.next (.loop L)).next≤j)→But (fun i=>i=h.next∨S i) (h.new h.next (.loop L)) h2→¬S0 h.next→(∀i,S' i↔(i=h.next∨S0 i))→(∀j,S0 j→S j∨h.next≤j)∧But S h (h2.del h.next):=by
  intro S' S0 h2 hs hb b4 b5;refine⟨fun j hj=> ?_,by have:=hb.1;show h.next≤h2.next;omega,fun i hi hni=> ?_⟩
  ·rcases hs j ((b5 j).2 (.inr hj)) with(q|q)|q
   ·subst q;exact absurd hj b4
   ·exact .inl q
   ·exact .inr (by omega)
  ·have hne:i≠h.next:=by omega
   rw[yV hne,hb.2 i (by omega) (fun e=>e.elim hne hni),zF hne]
 rintro r h2 ⟨S',hs,hb,⟨b1,b2,S0,b3,b4,b5⟩ | ⟨b1,b2,S0,b3,b4,b5⟩⟩
 ·obtain⟨k1,k2⟩:=key S' S0 h2 hs hb b4 b5;refine⟨L,b2,(by rw[hst];intro q;cases q),?_⟩;rw[hpe,zBF];exact fin S0 _ k1 k2 (hW.loc _ _ _ _ b3 (Nat.le_refl _) fun i hi=>yV fun e=>by subst e;exact b4 hi)
 ·obtain⟨k1,k2⟩:=key S' S0 h2 hs hb b4 b5;refine⟨_,b2,(by intro q;cases q),?_⟩;simp only[zHv];exact fret S0 _ k1 k2 (hV.loc 0 _ _ _ b3 (Nat.le_refl _) fun i hi=>yV fun e=>by subst e;exact b4 hi)
end
open Go.Proofs
set_option maxRecDepth 100000
theorem zNS {c:Cat} {fs:List Fac} {al:Nat→Option Alt} {O:KV} {m:Nat} {x:List D} (h:(zNd c fs al O m).head? =some x):∀k,(zNd c fs al O (m+k)).head? =some x
 |0=>h
 |k+1=>by
  rw[←Nat.add_assoc,zNR,List.head?_append,zNS h k];rfl
def zLV:List D:=[.int .i64 0, .nilsl]
def zXi (l:List (List D)):D:= .tuple [.agg (l.head?.getD zLV), .bool (l.head?.isSome)]
def zcd (c:Cat) (fs:List Fac) (al:Nat→Option Alt) (O:KV) (n0 k:Nat) (S:Nat→Prop) (h:Heap):Prop:=
 n0+1<h.next∧h.at' n0=some (.row zLV)∧h.at' (n0+1)=some (.row [.bool false])∧zNd c fs al O k= []∧∀i,S i↔(i=n0∨i=n0+1)
def zf2 (c:Cat) (fs:List Fac) (al:Nat→Option Alt) (O:KV) (n0:Nat) (S:Nat→Prop) (h:Heap):Prop:=
 ∃x,n0+1<h.next∧h.at' n0=some (.row x)∧h.at' (n0+1)=some (.row [.bool true])∧(zNd c fs al O 6).head? =some x∧∀i,S i↔(i=n0∨i=n0+1)
theorem zcd.lcl (c:Cat) (fs:List Fac) (al:Nat→Option Alt) (O:KV) (n0:Nat):Lcl (zcd c fs al O n0):=by
 refine⟨fun k S h y i hi=> ?_,fun k S h h' y hn hk=> ?_⟩
 ·obtain⟨a1,a2,a3,a4,a5⟩:=y;rcases(a5 i).1 hi with rfl|rfl<;>omega
 ·obtain⟨a1,a2,a3,a4,a5⟩:=y;exact⟨by omega,by rw[hk _ ((a5 _).2 (.inl rfl))];exact a2,by rw[hk _ ((a5 _).2 (.inr rfl))];exact a3,a4,a5⟩
theorem zf2.lcl (c:Cat) (fs:List Fac) (al:Nat→Option Alt) (O:KV) (n0:Nat):Lcl fun _=>zf2 c fs al O n0:=by
 refine⟨fun k S h y i hi=> ?_,fun k S h h' y hn hk=> ?_⟩
 ·obtain⟨x,a1,a2,a3,a4,a5⟩:=y;rcases(a5 i).1 hi with rfl|rfl<;>omega
 ·obtain⟨x,a1,a2,a3,a4,a5⟩:=y;exact⟨x,by omega,by rw[hk _ ((a5 _).2 (.inl rfl))];exact a2,by rw[hk _ ((a5 _).2 (.inr rfl))];exact a3,a4,a5⟩
set_option maxHeartbeats 4000000 in
theorem zVQ {c:Cat} {fs:List Fac} {al:Nat→Option Alt} {M:KM Int} {O:KV} {sc:List D} {m1 m2:Nat} (hs:Stt c fs al M O sc m1 m2) (hn:fs.length≤16) {g:Heap} (hH:StH M O m1 m2 g):
  zA Tryz.prog 42 [.iptr sc 0] g fun r h'=>h'=g∧r=zXi (zNd c fs al O 6):=by
 refine zA.pure (by kernel_rfl) fun hok'=>zA.strip ?_;refine zA.post fun Q hQ=> ?_;have hcv:=zNQ sc;obtain⟨G,hG,hGn,g1,g2,hE⟩:∃G:Heap,(g.new g.next (.row [.int .i64 0, .nilsl])).new (g.next+1) (.row [.bool false])=G∧G.next=g.next+2∧G.at' g.next=some (.row zLV)∧G.at' (g.next+1)=some (.row [.bool false])∧Ext g G:=
  ⟨_,rfl,zb _ (by rw[zD];exact Nat.le_refl _) _,by rw[zF (by omega)];exact zJ _ _ _,zJ _ _ _,((Ext.refl g).new (Nat.le_refl _) _).new (by omega) _⟩
 refine zA.of_fn (g:=zTk) mix Tryz.func42 zkb rfl rfl ?_;simp only[Tryz.f42,gJ]
 repeat' first|simp only[go_sem,zcJ,zD,zVM, *]|apply bc<;>intro hc|(refine zA.mono (hcv _) ?_;rintro r h ⟨hq,rfl⟩)
 subst hq
 rename Heap=>G
 generalize hL:LRec.mk _ _ _ _ _ _ _=L;have hpe:L.pending=none:=by rw[←hL]
 have hrd:L.st= .ready:=by rw[←hL]
 clear hG;have hW:=zcd.lcl c fs al O g.next;have hV:=zf2.lcl c fs al O g.next;have hW0:zcd c fs al O g.next 0 (fun j=>j=g.next∨j=g.next+1) G:=⟨by omega,g1,g2,rfl,fun _=>Iff.rfl⟩;have hHG:=hH.ext hE;refine zVP (n:=6) (el:=fun i=>[zXg c fs al O i]) hGn hW hV hrd hpe hW0 (fun yl hY0=>(zLU hs hn yl hY0 (hHG.ext ((Ext.refl G).new (by omega) _)) (fun e=> ?_) (fun e=> ?_))) ?_ ?_ ?_
 ·have:=hH.2.1;rcases e with e|e|e<;>omega
 ·have:=hH.2.2;rcases e with e|e|e<;>omega
 ·intro k S0 h3 hk hid3 hl3 hw3 hn3;have hl3':=hl3;rw[←hL] at hl3';refine yT.round (g:=zTk) mix hl3' rfl (by kernel_rfl) (by kernel_rfl) (by kernel_rfl) ?_;simp only[go_sem,zcJ];refine⟨hl3',?_⟩;generalize hB:LRec.mk .busy _ _ _ _ _ _=B;have hLB:({ B with st:= .ready,pending:=none } :LRec)=L:=by rw[←hB,←hL]
  have hbs:But (fun i=>i=g.next+2) h3 (h3.set (g.next+2) (.loop B)):=⟨by rw[ze];exact Nat.le_refl _,fun j _ hj=>zE hj⟩;have hwH:=hW.round hw3 (fun i hi=>hi) hn3 hbs;obtain⟨H,hHe,hHn,hHi⟩:∃H:Heap,h3.set (g.next+2) (.loop B)=H∧H.next=h3.next∧H.at' (g.next+2)=some (.loop B):=⟨_,rfl,ze _ _ _,zC _ _ _⟩;rw[hHe] at hwH hbs⊢;have hwH0:=hwH;obtain⟨a1,a2,a3,a4,a5⟩:=hwH;have hsu:=zNR (c:=c) (fs:=fs) (al:=al) (O:=O) k;rw[a4,List.nil_append] at hsu;clear hL hB hHe hW0 hQ hcv;rcases zR5 (c:=c) (fs:=fs) (al:=al) (O:=O) k with⟨e1,e2⟩ | ⟨e1,tk,e2⟩
  ·have hfin:∀fr,wB (LpZ (g.next+2) L (zcd c fs al O g.next) (zf2 c fs al O g.next) k S0 h3) (g.next+2) .normal fr H:=fun fr=>by
    refine Lp.finZ hW hLB hid3 hn3 hHi (S':=S0) (fun i hi=> .inl hi) ⟨hbs.1,fun i hi hne=>hbs.2 i hi fun e=>hne (.inl e)⟩ ⟨a1,a2,a3,by rw[hsu];exact e2,a5⟩
   have hl:∀h,zCr Tryz.prog 45 .nilsl h=some (.int .i64 0):=fun h=>yo (zf.nil (sz:=2)) Tryz.underlying45;have h0:decide ((0:Int)>0)=false:=rfl;simp only[go_sem,zcJ,e1,hl,h0];exact hfin _
  ·obtain⟨x,xs,hx⟩:=List.exists_cons_of_ne_nil e1;rw[hx] at e2;have hx2:x.length=2:=zCo (k:Int) (zCF c fs al O k) x (by rw[hx];simp);have hxp:∃l,x=zRw (k:Int) l:=by
    have:x∈vbs (k:Int) (zCF c fs al O k):=by rw[hx];simp
    obtain⟨l,_,e⟩:=List.mem_map.1 this;exact⟨l,e.symm⟩
   have hhd:(zNd c fs al O 6).head? =some x:=by
    have:=zNS (c:=c) (fs:=fs) (al:=al) (O:=O) (m:=k+1) (x:=x) (by rw[hsu,hx];rfl) (6- (k+1))
    rwa [show k+1+(6- (k+1))=6 by omega] at this
   have hl:∀h,zCr Tryz.prog 45 (.sl 2 (x::xs) tk) h=some (.int .i64 ((x::xs).length:Int)):=fun h=>yo (zf.mk (sz:=2) tk) Tryz.underlying45;have h0:decide (((x::xs).length:Int)>0)=true:=decide_eq_true (by simp only[List.length_cons];omega);have ha:zT Tryz.prog 45 (.sl 2 (x::xs) tk) (.int .i64 0)=some (.iptr x 0):=zY (i:=0) (zf.mk (sz:=2) tk) wj zAB rfl;have hv2:zO true 2 x 0=some (.agg x):=zB hx2 (by omega);have hst1:zQ Tryz.prog 33 (.ptr g.next 0) (.agg x) H=some (H.set g.next (.row x)):=yN a2 (by rw[zAB,hx2]) (by rw[hx2];rfl) (by omega) (by obtain⟨l,rfl⟩:=hxp;rfl)
   have hst2:zQ Tryz.prog 4 (.ptr (g.next+1) 0) (.bool true) (H.set g.next (.row x))=some ((H.set g.next (.row x)).set (g.next+1) (.row [.bool true])):=by
    rw[zV (by rw[zE (by omega)];exact a3) zdP (by simp) rfl rfl];rfl
   have hfin:∀fr,wB (LpZ (g.next+2) L (zcd c fs al O g.next) (zf2 c fs al O g.next) k S0 h3) (g.next+2) .ret fr ((H.set g.next (.row x)).set (g.next+1) (.row [.bool true])):=fun fr=>by
    have hbn:=hbs.1;refine Lp.retZ hV hLB hid3 hn3 ?_ (S':=S0) (fun i hi=> .inl hi) ⟨by rw[ze,ze];omega,fun i hi hne=> ?_⟩ ⟨x,by rw[ze,ze];omega,by rw[zE (by omega),zC],zC _ _ _,hhd,a5⟩
    ·rw[zE (by omega),zE (by omega)];exact hHi
    ·rw[zE fun e=>hne (.inr ((a5 i).2 (.inr e))),zE fun e=>hne (.inr ((a5 i).2 (.inl e))),hbs.2 i hi fun e=>hne (.inl e)]
   simp only[go_sem,zcJ,e2,hl,h0,ha,hv2,hst1,hst2];exact hfin _
 ·intro S' h2 hsub hb hw2;obtain⟨a1,a2,a3,a4,a5⟩:=hw2;have hE2:Ext g h2:=Ext.of_but hE hb fun j hj=>by rcases hj with rfl|rfl<;>omega
  have hvb:yC Tryz.prog 33 []=some (.agg zLV):=by simp[yC,zFh,zEs,qS,zLV,D.notTuple,D.cells]
  obtain⟨F1,hF1,r1,r2,E1⟩:∃F,h2.set g.next (.row zLV)=F∧F.at' g.next=some (.row zLV)∧F.at' (g.next+1)=some (.row [.bool false])∧Ext g F:=⟨_,rfl,zC _ _ _,by rw[zE (by omega)];exact a3,hE2.set (Nat.le_refl _) _⟩;have hst1:zQ Tryz.prog 33 (.ptr g.next 0) (.agg zLV) h2=some F1:=by
   rw[yN a2 (by rw[zAB];rfl) rfl (by decide) rfl,hF1]
  obtain⟨F2,hF2,r3,r4,E2⟩:∃F,F1.set (g.next+1) (.row [.bool false])=F∧F.at' g.next=some (.row zLV)∧F.at' (g.next+1)=some (.row [.bool false])∧Ext g F:=⟨_,rfl,by rw[zE (by omega)];exact r1,zC _ _ _,E1.set (by omega) _⟩;have hst2:zQ Tryz.prog 4 (.ptr (g.next+1) 0) (.bool false) F1=some F2:=by
   rw[zV r2 zdP (by simp) rfl rfl,←hF2];rfl
  have hv2:zO true 2 zLV 0=some (.agg zLV):=zB rfl (by omega);have hfn:Q (.tuple [.agg zLV, .bool false]) F2:=hQ _ _ ⟨E2,⟨⟨trivial,trivial,trivial⟩,trivial,trivial⟩,by rw[a4];rfl⟩;clear hL hcv hW0 hF1 hF2 E1 E2 hE2
  repeat' first|simp only[go_sem,zcJ, *]|apply bc<;>intro hc
 ·intro S' h2 hsub hb hw2;obtain⟨x,a1,a2,a3,a4,a5⟩:=hw2;have hE2:Ext g h2:=Ext.of_but hE hb fun j hj=>by rcases hj with rfl|rfl<;>omega
  have hxm:x∈zNd c fs al O 6:=List.mem_of_mem_head? a4;obtain⟨p1,p2,p3⟩:=zJ3 x hxm;have hx2:x.length=2:=by
   obtain⟨i,_,h⟩:=List.mem_flatMap.1 hxm;exact zCo _ _ x h
  have hv2:zO true 2 x 0=some (.agg x):=zB hx2 (by omega);have hfn:Q (.tuple [.agg x, .bool true]) h2:=hQ _ _ ⟨hE2,by
   simp only[yE,z7,below,zg,p3];exact⟨qj (Nat.zero_le _) _ p2,trivial,trivial⟩,by
   simp only[yE,z7,p3,zXi,a4];rfl⟩
  clear hL hcv hW0 hE2 p1 p2 p3
  repeat' first|simp only[go_sem,zcJ, *]|apply bc<;>intro hc
set_option maxHeartbeats 8000000 in
theorem zbg {c:Cat} {d x yd:D} {fs:List Fac} {y:Cho} (hc:qW c d) (sm:c.Sm) (hx:zf 12 (zFC fs) x) (hlen:fs.length≤256) (hok:∀f∈fs,f.Ok) (hy:zbD y yd) (ysm:y.Sm)
  (hal:∀a∈y.ts,a.ts≠[]→a.Ok) (hk:zCE fs fs.length≤y.ts.length) (ho:(zW y fs fs.length).outs.length≤y.own.length) (g:Heap):
  zA Tryz.prog 40 [d,x,yd] g fun r h'=>Ext g h'∧∃sc m1 m2,r= .iptr sc 0∧Stt c fs (alS fs y) (zW y fs fs.length).M (zW y fs fs.length).O sc m1 m2∧StH (zW y fs fs.length).M (zW y fs fs.length).O m1 m2 h'∧g.next≤m1∧g.next≤m2:=by
 have hc0:=hc;obtain⟨a,b,e,p,rfl,ha,hb,he,hp⟩:=hc;obtain⟨ta,oa,rfl,hta,hoa⟩:=hy;have hll:=zAi hx;obtain⟨x1,x2,_⟩:=zM hx;have hv4:zO true 4 [a,b,e,p] 0=some (.agg [a,b,e,p]):=zB rfl (by omega);obtain⟨sc,hsc⟩:∃sc,[a,b,e,p,x, .map g.next, .map (g.next+1)]=sc:=⟨_,rfl⟩;have hvb:yC Tryz.prog 151 [(0, .agg [a,b,e,p]),(1,x),(2, .map g.next),(3, .map (g.next+1))]=some (.agg sc):=by
  rw[←hsc];clear hsc x1 x2 hll;rcases hx with⟨rfl,_⟩ | ⟨tk,rfl⟩ <;>simp[yC,zOA,zS8,qS,yX,D.notTuple,D.cells]
 obtain⟨G,hG,hE,hst⟩:∃G:Heap,(g.new g.next (.map [])).new (g.next+1) (.map [])=G∧Ext g G∧StH [] [] g.next (g.next+1) G:=
  ⟨_,rfl,((Ext.refl g).new (Nat.le_refl _) _).new (by omega) _,⟨by rw[zF (by omega)];exact zJ _ _ _,zJ _ _ _⟩,by rw[zb _ (by rw[zD];exact Nat.le_refl _)];omega,by rw[zb _ (by rw[zD];exact Nat.le_refl _)];omega⟩
 have hs1:sc[5]? =some (.map g.next):=by rw[←hsc];rfl
 have hs2:sc[6]? =some (.map (g.next+1)):=by rw[←hsc];rfl
 have hStt:Stt c fs (alS fs y) (zW y fs fs.length).M (zW y fs fs.length).O sc g.next (g.next+1):=⟨⟨a,b,e,p,x,hsc.symm,hc0,hx,ha⟩,sm,hlen,hok,fun i hi=>by rw[zJ0 _ (Nat.le_refl _) i,if_pos hi],fun i z hz=>by
  unfold alS at hz;split at hz
  ·cases hz
  ·split at hz
   ·split at hz
    ·rename_i h1 h2;cases hz;have h2:=of_decide_eq_true h2;unfold zCx at h2⊢;rw[List.getD_eq_getElem?_getD] at h2⊢;cases hq:y.ts[zCE fs i]? with
     |none=>rw[hq] at h2;simp[mkA] at h2
     |some z=>rw[hq] at h2;exact hal z (List.mem_of_getElem? hq) fun e=>by simp[e] at h2
    ·cases hz
   ·cases hz⟩
 clear hc0;refine zA.of_fn (g:=zWH) mix Tryz.func40 zkK rfl rfl ?_;simp only[Tryz.f40,gJ]
 repeat' first|simp only[go_sem,zTQ,zD, *]|apply bc<;>intro hc
 clear hG hvb hsc;refine zG (fun i fr h=>fr 1=x∧fr 5= .iptr [ta,oa] 0∧fr 7= .iptr sc 0∧fr 8= .int .i64 ((zCE fs i:Nat):Int)∧fr 19=x∧fr 20= .int .i64 (fs.length:Int)∧fr 21= .int .i64 (i:Int)∧∃u,fr 9=u∧wD h 1 (yW (zW y fs i).outs) u∧(∀j,wo u j→g.next≤j)∧Ext g h∧StH (zW y fs i).M (zW y fs i).O g.next (g.next+1) h) fs.length (by omega) ?_ ?_ ?_
 ·have hz:zCE fs 0=0:=rfl;have hres:∃u,D.nilsl=u∧wD G 1 (yW (zW y fs 0).outs) u∧(∀j,wo u j→g.next≤j)∧Ext g G∧StH (zW y fs 0).M (zW y fs 0).O g.next (g.next+1) G:=⟨_,rfl, .inl ⟨rfl,rfl⟩,fun j hj=>hj.elim,hE,hst⟩;simp only[go_sem,zTQ,true_and,and_true,Int.ofNat_zero,hz];exact hres
 ·clear hE hst;rintro i fr h hlt e1 ew ⟨f1,f5,f7,f8,f19,f20,f21,u,f9,hO,hut,hE,hst⟩;have a1:=yy hx hlt;have hw:zO true 12 fs[i].cells 0=some (.agg fs[i].cells):=zB rfl (by omega);have hstf:=zFD (hok _ (List.getElem_mem hlt));have hS:=zCq (y:=y) hlt;have hln:=zFP hlt;have hlb:=zOx (fs:=fs) (i:=i+1) (fs.length- (i+1)) (by omega);have hob:=zVF (y:=y) (fs:=fs) (i:=i+1) (fs.length- (i+1)) (by omega);rw[show i+1+(fs.length- (i+1))=fs.length by omega] at hlb hob;have hol:=zJ1 (y:=y) (fs:=fs) i (by omega);have hll2:=zJ2 (fs:=fs) i (by omega);have k0:fs[i].cells[0]? =some (.int .i64 fs[i].kind):=rfl
  have k2:fs[i].cells[2]? =some (.str fs[i].out):=rfl;generalize fs[i]=f at *
  generalize zW y fs i=s at *
  have hnx:h.next<(h.new h.next (.row f.cells)).next:=by rw[zD];omega
  obtain⟨H,hH,hrow,hEH,hOH,hsH,hnH⟩:∃H:Heap,h.new h.next (.row f.cells)=H∧H.at' h.next=some (.row f.cells)∧Ext g H∧wD H 1 (yW s.outs) u∧StH s.M s.O g.next (g.next+1) H∧h.next<H.next:=
   ⟨_,rfl,zJ _ _ _,hE.new hE.1 _,hO.loc (by omega) fun j hj=>zF (by have:=(hO.tok hj).1;omega),hst.ext ((Ext.refl h).new (Nat.le_refl _) _),hnx⟩
  obtain⟨n0,hn0⟩:∃n,h.next=n:=⟨_,rfl⟩;have hE1:=hE.1;rw[hn0] at hH hrow hnH hE1 hnx;have hmn:g.next+1<n0:=by have:=hst.2.2;omega
  have hst1:=hstf h n0;rw[hH] at hst1;clear hstf hE hst hO hnx hok hH hStt;have quiet:zW y fs (i+1)=s→∃u',u=u'∧wD H 1 (yW (zW y fs (i+1)).outs) u'∧(∀j,wo u' j→g.next≤j)∧Ext g H∧StH (zW y fs (i+1)).M (zW y fs (i+1)).O g.next (g.next+1) H:=fun e=>by
   rw[e];exact⟨u,rfl,hOH,hut,hEH,hsH⟩
  cases b1:(f.kind==1) with
  |true=>
   rw[b1] at hS hln;simp only[if_true] at hS hln;have hlk:zCE fs i<y.ts.length:=by omega
   have a2:=zDN hta hlk;have hav:zCx y (zCE fs i)=y.ts[zCE fs i]:=by unfold zCx;rw[List.getD_eq_getElem?_getD,List.getElem?_eq_getElem hlk];rfl
   have hsm:=ysm.ts _ (List.getElem_mem hlk);rw[hav] at hS;have ew2:IntKind.i64.wrap (((zCE fs i:Nat):Int)+1)=((zCE fs (i+1):Nat):Int):=by rw[hln];exact zh (by unfold lim;omega)
   clear hln hlb hav hob;generalize y.ts[zCE fs i]=z at *
   have hlz:=ql hsm.sl;obtain⟨z1,z2,_⟩:=zM hsm.sl;cases b2:decide ((z.ts.length:Int)>0) with
   |false=>
    rw[b2] at hS;have hres:=quiet (by rw[hS];rfl);clear hS quiet hOH hut hEH hsH
    repeat' first|simp only[go_sem,zTQ, *]|apply bc<;>intro hc
   |true=>
    rw[b2,if_pos rfl] at hS;have hmu:yJ Tryz.prog 148 (.map g.next) (.int .i64 (i:Int)) z.d H=some (H.set g.next (.map (kmD (D.int .i64) (zDs (i:Int) z.d s.M)))):=zFM zfn hsH.1.1 zPZ zXy (i:Int) z.d;have hres:∃u',u=u'∧wD (H.set g.next (.map (kmD (D.int .i64) (zDs (i:Int) z.d s.M)))) 1 (yW (zW y fs (i+1)).outs) u'∧(∀j,wo u' j→g.next≤j)∧Ext g (H.set g.next (.map (kmD (D.int .i64) (zDs (i:Int) z.d s.M))))∧StH (zW y fs (i+1)).M (zW y fs (i+1)).O g.next (g.next+1) (H.set g.next (.map (kmD (D.int .i64) (zDs (i:Int) z.d s.M)))):=by
     rw[hS];refine⟨u,rfl,hOH.loc (Nat.le_refl _) fun j hj=>zE fun e=> ?_,hut,hEH.set (Nat.le_refl _) _,⟨zC _ _ _,by rw[zE (by omega)];exact hsH.1.2⟩,hsH.2⟩;have:=(hOH.tok hj).2;rw[e,hsH.1.1] at this;cases this
    clear hS quiet hOH hut hEH hsH
    repeat' first|simp only[go_sem,zTQ, *]|apply bc<;>intro hc
    refine zS (by kernel_rfl) ?_
    repeat' first|simp only[go_sem,zTQ,zX, *]|apply bc<;>intro hc
  |false=>
   rw[b1] at hS hln;simp only[Bool.false_eq_true,if_false,Nat.add_zero] at hS hln;rw[←hln] at f8;clear hln hlb;cases b2:(f.kind==2) with
   |false=>
    rw[b2] at hS;have hres:=quiet hS;clear hS quiet hOH hut hEH hsH
    repeat' first|simp only[go_sem,zTQ, *]|apply bc<;>intro hc
   |true=>
    rw[b2,if_pos rfl] at hS;have hcs:=zCZ hOH.isSl (by omega) f.out H;have hlu:=yw hOH.isSl;obtain⟨u1,u2,_⟩:=zM hOH.isSl;cases b3:(s.outs.any fun z=>z==f.out) with
    |true=>
     rw[b3,if_pos rfl] at hS;have hres:=quiet hS;rw[b3] at hcs;clear hS quiet hOH hut hEH hsH
     repeat' first|simp only[go_sem,zTQ, *]|apply bc<;>intro hc|(refine zA.mono hcs ?_;rintro r h ⟨hq,rfl⟩)
    |false=>
     rw[b3] at hS hcs;simp only[Bool.false_eq_true,if_false] at hS;have hlo:s.outs.length<y.own.length:=by
      rw[hS,List.length_append,List.length_singleton] at hob;omega
     have a3:=zAb hoa hlo;have hov:zRz y s.outs.length=y.own[s.outs.length]:=by unfold zRz;rw[List.getD_eq_getElem?_getD,List.getElem?_eq_getElem hlo];rfl
     rw[hov] at hS;clear hov hob;generalize y.own[s.outs.length]=nm at *
     have hone:=zEL f.out;have fin:∀ (H2:Heap) (O2:KV),H2.next=H.next→wD H2 1 (yW s.outs) u→Ext g H2→StH s.M O2 g.next (g.next+1) H2→(zW y fs (i+1)).M=s.M→(zW y fs (i+1)).O=O2→(zW y fs (i+1)).outs=s.outs++ [f.out]→
       ∃d' h6,z8 Tryz.prog false H2.next 40 u (.sl 1 [[.str f.out]] .full) H2=some (d',h6)∧∃u',d'=u'∧wD h6 1 (yW (zW y fs (i+1)).outs) u'∧(∀j,wo u' j→g.next≤j)∧Ext g h6∧StH (zW y fs (i+1)).M (zW y fs (i+1)).O g.next (g.next+1) h6:=fun H2 O2 hn hO hE hs q1 q2 q3=>by
      obtain⟨d',h6,v1,v2,v3,v4,v5,v6,v7⟩:=hO.app4 (P:=Tryz.prog) (t:=40) (ys:=[[.str f.out]]) (x:= .sl 1 [[.str f.out]] .full) qQ zJV zBg (by omega) (by simp) (.inr ⟨by simp,_,rfl⟩) (by rw[z6,zCR];unfold lim;simp;omega) (by rw[z6];unfold lim;simp;omega);have hE0:=hE.1;have t1:∀j,wo u j→j≠g.next∧j≠g.next+1:=fun j hj=>by
       have:=(hO.tok hj).2;exact⟨fun e=>(by rw[e,hs.1.1] at this;cases this),fun e=>(by rw[e,hs.1.2] at this;cases this)⟩
      refine⟨d',h6,v1,d',rfl,by rw[q3,zQN];exact v2,fun j hj=>by have:=v5 j hj;omega,⟨by omega,fun j hj=>by rw[v4 j (by omega) fun e=>by have:=hut j e;omega,hE.2 j hj]⟩,by rw[q1,q2];exact⟨⟨by rw[v4 _ hs.2.1 fun e=>(t1 _ e).1 rfl];exact hs.1.1,by rw[v4 _ hs.2.2 fun e=>(t1 _ e).2 rfl];exact hs.1.2⟩,by have:=hs.2.1;omega,by have:=hs.2.2;omega⟩⟩
     cases b4:(nm== []) with
     |true=>
      rw[b4] at hS;obtain⟨d',h6,v1,hres⟩:=fin H s.O rfl hOH hEH hsH (by rw[hS]) (by rw[hS];rfl) (by rw[hS]);clear hS quiet hOH hut hEH hsH fin
      repeat' first|simp only[go_sem,zTQ, *]|apply bc<;>intro hc|(refine zA.mono hcs ?_;rintro r h ⟨hq,rfl⟩)
     |false=>
      rw[b4] at hS;obtain⟨H2,hH2,hn2,hO2,hE2,hs2',hr2⟩:∃H2:Heap,H.set (g.next+1) (.map (kvD (zKt f.out nm s.O)))=H2∧H2.next=H.next∧wD H2 1 (yW s.outs) u∧Ext g H2∧StH s.M (zKt f.out nm s.O) g.next (g.next+1) H2∧H2.at' n0=some (.row f.cells):=
       ⟨_,rfl,ze _ _ _,hOH.loc (Nat.le_refl _) fun j hj=>zE fun e=>(by have:=(hOH.tok hj).2;rw[e,hsH.1.2] at this;cases this),hEH.set (by omega) _,⟨⟨by rw[zE (by omega)];exact hsH.1.1,zC _ _ _⟩,hsH.2⟩,by rw[zE (by omega)];exact hrow⟩
      have hmu:yJ Tryz.prog 149 (.map (g.next+1)) (.str f.out) (.str nm) H=some H2:=by rw[←hH2];exact zKv hsH.1.2 zPa zMI f.out nm
      obtain⟨d',h6,v1,hres⟩:=fin H2 _ hn2 hO2 hE2 hs2' (by rw[hS]) (by rw[hS];rfl) (by rw[hS]);clear hS quiet hOH hut hEH hsH fin hH2 hn2 hO2 hE2 hs2'
      repeat' first|simp only[go_sem,zTQ, *]|apply bc<;>intro hc|(refine zA.mono hcs ?_;rintro r h ⟨hq,rfl⟩)
      refine zS (by kernel_rfl) ?_
      repeat' first|simp only[go_sem,zTQ,zX, *]|apply bc<;>intro hc
 ·clear hE hst;rintro fr h e1 ⟨f1,f5,f7,f8,f19,f20,f21,u,f9,hO,hut,hE,hst⟩;have hfin:Ext g h∧∃sc' m1 m2,D.iptr sc 0= .iptr sc' 0∧Stt c fs (alS fs y) (zW y fs fs.length).M (zW y fs fs.length).O sc' m1 m2∧StH (zW y fs fs.length).M (zW y fs fs.length).O m1 m2 h∧g.next≤m1∧g.next≤m2:=⟨hE,sc,g.next,g.next+1,rfl,hStt,hst,Nat.le_refl _,by omega⟩;clear hO hut hE hst hStt
  repeat' first|simp only[go_sem,zTQ, *]|apply bc<;>intro hc
def zQr (c:Cat) (fs:List Fac) (y:Cho):List (List D):=zNd c fs (alS fs y) (zW y fs fs.length).O 6
section
variable {c:Cat} {fs:List Fac} {y:Cho} {d x yd:D} (I:CIn c fs y d x yd)
include I
theorem CIn.start {p:Bool} (h:zi c fs y p=0) (g:Heap):zA Tryz.prog 40 [d,x,yd] g fun r h'=>Ext g h'∧∃sc m1 m2,r= .iptr sc 0∧Stt c fs (alS fs y) (zW y fs fs.length).M (zW y fs fs.length).O sc m1 m2∧StH (zW y fs fs.length).M (zW y fs fs.length).O m1 m2 h'∧g.next≤m1∧g.next≤m2:=by
 have h1:=I.n16 h;obtain⟨_,k1,k2,k3⟩:=zIc h I.ysm;exact zbg I.cat I.sm I.x (by omega) I.ok I.cho I.ysm (fun a ha hn=>(k3 a ha hn).1) (by omega) (by omega) g
end
theorem zR6 {c:Cat} {fs:List Fac} {y:Cho} :∀x∈zQr c fs y,yr x:=zJ3
def Vio.cells (v:Vio):List D:=[.int .i64 v.row, .sl 1 (wU v.facts) .no]
def vcs (l:List Vio):List (List D):=l.map Vio.cells
def zLW (c:Cat) (fs:List Fac) (al:Nat→Option Alt) (O:KV) (k:Nat):List Vio:=(List.range k).flatMap fun i:Nat=>(zCF c fs al O i).map fun l=>⟨(i:Int),l⟩
def zDw (c:Cat) (fs:List Fac) (y:Cho):List Vio:=zLW c fs (alS fs y) (zW y fs fs.length).O 6
theorem zVR {c:Cat} {fs:List Fac} {al:Nat→Option Alt} {O:KV} {k:Nat} :zNd c fs al O k=vcs (zLW c fs al O k):=by
 unfold zNd zLW vcs vbs;rw[List.map_flatMap];congr 1
 funext i
 rw[List.map_map];rfl
theorem zNT {c:Cat} {fs:List Fac} {y:Cho} :zQr c fs y=vcs (zDw c fs y):=zVR
def zId (c:Cat) (fs:List Fac) (y:Cho):D:=
 if(!(zi c fs y true==0))=true then .tuple [.agg zLV, .bool false, .int .i64 (zi c fs y true)] else .tuple [.agg ((zQr c fs y).head?.getD zLV), .bool ((zQr c fs y).head?.isSome), .int .i64 0]
def zIe (c:Cat) (fs:List Fac) (y:Cho):D:=
 if(!(zi c fs y false==0))=true then .tuple [.bool false, .int .i64 (zi c fs y false)] else .tuple [.bool (!(zQr c fs y).head?.isSome), .int .i64 0]
theorem zbh {c:Cat} {fs:List Fac} {y:Cho} :∃num l,(zQr c fs y).head?.getD zLV= [.int .i64 num,l]∧zf 1 [] .nilsl∧l.flat=true∧yr [.int .i64 num,l]:=by
 cases h:(zQr c fs y).head? with
 |none=>exact⟨0, .nilsl,rfl, .inl ⟨rfl,rfl⟩,rfl,rfl,⟨trivial,trivial,trivial⟩,rfl⟩
 |some x=>
  have hm:=List.mem_of_mem_head? h;have hp:=zR6 x hm;obtain⟨i,_,hx⟩:=List.mem_flatMap.1 hm;obtain⟨l,_,rfl⟩:=List.mem_map.1 hx;exact⟨_,_,rfl, .inl ⟨rfl,rfl⟩,rfl,hp⟩
set_option maxHeartbeats 4000000 in
theorem zLX {c:Cat} {fs:List Fac} {y:Cho} {d x yd:D} (I:CIn c fs y d x yd) (g:Heap):
  zA Tryz.prog 14 [d,x,yd] g fun r h'=>h'=g∧r=zIe c fs y:=by
 refine zA.pure (by kernel_rfl) fun hok'=>zA.strip ?_;refine zA.post fun Q hQ=> ?_;have hcc:=I.check false;have hst:=fun h=>I.start (p:=false) h;have h16:=fun h=>I.n16 (p:=false) h;obtain⟨a,b,e,p,rfl,_⟩:=I.cat;obtain⟨ta,oa,rfl,_⟩:=I.cho;obtain⟨x1,x2,_⟩:=zM I.x;have hv4:zO true 4 [a,b,e,p] 0=some (.agg [a,b,e,p]):=zB rfl (by omega);have hv2:zO true 2 [ta,oa] 0=some (.agg [ta,oa]):=zB rfl (by omega);have hQn:∀h' z n,Ext g h'→zIe c fs y= .tuple [.bool z, .int .i64 n]→Q (.tuple [.bool z, .int .i64 n]) h':=fun h' z n hE e=>hQ _ _ ⟨hE,⟨trivial,trivial,trivial⟩,e.symm⟩
 refine zA.of_fn (g:=zWh) mix Tryz.func14 zko rfl rfl ?_;simp only[Tryz.f14,gJ];cases he:(zi c fs y false==0) with
 |false=>
  have hve:zIe c fs y= .tuple [.bool false, .int .i64 (zi c fs y false)]:=by unfold zIe;rw[he];rfl
  have hfin:=hQn g _ _ (Ext.refl g) hve;clear hQn hve hQ hst h16
  repeat' first|simp only[go_sem,zge, *]|apply bc<;>intro hc|(refine zA.mono (hcc _) ?_;rintro r h ⟨hq,rfl⟩)
 |true=>
  have h0:zi c fs y false=0:=by simpa using he
  have hve:zIe c fs y= .tuple [.bool (!(zQr c fs y).head?.isSome), .int .i64 0]:=by unfold zIe;rw[he];rfl
  have hs:=hst h0;have hn:=h16 h0;rw[h0] at hcc he;clear hst h16 h0
  repeat' first|simp only[go_sem,zge, *]|apply bc<;>intro hc|(refine zA.mono (hcc _) ?_;rintro r h ⟨hq,rfl⟩)
  subst hq
  rename Heap=>g
  refine(hs _).mono ?_;rintro r h1 ⟨hE,sc,m1,m2,rfl,hS,hH,_,_⟩
  repeat' first|simp only[go_sem,zge, *]|apply bc<;>intro hc
  refine(zVQ hS hn hH).mono ?_;rintro r h2 ⟨hq,rfl⟩;subst hq;have hh:zXi (zNd c fs (alS fs y) (zW y fs fs.length).O 6)= .tuple [.agg ((zQr c fs y).head?.getD zLV), .bool ((zQr c fs y).head?.isSome)]:=rfl;rw[hh];obtain⟨num,l,hl,_,hlf,hlp⟩:=zbh (c:=c) (fs:=fs) (y:=y);have hst2:zQ Tryz.prog 33 (.ptr h2.next 0) (.agg [.int .i64 num,l]) (h2.new h2.next (.row [.int .i64 0, .nilsl]))=some (h2.new h2.next (.row [.int .i64 num,l])):=zU zAB (by omega) rfl rfl hlp.1;have hfin:=hQn (h2.new h2.next (.row [.int .i64 num,l])) _ _ (hE.new hE.1 _) hve;rw[hl];clear hQn hve hQ hs hE hS hH hh hl hlp
  repeat' first|simp only[go_sem,zge, *]|apply bc<;>intro hc
set_option maxHeartbeats 4000000 in
theorem zR7 {c:Cat} {fs:List Fac} {y:Cho} {d x yd:D} (I:CIn c fs y d x yd) (g:Heap):
  zA Tryz.prog 13 [d,x,yd] g fun r h'=>h'=g∧r=zId c fs y:=by
 refine zA.pure (by kernel_rfl) fun hok'=>zA.strip ?_;refine zA.post fun Q hQ=> ?_;have hcc:=I.check true;have hst:=fun h=>I.start (p:=true) h;have h16:=fun h=>I.n16 (p:=true) h;obtain⟨a,b,e,p,rfl,_⟩:=I.cat;obtain⟨ta,oa,rfl,_⟩:=I.cho;obtain⟨x1,x2,_⟩:=zM I.x;have hv4:zO true 4 [a,b,e,p] 0=some (.agg [a,b,e,p]):=zB rfl (by omega);have hv2:zO true 2 [ta,oa] 0=some (.agg [ta,oa]):=zB rfl (by omega);have hvv:∀m l:D,zO true 2 [m,l] 0=some (.agg [m,l]):=fun m l=>zB rfl (by omega);have hvb:yC Tryz.prog 33 []=some (.agg [.int .i64 0, .nilsl]):=by simp[yC,zFh,zEs,qS,D.notTuple,D.cells]
 obtain⟨G,hG,hEG,hGr,hGn⟩:∃G:Heap,g.new g.next (.row [.int .i64 0, .nilsl])=G∧Ext g G∧G.at' g.next=some (.row [.int .i64 0, .nilsl])∧g.next<G.next:=⟨_,rfl,(Ext.refl g).new (Nat.le_refl _) _,zJ _ _ _,by rw[zD];omega⟩;have hQn:∀h' v z n,Ext g h'→yr v→zId c fs y= .tuple [.agg v, .bool z, .int .i64 n]→Q (.tuple [.agg v, .bool z, .int .i64 n]) h':=fun h' v z n hE hp e=>hQ _ _ ⟨hE,by
  simp only[yE,z7,below,zg,hp.2.2];exact⟨qj (Nat.zero_le _) _ hp.2.1,trivial,trivial,trivial⟩,by simp only[yE,z7,hp.2.2];exact e.symm⟩
 refine zA.of_fn (g:=zWb) mix Tryz.func13 zkg rfl rfl ?_;simp only[Tryz.f13,gJ];cases he:(zi c fs y true==0) with
 |false=>
  have hve:zId c fs y= .tuple [.agg [.int .i64 0, .nilsl], .bool false, .int .i64 (zi c fs y true)]:=by unfold zId;rw[he];rfl
  have hst1:zQ Tryz.prog 33 (.ptr g.next 0) (.agg [.int .i64 0, .nilsl]) G=some G:=by
   rw[yN hGr (by rw[zAB];rfl) rfl (by decide) rfl,zA7 hGr]
  have hfin:=hQn G _ _ _ hEG (show yr [.int .i64 0, .nilsl] from⟨rfl,⟨trivial,trivial,trivial⟩,rfl⟩) hve
  clear hQn hve hQ hst h16
  repeat' first|simp only[go_sem,zgc, *]|apply bc<;>intro hc|(refine zA.mono (hcc _) ?_;rintro r h ⟨hq,rfl⟩)
 |true=>
  have h0:zi c fs y true=0:=by simpa using he
  have hve:zId c fs y= .tuple [.agg ((zQr c fs y).head?.getD zLV), .bool ((zQr c fs y).head?.isSome), .int .i64 0]:=by unfold zId;rw[he];rfl
  have hs:=hst h0;have hn:=h16 h0;rw[h0] at hcc he;clear hst h16 h0
  repeat' first|simp only[go_sem,zgc, *]|apply bc<;>intro hc|(refine zA.mono (hcc _) ?_;rintro r h ⟨hq,rfl⟩)
  subst hq
  rename Heap=>G
  refine(hs _).mono ?_;rintro r h1 ⟨hE,sc,m1,m2,rfl,hS,hH,_,_⟩
  repeat' first|simp only[go_sem,zgc, *]|apply bc<;>intro hc
  refine(zVQ hS hn hH).mono ?_;rintro r h2 ⟨hq,rfl⟩;subst hq;have hh:zXi (zNd c fs (alS fs y) (zW y fs fs.length).O 6)= .tuple [.agg ((zQr c fs y).head?.getD zLV), .bool ((zQr c fs y).head?.isSome)]:=rfl;rw[hh];obtain⟨num,l,hl,_,hlf,hlp⟩:=zbh (c:=c) (fs:=fs) (y:=y);have hgn:g.next<h2.next:=Nat.lt_of_lt_of_le hGn hE.1;have hr2:h2.at' g.next=some (.row [.int .i64 0, .nilsl]):=by rw[hE.2 _ hGn];exact hGr
  have hst2:zQ Tryz.prog 33 (.ptr h2.next 0) (.agg [.int .i64 num,l]) (h2.new h2.next (.row [.int .i64 0, .nilsl]))=some (h2.new h2.next (.row [.int .i64 num,l])):=zU zAB (by omega) rfl rfl hlp.1;obtain⟨H,hH3,hHr,hHt,hEH⟩:∃H:Heap,h2.new h2.next (.row [.int .i64 num,l])=H∧H.at' g.next=some (.row [.int .i64 0, .nilsl])∧H.at' h2.next=some (.row [.int .i64 num,l])∧Ext g H:=⟨_,rfl,by rw[zF (by omega)];exact hr2,zJ _ _ _,(hEG.trans hE).new (by omega) _⟩;rw[hH3] at hst2
  obtain⟨F,hF,hFr,hEF⟩:∃F:Heap,H.set g.next (.row [.int .i64 num,l])=F∧F.at' g.next=some (.row [.int .i64 num,l])∧Ext g F:=⟨_,rfl,zC _ _ _,hEH.set (Nat.le_refl _) _⟩;have hst3:zQ Tryz.prog 33 (.ptr g.next 0) (.agg [.int .i64 num,l]) H=some F:=by
   rw[yN (cs':=[.int .i64 num,l]) hHr (by rw[zAB];rfl) rfl (by simp) hlp.1,hF]
  rw[hl] at hve;have hfin:=hQn F _ _ _ hEF hlp hve;rw[hl];clear hQn hve hQ hs hE hS hH hh hl hlp hH3 hF hEF hEH hr2 hEG
  repeat' first|simp only[go_sem,zgc, *]|apply bc<;>intro hc
theorem zDn (a b:Vio):zVB a b=zMw (yj a.row b.row) (qh a.facts b.facts):=by
 unfold zVB zMw;simp only[orL];split
 ·split
  ·rename_i q;exact q.symm
  ·rfl
 ·rfl
theorem zbi:QC zVB:=by
 have:=(zIL.key Vio.row).lex (zIZ.key Vio.facts);exact⟨fun x y=>by rw[zDn,zDn];exact this.anti x y,fun x y z=>by rw[zDn,zDn,zDn];exact this.trans x y z⟩
theorem zQs {a b:Vio} (h:a.row<b.row):zVB a b<0:=by
 rw[zDn]
 have:yj a.row b.row= -1:=by unfold yj;rw[if_pos h]
 rw[this,zMw,if_neg (by decide)];decide
section
variable {c:Cat} {fs:List Fac} {al:Nat→Option Alt} {O:KV}
theorem zVS (i:Nat):(zCF c fs al O i).Pairwise fun a b=>qh a b<0:=zaw zIZ (zFv zIZ _)
theorem zNU {i:Nat} {l:List Int} :l∈zCF c fs al O i↔∃z∈zEV c fs al O i,zDv z=l:=by
 unfold zCF;rw[zav zVC,zII,List.mem_map]
theorem zR8 (k:Nat):zLW c fs al O (k+1)=zLW c fs al O k++(zCF c fs al O k).map fun l=>(⟨(k:Int),l⟩:Vio):=by
 unfold zLW;rw[List.range_succ,List.flatMap_append,List.flatMap_cons,List.flatMap_nil,List.append_nil]
theorem zNV {k:Nat} {v:Vio} :v∈zLW c fs al O k↔∃i:Nat,i<k∧v.row=(i:Int)∧v.facts∈zCF c fs al O i:=by
 unfold zLW;rw[List.mem_flatMap];constructor
 ·rintro⟨i,hi,h⟩;obtain⟨l,hl,rfl⟩:=List.mem_map.1 h;exact⟨i,List.mem_range.1 hi,rfl,hl⟩
 ·rintro⟨i,hi,h1,h2⟩;refine⟨i,List.mem_range.2 hi,List.mem_map.2 ⟨v.facts,h2,?_⟩⟩;cases v;simp only at h1;rw[h1]
theorem zNW:∀k,(zLW c fs al O k).Pairwise fun a b=>zVB a b<0
 |0=>List.Pairwise.nil
 |k+1=>by
  rw[zR8];refine List.pairwise_append.2 ⟨zNW k,?_,fun a ha b hb=> ?_⟩
  ·rw[List.pairwise_map];exact(zVS k).imp fun {a b} h=>by rw[zIa];exact h
  ·obtain⟨i,hi,h1,_⟩:=zNV.1 ha;obtain⟨l,_,rfl⟩:=List.mem_map.1 hb;exact zQs (by rw[h1];show(i:Int)<(k:Int);omega)
end
theorem zVT {c:Cat} {fs:List Fac} {y:Cho} :(zDw c fs y).Pairwise fun a b=>zVB a b<0:=zNW 6
theorem zVU {c:Cat} {fs:List Fac} {y:Cho} {v:Vio} :v∈zDw c fs y↔∃i:Nat,i<6∧v.row=(i:Int)∧∃z∈zEV c fs (alS fs y) (zW y fs fs.length).O i,zDv z=v.facts:=by
 unfold zDw;rw[zNV];constructor
 ·rintro⟨i,h1,h2,h3⟩;exact⟨i,h1,h2,zNU.1 h3⟩
 ·rintro⟨i,h1,h2,h3⟩;exact⟨i,h1,h2,zNU.2 h3⟩
theorem zNX {c:Cat} {fs:List Fac} {y:Cho} (h:zi c fs y false=0):zi c fs y true=0:=by
 unfold zi at h⊢;split at h
 ·rename_i q;rw[h] at q;exact absurd q (by decide)
 ·rename_i q1;rw[if_neg q1];split at h
  ·exact absurd h (by decide)
  ·rename_i q2;rw[if_neg q2];split at h
   ·rename_i q;rw[h] at q;exact absurd q (by decide)
   ·rename_i q3;have t0:zDH (zA9 (zH c fs).1 y.ts false) y.ts.length=0:=by simpa using q3
    have t1:zDH (zA9 (zH c fs).1 y.ts true) y.ts.length=0:=qF fun i hi=>by
     have:=zCk t0 i hi;unfold zA9 at this⊢;rw[List.getElem?_eq_getElem hi] at this⊢;simp only[Bool.false_and,Bool.false_eq_true,if_false,Bool.true_and] at this⊢;split
     ·rfl
     ·exact this
    rw[t1];simp only[beq_self_eq_true,Bool.not_true,Bool.false_eq_true,if_false];refine qF fun i hi=> ?_;have:=zCk h i hi;unfold zQh at this⊢;rw[List.getElem?_eq_getElem hi] at this⊢;simp only[Bool.false_and,Bool.false_eq_true,if_false,Bool.true_and] at this⊢;split
    ·rfl
    ·exact this
def zG8 (c:Cat) (l:List Fac) (n:Nat):Cho:=⟨(zXQ c l n).map mkA,zXR c l n⟩
theorem zYz {c:Cat} {l:List Fac} {n:Int} (h:zCt c l n=0):(zH c l).2.2=0∧0≤n∧n.toNat<zLM c l:=by
 unfold zCt at h;split at h
 ·rename_i q;rw[h] at q;exact absurd q (by decide)
 ·rename_i q1;split at h
  ·exact absurd h (by decide)
  ·rename_i q2;have hc:wv c l=0:=by simpa using q1
   have hv:(zH c l).2.2=0:=by
    unfold wv at hc;split at hc
    ·exact hc
    ·rename_i q;simpa using q
   simp only[Bool.or_eq_true,decide_eq_true_eq,not_or] at q2;exact⟨hv,by omega,by omega⟩
theorem zR9 {c:Cat} {l:List Fac} {n:Int} (h:zCt c l n=0):zi c l (zG8 c l n.toNat) false=0:=by
 obtain⟨hv,h0,hn⟩:=zYz h;have hpos:=zQk hn;have hd:=zOr (l:=zDr c (zH c l).1 (zH c l).2.1) (n:=n.toNat) hpos;have hT:(zG8 c l n.toNat).ts.length=(zH c l).1.length:=by simp[zG8,zXQ,ym]
 have hO:(zG8 c l n.toNat).own.length=(zH c l).2.1.length:=by simp[zG8,zXR,zAq]
 have hrl:(zDr c (zH c l).1 (zH c l).2.1).length=(zH c l).1.length+(zH c l).2.1.length:=by simp[zDr]
 unfold zi;rw[hv,hT,hO];simp only[beq_self_eq_true,Bool.not_true,Bool.false_eq_true,if_false,Bool.or_self];have t1:zDH (zA9 (zH c l).1 (zG8 c l n.toNat).ts false) (zH c l).1.length=0:=qF fun i hi=>by
  unfold zA9;have hi2:i<(zG8 c l n.toNat).ts.length:=by rw[hT];exact hi
  rw[List.getElem?_eq_getElem hi2];have hdi:=hd i (by omega);have hri:(zDr c (zH c l).1 (zH c l).2.1)[i]'(by omega)=(zH c l).1[i].length:=by
   simp only[zDr];rw[List.getElem_append_left (by simpa using hi),List.getElem_map]
  rw[hri] at hdi;have hts:(zG8 c l n.toNat).ts[i].ts=(zH c l).1[i][(zEU (zDr c (zH c l).1 (zH c l).2.1) n.toNat).1.getD i 0]:=by
   simp only[zG8,zXQ,ym,List.getElem_map,List.getElem_range,mkA];rw[List.getD_eq_getElem?_getD (l:=(zH c l).1),List.getElem?_eq_getElem hi,Option.getD_some,List.getD_eq_getElem?_getD (l:=(zH c l).1[i]),List.getElem?_eq_getElem hdi,Option.getD_some]
  simp only[Bool.false_and,Bool.false_eq_true,if_false];rw[if_neg]
  have:((zH c l).1.getD i []).any (fun b=>zLj (zG8 c l n.toNat).ts[i].ts b)=true:=by
   rw[List.getD_eq_getElem?_getD,List.getElem?_eq_getElem hi,Option.getD_some];exact List.any_eq_true.2 ⟨_,List.getElem_mem hdi,(zCl _ _).2 hts⟩
  rw[this];decide
 rw[t1];simp only[beq_self_eq_true,Bool.not_true,Bool.false_eq_true,if_false];refine qF fun i hi=> ?_;unfold zQh;have hi2:i<(zG8 c l n.toNat).own.length:=by rw[hO];exact hi
 rw[List.getElem?_eq_getElem hi2];have hdi:=hd ((zH c l).1.length+i) (by omega);have hri:(zDr c (zH c l).1 (zH c l).2.1)[(zH c l).1.length+i]'(by omega)=c.ls.length:=by
  simp only[zDr];rw[List.getElem_append_right (by simp)];simp
 rw[hri] at hdi;have hts:(zG8 c l n.toNat).own[i]=c.ls[(zEU (zDr c (zH c l).1 (zH c l).2.1) n.toNat).1.getD ((zH c l).1.length+i) 0].name:=by
  simp only[zG8,zXR,zAq,List.getElem_map,List.getElem_range];rw[List.getD_eq_getElem?_getD (l:=c.ls.map Lic.name),List.getElem?_map,List.getElem?_eq_getElem hdi];rfl
 simp only[Bool.false_and,Bool.false_eq_true,if_false];rw[if_neg]
 have:(c.ls.any fun x=>x.name==(zG8 c l n.toNat).own[i])=true:=List.any_eq_true.2 ⟨_,List.getElem_mem hdi,by rw[hts];simp⟩;rw[this];decide
end Go.V
