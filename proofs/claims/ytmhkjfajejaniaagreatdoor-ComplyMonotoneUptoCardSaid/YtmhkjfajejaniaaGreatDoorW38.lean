/- A machine of abstract values for programs of the model, further rules, part 4. No condition. -/
import Derived.Test.YtmhkjfajejaniaaGreatDoorW36
import Derived.Test.YtmhkjfajejaniaaGreatDoorW37
import Derived.Test.YtmhkjfajejaniaaGreatDoorW30
set_option linter.all false
namespace Go.V
theorem wQ.app3 {P:Program} {h:Heap} {sz:Nat} {xs ys:List (List D)} {d x:D} {t e:TypeId} {K:D→Heap→Prop} (ho:wQ h sz xs d) (he:qL P t=some e) (hz:zGi P e=true) (hs:szT P e=sz) (h0:0<sz) (hys:∀y∈ys,y.length=sz) (hx:(x= .nilsl∧ys= [])∨(ys≠[]∧∃tk,x= .sl sz ys tk))
  (hb:(xs.length+ys.length)*yR P e≤lim) (hl:xs.length+ys.length≤lim) (hK:∀d' h',wQ h' sz (xs++ys) d'→h.next≤h'.next→(∀i,i<h.next→¬zAB d i→h'.at' i=h.at' i)→(∀i,zAB d' i→h.next≤i)→d'.cells= [d']→d'.flat=true→K d' h'):onR (yD P false h.next t d x h) K:=by
 rcases hx with⟨rfl,rfl⟩ | ⟨hy0,tk,rfl⟩
 ·simp only[List.append_nil,List.length_nil,Nat.add_zero] at hK hb hl;simp only[yD,he,hz,hs,zR2,if_true,List.length_nil,Nat.zero_div];rcases ho with⟨rfl,rfl⟩ | ⟨q,rfl,h1,h2⟩
  ·simp only[qW,if_true,zG7];exact hK _ _ (.inl ⟨rfl,rfl⟩) (Nat.le_refl _) (fun i hi _=>rfl) (fun i hi=>hi.elim) rfl rfl
  ·simp only[qW];rw[if_pos (by simp only[Nat.add_zero,Bool.and_eq_true,decide_eq_true_eq];exact⟨⟨trivial,hb⟩,hl⟩)];simp only[h1,Bool.false_eq_true,if_false,zG7];have hc:yH sz 0 []= []:=rfl;rw[hc,List.append_nil];refine hK _ _ (.inr ⟨h.next,rfl,zJ _ _ _,?_⟩) ?_ (fun i hi hn=> ?_) (fun i hi=> ?_) rfl rfl
   ·exact Nat.lt_of_lt_of_le (Nat.lt_succ_self _) (Nat.le_max_right _ _)
   ·exact qY (h.del q) _ _
   ·rw[zD (by omega),yi fun e=>hn (by rw[e];rfl)]
   ·simp only[zAB] at hi;omega
 ·exact ho.app2 he hz hs h0 hys hy0 hb hl hK
theorem wQ.app4 {P:Program} {h:Heap} {sz:Nat} {xs ys:List (List D)} {d x:D} {t e:TypeId} (ho:wQ h sz xs d) (he:qL P t=some e) (hz:zGi P e=true) (hs:szT P e=sz) (h0:0<sz) (hys:∀y∈ys,y.length=sz) (hx:(x= .nilsl∧ys= [])∨(ys≠[]∧∃tk,x= .sl sz ys tk))
  (hb:(xs.length+ys.length)*yR P e≤lim) (hl:xs.length+ys.length≤lim):∃d' h',yD P false h.next t d x h=some (d',h')∧wQ h' sz (xs++ys) d'∧h.next≤h'.next∧(∀i,i<h.next→¬zAB d i→h'.at' i=h.at' i)∧(∀i,zAB d' i→h.next≤i)∧d'.cells= [d']∧d'.flat=true:=by
 have:=ho.app3 (K:=fun d' h'=>wQ h' sz (xs++ys) d'∧h.next≤h'.next∧(∀i,i<h.next→¬zAB d i→h'.at' i=h.at' i)∧(∀i,zAB d' i→h.next≤i)∧d'.cells= [d']∧d'.flat=true) he hz hs h0 hys hx hb hl fun d' h' a b c e f g=>⟨a,b,c,e,f,g⟩;unfold onR at this;split at this
 ·rename_i d' h' hv;exact⟨d',h',hv,this⟩
 ·exact this.elim
open Go.Proofs
set_option maxRecDepth 100000
theorem zRo {l:List Int} :∀x∈wa l,yS x:=fun x hx=>by
 obtain⟨s,_,rfl⟩:=List.mem_map.1 hx;exact⟨rfl,⟨trivial,trivial⟩,rfl⟩
theorem zRp (num:Int) (l:List Int):yS (zRm num l):=by
 have h:=yh (zRo (l:=l)) (sz:=1) .no;refine⟨rfl,⟨trivial,h.2,trivial⟩,?_⟩;simp only[zRm,yE,h.1];rfl
section
variable (c:Cat) (fs:List Fac) (al:Nat→Option Alt) (O:KV)
def zOz (k:Nat):List (List D):=(List.range k).flatMap fun i:Nat=>vbs (i:Int) (zC5 c fs al O i)
end
section
variable {c:Cat} {fs:List Fac} {al:Nat→Option Alt} {O:KV}
theorem zNU (k:Nat):zOz c fs al O (k+1)=zOz c fs al O k++vbs (k:Int) (zC5 c fs al O k):=by
 unfold zOz;rw[List.range_succ,List.flatMap_append,List.flatMap_cons,List.flatMap_nil,List.append_nil]
theorem zKF {k:Nat} :∀x∈zOz c fs al O k,yS x:=fun x hx=>by
 obtain⟨i,_,h⟩:=List.mem_flatMap.1 hx;obtain⟨l,_,rfl⟩:=List.mem_map.1 h;exact zRp _ _
theorem zU1 (i:Nat):(zC5 c fs al O i).length≤(zEi c fs al O i).length:=by
 unfold zC5;refine Nat.le_trans (zB1 _) ?_;rw[(qZ _).length_eq,List.length_map];exact Nat.le_refl _
theorem zRq (k:Nat):(zXI c fs al O k= .nilsl∧vbs (k:Int) (zC5 c fs al O k)= [])∨(vbs (k:Int) (zC5 c fs al O k)≠[]∧∃tk,zXI c fs al O k= .sl 2 (vbs (k:Int) (zC5 c fs al O k)) tk):=by
 unfold zXI;by_cases h:zEi c fs al O k= []
 ·rw[if_pos h];refine .inl ⟨rfl,List.length_eq_zero_iff.1 ?_⟩;have:=zU1 (c:=c) (fs:=fs) (al:=al) (O:=O) k;rw[h,List.length_nil] at this;rw[zAl];omega
 ·rw[if_neg h];refine .inr ⟨fun e=> ?_,_,rfl⟩;have hl:0<(srt qw ((zEi c fs al O k).map zD4)).length:=by
   rw[(qZ _).length_eq,List.length_map];exact List.length_pos_iff.2 h
  have:=zLN (c:=qw) hl _ (Nat.le_refl _) hl;have h2:(zC5 c fs al O k).length=0:=by rw[←zAl (k:Int),e];rfl
  unfold zC5 cpt at h2;omega
end
def ZLp (id:Nat) (L:LRec) (V:(Nat→Prop)→Heap→Prop) (S:Nat→Prop) (h:Heap):Prop:=
 id<h.next∧h.at' id=some (.loop { L with st:= .done,pending:=some .ret })∧∃S0,V S0 h∧¬S0 id∧∀i,S i↔(i=id∨S0 i)
def LpZ (id:Nat) (L:LRec) (W:Nat→(Nat→Prop)→Heap→Prop) (V:(Nat→Prop)→Heap→Prop) (k:Nat) (S0:Nat→Prop) (h:Heap) (r:D) (h':Heap):Prop:=
 ∃S',(∀i,S' i→S0 i∨h.next≤i)∧But (fun i=>i=id∨S0 i) h h'∧((r= .bool true∧h'.at' id=some (.loop L)∧W (k+1) S' h')∨(r= .bool false∧h'.at' id=some (.loop { L with st:= .done,pending:=some .ret })∧V S' h'))
section
variable {P:Program} {W:Nat→(Nat→Prop)→Heap→Prop} {V:(Nat→Prop)→Heap→Prop} {id n:Nat} {L:LRec} {el:Nat→List D}
theorem YLp.yldZ (hW:Lcl W) (hV:Lcl fun _=>V) (go:∀k S0 h3,k<n→id<h3.next→h3.at' id=some (.loop L)→W k S0 h3→¬S0 id→yo P id (el k) h3 (LpZ id L W V k S0 h3)):Yld P id n el (YLp id L W) (ZLp id L V):=by
 refine⟨fun k S h y i hi=> ?_,fun k S h h' y hn hk=> ?_,fun S h y i hi=> ?_,fun S h h' y hn hk=> ?_,fun k S h hk y=> ?_⟩
 ·obtain⟨a1,_,S0,a3,_,a5⟩:=y;rcases(a5 i).1 hi with rfl|hs
  ·exact a1
  ·exact hW.here _ _ _ a3 i hs
 ·obtain⟨a1,a2,S0,a3,a4,a5⟩:=y;exact⟨by omega,by rw[hk id ((a5 id).2 (.inl rfl))];exact a2,S0,hW.loc _ _ _ _ a3 hn fun i hi=>hk i ((a5 i).2 (.inr hi)),a4,a5⟩
 ·obtain⟨a1,_,S0,a3,_,a5⟩:=y;rcases(a5 i).1 hi with rfl|hs
  ·exact a1
  ·exact hV.here 0 _ _ a3 i hs
 ·obtain⟨a1,a2,S0,a3,a4,a5⟩:=y;exact⟨by omega,by rw[hk id ((a5 id).2 (.inl rfl))];exact a2,S0,hV.loc 0 _ _ _ a3 hn fun i hi=>hk i ((a5 i).2 (.inr hi)),a4,a5⟩
 ·obtain⟨a1,a2,S0,a3,a4,a5⟩:=y;refine(go k S0 h hk a1 a2 a3 a4).mono ?_;rintro r h' ⟨S',b1,b2,hb⟩;have hni:¬S' id:=fun e=>by
   rcases b1 _ e with q|q
   ·exact a4 q
   ·omega
  refine⟨fun i=>i=id∨S' i,fun i hi=> ?_,⟨b2.1,fun i hi hn=>b2.2 i hi fun e=>hn ((a5 i).2 e)⟩,?_⟩
  ·rcases hi with rfl|hi
   ·exact .inl ((a5 _).2 (.inl rfl))
   ·exact(b1 i hi).imp (fun q=>(a5 i).2 (.inr q)) fun q=>q
  ·rcases hb with⟨rfl,b3,b4⟩ | ⟨rfl,b3,b4⟩
   ·exact .inl ⟨rfl,Nat.lt_of_lt_of_le a1 b2.1,b3,S',b4,hni,fun i=>Iff.rfl⟩
   ·exact .inr ⟨rfl,Nat.lt_of_lt_of_le a1 b2.1,b3,S',b4,hni,fun i=>Iff.rfl⟩
theorem Lp.finZ (hW:Lcl W) {B:LRec} (hLB:({ B with st:= .ready,pending:=none } :LRec)=L) {h3 h6:Heap} {S0 S':Nat→Prop} {k:Nat} (h3i:id<h3.next) (hn:¬S0 id) (hid:h6.at' id=some (.loop B)) (hs:∀i,S' i→S0 i∨h3.next≤i) (hb:But (fun i=>i=id∨S0 i) h3 h6) (hw:W (k+1) S' h6) {fr:Frm} :
  wg (LpZ id L W V k S0 h3) id .normal fr h6:=by
 refine qt hid ⟨S',hs,hb.set (.inl (.inl rfl)) _, .inl ⟨rfl,by rw[zC,hLB],hW.loc _ _ _ _ hw (Nat.le_refl _) fun i hi=>zE fun e=> ?_⟩⟩;subst e;rcases hs _ hi with q|q
 ·exact hn q
 ·omega
theorem Lp.retZ (hV:Lcl fun _=>V) {B:LRec} (hLB:({ B with st:= .ready,pending:=none } :LRec)=L) {h3 h6:Heap} {S0 S':Nat→Prop} {k:Nat} (h3i:id<h3.next) (hn:¬S0 id) (hid:h6.at' id=some (.loop B)) (hs:∀i,S' i→S0 i∨h3.next≤i) (hb:But (fun i=>i=id∨S0 i) h3 h6) (hw:V S' h6) {fr:Frm} :
  wg (LpZ id L W V k S0 h3) id .ret fr h6:=by
 refine zF1 hid ⟨S',hs,hb.set (.inl (.inl rfl)) _, .inr ⟨rfl,by rw[zC,←hLB],hV.loc 0 _ _ _ hw (Nat.le_refl _) fun i hi=>zE fun e=> ?_⟩⟩;subst e;rcases hs _ hi with q|q
 ·exact hn q
 ·omega
theorem zU2 {f:FuncId} {args:List D} {h:Heap} {n0:Nat} (hn0:h.next=n0) {S:Nat→Prop} {Q:Exit→Frm→Heap→Prop} {fr:Frm} (hW:Lcl W) (hV:Lcl fun _=>V) (hst:L.st= .ready) (hpe:L.pending=none) (hY:W 0 S h)
  (prod:Yld P n0 n el (YLp n0 L W) (ZLp n0 L V)→YLp n0 L W 0 (fun i=>i=n0∨S i) (h.new n0 (.loop L))→zA P f args (h.new n0 (.loop L)) fun _ h'=>∃S',(∀j,S' j→(j=n0∨S j)∨(h.new n0 (.loop L)).next≤j)∧But (fun i=>i=n0∨S i) (h.new n0 (.loop L)) h'∧(YLp n0 L W n S' h'∨ZLp n0 L V S' h'))
  (go:∀k S0 h3,k<n→n0<h3.next→h3.at' n0=some (.loop L)→W k S0 h3→¬S0 n0→yo P n0 (el k) h3 (LpZ n0 L W V k S0 h3))
  (fin:∀S' h2,(∀j,S' j→S j∨n0≤j)→But S h h2→W n S' h2→Q .normal fr h2)
  (fret:∀S' h2,(∀j,S' j→S j∨n0≤j)→But S h h2→V S' h2→Q .ret fr h2):
  zA P f args (h.new n0 (.loop L)) fun _ h'=>∃r,h'.at' n0=some (.loop r)∧r.st≠ .busy∧zKa r.pending Q fr (h'.del n0):=by
 subst hn0;have hn:(h.new h.next (.loop L)).next=h.next+1:=zF _ _;have hSn:¬S h.next:=fun e=>Nat.lt_irrefl _ (hW.here _ _ _ hY _ e);refine(prod (YLp.yldZ hW hV go) ⟨by omega,zJ _ _ _,S,hW.loc _ _ _ _ hY (by omega) fun i hi=>zD (by have:=hW.here _ _ _ hY _ hi;omega),hSn,fun i=>Iff.rfl⟩).mono ?_;have key:∀ (S' S0:Nat→Prop) (h2:Heap),(∀j,S' j→(j=h.next∨S j)∨(h.new h.next (.loop L)).next≤j)→But (fun i=>i=h.next∨S i) (h.new h.next (.loop L)) h2→¬S0 h.next→(∀i,S' i↔(i=h.next∨S0 i))→(∀j,S0 j→S j∨h.next≤j)∧But S h (h2.del h.next):=by
  intro S' S0 h2 hs hb b4 b5;refine⟨fun j hj=> ?_,by have:=hb.1;show h.next≤h2.next;omega,fun i hi hni=> ?_⟩
  ·rcases hs j ((b5 j).2 (.inr hj)) with(q|q)|q
   ·subst q;exact absurd hj b4
   ·exact .inl q
   ·exact .inr (by omega)
  ·have hne:i≠h.next:=by omega
   rw[yi hne,hb.2 i (by omega) (fun e=>e.elim hne hni),zD hne]
 rintro r h2 ⟨S',hs,hb,⟨b1,b2,S0,b3,b4,b5⟩ | ⟨b1,b2,S0,b3,b4,b5⟩⟩
 ·obtain⟨k1,k2⟩:=key S' S0 h2 hs hb b4 b5;refine⟨L,b2,(by rw[hst];intro q;cases q),?_⟩;rw[hpe,zBS];exact fin S0 _ k1 k2 (hW.loc _ _ _ _ b3 (Nat.le_refl _) fun i hi=>yi fun e=>by subst e;exact b4 hi)
 ·obtain⟨k1,k2⟩:=key S' S0 h2 hs hb b4 b5;refine⟨_,b2,(by intro q;cases q),?_⟩;simp only[zH7];exact fret S0 _ k1 k2 (hV.loc 0 _ _ _ b3 (Nat.le_refl _) fun i hi=>yi fun e=>by subst e;exact b4 hi)
end
theorem zNV {c:Cat} {fs:List Fac} {al:Nat→Option Alt} {O:KV} {m:Nat} {x:List D} (h:(zOz c fs al O m).head? =some x):∀k,(zOz c fs al O (m+k)).head? =some x
 |0=>h
 |k+1=>by
  rw[←Nat.add_assoc,zNU,List.head?_append,zNV h k];rfl
def zQi:List D:=[.int .i64 0, .nilsl]
def za9 (l:List (List D)):D:= .tuple [.agg (l.head?.getD zQi), .bool (l.head?.isSome)]
def zcD (c:Cat) (fs:List Fac) (al:Nat→Option Alt) (O:KV) (n0 k:Nat) (S:Nat→Prop) (h:Heap):Prop:=
 n0+1<h.next∧h.at' n0=some (.row zQi)∧h.at' (n0+1)=some (.row [.bool false])∧zOz c fs al O k= []∧∀i,S i↔(i=n0∨i=n0+1)
def zfa (c:Cat) (fs:List Fac) (al:Nat→Option Alt) (O:KV) (n0:Nat) (S:Nat→Prop) (h:Heap):Prop:=
 ∃x,n0+1<h.next∧h.at' n0=some (.row x)∧h.at' (n0+1)=some (.row [.bool true])∧(zOz c fs al O 6).head? =some x∧∀i,S i↔(i=n0∨i=n0+1)
theorem zcD.lcl (c:Cat) (fs:List Fac) (al:Nat→Option Alt) (O:KV) (n0:Nat):Lcl (zcD c fs al O n0):=by
 refine⟨fun k S h y i hi=> ?_,fun k S h h' y hn hk=> ?_⟩
 ·obtain⟨a1,a2,a3,a4,a5⟩:=y;rcases(a5 i).1 hi with rfl|rfl<;>omega
 ·obtain⟨a1,a2,a3,a4,a5⟩:=y;exact⟨by omega,by rw[hk _ ((a5 _).2 (.inl rfl))];exact a2,by rw[hk _ ((a5 _).2 (.inr rfl))];exact a3,a4,a5⟩
theorem zfa.lcl (c:Cat) (fs:List Fac) (al:Nat→Option Alt) (O:KV) (n0:Nat):Lcl fun _=>zfa c fs al O n0:=by
 refine⟨fun k S h y i hi=> ?_,fun k S h h' y hn hk=> ?_⟩
 ·obtain⟨x,a1,a2,a3,a4,a5⟩:=y;rcases(a5 i).1 hi with rfl|rfl<;>omega
 ·obtain⟨x,a1,a2,a3,a4,a5⟩:=y;exact⟨x,by omega,by rw[hk _ ((a5 _).2 (.inl rfl))];exact a2,by rw[hk _ ((a5 _).2 (.inr rfl))];exact a3,a4,a5⟩
set_option maxHeartbeats 4000000 in
theorem zbA {c:Cat} {fs:List Fac} {al:Nat→Option Alt} {M:KM Int} {O:KV} {sc:List D} {m1 m2:Nat} (hs:Stt c fs al M O sc m1 m2) (hn:fs.length≤16) {g:Heap} (hH:StH M O m1 m2 g):
  zA Tryz.prog 42 [.iptr sc 0] g fun r h'=>h'=g∧r=za9 (zOz c fs al O 6):=by
 refine zA.pure (by kernel_rfl) fun hok'=>zA.strip ?_;refine zA.post fun Q hQ=> ?_;have hcv:=zNT sc;obtain⟨G,hG,hGn,g1,g2,hE⟩:∃G:Heap,(g.new g.next (.row [.int .i64 0, .nilsl])).new (g.next+1) (.row [.bool false])=G∧G.next=g.next+2∧G.at' g.next=some (.row zQi)∧G.at' (g.next+1)=some (.row [.bool false])∧Ext g G:=
  ⟨_,rfl,zj _ (by rw[zF];exact Nat.le_refl _) _,by rw[zD (by omega)];exact zJ _ _ _,zJ _ _ _,((Ext.refl g).new (Nat.le_refl _) _).new (by omega) _⟩
 refine zA.of_fn (g:=zTQ) mix Tryz.func42 zj9 rfl rfl ?_;simp only[Tryz.f42,gJ]
 repeat' first|simp only[go_sem,zbt,zF,zUz, *]|apply bc<;>intro hc|(refine zA.mono (hcv _) ?_;rintro r h ⟨hq,rfl⟩)
 subst hq
 rename Heap=>G
 generalize hL:LRec.mk _ _ _ _ _ _ _=L;have hpe:L.pending=none:=by rw[←hL]
 have hrd:L.st= .ready:=by rw[←hL]
 clear hG;have hW:=zcD.lcl c fs al O g.next;have hV:=zfa.lcl c fs al O g.next;have hW0:zcD c fs al O g.next 0 (fun j=>j=g.next∨j=g.next+1) G:=⟨by omega,g1,g2,rfl,fun _=>Iff.rfl⟩;have hHG:=hH.ext hE;refine zU2 (n:=6) (el:=fun i=>[zXI c fs al O i]) hGn hW hV hrd hpe hW0 (fun yl hY0=>(zLg hs hn yl hY0 (hHG.ext ((Ext.refl G).new (by omega) _)) (fun e=> ?_) (fun e=> ?_))) ?_ ?_ ?_
 ·have:=hH.2.1;rcases e with e|e|e<;>omega
 ·have:=hH.2.2;rcases e with e|e|e<;>omega
 ·intro k S0 h3 hk hid3 hl3 hw3 hn3;have hl3':=hl3;rw[←hL] at hl3';refine yo.round (g:=zTQ) mix hl3' rfl (by kernel_rfl) (by kernel_rfl) (by kernel_rfl) ?_;simp only[go_sem,zbt];refine⟨hl3',?_⟩;generalize hB:LRec.mk .busy _ _ _ _ _ _=B;have hLB:({ B with st:= .ready,pending:=none } :LRec)=L:=by rw[←hB,←hL]
  have hbs:But (fun i=>i=g.next+2) h3 (h3.set (g.next+2) (.loop B)):=⟨by rw[zu];exact Nat.le_refl _,fun j _ hj=>zE hj⟩;have hwH:=hW.round hw3 (fun i hi=>hi) hn3 hbs;obtain⟨H,hHe,hHn,hHi⟩:∃H:Heap,h3.set (g.next+2) (.loop B)=H∧H.next=h3.next∧H.at' (g.next+2)=some (.loop B):=⟨_,rfl,zu _ _ _,zC _ _ _⟩;rw[hHe] at hwH hbs⊢;have hwH0:=hwH;obtain⟨a1,a2,a3,a4,a5⟩:=hwH;have hsu:=zNU (c:=c) (fs:=fs) (al:=al) (O:=O) k;rw[a4,List.nil_append] at hsu;clear hL hB hHe hW0 hQ hcv;rcases zRq (c:=c) (fs:=fs) (al:=al) (O:=O) k with⟨e1,e2⟩ | ⟨e1,tk,e2⟩
  ·have hfin:∀fr,wg (LpZ (g.next+2) L (zcD c fs al O g.next) (zfa c fs al O g.next) k S0 h3) (g.next+2) .normal fr H:=fun fr=>by
    refine Lp.finZ hW hLB hid3 hn3 hHi (S':=S0) (fun i hi=> .inl hi) ⟨hbs.1,fun i hi hne=>hbs.2 i hi fun e=>hne (.inl e)⟩ ⟨a1,a2,a3,by rw[hsu];exact e2,a5⟩
   have hl:∀h,zC1 Tryz.prog 45 .nilsl h=some (.int .i64 0):=fun h=>qC (za.nil (sz:=2)) Tryz.underlying45;have h0:decide ((0:Int)>0)=false:=rfl;simp only[go_sem,zbt,e1,hl,h0];exact hfin _
  ·obtain⟨x,xs,hx⟩:=List.exists_cons_of_ne_nil e1;rw[hx] at e2;have hx2:x.length=2:=zCv (k:Int) (zC5 c fs al O k) x (by rw[hx];simp);have hxp:∃l,x=zRm (k:Int) l:=by
    have:x∈vbs (k:Int) (zC5 c fs al O k):=by rw[hx];simp
    obtain⟨l,_,e⟩:=List.mem_map.1 this;exact⟨l,e.symm⟩
   have hhd:(zOz c fs al O 6).head? =some x:=by
    have:=zNV (c:=c) (fs:=fs) (al:=al) (O:=O) (m:=k+1) (x:=x) (by rw[hsu,hx];rfl) (6- (k+1))
    rwa [show k+1+(6- (k+1))=6 by omega] at this
   have hl:∀h,zC1 Tryz.prog 45 (.sl 2 (x::xs) tk) h=some (.int .i64 ((x::xs).length:Int)):=fun h=>qC (za.mk (sz:=2) tk) Tryz.underlying45;have h0:decide (((x::xs).length:Int)>0)=true:=decide_eq_true (by simp only[List.length_cons];omega);have ha:zX Tryz.prog 45 (.sl 2 (x::xs) tk) (.int .i64 0)=some (.iptr x 0):=zd (i:=0) (za.mk (sz:=2) tk) wt zBj rfl;have hv2:zS true 2 x 0=some (.agg x):=zB hx2 (by omega);have hst1:zW Tryz.prog 33 (.ptr g.next 0) (.agg x) H=some (H.set g.next (.row x)):=yg a2 (by rw[zBj,hx2]) (by rw[hx2];rfl) (by omega) (by obtain⟨l,rfl⟩:=hxp;rfl)
   have hst2:zW Tryz.prog 4 (.ptr (g.next+1) 0) (.bool true) (H.set g.next (.row x))=some ((H.set g.next (.row x)).set (g.next+1) (.row [.bool true])):=by
    rw[zT (by rw[zE (by omega)];exact a3) zcz (by simp) rfl rfl];rfl
   have hfin:∀fr,wg (LpZ (g.next+2) L (zcD c fs al O g.next) (zfa c fs al O g.next) k S0 h3) (g.next+2) .ret fr ((H.set g.next (.row x)).set (g.next+1) (.row [.bool true])):=fun fr=>by
    have hbn:=hbs.1;refine Lp.retZ hV hLB hid3 hn3 ?_ (S':=S0) (fun i hi=> .inl hi) ⟨by rw[zu,zu];omega,fun i hi hne=> ?_⟩ ⟨x,by rw[zu,zu];omega,by rw[zE (by omega),zC],zC _ _ _,hhd,a5⟩
    ·rw[zE (by omega),zE (by omega)];exact hHi
    ·rw[zE fun e=>hne (.inr ((a5 i).2 (.inr e))),zE fun e=>hne (.inr ((a5 i).2 (.inl e))),hbs.2 i hi fun e=>hne (.inl e)]
   simp only[go_sem,zbt,e2,hl,h0,ha,hv2,hst1,hst2];exact hfin _
 ·intro S' h2 hsub hb hw2;obtain⟨a1,a2,a3,a4,a5⟩:=hw2;have hE2:Ext g h2:=Ext.of_but hE hb fun j hj=>by rcases hj with rfl|rfl<;>omega
  have hvb:yN Tryz.prog 33 []=some (.agg zQi):=by simp[yN,zJi,zG9,qj,zQi,D.notTuple,D.cells]
  obtain⟨F1,hF1,r1,r2,E1⟩:∃F,h2.set g.next (.row zQi)=F∧F.at' g.next=some (.row zQi)∧F.at' (g.next+1)=some (.row [.bool false])∧Ext g F:=⟨_,rfl,zC _ _ _,by rw[zE (by omega)];exact a3,hE2.set (Nat.le_refl _) _⟩;have hst1:zW Tryz.prog 33 (.ptr g.next 0) (.agg zQi) h2=some F1:=by
   rw[yg a2 (by rw[zBj];rfl) rfl (by decide) rfl,hF1]
  obtain⟨F2,hF2,r3,r4,E2⟩:∃F,F1.set (g.next+1) (.row [.bool false])=F∧F.at' g.next=some (.row zQi)∧F.at' (g.next+1)=some (.row [.bool false])∧Ext g F:=⟨_,rfl,by rw[zE (by omega)];exact r1,zC _ _ _,E1.set (by omega) _⟩;have hst2:zW Tryz.prog 4 (.ptr (g.next+1) 0) (.bool false) F1=some F2:=by
   rw[zT r2 zcz (by simp) rfl rfl,←hF2];rfl
  have hv2:zS true 2 zQi 0=some (.agg zQi):=zB rfl (by omega);have hfn:Q (.tuple [.agg zQi, .bool false]) F2:=hQ _ _ ⟨E2,⟨⟨trivial,trivial,trivial⟩,trivial,trivial⟩,by rw[a4];rfl⟩;clear hL hcv hW0 hF1 hF2 E1 E2 hE2
  repeat' first|simp only[go_sem,zbt, *]|apply bc<;>intro hc
 ·intro S' h2 hsub hb hw2;obtain⟨x,a1,a2,a3,a4,a5⟩:=hw2;have hE2:Ext g h2:=Ext.of_but hE hb fun j hj=>by rcases hj with rfl|rfl<;>omega
  have hxm:x∈zOz c fs al O 6:=List.mem_of_mem_head? a4;obtain⟨p1,p2,p3⟩:=zKF x hxm;have hx2:x.length=2:=by
   obtain⟨i,_,h⟩:=List.mem_flatMap.1 hxm;exact zCv _ _ x h
  have hv2:zS true 2 x 0=some (.agg x):=zB hx2 (by omega);have hfn:Q (.tuple [.agg x, .bool true]) h2:=hQ _ _ ⟨hE2,by
   simp only[yJ,yE,below,zg,p3];exact⟨wN (Nat.zero_le _) _ p2,trivial,trivial⟩,by
   simp only[yJ,yE,p3,za9,a4];rfl⟩
  clear hL hcv hW0 hE2 p1 p2 p3
  repeat' first|simp only[go_sem,zbt, *]|apply bc<;>intro hc
structure SA where
 M:KM Int
 O:KV
 outs:List (List UInt8)
def zAJ (fs:List Fac) (i:Nat):Nat:=((fs.take i).filter fun f=>f.kind==1).length
def zBM (y:Cho) (k:Nat):Alt:=y.ts.getD k (mkA [])
def zBN (y:Cho) (k:Nat):List UInt8:=y.own.getD k []
def zbB (y:Cho) (fs:List Fac) (i:Nat) (s:SA):SA:=match fs[i]? with
 |none=>s
 |some f=>if(f.kind==1)=true then(if decide (((zBM y (zAJ fs i)).ts.length:Int)>0)=true then⟨zFX (i:Int) (zBM y (zAJ fs i)).d s.M,s.O,s.outs⟩ else s)
  else if(f.kind==2)=true then(if(s.outs.any fun z=>z==f.out)=true then s else⟨s.M,if(!(zBN y s.outs.length== []))=true then zEW f.out (zBN y s.outs.length) s.O else s.O,s.outs++ [f.out]⟩) else s
def zV (y:Cho) (fs:List Fac):Nat→SA
 |0=>⟨[],[],[]⟩
 |i+1=>zbB y fs i (zV y fs i)
def alS (fs:List Fac) (y:Cho) (i:Nat):Option Alt:=match fs[i]? with
 |none=>none
 |some f=>if(f.kind==1)=true then(if decide (((zBM y (zAJ fs i)).ts.length:Int)>0)=true then some (zBM y (zAJ fs i)) else none) else none
section
variable {y:Cho} {fs:List Fac}
theorem zBu {i:Nat} (h:i<fs.length):zV y fs (i+1)=if(fs[i].kind==1)=true then(if decide (((zBM y (zAJ fs i)).ts.length:Int)>0)=true then⟨zFX (i:Int) (zBM y (zAJ fs i)).d (zV y fs i).M,(zV y fs i).O,(zV y fs i).outs⟩ else zV y fs i)
  else if(fs[i].kind==2)=true then(if((zV y fs i).outs.any fun z=>z==fs[i].out)=true then zV y fs i else⟨(zV y fs i).M,if(!(zBN y (zV y fs i).outs.length== []))=true then zEW fs[i].out (zBN y (zV y fs i).outs.length) (zV y fs i).O else(zV y fs i).O,(zV y fs i).outs++ [fs[i].out]⟩) else zV y fs i:=by
 show zbB y fs i (zV y fs i)=_;unfold zbB;rw[List.getElem?_eq_getElem h]
theorem zfb {i:Nat} (h:i<fs.length):alS fs y i=if(fs[i].kind==1)=true then(if decide (((zBM y (zAJ fs i)).ts.length:Int)>0)=true then some (zBM y (zAJ fs i)) else none) else none:=by
 unfold alS;rw[List.getElem?_eq_getElem h]
theorem zKG:∀k,k≤fs.length→∀j:Nat,zD1 (j:Int) (zV y fs k).M=if j<k then(alS fs y j).map Alt.d else none
 |0,_,j=>by simp[zV,zD1]
 |k+1,hk,j=>by
  have ih:=zKG k (by omega) j;have hlt:k<fs.length:=by omega
  have ha:=zfb (y:=y) hlt;have key:zD1 (j:Int) (zV y fs (k+1)).M=if j=k then(alS fs y k).map Alt.d else zD1 (j:Int) (zV y fs k).M:=by
   rw[zBu hlt,ha];have hk0:j=k→zD1 (j:Int) (zV y fs k).M=none:=fun e=>by rw[ih,if_neg (by omega)]
   split
   ·split
    ·rw[zNL];by_cases e:j=k
     ·subst e;simp
     ·have:((j:Int)==(k:Int))=false:=by simp;omega
      rw[this,if_neg e];simp
    ·by_cases e:j=k
     ·rw[if_pos e,hk0 e];rfl
     ·rw[if_neg e]
   ·split
    ·split
     ·by_cases e:j=k
      ·rw[if_pos e,hk0 e];rfl
      ·rw[if_neg e]
     ·by_cases e:j=k
      ·rw[if_pos e,hk0 e];rfl
      ·rw[if_neg e]
    ·by_cases e:j=k
     ·rw[if_pos e,hk0 e];rfl
     ·rw[if_neg e]
  rw[key,ih];by_cases e:j=k
  ·subst e;simp
  ·rw[if_neg e];by_cases e2:j<k
   ·rw[if_pos e2,if_pos (by omega)]
   ·rw[if_neg e2,if_neg (by omega)]
theorem zNW {i:Nat} (h:i<fs.length):(zV y fs (i+1)).outs=(zV y fs i).outs∨∃o,(zV y fs (i+1)).outs=(zV y fs i).outs++ [o]:=by
 rw[zBu h];split
 ·split<;>exact .inl rfl
 ·split
  ·split
   ·exact .inl rfl
   ·exact .inr ⟨_,rfl⟩
  ·exact .inl rfl
theorem zU3 {i:Nat} :∀k,i+k≤fs.length→(zV y fs i).outs.length≤(zV y fs (i+k)).outs.length
 |0,_=>Nat.le_refl _
 |k+1,h=>by
  have ih:=zU3 (i:=i) k (by omega);rcases zNW (y:=y) (fs:=fs) (i:=i+k) (by omega) with e| ⟨o,e⟩
  ·rw[←Nat.add_assoc,e];exact ih
  ·rw[←Nat.add_assoc,e,List.length_append];omega
theorem zDu:∀k,k≤fs.length→(zV y fs k).outs.length≤k
 |0,_=>Nat.le_refl _
 |k+1,h=>by
  have ih:=zDu k (by omega);rcases zNW (y:=y) (fs:=fs) (i:=k) (by omega) with e| ⟨o,e⟩
  ·rw[e];omega
  ·rw[e,List.length_append,List.length_singleton];omega
theorem zFb {i:Nat} (h:i<fs.length):zAJ fs (i+1)=zAJ fs i+(if(fs[i].kind==1)=true then 1 else 0):=by
 unfold zAJ;rw[List.take_succ_eq_append_getElem h,List.filter_append,List.length_append];congr 1;by_cases e:(fs[i].kind==1)=true<;>simp[e]
theorem zU4 {i:Nat} :∀k,i+k≤fs.length→zAJ fs i≤zAJ fs (i+k)
 |0,_=>Nat.le_refl _
 |k+1,h=>by
  have ih:=zU4 (i:=i) k (by omega);rw[←Nat.add_assoc,zFb (by omega)];omega
theorem zGC:∀k,k≤fs.length→zAJ fs k≤k
 |0,_=>by simp[zAJ]
 |k+1,h=>by
  have ih:=zGC k (by omega);rw[zFb (by omega)];split<;>omega
end
set_option maxHeartbeats 8000000 in
theorem zbC {c:Cat} {d x yd:D} {fs:List Fac} {y:Cho} (hc:qg c d) (sm:c.Sm) (hx:za 12 (zCz fs) x) (hlen:fs.length≤256) (hok:∀f∈fs,f.Ok) (hy:zal y yd) (ysm:y.Sm)
  (hal:∀a∈y.ts,a.ts≠[]→a.Ok) (hk:zAJ fs fs.length≤y.ts.length) (ho:(zV y fs fs.length).outs.length≤y.own.length) (g:Heap):
  zA Tryz.prog 40 [d,x,yd] g fun r h'=>Ext g h'∧∃sc m1 m2,r= .iptr sc 0∧Stt c fs (alS fs y) (zV y fs fs.length).M (zV y fs fs.length).O sc m1 m2∧StH (zV y fs fs.length).M (zV y fs fs.length).O m1 m2 h'∧g.next≤m1∧g.next≤m2:=by
 have hc0:=hc;obtain⟨a,b,e,p,rfl,ha,hb,he,hp⟩:=hc;obtain⟨ta,oa,rfl,hta,hoa⟩:=hy;have hll:=zAq hx;obtain⟨x1,x2,_⟩:=zN hx;have hv4:zS true 4 [a,b,e,p] 0=some (.agg [a,b,e,p]):=zB rfl (by omega);obtain⟨sc,hsc⟩:∃sc,[a,b,e,p,x, .map g.next, .map (g.next+1)]=sc:=⟨_,rfl⟩;have hvb:yN Tryz.prog 151 [(0, .agg [a,b,e,p]),(1,x),(2, .map g.next),(3, .map (g.next+1))]=some (.agg sc):=by
  rw[←hsc];clear hsc x1 x2 hll;rcases hx with⟨rfl,_⟩ | ⟨tk,rfl⟩ <;>simp[yN,zOB,zSo,qj,yj,D.notTuple,D.cells]
 obtain⟨G,hG,hE,hst⟩:∃G:Heap,(g.new g.next (.map [])).new (g.next+1) (.map [])=G∧Ext g G∧StH [] [] g.next (g.next+1) G:=
  ⟨_,rfl,((Ext.refl g).new (Nat.le_refl _) _).new (by omega) _,⟨by rw[zD (by omega)];exact zJ _ _ _,zJ _ _ _⟩,by rw[zj _ (by rw[zF];exact Nat.le_refl _)];omega,by rw[zj _ (by rw[zF];exact Nat.le_refl _)];omega⟩
 have hs1:sc[5]? =some (.map g.next):=by rw[←hsc];rfl
 have hs2:sc[6]? =some (.map (g.next+1)):=by rw[←hsc];rfl
 have hStt:Stt c fs (alS fs y) (zV y fs fs.length).M (zV y fs fs.length).O sc g.next (g.next+1):=⟨⟨a,b,e,p,x,hsc.symm,hc0,hx,ha⟩,sm,hlen,hok,fun i hi=>by rw[zKG _ (Nat.le_refl _) i,if_pos hi],fun i z hz=>by
  unfold alS at hz;split at hz
  ·cases hz
  ·split at hz
   ·split at hz
    ·rename_i h1 h2;cases hz;have h2:=of_decide_eq_true h2;unfold zBM at h2⊢;rw[List.getD_eq_getElem?_getD] at h2⊢;cases hq:y.ts[zAJ fs i]? with
     |none=>rw[hq] at h2;simp[mkA] at h2
     |some z=>rw[hq] at h2;exact hal z (List.mem_of_getElem? hq) fun e=>by simp[e] at h2
    ·cases hz
   ·cases hz⟩
 clear hc0;refine zA.of_fn (g:=zVx) mix Tryz.func40 zjs rfl rfl ?_;simp only[Tryz.f40,gJ]
 repeat' first|simp only[go_sem,zS6,zF, *]|apply bc<;>intro hc
 clear hG hvb hsc;refine zH (fun i fr h=>fr 1=x∧fr 5= .iptr [ta,oa] 0∧fr 7= .iptr sc 0∧fr 8= .int .i64 ((zAJ fs i:Nat):Int)∧fr 19=x∧fr 20= .int .i64 (fs.length:Int)∧fr 21= .int .i64 (i:Int)∧∃u,fr 9=u∧wQ h 1 (yI (zV y fs i).outs) u∧(∀j,zAB u j→g.next≤j)∧Ext g h∧StH (zV y fs i).M (zV y fs i).O g.next (g.next+1) h) fs.length (by omega) ?_ ?_ ?_
 ·have hz:zAJ fs 0=0:=rfl;have hres:∃u,D.nilsl=u∧wQ G 1 (yI (zV y fs 0).outs) u∧(∀j,zAB u j→g.next≤j)∧Ext g G∧StH (zV y fs 0).M (zV y fs 0).O g.next (g.next+1) G:=⟨_,rfl, .inl ⟨rfl,rfl⟩,fun j hj=>hj.elim,hE,hst⟩;simp only[go_sem,zS6,true_and,and_true,Int.ofNat_zero,hz];exact hres
 ·clear hE hst;rintro i fr h hlt e1 ew ⟨f1,f5,f7,f8,f19,f20,f21,u,f9,hO,hut,hE,hst⟩;have a1:=qh hx hlt;have hw:zS true 12 fs[i].cells 0=some (.agg fs[i].cells):=zB rfl (by omega);have hstf:=zJ3 (hok _ (List.getElem_mem hlt));have hS:=zBu (y:=y) hlt;have hln:=zFb hlt;have hlb:=zU4 (fs:=fs) (i:=i+1) (fs.length- (i+1)) (by omega);have hob:=zU3 (y:=y) (fs:=fs) (i:=i+1) (fs.length- (i+1)) (by omega);rw[show i+1+(fs.length- (i+1))=fs.length by omega] at hlb hob;have hol:=zDu (y:=y) (fs:=fs) i (by omega);have hll2:=zGC (fs:=fs) i (by omega);have k0:fs[i].cells[0]? =some (.int .i64 fs[i].kind):=rfl
  have k2:fs[i].cells[2]? =some (.str fs[i].out):=rfl;generalize fs[i]=f at *
  generalize zV y fs i=s at *
  have hnx:h.next<(h.new h.next (.row f.cells)).next:=by rw[zF];omega
  obtain⟨H,hH,hrow,hEH,hOH,hsH,hnH⟩:∃H:Heap,h.new h.next (.row f.cells)=H∧H.at' h.next=some (.row f.cells)∧Ext g H∧wQ H 1 (yI s.outs) u∧StH s.M s.O g.next (g.next+1) H∧h.next<H.next:=
   ⟨_,rfl,zJ _ _ _,hE.new hE.1 _,hO.loc (by omega) fun j hj=>zD (by have:=(hO.tok hj).1;omega),hst.ext ((Ext.refl h).new (Nat.le_refl _) _),hnx⟩
  obtain⟨n0,hn0⟩:∃n,h.next=n:=⟨_,rfl⟩;have hE1:=hE.1;rw[hn0] at hH hrow hnH hE1 hnx;have hmn:g.next+1<n0:=by have:=hst.2.2;omega
  have hst1:=hstf h n0;rw[hH] at hst1;clear hstf hE hst hO hnx hok hH hStt;have quiet:zV y fs (i+1)=s→∃u',u=u'∧wQ H 1 (yI (zV y fs (i+1)).outs) u'∧(∀j,zAB u' j→g.next≤j)∧Ext g H∧StH (zV y fs (i+1)).M (zV y fs (i+1)).O g.next (g.next+1) H:=fun e=>by
   rw[e];exact⟨u,rfl,hOH,hut,hEH,hsH⟩
  cases b1:(f.kind==1) with
  |true=>
   rw[b1] at hS hln;simp only[if_true] at hS hln;have hlk:zAJ fs i<y.ts.length:=by omega
   have a2:=zDX hta hlk;have hav:zBM y (zAJ fs i)=y.ts[zAJ fs i]:=by unfold zBM;rw[List.getD_eq_getElem?_getD,List.getElem?_eq_getElem hlk];rfl
   have hsm:=ysm.ts _ (List.getElem_mem hlk);rw[hav] at hS;have ew2:IntKind.i64.wrap (((zAJ fs i:Nat):Int)+1)=((zAJ fs (i+1):Nat):Int):=by rw[hln];exact ze (by unfold lim;omega)
   clear hln hlb hav hob;generalize y.ts[zAJ fs i]=z at *
   have hlz:=wG hsm.sl;obtain⟨z1,z2,_⟩:=zN hsm.sl;cases b2:decide ((z.ts.length:Int)>0) with
   |false=>
    rw[b2] at hS;have hres:=quiet (by rw[hS];rfl);clear hS quiet hOH hut hEH hsH
    repeat' first|simp only[go_sem,zS6, *]|apply bc<;>intro hc
   |true=>
    rw[b2,if_pos rfl] at hS;have hmu:yT Tryz.prog 148 (.map g.next) (.int .i64 (i:Int)) z.d H=some (H.set g.next (.map (kmD (D.int .i64) (zFX (i:Int) z.d s.M)))):=zLc zfM hsH.1.1 zPV zXc (i:Int) z.d;have hres:∃u',u=u'∧wQ (H.set g.next (.map (kmD (D.int .i64) (zFX (i:Int) z.d s.M)))) 1 (yI (zV y fs (i+1)).outs) u'∧(∀j,zAB u' j→g.next≤j)∧Ext g (H.set g.next (.map (kmD (D.int .i64) (zFX (i:Int) z.d s.M))))∧StH (zV y fs (i+1)).M (zV y fs (i+1)).O g.next (g.next+1) (H.set g.next (.map (kmD (D.int .i64) (zFX (i:Int) z.d s.M)))):=by
     rw[hS];refine⟨u,rfl,hOH.loc (Nat.le_refl _) fun j hj=>zE fun e=> ?_,hut,hEH.set (Nat.le_refl _) _,⟨zC _ _ _,by rw[zE (by omega)];exact hsH.1.2⟩,hsH.2⟩;have:=(hOH.tok hj).2;rw[e,hsH.1.1] at this;cases this
    clear hS quiet hOH hut hEH hsH
    repeat' first|simp only[go_sem,zS6, *]|apply bc<;>intro hc
    refine zQ (by kernel_rfl) ?_
    repeat' first|simp only[go_sem,zS6,zY, *]|apply bc<;>intro hc
  |false=>
   rw[b1] at hS hln;simp only[Bool.false_eq_true,if_false,Nat.add_zero] at hS hln;rw[←hln] at f8;clear hln hlb;cases b2:(f.kind==2) with
   |false=>
    rw[b2] at hS;have hres:=quiet hS;clear hS quiet hOH hut hEH hsH
    repeat' first|simp only[go_sem,zS6, *]|apply bc<;>intro hc
   |true=>
    rw[b2,if_pos rfl] at hS;have hcs:=zBp hOH.isSl (by omega) f.out H;have hlu:=yV hOH.isSl;obtain⟨u1,u2,_⟩:=zN hOH.isSl;cases b3:(s.outs.any fun z=>z==f.out) with
    |true=>
     rw[b3,if_pos rfl] at hS;have hres:=quiet hS;rw[b3] at hcs;clear hS quiet hOH hut hEH hsH
     repeat' first|simp only[go_sem,zS6, *]|apply bc<;>intro hc|(refine zA.mono hcs ?_;rintro r h ⟨hq,rfl⟩)
    |false=>
     rw[b3] at hS hcs;simp only[Bool.false_eq_true,if_false] at hS;have hlo:s.outs.length<y.own.length:=by
      rw[hS,List.length_append,List.length_singleton] at hob;omega
     have a3:=wb hoa hlo;have hov:zBN y s.outs.length=y.own[s.outs.length]:=by unfold zBN;rw[List.getD_eq_getElem?_getD,List.getElem?_eq_getElem hlo];rfl
     rw[hov] at hS;clear hov hob;generalize y.own[s.outs.length]=nm at *
     have hone:=zCj f.out;have fin:∀ (H2:Heap) (O2:KV),H2.next=H.next→wQ H2 1 (yI s.outs) u→Ext g H2→StH s.M O2 g.next (g.next+1) H2→(zV y fs (i+1)).M=s.M→(zV y fs (i+1)).O=O2→(zV y fs (i+1)).outs=s.outs++ [f.out]→
       ∃d' h6,yD Tryz.prog false H2.next 40 u (.sl 1 [[.str f.out]] .full) H2=some (d',h6)∧∃u',d'=u'∧wQ h6 1 (yI (zV y fs (i+1)).outs) u'∧(∀j,zAB u' j→g.next≤j)∧Ext g h6∧StH (zV y fs (i+1)).M (zV y fs (i+1)).O g.next (g.next+1) h6:=fun H2 O2 hn hO hE hs q1 q2 q3=>by
      obtain⟨d',h6,v1,v2,v3,v4,v5,v6,v7⟩:=hO.app4 (P:=Tryz.prog) (t:=40) (ys:=[[.str f.out]]) (x:= .sl 1 [[.str f.out]] .full) yq zGS zAe (by omega) (by simp) (.inr ⟨by simp,_,rfl⟩) (by rw[zp,zAo];unfold lim;simp;omega) (by rw[zp];unfold lim;simp;omega);have hE0:=hE.1;have t1:∀j,zAB u j→j≠g.next∧j≠g.next+1:=fun j hj=>by
       have:=(hO.tok hj).2;exact⟨fun e=>(by rw[e,hs.1.1] at this;cases this),fun e=>(by rw[e,hs.1.2] at this;cases this)⟩
      refine⟨d',h6,v1,d',rfl,by rw[q3,zQJ];exact v2,fun j hj=>by have:=v5 j hj;omega,⟨by omega,fun j hj=>by rw[v4 j (by omega) fun e=>by have:=hut j e;omega,hE.2 j hj]⟩,by rw[q1,q2];exact⟨⟨by rw[v4 _ hs.2.1 fun e=>(t1 _ e).1 rfl];exact hs.1.1,by rw[v4 _ hs.2.2 fun e=>(t1 _ e).2 rfl];exact hs.1.2⟩,by have:=hs.2.1;omega,by have:=hs.2.2;omega⟩⟩
     cases b4:(nm== []) with
     |true=>
      rw[b4] at hS;obtain⟨d',h6,v1,hres⟩:=fin H s.O rfl hOH hEH hsH (by rw[hS]) (by rw[hS];rfl) (by rw[hS]);clear hS quiet hOH hut hEH hsH fin
      repeat' first|simp only[go_sem,zS6, *]|apply bc<;>intro hc|(refine zA.mono hcs ?_;rintro r h ⟨hq,rfl⟩)
     |false=>
      rw[b4] at hS;obtain⟨H2,hH2,hn2,hO2,hE2,hs2',hr2⟩:∃H2:Heap,H.set (g.next+1) (.map (kvD (zEW f.out nm s.O)))=H2∧H2.next=H.next∧wQ H2 1 (yI s.outs) u∧Ext g H2∧StH s.M (zEW f.out nm s.O) g.next (g.next+1) H2∧H2.at' n0=some (.row f.cells):=
       ⟨_,rfl,zu _ _ _,hOH.loc (Nat.le_refl _) fun j hj=>zE fun e=>(by have:=(hOH.tok hj).2;rw[e,hsH.1.2] at this;cases this),hEH.set (by omega) _,⟨⟨by rw[zE (by omega)];exact hsH.1.1,zC _ _ _⟩,hsH.2⟩,by rw[zE (by omega)];exact hrow⟩
      have hmu:yT Tryz.prog 149 (.map (g.next+1)) (.str f.out) (.str nm) H=some H2:=by rw[←hH2];exact zK9 hsH.1.2 zPW zMN f.out nm
      obtain⟨d',h6,v1,hres⟩:=fin H2 _ hn2 hO2 hE2 hs2' (by rw[hS]) (by rw[hS];rfl) (by rw[hS]);clear hS quiet hOH hut hEH hsH fin hH2 hn2 hO2 hE2 hs2'
      repeat' first|simp only[go_sem,zS6, *]|apply bc<;>intro hc|(refine zA.mono hcs ?_;rintro r h ⟨hq,rfl⟩)
      refine zQ (by kernel_rfl) ?_
      repeat' first|simp only[go_sem,zS6,zY, *]|apply bc<;>intro hc
 ·clear hE hst;rintro fr h e1 ⟨f1,f5,f7,f8,f19,f20,f21,u,f9,hO,hut,hE,hst⟩;have hfin:Ext g h∧∃sc' m1 m2,D.iptr sc 0= .iptr sc' 0∧Stt c fs (alS fs y) (zV y fs fs.length).M (zV y fs fs.length).O sc' m1 m2∧StH (zV y fs fs.length).M (zV y fs fs.length).O m1 m2 h∧g.next≤m1∧g.next≤m2:=⟨hE,sc,g.next,g.next+1,rfl,hStt,hst,Nat.le_refl _,by omega⟩;clear hO hut hE hst hStt
  repeat' first|simp only[go_sem,zS6, *]|apply bc<;>intro hc
def zU:List Fac→List (List UInt8)→List (List UInt8)
 | [],o=>o
 |f::fs,o=>if(f.kind==1)=true then zU fs o else if(f.kind==2)=true then zU fs (if(o.any fun z=>z==f.out)=true then o else o++ [f.out]) else zU fs o
theorem zAI:∀ (l:List Fac) (f:Fac) (o:List (List UInt8)),zU (l++ [f]) o=zU [f] (zU l o)
 | [],f,o=>rfl
 |g::l,f,o=>by
  by_cases h1:(g.kind==1)=true
  ·have e:∀m,zU (g::m) o=zU m o:=fun m=>by rw[zU,if_pos h1]
   rw[List.cons_append,e,e,zAI l f]
  ·by_cases h2:(g.kind==2)=true
   ·have e:∀m,zU (g::m) o=zU m (if(o.any fun z=>z==g.out)=true then o else o++ [g.out]):=fun m=>by rw[zU,if_neg h1,if_pos h2]
    rw[List.cons_append,e,e,zAI l f]
   ·have e:∀m,zU (g::m) o=zU m o:=fun m=>by rw[zU,if_neg h1,if_neg h2]
    rw[List.cons_append,e,e,zAI l f]
theorem zAm {y:Cho} {fs:List Fac} :∀k,k≤fs.length→(zV y fs k).outs=zU (fs.take k) []
 |0,_=>rfl
 |k+1,h=>by
  have hlt:k<fs.length:=by omega
  have ih:=zAm (y:=y) (fs:=fs) k (by omega);rw[List.take_succ_eq_append_getElem hlt,zAI,←ih,zBu hlt];simp only[zU];split
  ·split<;>rfl
  ·split
   ·split<;>rfl
   ·rfl
theorem zCR {c:Cat} :∀ {l:List Fac} {t:List (List (List Trm))} {o:List (List UInt8)},(zEL c l t o).2.2=0→(zEL c l t o).1.length=t.length+(l.filter fun f=>f.kind==1).length∧(zEL c l t o).2.1=zU l o
 | [],t,o,_=>⟨rfl,rfl⟩
 |f::fs,t,o,h=>by
  rw[zEL] at h⊢;by_cases h1:(f.kind==1)=true
  ·rw[if_pos h1] at h⊢;by_cases h2:(zCO c f.e==0)=true
   ·rw[if_pos h2] at h⊢;obtain⟨a1,a2⟩:=zCR h;refine⟨?_,by rw[a2,zU,if_pos h1]⟩;rw[a1,List.filter_cons_of_pos (by exact h1)];simp only[List.length_append,List.length_cons,List.length_nil];omega
   ·rw[if_neg h2] at h;exact absurd h (by simpa using h2)
  ·rw[if_neg h1] at h⊢;by_cases h2:(f.kind==2)=true
   ·rw[if_pos h2] at h⊢;obtain⟨a1,a2⟩:=zCR h;exact⟨by rw[a1,List.filter_cons_of_neg (by exact h1)],by rw[a2,zU,if_neg h1,if_pos h2]⟩
   ·rw[if_neg h2] at h⊢;obtain⟨a1,a2⟩:=zCR h;exact⟨by rw[a1,List.filter_cons_of_neg (by exact h1)],by rw[a2,zU,if_neg h1,if_neg h2]⟩
theorem zO0 {c:Cat} {l:List Fac} (h:(yw c l).2=0):l.length≤256:=by
 unfold yw at h;split at h
 ·exact absurd h (by decide)
 ·split at h
  ·exact absurd h (by decide)
  ·rename_i q
   have:¬((l.length:Int)>256):=by simpa using q
   omega
structure ChoiceOk (c:Cat) (fs:List Fac) (y:Cho):Prop where
 case:(yw c fs).2=0
 lic:zAJ fs fs.length=y.ts.length
 outs:(zV y fs fs.length).outs.length=y.own.length
 ok:∀a∈y.ts,a.ts≠[]→a.Ok
theorem zNX {c:Cat} {fs:List Fac} {y:Cho} {p:Bool} (h:yO c fs y p=0) (ysm:y.Sm):ChoiceOk c fs y:=by
 unfold yO at h;split at h
 ·rename_i q;rw[h] at q;exact absurd q (by decide)
 ·rename_i q1;have v0:(zG c fs).2.2=0:=by simpa using q1
  split at h
  ·exact absurd h (by decide)
  ·rename_i q2;split at h
   ·rename_i q;rw[h] at q;exact absurd q (by decide)
   ·rename_i q3;have t0:zDy (zCA (zG c fs).1 y.ts p) y.ts.length=0:=by simpa using q3
    have hv:=zBt (c:=c) (l:=fs);unfold zG at v0 q2 t0 hv;by_cases qc:(!((yw c fs).2==0))=true
    ·rw[if_pos qc] at v0;rw[v0] at qc;exact absurd qc (by decide)
    ·rw[if_neg qc] at v0 q2 t0 hv;obtain⟨a1,a2⟩:=zCR v0;have hl:(zEL c fs [] []).1.length=y.ts.length∧(zEL c fs [] []).2.1.length=y.own.length:=by
      simp only[Bool.or_eq_true,Bool.not_eq_true',beq_eq_false_iff_ne,ne_eq,not_or,Decidable.not_not] at q2;omega
     refine⟨by simpa using qc,?_,?_,fun a ha hne=> ?_⟩
     ·rw[←hl.1,a1];simp[zAJ]
     ·rw[zAm _ (Nat.le_refl _),List.take_length,←a2];exact hl.2
     ·obtain⟨i,hi,rfl⟩:=List.mem_iff_getElem.1 ha;have:=zFV t0 i hi;unfold zCA at this;rw[List.getElem?_eq_getElem hi] at this;simp only at this;have hn:(((y.ts[i].ts.length:Int))==0)=false:=by
       have:=List.length_pos_iff.2 hne;simp;omega
      rw[hn,Bool.and_false,if_neg (by decide)] at this;split at this
      ·exact absurd this (by decide)
      ·rename_i q;have hany:((zEL c fs [] []).1.getD i []).any (fun b=>zLr y.ts[i].ts b)=true:=by simpa using q
       obtain⟨b,hb,he⟩:=List.any_eq_true.1 hany;have e:=(zCs _ _).1 he;refine⟨(ysm.ts _ ha).sl,hne,?_⟩;rw[e];rw[List.getD_eq_getElem?_getD] at hb;cases hq:(zEL c fs [] []).1[i]? with
       |none=>rw[hq] at hb;cases hb
       |some z=>
        rw[hq] at hb;have:=((hv z (List.mem_of_getElem? hq)).2.ts b hb).2;omega
def zYc (c:Cat) (fs:List Fac) (y:Cho):List (List D):=zOz c fs (alS fs y) (zV y fs fs.length).O 6
structure CIn (c:Cat) (fs:List Fac) (y:Cho) (d x yd:D):Prop where
 cat:qg c d
 sm:c.Sm
 x:za 12 (zCz fs) x
 len:fs.length≤1048576
 few:fs.length≤16∨256<fs.length
 ok:∀f∈fs,f.Ok
 cho:zal y yd
 ysm:y.Sm
section
variable {c:Cat} {fs:List Fac} {y:Cho} {d x yd:D} (I:CIn c fs y d x yd)
include I
theorem CIn.check (p:Bool) (g:Heap):zA Tryz.prog 39 [d,x,yd, .bool p] g fun r h'=>h'=g∧r= .int .i64 (yO c fs y p):=zLY I.cat I.sm I.x I.len I.ok I.cho I.ysm p g
theorem CIn.n16 {p:Bool} (h:yO c fs y p=0):fs.length≤16:=by
 have:=zO0 (zNX h I.ysm).case;rcases I.few with q|q
 ·exact q
 ·omega
theorem CIn.start {p:Bool} (h:yO c fs y p=0) (g:Heap):zA Tryz.prog 40 [d,x,yd] g fun r h'=>Ext g h'∧∃sc m1 m2,r= .iptr sc 0∧Stt c fs (alS fs y) (zV y fs fs.length).M (zV y fs fs.length).O sc m1 m2∧StH (zV y fs fs.length).M (zV y fs fs.length).O m1 m2 h'∧g.next≤m1∧g.next≤m2:=by
 have h1:=I.n16 h;obtain⟨_,k1,k2,k3⟩:=zNX h I.ysm;exact zbC I.cat I.sm I.x (by omega) I.ok I.cho I.ysm k3 (by omega) (by omega) g
end
theorem zRr {c:Cat} {fs:List Fac} {y:Cho} :∀x∈zYc c fs y,yS x:=zKF
def Vio.cells (v:Vio):List D:=[.int .i64 v.row, .sl 1 (wa v.facts) .no]
def vcs (l:List Vio):List (List D):=l.map Vio.cells
def zU5 (c:Cat) (fs:List Fac) (al:Nat→Option Alt) (O:KV) (k:Nat):List Vio:=(List.range k).flatMap fun i:Nat=>(zC5 c fs al O i).map fun l=>⟨(i:Int),l⟩
def zJF (c:Cat) (fs:List Fac) (y:Cho):List Vio:=zU5 c fs (alS fs y) (zV y fs fs.length).O 6
theorem zU6 {c:Cat} {fs:List Fac} {al:Nat→Option Alt} {O:KV} {k:Nat} :zOz c fs al O k=vcs (zU5 c fs al O k):=by
 unfold zOz zU5 vcs vbs;rw[List.map_flatMap];congr 1
 funext i
 rw[List.map_map];rfl
theorem zNY {c:Cat} {fs:List Fac} {y:Cho} :zYc c fs y=vcs (zJF c fs y):=zU6
def zGh (c:Cat) (fs:List Fac) (y:Cho):D:=
 if(!(yO c fs y false==0))=true then .tuple [.bool false, .int .i64 (yO c fs y false)] else .tuple [.bool (!(zYc c fs y).head?.isSome), .int .i64 0]
theorem zi7 {c:Cat} {fs:List Fac} {y:Cho} :∃num l,(zYc c fs y).head?.getD zQi= [.int .i64 num,l]∧za 1 [] .nilsl∧l.flat=true∧yS [.int .i64 num,l]:=by
 cases h:(zYc c fs y).head? with
 |none=>exact⟨0, .nilsl,rfl, .inl ⟨rfl,rfl⟩,rfl,rfl,⟨trivial,trivial,trivial⟩,rfl⟩
 |some x=>
  have hm:=List.mem_of_mem_head? h;have hp:=zRr x hm;obtain⟨i,_,hx⟩:=List.mem_flatMap.1 hm;obtain⟨l,_,rfl⟩:=List.mem_map.1 hx;exact⟨_,_,rfl, .inl ⟨rfl,rfl⟩,rfl,hp⟩
set_option maxHeartbeats 4000000 in
theorem zFc {c:Cat} {fs:List Fac} {y:Cho} {d x yd:D} (I:CIn c fs y d x yd) (g:Heap):
  zA Tryz.prog 14 [d,x,yd] g fun r h'=>h'=g∧r=zGh c fs y:=by
 refine zA.pure (by kernel_rfl) fun hok'=>zA.strip ?_;refine zA.post fun Q hQ=> ?_;have hcc:=I.check false;have hst:=fun h=>I.start (p:=false) h;have h16:=fun h=>I.n16 (p:=false) h;obtain⟨a,b,e,p,rfl,_⟩:=I.cat;obtain⟨ta,oa,rfl,_⟩:=I.cho;obtain⟨x1,x2,_⟩:=zN I.x;have hv4:zS true 4 [a,b,e,p] 0=some (.agg [a,b,e,p]):=zB rfl (by omega);have hv2:zS true 2 [ta,oa] 0=some (.agg [ta,oa]):=zB rfl (by omega);have hQn:∀h' z n,Ext g h'→zGh c fs y= .tuple [.bool z, .int .i64 n]→Q (.tuple [.bool z, .int .i64 n]) h':=fun h' z n hE e=>hQ _ _ ⟨hE,⟨trivial,trivial,trivial⟩,e.symm⟩
 refine zA.of_fn (g:=zWL) mix Tryz.func14 zkL rfl rfl ?_;simp only[Tryz.f14,gJ];cases he:(yO c fs y false==0) with
 |false=>
  have hve:zGh c fs y= .tuple [.bool false, .int .i64 (yO c fs y false)]:=by unfold zGh;rw[he];rfl
  have hfin:=hQn g _ _ (Ext.refl g) hve;clear hQn hve hQ hst h16
  repeat' first|simp only[go_sem,zgJ, *]|apply bc<;>intro hc|(refine zA.mono (hcc _) ?_;rintro r h ⟨hq,rfl⟩)
 |true=>
  have h0:yO c fs y false=0:=by simpa using he
  have hve:zGh c fs y= .tuple [.bool (!(zYc c fs y).head?.isSome), .int .i64 0]:=by unfold zGh;rw[he];rfl
  have hs:=hst h0;have hn:=h16 h0;rw[h0] at hcc he;clear hst h16 h0
  repeat' first|simp only[go_sem,zgJ, *]|apply bc<;>intro hc|(refine zA.mono (hcc _) ?_;rintro r h ⟨hq,rfl⟩)
  subst hq
  rename Heap=>g
  refine(hs _).mono ?_;rintro r h1 ⟨hE,sc,m1,m2,rfl,hS,hH,_,_⟩
  repeat' first|simp only[go_sem,zgJ, *]|apply bc<;>intro hc
  refine(zbA hS hn hH).mono ?_;rintro r h2 ⟨hq,rfl⟩;subst hq;have hh:za9 (zOz c fs (alS fs y) (zV y fs fs.length).O 6)= .tuple [.agg ((zYc c fs y).head?.getD zQi), .bool ((zYc c fs y).head?.isSome)]:=rfl;rw[hh];obtain⟨num,l,hl,_,hlf,hlp⟩:=zi7 (c:=c) (fs:=fs) (y:=y);have hst2:zW Tryz.prog 33 (.ptr h2.next 0) (.agg [.int .i64 num,l]) (h2.new h2.next (.row [.int .i64 0, .nilsl]))=some (h2.new h2.next (.row [.int .i64 num,l])):=zh zBj (by omega) rfl rfl hlp.1;have hfin:=hQn (h2.new h2.next (.row [.int .i64 num,l])) _ _ (hE.new hE.1 _) hve;rw[hl];clear hQn hve hQ hs hE hS hH hh hl hlp
  repeat' first|simp only[go_sem,zgJ, *]|apply bc<;>intro hc
section
variable {c:Cat} {fs:List Fac} {al:Nat→Option Alt} {O:KV}
theorem zNZ {i:Nat} {l:List Int} :l∈zC5 c fs al O i↔∃z∈zEi c fs al O i,zD4 z=l:=by
 unfold zC5;rw[zaU zUu,zIX,List.mem_map]
theorem zU7 {k:Nat} {v:Vio} :v∈zU5 c fs al O k↔∃i:Nat,i<k∧v.row=(i:Int)∧v.facts∈zC5 c fs al O i:=by
 unfold zU5;rw[List.mem_flatMap];constructor
 ·rintro⟨i,hi,h⟩;obtain⟨l,hl,rfl⟩:=List.mem_map.1 h;exact⟨i,List.mem_range.1 hi,rfl,hl⟩
 ·rintro⟨i,hi,h1,h2⟩;refine⟨i,List.mem_range.2 hi,List.mem_map.2 ⟨v.facts,h2,?_⟩⟩;cases v;simp only at h1;rw[h1]
end
theorem zU8 {c:Cat} {fs:List Fac} {y:Cho} {v:Vio} :v∈zJF c fs y↔∃i:Nat,i<6∧v.row=(i:Int)∧∃z∈zEi c fs (alS fs y) (zV y fs fs.length).O i,zD4 z=v.facts:=by
 unfold zJF;rw[zU7];constructor
 ·rintro⟨i,h1,h2,h3⟩;exact⟨i,h1,h2,zNZ.1 h3⟩
 ·rintro⟨i,h1,h2,h3⟩;exact⟨i,h1,h2,zNZ.2 h3⟩
def zHM (c:Cat) (l:List Fac) (n:Nat):Cho:=⟨(zW3 c l n).map mkA,zW4 c l n⟩
theorem zYd {c:Cat} {l:List Fac} {n:Int} (h:zC0 c l n=0):(zG c l).2.2=0∧0≤n∧n.toNat<zLa c l:=by
 unfold zC0 at h;split at h
 ·rename_i q;rw[h] at q;exact absurd q (by decide)
 ·rename_i q1;split at h
  ·exact absurd h (by decide)
  ·rename_i q2;have hc:zAG c l=0:=by simpa using q1
   have hv:(zG c l).2.2=0:=by
    unfold zAG at hc;split at hc
    ·exact hc
    ·rename_i q;simpa using q
   simp only[Bool.or_eq_true,decide_eq_true_eq,not_or] at q2;exact⟨hv,by omega,by omega⟩
theorem zRs {c:Cat} {l:List Fac} {n:Int} (h:zC0 c l n=0):yO c l (zHM c l n.toNat) false=0:=by
 obtain⟨hv,h0,hn⟩:=zYd h;have hpos:=zQe hn;have hd:=zOs (l:=zD0 c (zG c l).1 (zG c l).2.1) (n:=n.toNat) hpos;have hT:(zHM c l n.toNat).ts.length=(zG c l).1.length:=by simp[zHM,zW3,yt]
 have hO:(zHM c l n.toNat).own.length=(zG c l).2.1.length:=by simp[zHM,zW4,zA0]
 have hrl:(zD0 c (zG c l).1 (zG c l).2.1).length=(zG c l).1.length+(zG c l).2.1.length:=by simp[zD0]
 unfold yO;rw[hv,hT,hO];simp only[beq_self_eq_true,Bool.not_true,Bool.false_eq_true,if_false,Bool.or_self];have t1:zDy (zCA (zG c l).1 (zHM c l n.toNat).ts false) (zG c l).1.length=0:=ql fun i hi=>by
  unfold zCA;have hi2:i<(zHM c l n.toNat).ts.length:=by rw[hT];exact hi
  rw[List.getElem?_eq_getElem hi2];have hdi:=hd i (by omega);have hri:(zD0 c (zG c l).1 (zG c l).2.1)[i]'(by omega)=(zG c l).1[i].length:=by
   simp only[zD0];rw[List.getElem_append_left (by simpa using hi),List.getElem_map]
  rw[hri] at hdi;have hts:(zHM c l n.toNat).ts[i].ts=(zG c l).1[i][(zEh (zD0 c (zG c l).1 (zG c l).2.1) n.toNat).1.getD i 0]:=by
   simp only[zHM,zW3,yt,List.getElem_map,List.getElem_range,mkA];rw[List.getD_eq_getElem?_getD (l:=(zG c l).1),List.getElem?_eq_getElem hi,Option.getD_some,List.getD_eq_getElem?_getD (l:=(zG c l).1[i]),List.getElem?_eq_getElem hdi,Option.getD_some]
  simp only[Bool.false_and,Bool.false_eq_true,if_false];rw[if_neg]
  have:((zG c l).1.getD i []).any (fun b=>zLr (zHM c l n.toNat).ts[i].ts b)=true:=by
   rw[List.getD_eq_getElem?_getD,List.getElem?_eq_getElem hi,Option.getD_some];exact List.any_eq_true.2 ⟨_,List.getElem_mem hdi,(zCs _ _).2 hts⟩
  rw[this];decide
 rw[t1];simp only[beq_self_eq_true,Bool.not_true,Bool.false_eq_true,if_false];refine ql fun i hi=> ?_;unfold zRg;have hi2:i<(zHM c l n.toNat).own.length:=by rw[hO];exact hi
 rw[List.getElem?_eq_getElem hi2];have hdi:=hd ((zG c l).1.length+i) (by omega);have hri:(zD0 c (zG c l).1 (zG c l).2.1)[(zG c l).1.length+i]'(by omega)=c.ls.length:=by
  simp only[zD0];rw[List.getElem_append_right (by simp)];simp
 rw[hri] at hdi;have hts:(zHM c l n.toNat).own[i]=c.ls[(zEh (zD0 c (zG c l).1 (zG c l).2.1) n.toNat).1.getD ((zG c l).1.length+i) 0].name:=by
  simp only[zHM,zW4,zA0,List.getElem_map,List.getElem_range];rw[List.getD_eq_getElem?_getD (l:=c.ls.map Lic.name),List.getElem?_map,List.getElem?_eq_getElem hdi];rfl
 simp only[Bool.false_and,Bool.false_eq_true,if_false];rw[if_neg]
 have:(c.ls.any fun x=>x.name==(zHM c l n.toNat).own[i])=true:=List.any_eq_true.2 ⟨_,List.getElem_mem hdi,by rw[hts];simp⟩;rw[this];decide
end Go.V
