/- A machine of abstract values for programs of the model, further rules, part 4. No condition. -/
import Derived.Test.YtmhkjfajejaniaaGreatDoorW36
import Derived.Test.YtmhkjfajejaniaaGreatDoorW37
import Derived.Test.YtmhkjfajejaniaaGreatDoorW30
import Derived.Test.YtmhkjfajejaniaaGreatDoorW31
import Derived.Test.YtmhkjfajejaniaaGreatDoorW29
set_option linter.unusedSimpArgs false
set_option linter.unusedVariables false
set_option linter.constructorNameAsVariable false
set_option linter.deprecated false
namespace Go.V
theorem wL.app3 {P:Program} {h:Heap} {sz:Nat} {xs ys:List (List D)} {d x:D} {t e:TypeId} {K:D→Heap→Prop} (ho:wL h sz xs d) (he:yy P t=some e) (hz:zGp P e=true) (hs:szT P e=sz) (h0:0<sz) (hys:∀y∈ys,y.length=sz) (hx:(x= .nilsl∧ys= [])∨(ys≠[]∧∃tk,x= .sl sz ys tk))
  (hb:(xs.length+ys.length)*yN P e≤lim) (hl:xs.length+ys.length≤lim) (hK:∀d' h',wL h' sz (xs++ys) d'→h.next≤h'.next→(∀i,i<h.next→¬we d i→h'.at' i=h.at' i)→(∀i,we d' i→h.next≤i)→d'.cells= [d']→d'.flat=true→K d' h'):onR (z7 P false h.next t d x h) K:=by
 rcases hx with⟨rfl,rfl⟩ | ⟨hy0,tk,rfl⟩
 ·simp only[List.append_nil,List.length_nil,Nat.add_zero] at hK hb hl
  simp only[z7,he,hz,hs,zRR,if_true,List.length_nil,Nat.zero_div]
  rcases ho with⟨rfl,rfl⟩ | ⟨q,rfl,h1,h2⟩
  ·simp only[qJ,if_true,zGY]
   exact hK _ _ (.inl ⟨rfl,rfl⟩) (Nat.le_refl _) (fun i hi _=>rfl) (fun i hi=>hi.elim) rfl rfl
  ·simp only[qJ]
   rw[if_pos (by simp only[Nat.add_zero,Bool.and_eq_true,decide_eq_true_eq];exact⟨⟨trivial,hb⟩,hl⟩)]
   simp only[h1,Bool.false_eq_true,if_false,zGY]
   have hc:yB sz 0 []= []:=rfl
   rw[hc,List.append_nil]
   refine hK _ _ (.inr ⟨h.next,rfl,zK _ _ _,?_⟩) ?_ (fun i hi hn=> ?_) (fun i hi=> ?_) rfl rfl
   ·exact Nat.lt_of_lt_of_le (Nat.lt_succ_self _) (Nat.le_max_right _ _)
   ·exact qT (h.del q) _ _
   ·rw[zE (by omega),yV fun e=>hn (by rw[e];rfl)]
   ·simp only[we] at hi;omega
 ·exact ho.app2 he hz hs h0 hys hy0 hb hl hK
theorem wL.app4 {P:Program} {h:Heap} {sz:Nat} {xs ys:List (List D)} {d x:D} {t e:TypeId} (ho:wL h sz xs d) (he:yy P t=some e) (hz:zGp P e=true) (hs:szT P e=sz) (h0:0<sz) (hys:∀y∈ys,y.length=sz) (hx:(x= .nilsl∧ys= [])∨(ys≠[]∧∃tk,x= .sl sz ys tk))
  (hb:(xs.length+ys.length)*yN P e≤lim) (hl:xs.length+ys.length≤lim):∃d' h',z7 P false h.next t d x h=some (d',h')∧wL h' sz (xs++ys) d'∧h.next≤h'.next∧(∀i,i<h.next→¬we d i→h'.at' i=h.at' i)∧(∀i,we d' i→h.next≤i)∧d'.cells= [d']∧d'.flat=true:=by
 have:=ho.app3 (K:=fun d' h'=>wL h' sz (xs++ys) d'∧h.next≤h'.next∧(∀i,i<h.next→¬we d i→h'.at' i=h.at' i)∧(∀i,we d' i→h.next≤i)∧d'.cells= [d']∧d'.flat=true) he hz hs h0 hys hx hb hl fun d' h' a b c e f g=>⟨a,b,c,e,f,g⟩
 unfold onR at this
 split at this
 ·rename_i d' h' hv
  exact⟨d',h',hv,this⟩
 ·exact this.elim
open Go.Proofs
set_option maxRecDepth 100000
theorem zRD {l:List Int} :∀x∈qZ l,wq x:=fun x hx=>by
 obtain⟨s,_,rfl⟩:=List.mem_map.1 hx
 exact⟨rfl,⟨trivial,trivial⟩,rfl⟩
theorem zRE (num:Int) (l:List Int):wq (zRB num l):=by
 have h:=yU (zRD (l:=l)) (sz:=1) .no
 refine⟨rfl,⟨trivial,h.2,trivial⟩,?_⟩
 simp only[zRB,yH,h.1]
 rfl
section
variable (c:Cat) (fs:List Fac) (al:Nat→Option Alt) (O:KV)
def zIL (k:Nat):List (List D):=(List.range k).flatMap fun i:Nat=>vbs (i:Int) (zBx c fs al O i)
end
section
variable {c:Cat} {fs:List Fac} {al:Nat→Option Alt} {O:KV}
theorem zDC (k:Nat):zIL c fs al O (k+1)=zIL c fs al O k++vbs (k:Int) (zBx c fs al O k):=by
 unfold zIL
 rw[List.range_succ,List.flatMap_append,List.flatMap_cons,List.flatMap_nil,List.append_nil]
theorem zDT {k:Nat} :∀x∈zIL c fs al O k,wq x:=fun x hx=>by
 obtain⟨i,_,h⟩:=List.mem_flatMap.1 hx
 obtain⟨l,_,rfl⟩:=List.mem_map.1 h
 exact zRE _ _
theorem zMv (i:Nat):(zBx c fs al O i).length≤(zLC c fs al O i).length:=by
 unfold zBx
 refine Nat.le_trans (zBT _) ?_
 rw[(qN _).length_eq,List.length_map]
 exact Nat.le_refl _
def ziQ:Nat→Nat
 |0=>4096
 |1=>4096
 |2=>65536
 |3=>16777216
 |4=>256
 |_=>16
theorem zUS (hn:fs.length≤16) (i:Nat):(zLC c fs al O i).length≤ziQ i:=by
 have h4:=zAS (al:=al) hn
 have hfm:∀ {α:Type} {l:List α} {f:α→List (List Int)} {m n k:Nat},l.length≤n→(∀x∈l,(f x).length≤m)→n*m≤k→(l.flatMap f).length≤k:=fun h1 h2 h3=>Nat.le_trans (qA h2) (Nat.le_trans (Nat.mul_le_mul_right _ h1) h3)
 rcases i with _|_|_|_|_|i
 ·exact hfm (m:=1) (f:=wH c fs al) h4 (fun t _=>by unfold wH;split<;>simp) (by decide)
 ·exact hfm (m:=1) (f:=zAA c fs al O) h4 (fun t _=>by
   unfold zAA
   split
   ·simp
   ·split<;>simp) (by decide)
 ·exact hfm (m:=16) (f:=zD9 c fs al) h4 (fun t _=>zH6 c hn al t) (by decide)
 ·exact hfm (m:=4096) (f:=wm c fs al) h4 (fun t _=>zFb c hn al t) (by decide)
 ·exact hfm (m:=16) (n:=16) (f:=zCT fs O) (Nat.le_trans (ye _ fs 0) hn) (fun t _=>zH8 hn O t) (by decide)
 ·show(zH9 c fs).length≤16
  unfold zH9
  split
  ·simp
  ·exact hfm (m:=1) (n:=16) (Nat.le_trans (ye _ fs 0) hn) (fun t _=>Nat.le_refl _) (by omega)
theorem zQA (hn:fs.length≤16):∀k,k≤6→(zIL c fs al O k).length≤16851216:=by
 have hs:∀k,(zIL c fs al O (k+1)).length≤(zIL c fs al O k).length+ziQ k:=fun k=>by
  rw[zDC,List.length_append,wn]
  have:=zMv (c:=c) (fs:=fs) (al:=al) (O:=O) k
  have:=zUS (c:=c) (al:=al) (O:=O) hn k
  omega
 have h0:(zIL c fs al O 0).length=0:=rfl
 have h1:=hs 0
 have h2:=hs 1
 have h3:=hs 2
 have h4:=hs 3
 have h5:=hs 4
 have h6:=hs 5
 simp only[ziQ,Nat.reduceAdd,Nat.zero_add] at h1 h2 h3 h4 h5 h6
 intro k hk
 have hk':k=0∨k=1∨k=2∨k=3∨k=4∨k=5∨k=6:=by omega
 rcases hk' with rfl|rfl|rfl|rfl|rfl|rfl|rfl<;>omega
theorem zJd (k:Nat):(zUp c fs al O k= .nilsl∧vbs (k:Int) (zBx c fs al O k)= [])∨(vbs (k:Int) (zBx c fs al O k)≠[]∧∃tk,zUp c fs al O k= .sl 2 (vbs (k:Int) (zBx c fs al O k)) tk):=by
 unfold zUp
 by_cases h:zLC c fs al O k= []
 ·rw[if_pos h]
  refine .inl ⟨rfl,List.length_eq_zero_iff.1 ?_⟩
  have:=zMv (c:=c) (fs:=fs) (al:=al) (O:=O) k
  rw[h,List.length_nil] at this
  rw[wn]
  omega
 ·rw[if_neg h]
  refine .inr ⟨fun e=> ?_,_,rfl⟩
  have hl:0<(srt qF ((zLC c fs al O k).map zGO)).length:=by
   rw[(qN _).length_eq,List.length_map]
   exact List.length_pos_iff.2 h
  have:=zKo (c:=qF) hl _ (Nat.le_refl _) hl
  have h2:(zBx c fs al O k).length=0:=by rw[←wn (k:Int),e];rfl
  unfold zBx cpt at h2
  omega
end
def zex (c:Cat) (fs:List Fac) (al:Nat→Option Alt) (O:KV) (n0 k:Nat) (S:Nat→Prop) (h:Heap):Prop:=
 n0<h.next∧∃d,h.at' n0=some (.row [d])∧wL h 2 (zIL c fs al O k) d∧∀i,S i↔(i=n0∨we d i)
theorem zex.lcl (c:Cat) (fs:List Fac) (al:Nat→Option Alt) (O:KV) (n0:Nat):Lcl (zex c fs al O n0):=by
 refine⟨fun k S h y i hi=> ?_,fun k S h h' y hn hk=> ?_⟩
 ·obtain⟨a1,d,a2,a3,a4⟩:=y
  rcases(a4 i).1 hi with rfl|q
  ·exact a1
  ·exact(a3.tok q).1
 ·obtain⟨a1,d,a2,a3,a4⟩:=y
  exact⟨by omega,d,by rw[hk _ ((a4 _).2 (.inl rfl))];exact a2,a3.loc hn fun i hi=>hk i ((a4 i).2 (.inr hi)),a4⟩
set_option maxHeartbeats 4000000 in
theorem zey {c:Cat} {fs:List Fac} {al:Nat→Option Alt} {M:KM Int} {O:KV} {sc:List D} {m1 m2:Nat} (hs:Stt c fs al M O sc m1 m2) (hn:fs.length≤16) {g:Heap} (hH:StH M O m1 m2 g):
  zA Tryz.prog 41 [.iptr sc 0] g fun r h'=>h'=g∧Fin 2 (zIL c fs al O 6) r:=by
 refine zA.pure (by kernel_rfl) fun hok'=>zA.strip ?_
 refine zA.post fun Q hQ=> ?_
 have hcv:=zF6 sc
 refine zA.of_fn (g:=zSh) mix Tryz.func41 zjL rfl rfl ?_
 simp only[Tryz.f41,gJ]
 obtain⟨G,hG,hGn,g1,hE⟩:∃G:Heap,g.new g.next (.row [.nilsl])=G∧G.next=g.next+1∧G.at' g.next=some (.row [.nilsl])∧Ext g G:=
  ⟨_,rfl,zD _ _,zK _ _ _,(Ext.refl g).new (Nat.le_refl _) _⟩
 repeat' first|simp only[go_sem,zfZ,zP9, *]|apply bc<;>intro hc|(refine zA.mono (hcv _) ?_;rintro r h ⟨hq,rfl⟩)
 subst hq
 rename Heap=>G
 generalize hL:LRec.mk _ _ _ _ _ _ _=L
 have hpe:L.pending=none:=by rw[←hL]
 have hrd:L.st= .ready:=by rw[←hL]
 clear hG
 have hW:=zex.lcl c fs al O g.next
 have hW0:zex c fs al O g.next 0 (fun j=>j=g.next∨we .nilsl j) G:=⟨by omega, .nilsl,g1, .inl ⟨rfl,rfl⟩,fun _=>Iff.rfl⟩
 have hHG:=hH.ext hE
 refine wa (n:=6) (el:=fun i=>[zUp c fs al O i]) hGn hW hrd hpe hW0 (fun yl hY0=>(zEz hs hn (Z:=fun _ _=>False) yl hY0 (hHG.ext ((Ext.refl G).new (by omega) _)) (fun e=> ?_) (fun e=> ?_)).mono fun r h' ⟨S',a,b,e⟩=>⟨S',a,b,e.resolve_right fun q=>q⟩) ?_ ?_
 ·have:=hH.2.1
  rcases e with e|e|e
  ·omega
  ·omega
  ·exact e
 ·have:=hH.2.2
  rcases e with e|e|e
  ·omega
  ·omega
  ·exact e
 ·intro k S0 h3 hk hid3 hl3 hw3 hn3
  have hl3':=hl3
  rw[←hL] at hl3'
  refine yW.round (g:=zSh) mix hl3' rfl (by kernel_rfl) (by kernel_rfl) (by kernel_rfl) ?_
  simp only[go_sem,zfZ]
  refine⟨hl3',?_⟩
  generalize hB:LRec.mk .busy _ _ _ _ _ _=B
  have hLB:({ B with st:= .ready,pending:=none } :LRec)=L:=by rw[←hB,←hL]
  have hbs:But (fun i=>i=g.next+1) h3 (h3.set (g.next+1) (.loop B)):=⟨by rw[zg];exact Nat.le_refl _,fun j _ hj=>zG hj⟩
  obtain⟨a1,d,a2,a3,a4⟩:=hW.round hw3 (fun i hi=>hi) hn3 hbs
  obtain⟨H,hHe,hHn,hHi⟩:∃H:Heap,h3.set (g.next+1) (.loop B)=H∧H.next=h3.next∧H.at' (g.next+1)=some (.loop B):=⟨_,rfl,zg _ _ _,zC _ _ _⟩
  rw[hHe] at a1 a2 a3 hbs⊢
  have hlen:=zQA (c:=c) (al:=al) (O:=O) hn (k+1) (by omega)
  rw[zDC,List.length_append] at hlen
  obtain⟨d',h6,v1,v2,v3,v4,v5,v6,v7⟩:=a3.app4 (P:=Tryz.prog) (t:=45) qU zR8 qt (by omega) (zBg _ _) (zJd (c:=c) (fs:=fs) (al:=al) (O:=O) k) (by rw[zLm];unfold lim;omega) (by unfold lim;omega)
  rw[←zDC] at v2
  have hnt:∀i,we d i→i≠g.next∧i≠g.next+1:=fun i hi=>by
   have:=(a3.tok hi).2
   exact⟨fun e=>(by rw[e,a2] at this;cases this),fun e=>(by rw[e,hHi] at this;cases this)⟩
  have b2:h6.at' g.next=some (.row [d]):=by rw[v4 _ (by omega) fun e=>(hnt _ e).1 rfl];exact a2
  have b3:h6.at' (g.next+1)=some (.loop B):=by rw[v4 _ (by omega) fun e=>(hnt _ e).2 rfl];exact hHi
  have hst:zS Tryz.prog 45 (.ptr g.next 0) d' h6=some (h6.set g.next (.row [d'])):=by
   rw[zb b2 zXD (by simp) v6 v7];rfl
  have hfin:∀fr,wN (LpK (g.next+1) L (zex c fs al O g.next) k S0 h3) (g.next+1) .normal fr (h6.set g.next (.row [d'])):=fun fr=>by
   have hbn:=hbs.1
   refine Lp.fin hW hLB hid3 hn3 (S':=fun i=>i=g.next∨we d' i) ?_ (fun i hi=> ?_) ⟨by rw[zg];omega,fun i hi hne=> ?_⟩ ⟨by rw[zg];omega,d',zC _ _ _,v2.loc (by rw[zg];exact Nat.le_refl _) fun i hi=> ?_,fun i=>Iff.rfl⟩
   ·rw[zG (by omega)];exact b3
   ·rcases hi with rfl|hi
    ·exact .inl ((a4 _).2 (.inl rfl))
    ·exact .inr (by have:=v5 i hi;omega)
   ·rw[zG fun e=>hne (.inr ((a4 i).2 (.inl e))),v4 i (by omega) fun e=>hne (.inr ((a4 i).2 (.inr e))),hbs.2 i hi fun e=>hne (.inl e)]
   ·rw[zG fun e=>by have:=v5 i hi;omega]
  clear hL hLB hB hHe hW0 hQ
  simp only[go_sem,zfZ,a2,v1,hst]
  exact hfin _
 ·intro S' h2 hsub hb hw2
  obtain⟨a1,d,a2,a3,a4⟩:=hw2
  have hf:=a3.fin zDT
  have hE2:Ext g h2:=Ext.of_but hE hb fun j hj=>by
   rcases hj with rfl|hj
   ·exact Nat.le_refl _
   ·exact hj.elim
  have hfn:=hQ d h2 ⟨hE2,zy (Nat.zero_le _) _ hf.1,hf.2⟩
  clear hL hcv hW0
  repeat' first|simp only[go_sem,zfZ, *]|apply bc<;>intro hc
def ZLp (id:Nat) (L:LRec) (V:(Nat→Prop)→Heap→Prop) (S:Nat→Prop) (h:Heap):Prop:=
 id<h.next∧h.at' id=some (.loop { L with st:= .done,pending:=some .ret })∧∃S0,V S0 h∧¬S0 id∧∀i,S i↔(i=id∨S0 i)
def LpZ (id:Nat) (L:LRec) (W:Nat→(Nat→Prop)→Heap→Prop) (V:(Nat→Prop)→Heap→Prop) (k:Nat) (S0:Nat→Prop) (h:Heap) (r:D) (h':Heap):Prop:=
 ∃S',(∀i,S' i→S0 i∨h.next≤i)∧But (fun i=>i=id∨S0 i) h h'∧((r= .bool true∧h'.at' id=some (.loop L)∧W (k+1) S' h')∨(r= .bool false∧h'.at' id=some (.loop { L with st:= .done,pending:=some .ret })∧V S' h'))
section
variable {P:Program} {W:Nat→(Nat→Prop)→Heap→Prop} {V:(Nat→Prop)→Heap→Prop} {id n:Nat} {L:LRec} {el:Nat→List D}
theorem YLp.yldZ (hW:Lcl W) (hV:Lcl fun _=>V) (go:∀k S0 h3,k<n→id<h3.next→h3.at' id=some (.loop L)→W k S0 h3→¬S0 id→yW P id (el k) h3 (LpZ id L W V k S0 h3)):Yld P id n el (YLp id L W) (ZLp id L V):=by
 refine⟨fun k S h y i hi=> ?_,fun k S h h' y hn hk=> ?_,fun S h y i hi=> ?_,fun S h h' y hn hk=> ?_,fun k S h hk y=> ?_⟩
 ·obtain⟨a1,_,S0,a3,_,a5⟩:=y
  rcases(a5 i).1 hi with rfl|hs
  ·exact a1
  ·exact hW.here _ _ _ a3 i hs
 ·obtain⟨a1,a2,S0,a3,a4,a5⟩:=y
  exact⟨by omega,by rw[hk id ((a5 id).2 (.inl rfl))];exact a2,S0,hW.loc _ _ _ _ a3 hn fun i hi=>hk i ((a5 i).2 (.inr hi)),a4,a5⟩
 ·obtain⟨a1,_,S0,a3,_,a5⟩:=y
  rcases(a5 i).1 hi with rfl|hs
  ·exact a1
  ·exact hV.here 0 _ _ a3 i hs
 ·obtain⟨a1,a2,S0,a3,a4,a5⟩:=y
  exact⟨by omega,by rw[hk id ((a5 id).2 (.inl rfl))];exact a2,S0,hV.loc 0 _ _ _ a3 hn fun i hi=>hk i ((a5 i).2 (.inr hi)),a4,a5⟩
 ·obtain⟨a1,a2,S0,a3,a4,a5⟩:=y
  refine(go k S0 h hk a1 a2 a3 a4).mono ?_
  rintro r h' ⟨S',b1,b2,hb⟩
  have hni:¬S' id:=fun e=>by
   rcases b1 _ e with q|q
   ·exact a4 q
   ·omega
  refine⟨fun i=>i=id∨S' i,fun i hi=> ?_,⟨b2.1,fun i hi hn=>b2.2 i hi fun e=>hn ((a5 i).2 e)⟩,?_⟩
  ·rcases hi with rfl|hi
   ·exact .inl ((a5 _).2 (.inl rfl))
   ·exact(b1 i hi).imp (fun q=>(a5 i).2 (.inr q)) fun q=>q
  ·rcases hb with⟨rfl,b3,b4⟩ | ⟨rfl,b3,b4⟩
   ·exact .inl ⟨rfl,Nat.lt_of_lt_of_le a1 b2.1,b3,S',b4,hni,fun i=>Iff.rfl⟩
   ·exact .inr ⟨rfl,Nat.lt_of_lt_of_le a1 b2.1,b3,S',b4,hni,fun i=>Iff.rfl⟩
theorem Lp.finZ (hW:Lcl W) {B:LRec} (hLB:({ B with st:= .ready,pending:=none } :LRec)=L) {h3 h6:Heap} {S0 S':Nat→Prop} {k:Nat} (h3i:id<h3.next) (hn:¬S0 id) (hid:h6.at' id=some (.loop B)) (hs:∀i,S' i→S0 i∨h3.next≤i) (hb:But (fun i=>i=id∨S0 i) h3 h6) (hw:W (k+1) S' h6) {fr:Frm} :
  wN (LpZ id L W V k S0 h3) id .normal fr h6:=by
 refine qi hid ⟨S',hs,hb.set (.inl (.inl rfl)) _, .inl ⟨rfl,by rw[zC,hLB],hW.loc _ _ _ _ hw (Nat.le_refl _) fun i hi=>zG fun e=> ?_⟩⟩
 subst e
 rcases hs _ hi with q|q
 ·exact hn q
 ·omega
theorem Lp.retZ (hV:Lcl fun _=>V) {B:LRec} (hLB:({ B with st:= .ready,pending:=none } :LRec)=L) {h3 h6:Heap} {S0 S':Nat→Prop} {k:Nat} (h3i:id<h3.next) (hn:¬S0 id) (hid:h6.at' id=some (.loop B)) (hs:∀i,S' i→S0 i∨h3.next≤i) (hb:But (fun i=>i=id∨S0 i) h3 h6) (hw:V S' h6) {fr:Frm} :
  wN (LpZ id L W V k S0 h3) id .ret fr h6:=by
 refine zFO hid ⟨S',hs,hb.set (.inl (.inl rfl)) _, .inr ⟨rfl,by rw[zC,←hLB],hV.loc 0 _ _ _ hw (Nat.le_refl _) fun i hi=>zG fun e=> ?_⟩⟩
 subst e
 rcases hs _ hi with q|q
 ·exact hn q
 ·omega
theorem zUT {f:FuncId} {args:List D} {h:Heap} {n0:Nat} (hn0:h.next=n0) {S:Nat→Prop} {Q:Exit→Frm→Heap→Prop} {fr:Frm} (hW:Lcl W) (hV:Lcl fun _=>V) (hst:L.st= .ready) (hpe:L.pending=none) (hY:W 0 S h)
  (prod:Yld P n0 n el (YLp n0 L W) (ZLp n0 L V)→YLp n0 L W 0 (fun i=>i=n0∨S i) (h.new n0 (.loop L))→zA P f args (h.new n0 (.loop L)) fun _ h'=>∃S',(∀j,S' j→(j=n0∨S j)∨(h.new n0 (.loop L)).next≤j)∧But (fun i=>i=n0∨S i) (h.new n0 (.loop L)) h'∧(YLp n0 L W n S' h'∨ZLp n0 L V S' h'))
  (go:∀k S0 h3,k<n→n0<h3.next→h3.at' n0=some (.loop L)→W k S0 h3→¬S0 n0→yW P n0 (el k) h3 (LpZ n0 L W V k S0 h3))
  (fin:∀S' h2,(∀j,S' j→S j∨n0≤j)→But S h h2→W n S' h2→Q .normal fr h2)
  (fret:∀S' h2,(∀j,S' j→S j∨n0≤j)→But S h h2→V S' h2→Q .ret fr h2):
  zA P f args (h.new n0 (.loop L)) fun _ h'=>∃r,h'.at' n0=some (.loop r)∧r.st≠ .busy∧zJ1 r.pending Q fr (h'.del n0):=by
 subst hn0
 have hn:(h.new h.next (.loop L)).next=h.next+1:=zD _ _
 have hSn:¬S h.next:=fun e=>Nat.lt_irrefl _ (hW.here _ _ _ hY _ e)
 refine(prod (YLp.yldZ hW hV go) ⟨by omega,zK _ _ _,S,hW.loc _ _ _ _ hY (by omega) fun i hi=>zE (by have:=hW.here _ _ _ hY _ hi;omega),hSn,fun i=>Iff.rfl⟩).mono ?_
 have key:∀ (S' S0:Nat→Prop) (h2:Heap),(∀j,S' j→(j=h.next∨S j)∨(h.new h.next (.loop L)).next≤j)→But (fun i=>i=h.next∨S i) (h.new h.next (.loop L)) h2→¬S0 h.next→(∀i,S' i↔(i=h.next∨S0 i))→(∀j,S0 j→S j∨h.next≤j)∧But S h (h2.del h.next):=by
  intro S' S0 h2 hs hb b4 b5
  refine⟨fun j hj=> ?_,by have:=hb.1;show h.next≤h2.next;omega,fun i hi hni=> ?_⟩
  ·rcases hs j ((b5 j).2 (.inr hj)) with(q|q)|q
   ·subst q;exact absurd hj b4
   ·exact .inl q
   ·exact .inr (by omega)
  ·have hne:i≠h.next:=by omega
   rw[yV hne,hb.2 i (by omega) (fun e=>e.elim hne hni),zE hne]
 rintro r h2 ⟨S',hs,hb,⟨b1,b2,S0,b3,b4,b5⟩ | ⟨b1,b2,S0,b3,b4,b5⟩⟩
 ·obtain⟨k1,k2⟩:=key S' S0 h2 hs hb b4 b5
  refine⟨L,b2,(by rw[hst];intro q;cases q),?_⟩
  rw[hpe,zAy]
  exact fin S0 _ k1 k2 (hW.loc _ _ _ _ b3 (Nat.le_refl _) fun i hi=>yV fun e=>by subst e;exact b4 hi)
 ·obtain⟨k1,k2⟩:=key S' S0 h2 hs hb b4 b5
  refine⟨_,b2,(by intro q;cases q),?_⟩
  simp only[zHW]
  exact fret S0 _ k1 k2 (hV.loc 0 _ _ _ b3 (Nat.le_refl _) fun i hi=>yV fun e=>by subst e;exact b4 hi)
end
theorem zMw {c:Cat} {fs:List Fac} {al:Nat→Option Alt} {O:KV} {m:Nat} {x:List D} (h:(zIL c fs al O m).head? =some x):∀k,(zIL c fs al O (m+k)).head? =some x
 |0=>h
 |k+1=>by
  rw[←Nat.add_assoc,zDC,List.head?_append,zMw h k]
  rfl
def zLD:List D:=[.int .i64 0, .nilsl]
def zWt (l:List (List D)):D:= .tuple [.agg (l.head?.getD zLD), .bool (l.head?.isSome)]
def zbf (c:Cat) (fs:List Fac) (al:Nat→Option Alt) (O:KV) (n0 k:Nat) (S:Nat→Prop) (h:Heap):Prop:=
 n0+1<h.next∧h.at' n0=some (.row zLD)∧h.at' (n0+1)=some (.row [.bool false])∧zIL c fs al O k= []∧∀i,S i↔(i=n0∨i=n0+1)
def zez (c:Cat) (fs:List Fac) (al:Nat→Option Alt) (O:KV) (n0:Nat) (S:Nat→Prop) (h:Heap):Prop:=
 ∃x,n0+1<h.next∧h.at' n0=some (.row x)∧h.at' (n0+1)=some (.row [.bool true])∧(zIL c fs al O 6).head? =some x∧∀i,S i↔(i=n0∨i=n0+1)
theorem zbf.lcl (c:Cat) (fs:List Fac) (al:Nat→Option Alt) (O:KV) (n0:Nat):Lcl (zbf c fs al O n0):=by
 refine⟨fun k S h y i hi=> ?_,fun k S h h' y hn hk=> ?_⟩
 ·obtain⟨a1,a2,a3,a4,a5⟩:=y
  rcases(a5 i).1 hi with rfl|rfl<;>omega
 ·obtain⟨a1,a2,a3,a4,a5⟩:=y
  exact⟨by omega,by rw[hk _ ((a5 _).2 (.inl rfl))];exact a2,by rw[hk _ ((a5 _).2 (.inr rfl))];exact a3,a4,a5⟩
theorem zez.lcl (c:Cat) (fs:List Fac) (al:Nat→Option Alt) (O:KV) (n0:Nat):Lcl fun _=>zez c fs al O n0:=by
 refine⟨fun k S h y i hi=> ?_,fun k S h h' y hn hk=> ?_⟩
 ·obtain⟨x,a1,a2,a3,a4,a5⟩:=y
  rcases(a5 i).1 hi with rfl|rfl<;>omega
 ·obtain⟨x,a1,a2,a3,a4,a5⟩:=y
  exact⟨x,by omega,by rw[hk _ ((a5 _).2 (.inl rfl))];exact a2,by rw[hk _ ((a5 _).2 (.inr rfl))];exact a3,a4,a5⟩
set_option maxHeartbeats 4000000 in
theorem zUU {c:Cat} {fs:List Fac} {al:Nat→Option Alt} {M:KM Int} {O:KV} {sc:List D} {m1 m2:Nat} (hs:Stt c fs al M O sc m1 m2) (hn:fs.length≤16) {g:Heap} (hH:StH M O m1 m2 g):
  zA Tryz.prog 42 [.iptr sc 0] g fun r h'=>h'=g∧r=zWt (zIL c fs al O 6):=by
 refine zA.pure (by kernel_rfl) fun hok'=>zA.strip ?_
 refine zA.post fun Q hQ=> ?_
 have hcv:=zF6 sc
 obtain⟨G,hG,hGn,g1,g2,hE⟩:∃G:Heap,(g.new g.next (.row [.int .i64 0, .nilsl])).new (g.next+1) (.row [.bool false])=G∧G.next=g.next+2∧G.at' g.next=some (.row zLD)∧G.at' (g.next+1)=some (.row [.bool false])∧Ext g G:=
  ⟨_,rfl,zl _ (by rw[zD];exact Nat.le_refl _) _,by rw[zE (by omega)];exact zK _ _ _,zK _ _ _,((Ext.refl g).new (Nat.le_refl _) _).new (by omega) _⟩
 refine zA.of_fn (g:=zSr) mix Tryz.func42 zjW rfl rfl ?_
 simp only[Tryz.f42,gJ]
 repeat' first|simp only[go_sem,zbK,zD,zP9, *]|apply bc<;>intro hc|(refine zA.mono (hcv _) ?_;rintro r h ⟨hq,rfl⟩)
 subst hq
 rename Heap=>G
 generalize hL:LRec.mk _ _ _ _ _ _ _=L
 have hpe:L.pending=none:=by rw[←hL]
 have hrd:L.st= .ready:=by rw[←hL]
 clear hG
 have hW:=zbf.lcl c fs al O g.next
 have hV:=zez.lcl c fs al O g.next
 have hW0:zbf c fs al O g.next 0 (fun j=>j=g.next∨j=g.next+1) G:=⟨by omega,g1,g2,rfl,fun _=>Iff.rfl⟩
 have hHG:=hH.ext hE
 refine zUT (n:=6) (el:=fun i=>[zUp c fs al O i]) hGn hW hV hrd hpe hW0 (fun yl hY0=>(zEz hs hn yl hY0 (hHG.ext ((Ext.refl G).new (by omega) _)) (fun e=> ?_) (fun e=> ?_))) ?_ ?_ ?_
 ·have:=hH.2.1
  rcases e with e|e|e<;>omega
 ·have:=hH.2.2
  rcases e with e|e|e<;>omega
 ·intro k S0 h3 hk hid3 hl3 hw3 hn3
  have hl3':=hl3
  rw[←hL] at hl3'
  refine yW.round (g:=zSr) mix hl3' rfl (by kernel_rfl) (by kernel_rfl) (by kernel_rfl) ?_
  simp only[go_sem,zbK]
  refine⟨hl3',?_⟩
  generalize hB:LRec.mk .busy _ _ _ _ _ _=B
  have hLB:({ B with st:= .ready,pending:=none } :LRec)=L:=by rw[←hB,←hL]
  have hbs:But (fun i=>i=g.next+2) h3 (h3.set (g.next+2) (.loop B)):=⟨by rw[zg];exact Nat.le_refl _,fun j _ hj=>zG hj⟩
  have hwH:=hW.round hw3 (fun i hi=>hi) hn3 hbs
  obtain⟨H,hHe,hHn,hHi⟩:∃H:Heap,h3.set (g.next+2) (.loop B)=H∧H.next=h3.next∧H.at' (g.next+2)=some (.loop B):=⟨_,rfl,zg _ _ _,zC _ _ _⟩
  rw[hHe] at hwH hbs⊢
  have hwH0:=hwH
  obtain⟨a1,a2,a3,a4,a5⟩:=hwH
  have hsu:=zDC (c:=c) (fs:=fs) (al:=al) (O:=O) k
  rw[a4,List.nil_append] at hsu
  clear hL hB hHe hW0 hQ hcv
  rcases zJd (c:=c) (fs:=fs) (al:=al) (O:=O) k with⟨e1,e2⟩ | ⟨e1,tk,e2⟩
  ·have hfin:∀fr,wN (LpZ (g.next+2) L (zbf c fs al O g.next) (zez c fs al O g.next) k S0 h3) (g.next+2) .normal fr H:=fun fr=>by
    refine Lp.finZ hW hLB hid3 hn3 hHi (S':=S0) (fun i hi=> .inl hi) ⟨hbs.1,fun i hi hne=>hbs.2 i hi fun e=>hne (.inl e)⟩ ⟨a1,a2,a3,by rw[hsu];exact e2,a5⟩
   have hl:∀h,zBy Tryz.prog 45 .nilsl h=some (.int .i64 0):=fun h=>yh (zY.nil (sz:=2)) Tryz.underlying45
   have h0:decide ((0:Int)>0)=false:=rfl
   simp only[go_sem,zbK,e1,hl,h0]
   exact hfin _
  ·obtain⟨x,xs,hx⟩:=List.exists_cons_of_ne_nil e1
   rw[hx] at e2
   have hx2:x.length=2:=zBg (k:Int) (zBx c fs al O k) x (by rw[hx];simp)
   have hxp:∃l,x=zRB (k:Int) l:=by
    have:x∈vbs (k:Int) (zBx c fs al O k):=by rw[hx];simp
    obtain⟨l,_,e⟩:=List.mem_map.1 this
    exact⟨l,e.symm⟩
   have hhd:(zIL c fs al O 6).head? =some x:=by
    have:=zMw (c:=c) (fs:=fs) (al:=al) (O:=O) (m:=k+1) (x:=x) (by rw[hsu,hx];rfl) (6- (k+1))
    rwa [show k+1+(6- (k+1))=6 by omega] at this
   have hl:∀h,zBy Tryz.prog 45 (.sl 2 (x::xs) tk) h=some (.int .i64 ((x::xs).length:Int)):=fun h=>yh (zY.mk (sz:=2) tk) Tryz.underlying45
   have h0:decide (((x::xs).length:Int)>0)=true:=decide_eq_true (by simp only[List.length_cons];omega)
   have ha:zT Tryz.prog 45 (.sl 2 (x::xs) tk) (.int .i64 0)=some (.iptr x 0):=zW (i:=0) (zY.mk (sz:=2) tk) qU qt rfl
   have hv2:zQ true 2 x 0=some (.agg x):=zB hx2 (by omega)
   have hst1:zS Tryz.prog 33 (.ptr g.next 0) (.agg x) H=some (H.set g.next (.row x)):=yL a2 (by rw[qt,hx2]) (by rw[hx2];rfl) (by omega) (by obtain⟨l,rfl⟩:=hxp;rfl)
   have hst2:zS Tryz.prog 4 (.ptr (g.next+1) 0) (.bool true) (H.set g.next (.row x))=some ((H.set g.next (.row x)).set (g.next+1) (.row [.bool true])):=by
    rw[zb (by rw[zG (by omega)];exact a3) zcR (by simp) rfl rfl];rfl
   have hfin:∀fr,wN (LpZ (g.next+2) L (zbf c fs al O g.next) (zez c fs al O g.next) k S0 h3) (g.next+2) .ret fr ((H.set g.next (.row x)).set (g.next+1) (.row [.bool true])):=fun fr=>by
    have hbn:=hbs.1
    refine Lp.retZ hV hLB hid3 hn3 ?_ (S':=S0) (fun i hi=> .inl hi) ⟨by rw[zg,zg];omega,fun i hi hne=> ?_⟩ ⟨x,by rw[zg,zg];omega,by rw[zG (by omega),zC],zC _ _ _,hhd,a5⟩
    ·rw[zG (by omega),zG (by omega)];exact hHi
    ·rw[zG fun e=>hne (.inr ((a5 i).2 (.inr e))),zG fun e=>hne (.inr ((a5 i).2 (.inl e))),hbs.2 i hi fun e=>hne (.inl e)]
   simp only[go_sem,zbK,e2,hl,h0,ha,hv2,hst1,hst2]
   exact hfin _
 ·intro S' h2 hsub hb hw2
  obtain⟨a1,a2,a3,a4,a5⟩:=hw2
  have hE2:Ext g h2:=Ext.of_but hE hb fun j hj=>by rcases hj with rfl|rfl<;>omega
  have hvb:yC Tryz.prog 33 []=some (.agg zLD):=by simp[yC,zFH,zDL,qR,zLD,D.notTuple,D.cells]
  obtain⟨F1,hF1,r1,r2,E1⟩:∃F,h2.set g.next (.row zLD)=F∧F.at' g.next=some (.row zLD)∧F.at' (g.next+1)=some (.row [.bool false])∧Ext g F:=⟨_,rfl,zC _ _ _,by rw[zG (by omega)];exact a3,hE2.set (Nat.le_refl _) _⟩
  have hst1:zS Tryz.prog 33 (.ptr g.next 0) (.agg zLD) h2=some F1:=by
   rw[yL a2 (by rw[qt];rfl) rfl (by decide) rfl,hF1]
  obtain⟨F2,hF2,r3,r4,E2⟩:∃F,F1.set (g.next+1) (.row [.bool false])=F∧F.at' g.next=some (.row zLD)∧F.at' (g.next+1)=some (.row [.bool false])∧Ext g F:=⟨_,rfl,by rw[zG (by omega)];exact r1,zC _ _ _,E1.set (by omega) _⟩
  have hst2:zS Tryz.prog 4 (.ptr (g.next+1) 0) (.bool false) F1=some F2:=by
   rw[zb r2 zcR (by simp) rfl rfl,←hF2];rfl
  have hv2:zQ true 2 zLD 0=some (.agg zLD):=zB rfl (by omega)
  have hfn:Q (.tuple [.agg zLD, .bool false]) F2:=hQ _ _ ⟨E2,⟨⟨trivial,trivial,trivial⟩,trivial,trivial⟩,by rw[a4];rfl⟩
  clear hL hcv hW0 hF1 hF2 E1 E2 hE2
  repeat' first|simp only[go_sem,zbK, *]|apply bc<;>intro hc
 ·intro S' h2 hsub hb hw2
  obtain⟨x,a1,a2,a3,a4,a5⟩:=hw2
  have hE2:Ext g h2:=Ext.of_but hE hb fun j hj=>by rcases hj with rfl|rfl<;>omega
  have hxm:x∈zIL c fs al O 6:=List.mem_of_mem_head? a4
  obtain⟨p1,p2,p3⟩:=zDT x hxm
  have hx2:x.length=2:=by
   obtain⟨i,_,h⟩:=List.mem_flatMap.1 hxm
   exact zBg _ _ x h
  have hv2:zQ true 2 x 0=some (.agg x):=zB hx2 (by omega)
  have hfn:Q (.tuple [.agg x, .bool true]) h2:=hQ _ _ ⟨hE2,by
   simp only[yF,yH,below,zq,p3]
   exact⟨qh (Nat.zero_le _) _ p2,trivial,trivial⟩,by
   simp only[yF,yH,p3,zWt,a4];rfl⟩
  clear hL hcv hW0 hE2 p1 p2 p3
  repeat' first|simp only[go_sem,zbK, *]|apply bc<;>intro hc
structure SA where
 M:KM Int
 O:KV
 outs:List (List UInt8)
def zFe (fs:List Fac) (i:Nat):Nat:=((fs.take i).filter fun f=>f.kind==1).length
def zIC (y:Cho) (k:Nat):Alt:=y.ts.getD k (mkA [])
def zRF (y:Cho) (k:Nat):List UInt8:=y.own.getD k []
def zah (y:Cho) (fs:List Fac) (i:Nat) (s:SA):SA:=match fs[i]? with
 |none=>s
 |some f=>if(f.kind==1)=true then(if decide (((zIC y (zFe fs i)).ts.length:Int)>0)=true then⟨zEv (i:Int) (zIC y (zFe fs i)).d s.M,s.O,s.outs⟩ else s)
  else if(f.kind==2)=true then(if(s.outs.any fun z=>z==f.out)=true then s else⟨s.M,if(!(zRF y s.outs.length== []))=true then zKX f.out (zRF y s.outs.length) s.O else s.O,s.outs++ [f.out]⟩) else s
def zd (y:Cho) (fs:List Fac):Nat→SA
 |0=>⟨[],[],[]⟩
 |i+1=>zah y fs i (zd y fs i)
def alS (fs:List Fac) (y:Cho) (i:Nat):Option Alt:=match fs[i]? with
 |none=>none
 |some f=>if(f.kind==1)=true then(if decide (((zIC y (zFe fs i)).ts.length:Int)>0)=true then some (zIC y (zFe fs i)) else none) else none
section
variable {y:Cho} {fs:List Fac}
theorem zCW {i:Nat} (h:i<fs.length):zd y fs (i+1)=if(fs[i].kind==1)=true then(if decide (((zIC y (zFe fs i)).ts.length:Int)>0)=true then⟨zEv (i:Int) (zIC y (zFe fs i)).d (zd y fs i).M,(zd y fs i).O,(zd y fs i).outs⟩ else zd y fs i)
  else if(fs[i].kind==2)=true then(if((zd y fs i).outs.any fun z=>z==fs[i].out)=true then zd y fs i else⟨(zd y fs i).M,if(!(zRF y (zd y fs i).outs.length== []))=true then zKX fs[i].out (zRF y (zd y fs i).outs.length) (zd y fs i).O else(zd y fs i).O,(zd y fs i).outs++ [fs[i].out]⟩) else zd y fs i:=by
 show zah y fs i (zd y fs i)=_
 unfold zah
 rw[List.getElem?_eq_getElem h]
theorem ze0 {i:Nat} (h:i<fs.length):alS fs y i=if(fs[i].kind==1)=true then(if decide (((zIC y (zFe fs i)).ts.length:Int)>0)=true then some (zIC y (zFe fs i)) else none) else none:=by
 unfold alS
 rw[List.getElem?_eq_getElem h]
theorem zJe:∀k,k≤fs.length→∀j:Nat,zDZ (j:Int) (zd y fs k).M=if j<k then(alS fs y j).map Alt.d else none
 |0,_,j=>by simp[zd,zDZ]
 |k+1,hk,j=>by
  have ih:=zJe k (by omega) j
  have hlt:k<fs.length:=by omega
  have ha:=ze0 (y:=y) hlt
  have key:zDZ (j:Int) (zd y fs (k+1)).M=if j=k then(alS fs y k).map Alt.d else zDZ (j:Int) (zd y fs k).M:=by
   rw[zCW hlt,ha]
   have hk0:j=k→zDZ (j:Int) (zd y fs k).M=none:=fun e=>by rw[ih,if_neg (by omega)]
   split
   ·split
    ·rw[zMp]
     by_cases e:j=k
     ·subst e;simp
     ·have:((j:Int)==(k:Int))=false:=by simp;omega
      rw[this,if_neg e];simp
    ·by_cases e:j=k
     ·rw[if_pos e,hk0 e];rfl
     ·rw[if_neg e]
   ·split
    ·split
     ·by_cases e:j=k
      ·rw[if_pos e,hk0 e];rfl
      ·rw[if_neg e]
     ·by_cases e:j=k
      ·rw[if_pos e,hk0 e];rfl
      ·rw[if_neg e]
    ·by_cases e:j=k
     ·rw[if_pos e,hk0 e];rfl
     ·rw[if_neg e]
  rw[key,ih]
  by_cases e:j=k
  ·subst e;simp
  ·rw[if_neg e]
   by_cases e2:j<k
   ·rw[if_pos e2,if_pos (by omega)]
   ·rw[if_neg e2,if_neg (by omega)]
theorem zMx {i:Nat} (h:i<fs.length):(zd y fs (i+1)).outs=(zd y fs i).outs∨∃o,(zd y fs (i+1)).outs=(zd y fs i).outs++ [o]:=by
 rw[zCW h]
 split
 ·split<;>exact .inl rfl
 ·split
  ·split
   ·exact .inl rfl
   ·exact .inr ⟨_,rfl⟩
  ·exact .inl rfl
theorem zUV {i:Nat} :∀k,i+k≤fs.length→(zd y fs i).outs.length≤(zd y fs (i+k)).outs.length
 |0,_=>Nat.le_refl _
 |k+1,h=>by
  have ih:=zUV (i:=i) k (by omega)
  rcases zMx (y:=y) (fs:=fs) (i:=i+k) (by omega) with e| ⟨o,e⟩
  ·rw[←Nat.add_assoc,e];exact ih
  ·rw[←Nat.add_assoc,e,List.length_append];omega
theorem zJf:∀k,k≤fs.length→(zd y fs k).outs.length≤k
 |0,_=>Nat.le_refl _
 |k+1,h=>by
  have ih:=zJf k (by omega)
  rcases zMx (y:=y) (fs:=fs) (i:=k) (by omega) with e| ⟨o,e⟩
  ·rw[e];omega
  ·rw[e,List.length_append,List.length_singleton];omega
theorem zID {i:Nat} (h:i<fs.length):zFe fs (i+1)=zFe fs i+(if(fs[i].kind==1)=true then 1 else 0):=by
 unfold zFe
 rw[List.take_succ_eq_append_getElem h,List.filter_append,List.length_append]
 congr 1
 by_cases e:(fs[i].kind==1)=true<;>simp[e]
theorem zUW {i:Nat} :∀k,i+k≤fs.length→zFe fs i≤zFe fs (i+k)
 |0,_=>Nat.le_refl _
 |k+1,h=>by
  have ih:=zUW (i:=i) k (by omega)
  rw[←Nat.add_assoc,zID (by omega)]
  omega
theorem zJg:∀k,k≤fs.length→zFe fs k≤k
 |0,_=>by simp[zFe]
 |k+1,h=>by
  have ih:=zJg k (by omega)
  rw[zID (by omega)]
  split<;>omega
end
set_option maxHeartbeats 8000000 in
theorem zai {c:Cat} {d x yd:D} {fs:List Fac} {y:Cho} (hc:qS c d) (sm:c.Sm) (hx:zY 12 (zHr fs) x) (hlen:fs.length≤256) (hok:∀f∈fs,f.Ok) (hy:zaJ y yd) (ysm:y.Sm)
  (hal:∀a∈y.ts,a.ts≠[]→a.Ok) (hk:zFe fs fs.length≤y.ts.length) (ho:(zd y fs fs.length).outs.length≤y.own.length) (g:Heap):
  zA Tryz.prog 40 [d,x,yd] g fun r h'=>Ext g h'∧∃sc m1 m2,r= .iptr sc 0∧Stt c fs (alS fs y) (zd y fs fs.length).M (zd y fs fs.length).O sc m1 m2∧StH (zd y fs fs.length).M (zd y fs fs.length).O m1 m2 h'∧g.next≤m1∧g.next≤m2:=by
 have hc0:=hc
 obtain⟨a,b,e,p,rfl,ha,hb,he,hp⟩:=hc
 obtain⟨ta,oa,rfl,hta,hoa⟩:=hy
 have hll:=zCM hx
 obtain⟨x1,x2,_⟩:=zJ hx
 have hv4:zQ true 4 [a,b,e,p] 0=some (.agg [a,b,e,p]):=zB rfl (by omega)
 obtain⟨sc,hsc⟩:∃sc,[a,b,e,p,x, .map g.next, .map (g.next+1)]=sc:=⟨_,rfl⟩
 have hvb:yC Tryz.prog 151 [(0, .agg [a,b,e,p]),(1,x),(2, .map g.next),(3, .map (g.next+1))]=some (.agg sc):=by
  rw[←hsc]
  clear hsc x1 x2 hll
  rcases hx with⟨rfl,_⟩ | ⟨tk,rfl⟩ <;>simp[yC,zNa,zSE,qR,yY,D.notTuple,D.cells]
 obtain⟨G,hG,hE,hst⟩:∃G:Heap,(g.new g.next (.map [])).new (g.next+1) (.map [])=G∧Ext g G∧StH [] [] g.next (g.next+1) G:=
  ⟨_,rfl,((Ext.refl g).new (Nat.le_refl _) _).new (by omega) _,⟨by rw[zE (by omega)];exact zK _ _ _,zK _ _ _⟩,by rw[zl _ (by rw[zD];exact Nat.le_refl _)];omega,by rw[zl _ (by rw[zD];exact Nat.le_refl _)];omega⟩
 have hs1:sc[5]? =some (.map g.next):=by rw[←hsc];rfl
 have hs2:sc[6]? =some (.map (g.next+1)):=by rw[←hsc];rfl
 have hStt:Stt c fs (alS fs y) (zd y fs fs.length).M (zd y fs fs.length).O sc g.next (g.next+1):=⟨⟨a,b,e,p,x,hsc.symm,hc0,hx,ha⟩,sm,hlen,hok,fun i hi=>by rw[zJe _ (Nat.le_refl _) i,if_pos hi],fun i z hz=>by
  unfold alS at hz
  split at hz
  ·cases hz
  ·split at hz
   ·split at hz
    ·rename_i h1 h2
     cases hz
     have h2:=of_decide_eq_true h2
     unfold zIC at h2⊢
     rw[List.getD_eq_getElem?_getD] at h2⊢
     cases hq:y.ts[zFe fs i]? with
     |none=>rw[hq] at h2;simp[mkA] at h2
     |some z=>rw[hq] at h2;exact hal z (List.mem_of_getElem? hq) fun e=>by simp[e] at h2
    ·cases hz
   ·cases hz⟩
 clear hc0
 refine zA.of_fn (g:=zVN) mix Tryz.func40 zjA rfl rfl ?_
 simp only[Tryz.f40,gJ]
 repeat' first|simp only[go_sem,zSW,zD, *]|apply bc<;>intro hc
 clear hG hvb hsc
 refine zF (fun i fr h=>fr 1=x∧fr 5= .iptr [ta,oa] 0∧fr 7= .iptr sc 0∧fr 8= .int .i64 ((zFe fs i:Nat):Int)∧fr 19=x∧fr 20= .int .i64 (fs.length:Int)∧fr 21= .int .i64 (i:Int)∧∃u,fr 9=u∧wL h 1 (yX (zd y fs i).outs) u∧(∀j,we u j→g.next≤j)∧Ext g h∧StH (zd y fs i).M (zd y fs i).O g.next (g.next+1) h) fs.length (by omega) ?_ ?_ ?_
 ·have hz:zFe fs 0=0:=rfl
  have hres:∃u,D.nilsl=u∧wL G 1 (yX (zd y fs 0).outs) u∧(∀j,we u j→g.next≤j)∧Ext g G∧StH (zd y fs 0).M (zd y fs 0).O g.next (g.next+1) G:=⟨_,rfl, .inl ⟨rfl,rfl⟩,fun j hj=>hj.elim,hE,hst⟩
  simp only[go_sem,zSW,true_and,and_true,Int.ofNat_zero,hz]
  exact hres
 ·clear hE hst
  rintro i fr h hlt e1 ew ⟨f1,f5,f7,f8,f19,f20,f21,u,f9,hO,hut,hE,hst⟩
  have a1:=qY hx hlt
  have hw:zQ true 12 fs[i].cells 0=some (.agg fs[i].cells):=zB rfl (by omega)
  have hstf:=zMM (hok _ (List.getElem_mem hlt))
  have hS:=zCW (y:=y) hlt
  have hln:=zID hlt
  have hlb:=zUW (fs:=fs) (i:=i+1) (fs.length- (i+1)) (by omega)
  have hob:=zUV (y:=y) (fs:=fs) (i:=i+1) (fs.length- (i+1)) (by omega)
  rw[show i+1+(fs.length- (i+1))=fs.length by omega] at hlb hob
  have hol:=zJf (y:=y) (fs:=fs) i (by omega)
  have hll2:=zJg (fs:=fs) i (by omega)
  have k0:fs[i].cells[0]? =some (.int .i64 fs[i].kind):=rfl
  have k2:fs[i].cells[2]? =some (.str fs[i].out):=rfl
  generalize fs[i]=f at *
  generalize zd y fs i=s at *
  have hnx:h.next<(h.new h.next (.row f.cells)).next:=by rw[zD];omega
  obtain⟨H,hH,hrow,hEH,hOH,hsH,hnH⟩:∃H:Heap,h.new h.next (.row f.cells)=H∧H.at' h.next=some (.row f.cells)∧Ext g H∧wL H 1 (yX s.outs) u∧StH s.M s.O g.next (g.next+1) H∧h.next<H.next:=
   ⟨_,rfl,zK _ _ _,hE.new hE.1 _,hO.loc (by omega) fun j hj=>zE (by have:=(hO.tok hj).1;omega),hst.ext ((Ext.refl h).new (Nat.le_refl _) _),hnx⟩
  obtain⟨n0,hn0⟩:∃n,h.next=n:=⟨_,rfl⟩
  have hE1:=hE.1
  rw[hn0] at hH hrow hnH hE1 hnx
  have hmn:g.next+1<n0:=by have:=hst.2.2;omega
  have hst1:=hstf h n0
  rw[hH] at hst1
  clear hstf hE hst hO hnx hok hH hStt
  have quiet:zd y fs (i+1)=s→∃u',u=u'∧wL H 1 (yX (zd y fs (i+1)).outs) u'∧(∀j,we u' j→g.next≤j)∧Ext g H∧StH (zd y fs (i+1)).M (zd y fs (i+1)).O g.next (g.next+1) H:=fun e=>by
   rw[e];exact⟨u,rfl,hOH,hut,hEH,hsH⟩
  cases b1:(f.kind==1) with
  |true=>
   rw[b1] at hS hln
   simp only[if_true] at hS hln
   have hlk:zFe fs i<y.ts.length:=by omega
   have a2:=zD4 hta hlk
   have hav:zIC y (zFe fs i)=y.ts[zFe fs i]:=by unfold zIC;rw[List.getD_eq_getElem?_getD,List.getElem?_eq_getElem hlk];rfl
   have hsm:=ysm.ts _ (List.getElem_mem hlk)
   rw[hav] at hS
   have ew2:IntKind.i64.wrap (((zFe fs i:Nat):Int)+1)=((zFe fs (i+1):Nat):Int):=by rw[hln];exact zf (by unfold lim;omega)
   clear hln hlb hav hob
   generalize y.ts[zFe fs i]=z at *
   have hlz:=qx hsm.sl
   obtain⟨z1,z2,_⟩:=zJ hsm.sl
   cases b2:decide ((z.ts.length:Int)>0) with
   |false=>
    rw[b2] at hS
    have hres:=quiet (by rw[hS];rfl)
    clear hS quiet hOH hut hEH hsH
    repeat' first|simp only[go_sem,zSW, *]|apply bc<;>intro hc
   |true=>
    rw[b2,if_pos rfl] at hS
    have hmu:yJ Tryz.prog 148 (.map g.next) (.int .i64 (i:Int)) z.d H=some (H.set g.next (.map (kmD (D.int .i64) (zEv (i:Int) z.d s.M)))):=zK1 zek hsH.1.1 zOt zXB (i:Int) z.d
    have hres:∃u',u=u'∧wL (H.set g.next (.map (kmD (D.int .i64) (zEv (i:Int) z.d s.M)))) 1 (yX (zd y fs (i+1)).outs) u'∧(∀j,we u' j→g.next≤j)∧Ext g (H.set g.next (.map (kmD (D.int .i64) (zEv (i:Int) z.d s.M))))∧StH (zd y fs (i+1)).M (zd y fs (i+1)).O g.next (g.next+1) (H.set g.next (.map (kmD (D.int .i64) (zEv (i:Int) z.d s.M)))):=by
     rw[hS]
     refine⟨u,rfl,hOH.loc (Nat.le_refl _) fun j hj=>zG fun e=> ?_,hut,hEH.set (Nat.le_refl _) _,⟨zC _ _ _,by rw[zG (by omega)];exact hsH.1.2⟩,hsH.2⟩
     have:=(hOH.tok hj).2
     rw[e,hsH.1.1] at this;cases this
    clear hS quiet hOH hut hEH hsH
    repeat' first|simp only[go_sem,zSW, *]|apply bc<;>intro hc
    refine zN (by kernel_rfl) ?_
    repeat' first|simp only[go_sem,zSW,zU, *]|apply bc<;>intro hc
  |false=>
   rw[b1] at hS hln
   simp only[Bool.false_eq_true,if_false,Nat.add_zero] at hS hln
   rw[←hln] at f8
   clear hln hlb
   cases b2:(f.kind==2) with
   |false=>
    rw[b2] at hS
    have hres:=quiet hS
    clear hS quiet hOH hut hEH hsH
    repeat' first|simp only[go_sem,zSW, *]|apply bc<;>intro hc
   |true=>
    rw[b2,if_pos rfl] at hS
    have hcs:=zCE hOH.isSl (by omega) f.out H
    have hlu:=yt hOH.isSl
    obtain⟨u1,u2,_⟩:=zJ hOH.isSl
    cases b3:(s.outs.any fun z=>z==f.out) with
    |true=>
     rw[b3,if_pos rfl] at hS
     have hres:=quiet hS
     rw[b3] at hcs
     clear hS quiet hOH hut hEH hsH
     repeat' first|simp only[go_sem,zSW, *]|apply bc<;>intro hc|(refine zA.mono hcs ?_;rintro r h ⟨hq,rfl⟩)
    |false=>
     rw[b3] at hS hcs
     simp only[Bool.false_eq_true,if_false] at hS
     have hlo:s.outs.length<y.own.length:=by
      rw[hS,List.length_append,List.length_singleton] at hob
      omega
     have a3:=zAO hoa hlo
     have hov:zRF y s.outs.length=y.own[s.outs.length]:=by unfold zRF;rw[List.getD_eq_getElem?_getD,List.getElem?_eq_getElem hlo];rfl
     rw[hov] at hS
     clear hov hob
     generalize y.own[s.outs.length]=nm at *
     have hone:=zDz f.out
     have fin:∀ (H2:Heap) (O2:KV),H2.next=H.next→wL H2 1 (yX s.outs) u→Ext g H2→StH s.M O2 g.next (g.next+1) H2→(zd y fs (i+1)).M=s.M→(zd y fs (i+1)).O=O2→(zd y fs (i+1)).outs=s.outs++ [f.out]→
       ∃d' h6,z7 Tryz.prog false H2.next 40 u (.sl 1 [[.str f.out]] .full) H2=some (d',h6)∧∃u',d'=u'∧wL h6 1 (yX (zd y fs (i+1)).outs) u'∧(∀j,we u' j→g.next≤j)∧Ext g h6∧StH (zd y fs (i+1)).M (zd y fs (i+1)).O g.next (g.next+1) h6:=fun H2 O2 hn hO hE hs q1 q2 q3=>by
      obtain⟨d',h6,v1,v2,v3,v4,v5,v6,v7⟩:=hO.app4 (P:=Tryz.prog) (t:=40) (ys:=[[.str f.out]]) (x:= .sl 1 [[.str f.out]] .full) qL zJA zBL (by omega) (by simp) (.inr ⟨by simp,_,rfl⟩) (by rw[z6,zB8];unfold lim;simp;omega) (by rw[z6];unfold lim;simp;omega)
      have hE0:=hE.1
      have t1:∀j,we u j→j≠g.next∧j≠g.next+1:=fun j hj=>by
       have:=(hO.tok hj).2
       exact⟨fun e=>(by rw[e,hs.1.1] at this;cases this),fun e=>(by rw[e,hs.1.2] at this;cases this)⟩
      refine⟨d',h6,v1,d',rfl,by rw[q3,zPh];exact v2,fun j hj=>by have:=v5 j hj;omega,⟨by omega,fun j hj=>by rw[v4 j (by omega) fun e=>by have:=hut j e;omega,hE.2 j hj]⟩,by rw[q1,q2];exact⟨⟨by rw[v4 _ hs.2.1 fun e=>(t1 _ e).1 rfl];exact hs.1.1,by rw[v4 _ hs.2.2 fun e=>(t1 _ e).2 rfl];exact hs.1.2⟩,by have:=hs.2.1;omega,by have:=hs.2.2;omega⟩⟩
     cases b4:(nm== []) with
     |true=>
      rw[b4] at hS
      obtain⟨d',h6,v1,hres⟩:=fin H s.O rfl hOH hEH hsH (by rw[hS]) (by rw[hS];rfl) (by rw[hS])
      clear hS quiet hOH hut hEH hsH fin
      repeat' first|simp only[go_sem,zSW, *]|apply bc<;>intro hc|(refine zA.mono hcs ?_;rintro r h ⟨hq,rfl⟩)
     |false=>
      rw[b4] at hS
      obtain⟨H2,hH2,hn2,hO2,hE2,hs2',hr2⟩:∃H2:Heap,H.set (g.next+1) (.map (kvD (zKX f.out nm s.O)))=H2∧H2.next=H.next∧wL H2 1 (yX s.outs) u∧Ext g H2∧StH s.M (zKX f.out nm s.O) g.next (g.next+1) H2∧H2.at' n0=some (.row f.cells):=
       ⟨_,rfl,zg _ _ _,hOH.loc (Nat.le_refl _) fun j hj=>zG fun e=>(by have:=(hOH.tok hj).2;rw[e,hsH.1.2] at this;cases this),hEH.set (by omega) _,⟨⟨by rw[zG (by omega)];exact hsH.1.1,zC _ _ _⟩,hsH.2⟩,by rw[zG (by omega)];exact hrow⟩
      have hmu:yJ Tryz.prog 149 (.map (g.next+1)) (.str f.out) (.str nm) H=some H2:=by rw[←hH2];exact zKZ hsH.1.2 zOu zLl f.out nm
      obtain⟨d',h6,v1,hres⟩:=fin H2 _ hn2 hO2 hE2 hs2' (by rw[hS]) (by rw[hS];rfl) (by rw[hS])
      clear hS quiet hOH hut hEH hsH fin hH2 hn2 hO2 hE2 hs2'
      repeat' first|simp only[go_sem,zSW, *]|apply bc<;>intro hc|(refine zA.mono hcs ?_;rintro r h ⟨hq,rfl⟩)
      refine zN (by kernel_rfl) ?_
      repeat' first|simp only[go_sem,zSW,zU, *]|apply bc<;>intro hc
 ·clear hE hst
  rintro fr h e1 ⟨f1,f5,f7,f8,f19,f20,f21,u,f9,hO,hut,hE,hst⟩
  have hfin:Ext g h∧∃sc' m1 m2,D.iptr sc 0= .iptr sc' 0∧Stt c fs (alS fs y) (zd y fs fs.length).M (zd y fs fs.length).O sc' m1 m2∧StH (zd y fs fs.length).M (zd y fs fs.length).O m1 m2 h∧g.next≤m1∧g.next≤m2:=⟨hE,sc,g.next,g.next+1,rfl,hStt,hst,Nat.le_refl _,by omega⟩
  clear hO hut hE hst hStt
  repeat' first|simp only[go_sem,zSW, *]|apply bc<;>intro hc
def zBh:List Fac→List (List UInt8)→List (List UInt8)
 | [],o=>o
 |f::fs,o=>if(f.kind==1)=true then zBh fs o else if(f.kind==2)=true then zBh fs (if(o.any fun z=>z==f.out)=true then o else o++ [f.out]) else zBh fs o
theorem zBW:∀ (l:List Fac) (f:Fac) (o:List (List UInt8)),zBh (l++ [f]) o=zBh [f] (zBh l o)
 | [],f,o=>rfl
 |g::l,f,o=>by
  by_cases h1:(g.kind==1)=true
  ·have e:∀m,zBh (g::m) o=zBh m o:=fun m=>by rw[zBh,if_pos h1]
   rw[List.cons_append,e,e,zBW l f]
  ·by_cases h2:(g.kind==2)=true
   ·have e:∀m,zBh (g::m) o=zBh m (if(o.any fun z=>z==g.out)=true then o else o++ [g.out]):=fun m=>by rw[zBh,if_neg h1,if_pos h2]
    rw[List.cons_append,e,e,zBW l f]
   ·have e:∀m,zBh (g::m) o=zBh m o:=fun m=>by rw[zBh,if_neg h1,if_neg h2]
    rw[List.cons_append,e,e,zBW l f]
theorem zIE {y:Cho} {fs:List Fac} :∀k,k≤fs.length→(zd y fs k).outs=zBh (fs.take k) []
 |0,_=>rfl
 |k+1,h=>by
  have hlt:k<fs.length:=by omega
  have ih:=zIE (y:=y) (fs:=fs) k (by omega)
  rw[List.take_succ_eq_append_getElem hlt,zBW,←ih,zCW hlt]
  simp only[zBh]
  split
  ·split<;>rfl
  ·split
   ·split<;>rfl
   ·rfl
theorem zE0 {c:Cat} :∀ {l:List Fac} {t:List (List (List Trm))} {o:List (List UInt8)},(zGk c l t o).2.2=0→(zGk c l t o).1.length=t.length+(l.filter fun f=>f.kind==1).length∧(zGk c l t o).2.1=zBh l o
 | [],t,o,_=>⟨rfl,rfl⟩
 |f::fs,t,o,h=>by
  rw[zGk] at h⊢
  by_cases h1:(f.kind==1)=true
  ·rw[if_pos h1] at h⊢
   by_cases h2:(zGM c f.e==0)=true
   ·rw[if_pos h2] at h⊢
    obtain⟨a1,a2⟩:=zE0 h
    refine⟨?_,by rw[a2,zBh,if_pos h1]⟩
    rw[a1,List.filter_cons_of_pos (by exact h1)]
    simp only[List.length_append,List.length_cons,List.length_nil]
    omega
   ·rw[if_neg h2] at h
    exact absurd h (by simpa using h2)
  ·rw[if_neg h1] at h⊢
   by_cases h2:(f.kind==2)=true
   ·rw[if_pos h2] at h⊢
    obtain⟨a1,a2⟩:=zE0 h
    exact⟨by rw[a1,List.filter_cons_of_neg (by exact h1)],by rw[a2,zBh,if_neg h1,if_pos h2]⟩
   ·rw[if_neg h2] at h⊢
    obtain⟨a1,a2⟩:=zE0 h
    exact⟨by rw[a1,List.filter_cons_of_neg (by exact h1)],by rw[a2,zBh,if_neg h1,if_neg h2]⟩
theorem zOP {c:Cat} {l:List Fac} (h:(wG c l).2=0):l.length≤256:=by
 unfold wG at h
 split at h
 ·exact absurd h (by decide)
 ·split at h
  ·exact absurd h (by decide)
  ·rename_i q
   have:¬((l.length:Int)>256):=by simpa using q
   omega
structure ChoiceOk (c:Cat) (fs:List Fac) (y:Cho):Prop where
 case:(wG c fs).2=0
 lic:zFe fs fs.length=y.ts.length
 outs:(zd y fs fs.length).outs.length=y.own.length
 ok:∀a∈y.ts,a.ts≠[]→a.Ok
theorem zMy {c:Cat} {fs:List Fac} {y:Cho} {p:Bool} (h:zV c fs y p=0) (ysm:y.Sm):ChoiceOk c fs y:=by
 unfold zV at h
 split at h
 ·rename_i q
  rw[h] at q
  exact absurd q (by decide)
 ·rename_i q1
  have v0:(zI c fs).2.2=0:=by simpa using q1
  split at h
  ·exact absurd h (by decide)
  ·rename_i q2
   split at h
   ·rename_i q
    rw[h] at q
    exact absurd q (by decide)
   ·rename_i q3
    have t0:zD1 (zCd (zI c fs).1 y.ts p) y.ts.length=0:=by simpa using q3
    have hv:=zBI (c:=c) (l:=fs)
    unfold zI at v0 q2 t0 hv
    by_cases qc:(!((wG c fs).2==0))=true
    ·rw[if_pos qc] at v0
     rw[v0] at qc
     exact absurd qc (by decide)
    ·rw[if_neg qc] at v0 q2 t0 hv
     obtain⟨a1,a2⟩:=zE0 v0
     have hl:(zGk c fs [] []).1.length=y.ts.length∧(zGk c fs [] []).2.1.length=y.own.length:=by
      simp only[Bool.or_eq_true,Bool.not_eq_true',beq_eq_false_iff_ne,ne_eq,not_or,Decidable.not_not] at q2
      omega
     refine⟨by simpa using qc,?_,?_,fun a ha hne=> ?_⟩
     ·rw[←hl.1,a1]
      simp[zFe]
     ·rw[zIE _ (Nat.le_refl _),List.take_length,←a2]
      exact hl.2
     ·obtain⟨i,hi,rfl⟩:=List.mem_iff_getElem.1 ha
      have:=zDQ t0 i hi
      unfold zCd at this
      rw[List.getElem?_eq_getElem hi] at this
      simp only at this
      have hn:(((y.ts[i].ts.length:Int))==0)=false:=by
       have:=List.length_pos_iff.2 hne
       simp;omega
      rw[hn,Bool.and_false,if_neg (by decide)] at this
      split at this
      ·exact absurd this (by decide)
      ·rename_i q
       have hany:((zGk c fs [] []).1.getD i []).any (fun b=>zMh y.ts[i].ts b)=true:=by simpa using q
       obtain⟨b,hb,he⟩:=List.any_eq_true.1 hany
       have e:=(zEt _ _).1 he
       refine⟨(ysm.ts _ ha).sl,hne,?_⟩
       rw[e]
       rw[List.getD_eq_getElem?_getD] at hb
       cases hq:(zGk c fs [] []).1[i]? with
       |none=>rw[hq] at hb;cases hb
       |some z=>
        rw[hq] at hb
        have:=((hv z (List.mem_of_getElem? hq)).2.ts b hb).2
        omega
def zIh (c:Cat) (fs:List Fac) (y:Cho):List (List D):=zIL c fs (alS fs y) (zd y fs fs.length).O 6
def zIF (c:Cat) (fs:List Fac) (y:Cho):Int:=
 if(!(zV c fs y true==0))=true then zV c fs y true else if decide (((zIh c fs y).length:Int)>1024)=true then 10 else 0
structure CIn (c:Cat) (fs:List Fac) (y:Cho) (d x yd:D):Prop where
 cat:qS c d
 sm:c.Sm
 x:zY 12 (zHr fs) x
 len:fs.length≤1048576
 few:fs.length≤16∨256<fs.length
 ok:∀f∈fs,f.Ok
 cho:zaJ y yd
 ysm:y.Sm
section
variable {c:Cat} {fs:List Fac} {y:Cho} {d x yd:D} (I:CIn c fs y d x yd)
include I
theorem CIn.check (p:Bool) (g:Heap):zA Tryz.prog 39 [d,x,yd, .bool p] g fun r h'=>h'=g∧r= .int .i64 (zV c fs y p):=zKx I.cat I.sm I.x I.len I.ok I.cho I.ysm p g
theorem CIn.n16 {p:Bool} (h:zV c fs y p=0):fs.length≤16:=by
 have:=zOP (zMy h I.ysm).case
 rcases I.few with q|q
 ·exact q
 ·omega
theorem CIn.start {p:Bool} (h:zV c fs y p=0) (g:Heap):zA Tryz.prog 40 [d,x,yd] g fun r h'=>Ext g h'∧∃sc m1 m2,r= .iptr sc 0∧Stt c fs (alS fs y) (zd y fs fs.length).M (zd y fs fs.length).O sc m1 m2∧StH (zd y fs fs.length).M (zd y fs fs.length).O m1 m2 h'∧g.next≤m1∧g.next≤m2:=by
 have h1:=I.n16 h
 obtain⟨_,k1,k2,k3⟩:=zMy h I.ysm
 exact zai I.cat I.sm I.x (by omega) I.ok I.cho I.ysm k3 (by omega) (by omega) g
end
theorem zUX {xs:List (List D)} {l:D} (hp:∀x∈xs,wq x) (hf:Fin 2 xs l) (n:Nat):yF l=l∧below n l:=by
 rcases hf with⟨rfl,_⟩ |rfl
 ·exact⟨rfl,trivial⟩
 ·have:=yU (sz:=2) hp .no
  exact⟨this.1,zy (Nat.zero_le _) _ this.2⟩
theorem zRG {c:Cat} {fs:List Fac} {y:Cho} :∀x∈zIh c fs y,wq x:=zDT
set_option maxHeartbeats 4000000 in
theorem zIG {c:Cat} {fs:List Fac} {y:Cho} {d x yd:D} (I:CIn c fs y d x yd) (g:Heap):
  zA Tryz.prog 12 [d,x,yd] g fun r h'=>h'=g∧∃l,r= .tuple [l, .int .i64 (zIF c fs y)]∧(zIF c fs y=0→Fin 2 (zIh c fs y) l)∧(zIF c fs y≠0→l= .nilsl):=by
 refine zA.pure (by kernel_rfl) fun hok'=>zA.strip ?_
 refine zA.post fun Q hQ=> ?_
 have hcc:=I.check true
 have hst:=fun h=>I.start (p:=true) h
 have h16:=fun h=>I.n16 (p:=true) h
 obtain⟨a,b,e,p,rfl,_⟩:=I.cat
 obtain⟨ta,oa,rfl,_⟩:=I.cho
 obtain⟨x1,x2,_⟩:=zJ I.x
 have hv4:zQ true 4 [a,b,e,p] 0=some (.agg [a,b,e,p]):=zB rfl (by omega)
 have hv2:zQ true 2 [ta,oa] 0=some (.agg [ta,oa]):=zB rfl (by omega)
 have hQn:∀h',Ext g h'→zIF c fs y≠0→Q (.tuple [.nilsl, .int .i64 (zIF c fs y)]) h':=fun h' hE hne=>hQ _ _ ⟨hE,⟨trivial,trivial,trivial⟩,_,rfl,fun e=>absurd e hne,fun _=>rfl⟩
 refine zA.of_fn (g:=zVc) mix Tryz.func12 zjS rfl rfl ?_
 simp only[Tryz.f12,gJ]
 cases he:(zV c fs y true==0) with
 |false=>
  have hne:zV c fs y true≠0:=by simpa using he
  have hve:zIF c fs y=zV c fs y true:=by unfold zIF;rw[he];rfl
  have hfin:=hQn g (Ext.refl g) (by rw[hve];exact hne)
  rw[hve] at hfin
  clear hQn hve hQ hst h16 hne
  repeat' first|simp only[go_sem,zdF, *]|apply bc<;>intro hc|(refine zA.mono (hcc _) ?_;rintro r h ⟨hq,rfl⟩)
 |true=>
  have h0:zV c fs y true=0:=by simpa using he
  have hve:zIF c fs y=if decide (((zIh c fs y).length:Int)>1024)=true then 10 else 0:=by unfold zIF;rw[he];rfl
  have hs:=hst h0
  have hn:=h16 h0
  rw[h0] at hcc he
  clear hst h16 h0
  repeat' first|simp only[go_sem,zdF, *]|apply bc<;>intro hc|(refine zA.mono (hcc _) ?_;rintro r h ⟨hq,rfl⟩)
  subst hq
  rename Heap=>g
  refine(hs _).mono ?_
  rintro r h1 ⟨hE,sc,m1,m2,rfl,hS,hH,_,_⟩
  repeat' first|simp only[go_sem,zdF, *]|apply bc<;>intro hc
  refine(zey hS hn hH).mono ?_
  rintro r h2 ⟨hq,hF⟩
  subst hq
  have hl:∀h,zBy Tryz.prog 45 r h=some (.int .i64 ((zIh c fs y).length:Int)):=fun h=>yh hF.isSl Tryz.underlying45
  obtain⟨r1,r2,_⟩:=zJ hF.isSl
  cases hd:decide (((zIh c fs y).length:Int)>1024) with
  |true=>
   rw[hd] at hve
   have hfin:=hQn _ hE (by rw[hve];decide)
   rw[hve,if_pos rfl] at hfin
   clear hQn hve hQ hF hs
   repeat' first|simp only[go_sem,zdF, *]|apply bc<;>intro hc
  |false=>
   rw[hd] at hve
   obtain⟨f1,f2⟩:=zUX zDT hF g.next
   have hfin:Q (.tuple [r, .int .i64 0]) h2:=hQ _ _ ⟨hE,by
    simp only[yF,yH,below,zq,f1];exact⟨f2,trivial,trivial⟩,r,by simp only[yF,yH,f1,hve];rfl,fun _=>hF,fun q=>absurd (by rw[hve];rfl) q⟩
   clear hQn hve hQ hF hs f1 f2
   repeat' first|simp only[go_sem,zdF, *]|apply bc<;>intro hc
def Vio.cells (v:Vio):List D:=[.int .i64 v.row, .sl 1 (qZ v.facts) .no]
def vcs (l:List Vio):List (List D):=l.map Vio.cells
theorem zDU (l:List Vio):(vcs l).length=l.length:=List.length_map ..
theorem zK6 {l:List Vio} {d:D} (hd:zY 2 (vcs l) d) (h:Heap):zBy Tryz.prog 45 d h=some (.int .i64 l.length):=by rw[yh hd Tryz.underlying45,zDU]
theorem zMz {l:List Vio} {d:D} (hd:zY 2 (vcs l) d) {i:Nat} (hi:i<l.length):zT Tryz.prog 45 d (.int .i64 (i:Int))=some (.iptr l[i].cells 0):=zW hd qU qt (by simp[vcs,hi])
def zIi (c:Cat) (fs:List Fac) (al:Nat→Option Alt) (O:KV) (k:Nat):List Vio:=(List.range k).flatMap fun i:Nat=>(zBx c fs al O i).map fun l=>⟨(i:Int),l⟩
def zCe (c:Cat) (fs:List Fac) (y:Cho):List Vio:=zIi c fs (alS fs y) (zd y fs fs.length).O 6
theorem zM0 {c:Cat} {fs:List Fac} {al:Nat→Option Alt} {O:KV} {k:Nat} :zIL c fs al O k=vcs (zIi c fs al O k):=by
 unfold zIL zIi vcs vbs
 rw[List.map_flatMap]
 congr 1
 funext i
 rw[List.map_map]
 rfl
theorem zDD {c:Cat} {fs:List Fac} {y:Cho} :zIh c fs y=vcs (zCe c fs y):=zM0
theorem zRH {c:Cat} {fs:List Fac} {al:Nat→Option Alt} {O:KV} (i:Nat):∀l∈zBx c fs al O i,l.length≤5:=fun l hl=>by
 unfold zBx at hl
 have h2:=zEq _ _ hl
 obtain⟨z,hz,rfl⟩:=List.mem_map.1 (zHw.1 h2)
 exact Nat.le_trans (zMt z) (zMu i z hz)
theorem zQB {c:Cat} {fs:List Fac} {y:Cho} :∀v∈zCe c fs y,v.Is v.cells:=fun v hv=>by
 obtain⟨i,_,h⟩:=List.mem_flatMap.1 hv
 obtain⟨l,hl,rfl⟩:=List.mem_map.1 h
 have:=zRH i l hl
 exact⟨_,rfl,zY.mk .no,by show l.length≤_;omega⟩
theorem zM1 {l:List Vio} {d:D} (hd:zY 2 (vcs l) d) (hl:l.length≤1073741824) {f:FuncId} {cap:List D} {p:Vio→Bool} (hp:∀s∈l,∀h,zA Tryz.prog f ([]++ [.agg s.cells]++cap) h fun r h'=>h'=h∧r= .bool (p s)) (g:Heap):
  zA Tryz.prog 46 [d, .fn (.func f) [] cap] g fun r h'=>h'=g∧r= .int .i64 (zLA p l):=by
 have hlen:=zK6 hd
 have hv2:∀a b:D,zQ true 2 [a,b] 0=some (.agg [a,b]):=fun a b=>zB rfl (by omega)
 refine zA.of_fn (g:=zVO) mix Tryz.func46 zjB rfl rfl ?_
 simp only[Tryz.f46,gJ]
 repeat' first|simp only[go_sem,zck, *]|apply bc<;>intro hc
 refine zF (fun i fr h=>fr 1= .fn (.func f) [] cap∧fr 0=d∧fr 6=d∧fr 7= .int .i64 (l.length:Int)∧fr 8= .int .i64 (i:Int)∧h=g∧∀j (hj:j<l.length),j<i→p l[j]=false) l.length hl ?_ ?_ ?_
 ·simp only[go_sem,zck,true_and,and_true,Int.ofNat_zero]
  exact fun j hj h0=>by omega
 ·rintro i fr h hlt e1 ew ⟨f1,f0,f6,f7,f8,rfl,hj⟩
  have a1:=zMz hd hlt
  have hq:=hp _ (List.getElem_mem hlt)
  simp only[List.nil_append,List.cons_append,Vio.cells] at hq
  simp only[Vio.cells] at a1
  cases hb:p l[i] with
  |true=>
   have hx:=zCH hlt hj hb
   rw[hb] at hq
   clear hj hp hd
   repeat' first|simp only[go_sem,zck, *]|apply bc<;>intro hc|(refine zA.mono (hq _) ?_;rintro r h ⟨rfl,rfl⟩)
  |false=>
   have hn:=yj (p:=p) hlt hj hb
   rw[hb] at hq
   clear hj hp hd
   repeat' first|simp only[go_sem,zck, *]|apply bc<;>intro hc|(refine zA.mono (hq _) ?_;rintro r h ⟨rfl,rfl⟩)
   exact hn
 ·rintro fr h e1 ⟨f1,f0,f6,f7,f8,rfl,hj⟩
  have hx:=zCI (p:=p) fun j hj'=>hj j hj' hj'
  clear hj hp hd
  repeat' first|simp only[go_sem,zck, *]|apply bc<;>intro hc
theorem zDE {l:List Vio} {d:D} (hd:zY 2 (vcs l) d) (hl:l.length≤1073741824) {f:FuncId} {cap:List D} {p:Vio→Bool} (hp:∀s∈l,∀h,zA Tryz.prog f ([]++ [.agg s.cells]++cap) h fun r h'=>h'=h∧r= .bool (p s)) (g:Heap):
  zA Tryz.prog 18 [d, .fn (.func f) [] cap] g fun r h'=>h'=g∧r= .bool (l.any p):=by
 have hix:=zM1 hd hl hp
 have hge:=zCv (l:=l) (p:=p)
 refine zA.of_fn (g:=zVd) mix Tryz.func18 zjT rfl rfl ?_
 simp only[Tryz.f18,gJ]
 repeat' first|simp only[go_sem,zkU, *]|apply bc<;>intro hc|(refine zA.mono (hix _) ?_;rintro r h ⟨rfl,rfl⟩)
theorem zWu {v w:Vio} {cv:List D} (hv:v.Is cv) (hw:w.Is w.cells) (g:Heap):zA Tryz.prog 44 [.agg w.cells, .iptr cv 0] g fun r h'=>h'=g∧r= .bool (zIg v w==0):=by
 have hc:=zUP hv hw
 have h1:=Vio.Is.two hv
 have h2:=Vio.Is.two hw
 refine zA.of_fn (g:=zVt) mix Tryz.func44 zjm rfl rfl ?_
 simp only[Tryz.f44,gJ]
 repeat' first|simp only[go_sem,zkl, *]|apply bc<;>intro hc|(refine zA.mono (hc _) ?_;rintro r h ⟨rfl,rfl⟩)
def zDF (c:Cat) (fs:List Fac) (y:Cho) (v:Vio):Int:=
 if(!(zV c fs y true==0))=true then zV c fs y true else if(!((zCe c fs y).any fun w=>zIg v w==0))=true then 18 else 0
set_option maxHeartbeats 4000000 in
theorem zRI {c:Cat} {fs:List Fac} {y:Cho} {d x yd:D} (I:CIn c fs y d x yd) {v:Vio} {cv:List D} (hv:v.Is cv) (g:Heap):
  zA Tryz.prog 17 [d,x,yd, .agg cv] g fun r h'=>h'=g∧r= .int .i64 (zDF c fs y v):=by
 refine zA.pure (by kernel_rfl) fun hok'=>zA.strip ?_
 refine zA.post fun Q hQ=> ?_
 have hcc:=I.check true
 have hst:=fun h=>I.start (p:=true) h
 have h16:=fun h=>I.n16 (p:=true) h
 obtain⟨a,b,e,p,rfl,_⟩:=I.cat
 obtain⟨ta,oa,rfl,_⟩:=I.cho
 obtain⟨x1,x2,_⟩:=zJ I.x
 have hv4:zQ true 4 [a,b,e,p] 0=some (.agg [a,b,e,p]):=zB rfl (by omega)
 have hv2:zQ true 2 [ta,oa] 0=some (.agg [ta,oa]):=zB rfl (by omega)
 have hQn:∀h',Ext g h'→Q (.int .i64 (zDF c fs y v)) h':=fun h' hE=>hQ _ _ ⟨hE,trivial,rfl⟩
 refine zA.of_fn (g:=zVV) mix Tryz.func17 zjJ rfl rfl ?_
 simp only[Tryz.f17,gJ]
 cases he:(zV c fs y true==0) with
 |false=>
  have hve:zDF c fs y v=zV c fs y true:=by unfold zDF;rw[he];rfl
  have hfin:=hQn g (Ext.refl g)
  rw[hve] at hfin
  clear hQn hve hQ hst h16
  repeat' first|simp only[go_sem,zc1, *]|apply bc<;>intro hc|(refine zA.mono (hcc _) ?_;rintro r h ⟨hq,rfl⟩)
 |true=>
  have h0:zV c fs y true=0:=by simpa using he
  have hve:zDF c fs y v=if(!((zCe c fs y).any fun w=>zIg v w==0))=true then 18 else 0:=by unfold zDF;rw[he];rfl
  have hs:=hst h0
  have hn:=h16 h0
  rw[h0] at hcc he
  clear hst h16 h0
  repeat' first|simp only[go_sem,zc1, *]|apply bc<;>intro hc|(refine zA.mono (hcc _) ?_;rintro r h ⟨hq,rfl⟩)
  subst hq
  rename Heap=>g
  refine(hs _).mono ?_
  rintro r h1 ⟨hE,sc,m1,m2,rfl,hS,hH,_,_⟩
  repeat' first|simp only[go_sem,zc1, *]|apply bc<;>intro hc
  refine(zey hS hn hH).mono ?_
  rintro r h2 ⟨hq,hF⟩
  subst hq
  have hF2:Fin 2 (vcs (zCe c fs y)) r:=by rw[←zDD];exact hF
  have hll:(zCe c fs y).length≤1073741824:=by
   have:=zQA (c:=c) (fs:=fs) (al:=alS fs y) (O:=(zd y fs fs.length).O) hn 6 (by omega)
   rw[zM0,zDU] at this
   show(zIi c fs (alS fs y) (zd y fs fs.length).O 6).length≤_
   omega
  have hct:=zDE (f:=44) (cap:=[.iptr cv 0]) (p:=fun w=>zIg v w==0) hF2.isSl hll (fun w hw H=>zWu hv (zQB w hw) H) h2
  obtain⟨r1,r2,_⟩:=zJ hF2.isSl
  have hfin:=hQn _ hE
  rw[hve] at hfin
  clear hQn hve hQ hF hF2 hs hE hS hH
  cases hd:(zCe c fs y).any (fun w=>zIg v w==0) with
  |true=>
   rw[hd] at hct hfin
   repeat' first|simp only[go_sem,zc1, *]|apply bc<;>intro hc|(refine zA.mono hct ?_;rintro r h ⟨hq,rfl⟩)
   subst hq
   exact hfin
  |false=>
   rw[hd] at hct hfin
   repeat' first|simp only[go_sem,zc1, *]|apply bc<;>intro hc|(refine zA.mono hct ?_;rintro r h ⟨hq,rfl⟩)
   subst hq
   exact hfin
def zIH (c:Cat) (fs:List Fac) (y:Cho):D:=
 if(!(zV c fs y true==0))=true then .tuple [.agg zLD, .bool false, .int .i64 (zV c fs y true)] else .tuple [.agg ((zIh c fs y).head?.getD zLD), .bool ((zIh c fs y).head?.isSome), .int .i64 0]
def zII (c:Cat) (fs:List Fac) (y:Cho):D:=
 if(!(zV c fs y false==0))=true then .tuple [.bool false, .int .i64 (zV c fs y false)] else .tuple [.bool (!(zIh c fs y).head?.isSome), .int .i64 0]
theorem zaj {c:Cat} {fs:List Fac} {y:Cho} :∃num l,(zIh c fs y).head?.getD zLD= [.int .i64 num,l]∧zY 1 [] .nilsl∧l.flat=true∧wq [.int .i64 num,l]:=by
 cases h:(zIh c fs y).head? with
 |none=>exact⟨0, .nilsl,rfl, .inl ⟨rfl,rfl⟩,rfl,rfl,⟨trivial,trivial,trivial⟩,rfl⟩
 |some x=>
  have hm:=List.mem_of_mem_head? h
  have hp:=zRG x hm
  obtain⟨i,_,hx⟩:=List.mem_flatMap.1 hm
  obtain⟨l,_,rfl⟩:=List.mem_map.1 hx
  exact⟨_,_,rfl, .inl ⟨rfl,rfl⟩,rfl,hp⟩
set_option maxHeartbeats 4000000 in
theorem zK7 {c:Cat} {fs:List Fac} {y:Cho} {d x yd:D} (I:CIn c fs y d x yd) (g:Heap):
  zA Tryz.prog 14 [d,x,yd] g fun r h'=>h'=g∧r=zII c fs y:=by
 refine zA.pure (by kernel_rfl) fun hok'=>zA.strip ?_
 refine zA.post fun Q hQ=> ?_
 have hcc:=I.check false
 have hst:=fun h=>I.start (p:=false) h
 have h16:=fun h=>I.n16 (p:=false) h
 obtain⟨a,b,e,p,rfl,_⟩:=I.cat
 obtain⟨ta,oa,rfl,_⟩:=I.cho
 obtain⟨x1,x2,_⟩:=zJ I.x
 have hv4:zQ true 4 [a,b,e,p] 0=some (.agg [a,b,e,p]):=zB rfl (by omega)
 have hv2:zQ true 2 [ta,oa] 0=some (.agg [ta,oa]):=zB rfl (by omega)
 have hQn:∀h' z n,Ext g h'→zII c fs y= .tuple [.bool z, .int .i64 n]→Q (.tuple [.bool z, .int .i64 n]) h':=fun h' z n hE e=>hQ _ _ ⟨hE,⟨trivial,trivial,trivial⟩,e.symm⟩
 refine zA.of_fn (g:=zVq) mix Tryz.func14 zjj rfl rfl ?_
 simp only[Tryz.f14,gJ]
 cases he:(zV c fs y false==0) with
 |false=>
  have hve:zII c fs y= .tuple [.bool false, .int .i64 (zV c fs y false)]:=by unfold zII;rw[he];rfl
  have hfin:=hQn g _ _ (Ext.refl g) hve
  clear hQn hve hQ hst h16
  repeat' first|simp only[go_sem,zfd, *]|apply bc<;>intro hc|(refine zA.mono (hcc _) ?_;rintro r h ⟨hq,rfl⟩)
 |true=>
  have h0:zV c fs y false=0:=by simpa using he
  have hve:zII c fs y= .tuple [.bool (!(zIh c fs y).head?.isSome), .int .i64 0]:=by unfold zII;rw[he];rfl
  have hs:=hst h0
  have hn:=h16 h0
  rw[h0] at hcc he
  clear hst h16 h0
  repeat' first|simp only[go_sem,zfd, *]|apply bc<;>intro hc|(refine zA.mono (hcc _) ?_;rintro r h ⟨hq,rfl⟩)
  subst hq
  rename Heap=>g
  refine(hs _).mono ?_
  rintro r h1 ⟨hE,sc,m1,m2,rfl,hS,hH,_,_⟩
  repeat' first|simp only[go_sem,zfd, *]|apply bc<;>intro hc
  refine(zUU hS hn hH).mono ?_
  rintro r h2 ⟨hq,rfl⟩
  subst hq
  have hh:zWt (zIL c fs (alS fs y) (zd y fs fs.length).O 6)= .tuple [.agg ((zIh c fs y).head?.getD zLD), .bool ((zIh c fs y).head?.isSome)]:=rfl
  rw[hh]
  obtain⟨num,l,hl,_,hlf,hlp⟩:=zaj (c:=c) (fs:=fs) (y:=y)
  have hst2:zS Tryz.prog 33 (.ptr h2.next 0) (.agg [.int .i64 num,l]) (h2.new h2.next (.row [.int .i64 0, .nilsl]))=some (h2.new h2.next (.row [.int .i64 num,l])):=zZ qt (by omega) rfl rfl hlp.1
  have hfin:=hQn (h2.new h2.next (.row [.int .i64 num,l])) _ _ (hE.new hE.1 _) hve
  rw[hl]
  clear hQn hve hQ hs hE hS hH hh hl hlp
  repeat' first|simp only[go_sem,zfd, *]|apply bc<;>intro hc
set_option maxHeartbeats 4000000 in
theorem zRJ {c:Cat} {fs:List Fac} {y:Cho} {d x yd:D} (I:CIn c fs y d x yd) (g:Heap):
  zA Tryz.prog 13 [d,x,yd] g fun r h'=>h'=g∧r=zIH c fs y:=by
 refine zA.pure (by kernel_rfl) fun hok'=>zA.strip ?_
 refine zA.post fun Q hQ=> ?_
 have hcc:=I.check true
 have hst:=fun h=>I.start (p:=true) h
 have h16:=fun h=>I.n16 (p:=true) h
 obtain⟨a,b,e,p,rfl,_⟩:=I.cat
 obtain⟨ta,oa,rfl,_⟩:=I.cho
 obtain⟨x1,x2,_⟩:=zJ I.x
 have hv4:zQ true 4 [a,b,e,p] 0=some (.agg [a,b,e,p]):=zB rfl (by omega)
 have hv2:zQ true 2 [ta,oa] 0=some (.agg [ta,oa]):=zB rfl (by omega)
 have hvv:∀m l:D,zQ true 2 [m,l] 0=some (.agg [m,l]):=fun m l=>zB rfl (by omega)
 have hvb:yC Tryz.prog 33 []=some (.agg [.int .i64 0, .nilsl]):=by simp[yC,zFH,zDL,qR,D.notTuple,D.cells]
 obtain⟨G,hG,hEG,hGr,hGn⟩:∃G:Heap,g.new g.next (.row [.int .i64 0, .nilsl])=G∧Ext g G∧G.at' g.next=some (.row [.int .i64 0, .nilsl])∧g.next<G.next:=⟨_,rfl,(Ext.refl g).new (Nat.le_refl _) _,zK _ _ _,by rw[zD];omega⟩
 have hQn:∀h' v z n,Ext g h'→wq v→zIH c fs y= .tuple [.agg v, .bool z, .int .i64 n]→Q (.tuple [.agg v, .bool z, .int .i64 n]) h':=fun h' v z n hE hp e=>hQ _ _ ⟨hE,by
  simp only[yF,yH,below,zq,hp.2.2]
  exact⟨qh (Nat.zero_le _) _ hp.2.1,trivial,trivial,trivial⟩,by simp only[yF,yH,hp.2.2];exact e.symm⟩
 refine zA.of_fn (g:=zVk) mix Tryz.func13 zjb rfl rfl ?_
 simp only[Tryz.f13,gJ]
 cases he:(zV c fs y true==0) with
 |false=>
  have hve:zIH c fs y= .tuple [.agg [.int .i64 0, .nilsl], .bool false, .int .i64 (zV c fs y true)]:=by unfold zIH;rw[he];rfl
  have hst1:zS Tryz.prog 33 (.ptr g.next 0) (.agg [.int .i64 0, .nilsl]) G=some G:=by
   rw[yL hGr (by rw[qt];rfl) rfl (by decide) rfl,zAs hGr]
  have hfin:=hQn G _ _ _ hEG (show wq [.int .i64 0, .nilsl] from⟨rfl,⟨trivial,trivial,trivial⟩,rfl⟩) hve
  clear hQn hve hQ hst h16
  repeat' first|simp only[go_sem,zfb, *]|apply bc<;>intro hc|(refine zA.mono (hcc _) ?_;rintro r h ⟨hq,rfl⟩)
 |true=>
  have h0:zV c fs y true=0:=by simpa using he
  have hve:zIH c fs y= .tuple [.agg ((zIh c fs y).head?.getD zLD), .bool ((zIh c fs y).head?.isSome), .int .i64 0]:=by unfold zIH;rw[he];rfl
  have hs:=hst h0
  have hn:=h16 h0
  rw[h0] at hcc he
  clear hst h16 h0
  repeat' first|simp only[go_sem,zfb, *]|apply bc<;>intro hc|(refine zA.mono (hcc _) ?_;rintro r h ⟨hq,rfl⟩)
  subst hq
  rename Heap=>G
  refine(hs _).mono ?_
  rintro r h1 ⟨hE,sc,m1,m2,rfl,hS,hH,_,_⟩
  repeat' first|simp only[go_sem,zfb, *]|apply bc<;>intro hc
  refine(zUU hS hn hH).mono ?_
  rintro r h2 ⟨hq,rfl⟩
  subst hq
  have hh:zWt (zIL c fs (alS fs y) (zd y fs fs.length).O 6)= .tuple [.agg ((zIh c fs y).head?.getD zLD), .bool ((zIh c fs y).head?.isSome)]:=rfl
  rw[hh]
  obtain⟨num,l,hl,_,hlf,hlp⟩:=zaj (c:=c) (fs:=fs) (y:=y)
  have hgn:g.next<h2.next:=Nat.lt_of_lt_of_le hGn hE.1
  have hr2:h2.at' g.next=some (.row [.int .i64 0, .nilsl]):=by rw[hE.2 _ hGn];exact hGr
  have hst2:zS Tryz.prog 33 (.ptr h2.next 0) (.agg [.int .i64 num,l]) (h2.new h2.next (.row [.int .i64 0, .nilsl]))=some (h2.new h2.next (.row [.int .i64 num,l])):=zZ qt (by omega) rfl rfl hlp.1
  obtain⟨H,hH3,hHr,hHt,hEH⟩:∃H:Heap,h2.new h2.next (.row [.int .i64 num,l])=H∧H.at' g.next=some (.row [.int .i64 0, .nilsl])∧H.at' h2.next=some (.row [.int .i64 num,l])∧Ext g H:=⟨_,rfl,by rw[zE (by omega)];exact hr2,zK _ _ _,(hEG.trans hE).new (by omega) _⟩
  rw[hH3] at hst2
  obtain⟨F,hF,hFr,hEF⟩:∃F:Heap,H.set g.next (.row [.int .i64 num,l])=F∧F.at' g.next=some (.row [.int .i64 num,l])∧Ext g F:=⟨_,rfl,zC _ _ _,hEH.set (Nat.le_refl _) _⟩
  have hst3:zS Tryz.prog 33 (.ptr g.next 0) (.agg [.int .i64 num,l]) H=some F:=by
   rw[yL (cs':=[.int .i64 num,l]) hHr (by rw[qt];rfl) rfl (by simp) hlp.1,hF]
  rw[hl] at hve
  have hfin:=hQn F _ _ _ hEF hlp hve
  rw[hl]
  clear hQn hve hQ hs hE hS hH hh hl hlp hH3 hF hEF hEH hr2 hEG
  repeat' first|simp only[go_sem,zfb, *]|apply bc<;>intro hc
theorem zBX (a b:Vio):zIg a b=zJS (yg a.row b.row) (qF a.facts b.facts):=by
 unfold zIg zJS
 simp only[orL]
 split
 ·split
  ·rename_i q;exact q.symm
  ·rfl
 ·rfl
theorem zak:QC zIg:=by
 have:=(zHy.key Vio.row).lex (zFc.key Vio.facts)
 exact⟨fun x y=>by rw[zBX,zBX];exact this.anti x y,fun x y z=>by rw[zBX,zBX,zBX];exact this.trans x y z⟩
theorem zal (a b:Vio) (h:zIg a b=0):a=b:=by
 rw[zBX,zJS] at h
 split at h
 ·rename_i q
  have h1:=zTy _ _ q
  have h2:=zOM _ _ h
  cases a;cases b
  simp only at h1 h2
  rw[h1,h2]
 ·rename_i q;exact absurd h q
theorem zQC (a b:Vio):(zIg a b==0)=true↔a=b:=by
 constructor
 ·intro h;exact zal a b (by simpa using h)
 ·rintro rfl;simp[zak.refl]
theorem zWv {a b:Vio} (h:a.row<b.row):zIg a b<0:=by
 rw[zBX]
 have:yg a.row b.row= -1:=by unfold yg;rw[if_pos h]
 rw[this,zJS,if_neg (by decide)]
 decide
section
variable {c:Cat} {fs:List Fac} {al:Nat→Option Alt} {O:KV}
theorem zUY (i:Nat):(zBx c fs al O i).Pairwise fun a b=>qF a b<0:=zZ3 zFc (zFU zFc _)
theorem zRK (k:Nat):zIi c fs al O (k+1)=zIi c fs al O k++(zBx c fs al O k).map fun l=>(⟨(k:Int),l⟩:Vio):=by
 unfold zIi
 rw[List.range_succ,List.flatMap_append,List.flatMap_cons,List.flatMap_nil,List.append_nil]
theorem zUZ {k:Nat} {v:Vio} :v∈zIi c fs al O k↔∃i:Nat,i<k∧v.row=(i:Int)∧v.facts∈zBx c fs al O i:=by
 unfold zIi
 rw[List.mem_flatMap]
 constructor
 ·rintro⟨i,hi,h⟩
  obtain⟨l,hl,rfl⟩:=List.mem_map.1 h
  exact⟨i,List.mem_range.1 hi,rfl,hl⟩
 ·rintro⟨i,hi,h1,h2⟩
  refine⟨i,List.mem_range.2 hi,List.mem_map.2 ⟨v.facts,h2,?_⟩⟩
  cases v;simp only at h1;rw[h1]
theorem zM2:∀k,(zIi c fs al O k).Pairwise fun a b=>zIg a b<0
 |0=>List.Pairwise.nil
 |k+1=>by
  rw[zRK]
  refine List.pairwise_append.2 ⟨zM2 k,?_,fun a ha b hb=> ?_⟩
  ·rw[List.pairwise_map]
   exact(zUY k).imp fun {a b} h=>by rw[zIB];exact h
  ·obtain⟨i,hi,h1,_⟩:=zUZ.1 ha
   obtain⟨l,_,rfl⟩:=List.mem_map.1 hb
   exact zWv (by rw[h1];show(i:Int)<(k:Int);omega)
end
theorem zUa {c:Cat} {fs:List Fac} {y:Cho} :(zCe c fs y).Pairwise fun a b=>zIg a b<0:=zM2 6
theorem zJh {c:Cat} {fs:List Fac} {y:Cho} (h:zV c fs y true=0) (v:Vio):zDF c fs y v=0↔v∈zCe c fs y:=by
 unfold zDF
 rw[h]
 simp only[beq_self_eq_true,Bool.not_true,Bool.false_eq_true,if_false]
 constructor
 ·intro e
  split at e
  ·exact absurd e (by decide)
  ·rename_i q
   have q:(zCe c fs y).any (fun w=>zIg v w==0)=true:=by simpa using q
   obtain⟨w,hw,e⟩:=List.any_eq_true.1 q
   rw[(zQC v w).1 e];exact hw
 ·intro hm
  rw[if_neg]
  have:(zCe c fs y).any (fun w=>zIg v w==0)=true:=List.any_eq_true.2 ⟨v,hm,(zQC v v).2 rfl⟩
  rw[this];decide
theorem zM3 {c:Cat} {fs:List Fac} {y:Cho} (h:zV c fs y false=0):zV c fs y true=0:=by
 unfold zV at h⊢
 split at h
 ·rename_i q;rw[h] at q;exact absurd q (by decide)
 ·rename_i q1
  rw[if_neg q1]
  split at h
  ·exact absurd h (by decide)
  ·rename_i q2
   rw[if_neg q2]
   split at h
   ·rename_i q;rw[h] at q;exact absurd q (by decide)
   ·rename_i q3
    have t0:zD1 (zCd (zI c fs).1 y.ts false) y.ts.length=0:=by simpa using q3
    have t1:zD1 (zCd (zI c fs).1 y.ts true) y.ts.length=0:=qM fun i hi=>by
     have:=zDQ t0 i hi
     unfold zCd at this⊢
     rw[List.getElem?_eq_getElem hi] at this⊢
     simp only[Bool.false_and,Bool.false_eq_true,if_false,Bool.true_and] at this⊢
     split
     ·rfl
     ·exact this
    rw[t1]
    simp only[beq_self_eq_true,Bool.not_true,Bool.false_eq_true,if_false]
    refine qM fun i hi=> ?_
    have:=zDQ h i hi
    unfold zT6 at this⊢
    rw[List.getElem?_eq_getElem hi] at this⊢
    simp only[Bool.false_and,Bool.false_eq_true,if_false,Bool.true_and] at this⊢
    split
    ·rfl
    ·exact this
def zIj (c:Cat) (l:List Fac) (n:Nat):Cho:=⟨(zWc c l n).map mkA,zWd c l n⟩
theorem ze1 {c:Cat} {l:List Fac} {n:Int} (h:zCa c l n=0):(zI c l).2.2=0∧0≤n∧n.toNat<zKz c l:=by
 unfold zCa at h
 split at h
 ·rename_i q;rw[h] at q;exact absurd q (by decide)
 ·rename_i q1
  split at h
  ·exact absurd h (by decide)
  ·rename_i q2
   have hc:wT c l=0:=by simpa using q1
   have hv:(zI c l).2.2=0:=by
    unfold wT at hc
    split at hc
    ·exact hc
    ·rename_i q;simpa using q
   simp only[Bool.or_eq_true,decide_eq_true_eq,not_or] at q2
   exact⟨hv,by omega,by omega⟩
theorem zRL {c:Cat} {l:List Fac} {n:Int} (h:zCa c l n=0):zV c l (zIj c l n.toNat) false=0:=by
 obtain⟨hv,h0,hn⟩:=ze1 h
 have hpos:=zP3 hn
 have hd:=zOI (l:=zDY c (zI c l).1 (zI c l).2.1) (n:=n.toNat) hpos
 have hT:(zIj c l n.toNat).ts.length=(zI c l).1.length:=by simp[zIj,zWc,yk]
 have hO:(zIj c l n.toNat).own.length=(zI c l).2.1.length:=by simp[zIj,zWd,zAa]
 have hrl:(zDY c (zI c l).1 (zI c l).2.1).length=(zI c l).1.length+(zI c l).2.1.length:=by simp[zDY]
 unfold zV
 rw[hv,hT,hO]
 simp only[beq_self_eq_true,Bool.not_true,Bool.false_eq_true,if_false,Bool.or_self]
 have t1:zD1 (zCd (zI c l).1 (zIj c l n.toNat).ts false) (zI c l).1.length=0:=qM fun i hi=>by
  unfold zCd
  have hi2:i<(zIj c l n.toNat).ts.length:=by rw[hT];exact hi
  rw[List.getElem?_eq_getElem hi2]
  have hdi:=hd i (by omega)
  have hri:(zDY c (zI c l).1 (zI c l).2.1)[i]'(by omega)=(zI c l).1[i].length:=by
   simp only[zDY]
   rw[List.getElem_append_left (by simpa using hi),List.getElem_map]
  rw[hri] at hdi
  have hts:(zIj c l n.toNat).ts[i].ts=(zI c l).1[i][(zEB (zDY c (zI c l).1 (zI c l).2.1) n.toNat).1.getD i 0]:=by
   simp only[zIj,zWc,yk,List.getElem_map,List.getElem_range,mkA]
   rw[List.getD_eq_getElem?_getD (l:=(zI c l).1),List.getElem?_eq_getElem hi,Option.getD_some,List.getD_eq_getElem?_getD (l:=(zI c l).1[i]),List.getElem?_eq_getElem hdi,Option.getD_some]
  simp only[Bool.false_and,Bool.false_eq_true,if_false]
  rw[if_neg]
  have:((zI c l).1.getD i []).any (fun b=>zMh (zIj c l n.toNat).ts[i].ts b)=true:=by
   rw[List.getD_eq_getElem?_getD,List.getElem?_eq_getElem hi,Option.getD_some]
   exact List.any_eq_true.2 ⟨_,List.getElem_mem hdi,(zEt _ _).2 hts⟩
  rw[this];decide
 rw[t1]
 simp only[beq_self_eq_true,Bool.not_true,Bool.false_eq_true,if_false]
 refine qM fun i hi=> ?_
 unfold zT6
 have hi2:i<(zIj c l n.toNat).own.length:=by rw[hO];exact hi
 rw[List.getElem?_eq_getElem hi2]
 have hdi:=hd ((zI c l).1.length+i) (by omega)
 have hri:(zDY c (zI c l).1 (zI c l).2.1)[(zI c l).1.length+i]'(by omega)=c.ls.length:=by
  simp only[zDY]
  rw[List.getElem_append_right (by simp)]
  simp
 rw[hri] at hdi
 have hts:(zIj c l n.toNat).own[i]=c.ls[(zEB (zDY c (zI c l).1 (zI c l).2.1) n.toNat).1.getD ((zI c l).1.length+i) 0].name:=by
  simp only[zIj,zWd,zAa,List.getElem_map,List.getElem_range]
  rw[List.getD_eq_getElem?_getD (l:=c.ls.map Lic.name),List.getElem?_map,List.getElem?_eq_getElem hdi]
  rfl
 simp only[Bool.false_and,Bool.false_eq_true,if_false]
 rw[if_neg]
 have:(c.ls.any fun x=>x.name==(zIj c l n.toNat).own[i])=true:=List.any_eq_true.2 ⟨_,List.getElem_mem hdi,by rw[hts];simp⟩
 rw[this];decide
theorem zF7 {l m:List Int} {d e:D} (hd:zY 1 (qZ l) d) (he:zY 1 (qZ m) e) (hl:l.length≤1048576) (g:Heap):zA Tryz.prog 43 [d,e] g fun r h'=>h'=g∧r= .int .i64 (qF l m):=by
 have hll:=qj hd
 have hml:=qj he
 obtain⟨q1,q2,_⟩:=zJ hd
 obtain⟨q3,q4,_⟩:=zJ he
 refine zA.of_fn (g:=zZU) mix Tryz.func43 zkd rfl rfl ?_
 simp only[Tryz.f43,gJ]
 repeat' first|simp only[go_sem,zQf, *]|apply bc<;>intro hc
 refine zz (fun i fr h'=>fr 0=d∧fr 1=e∧fr 5= .int .i64 (i:Int)∧h'=g∧i≤m.length∧qF (l.drop i) (m.drop i)=qF l m) l.length ?_ ?_
 ·simp only[go_sem,zQf,true_and,and_true,Int.ofNat_zero]
  exact⟨Nat.zero_le _,rfl⟩
 rintro i fr h' hi ⟨f0,f1,f5,rfl,him,ho⟩
 by_cases hlt:i<l.length
 ·have e1:decide ((i:Int)<(l.length:Int))=true:=decide_eq_true (by omega)
  have a1:=zAP hd hlt
  by_cases hge:m.length≤i
  ·have e2:decide ((i:Int)<(m.length:Int))=false:=decide_eq_false (by omega)
   have e3:decide ((l.length:Int)<(m.length:Int))=false:=decide_eq_false (by omega)
   have e4:decide ((l.length:Int)>(m.length:Int))=true:=decide_eq_true (by omega)
   have hr:qF l m=1:=by
    rw[List.drop_eq_getElem_cons hlt,List.drop_eq_nil_of_le hge] at ho
    rw[←ho];rfl
   rw[hr]
   clear ho hr him hge
   repeat' first|simp only[go_sem,zQf, *]|apply bc<;>intro hc
  ·have e2:decide ((i:Int)<(m.length:Int))=true:=decide_eq_true (by omega)
   have hmlt:i<m.length:=by omega
   have a2:=zAP he hmlt
   rw[zMC hlt hmlt] at ho
   simp only[List.getD_eq_getElem?_getD,List.getElem?_eq_getElem hlt,List.getElem?_eq_getElem hmlt,Option.getD_some] at ho
   have ew:IntKind.i64.wrap ((i:Int)+1)=((i+1:Nat):Int):=zf (by unfold lim;omega)
   unfold yg at ho
   cases b1:decide (l[i]<m[i]) with
   |true=>
    have b1':=of_decide_eq_true b1
    rw[if_pos b1',if_neg (by decide)] at ho
    rw[←ho]
    clear ho him hge b1'
    repeat' first|simp only[go_sem,zQf, *]|apply bc<;>intro hc
    refine zN (by kernel_rfl) ?_
    repeat' first|simp only[go_sem,zQf, *]|apply bc<;>intro hc
   |false=>
    have b1':=of_decide_eq_false b1
    rw[if_neg b1'] at ho
    cases b2:decide (l[i]>m[i]) with
    |true=>
     have b2':=of_decide_eq_true b2
     rw[if_pos b2',if_neg (by decide)] at ho
     rw[←ho]
     clear ho him hge b1' b2'
     repeat' first|simp only[go_sem,zQf, *]|apply bc<;>intro hc
     refine zN (by kernel_rfl) ?_
     repeat' first|simp only[go_sem,zQf, *]|apply bc<;>intro hc
     refine zN (by kernel_rfl) ?_
     repeat' first|simp only[go_sem,zQf, *]|apply bc<;>intro hc
    |false=>
     have b2':=of_decide_eq_false b2
     rw[if_neg b2',if_pos rfl] at ho
     have hfin:i<l.length∧i+1≤m.length∧qF (l.drop (i+1)) (m.drop (i+1))=qF l m:=⟨hlt,hmlt,ho⟩
     clear ho him hge b1' b2'
     repeat' first|simp only[go_sem,zQf, *]|apply bc<;>intro hc
     refine zN (by kernel_rfl) ?_
     repeat' first|simp only[go_sem,zQf, *]|apply bc<;>intro hc
     refine zN (by kernel_rfl) ?_
     repeat' first|simp only[go_sem,zQf, *]|apply bc<;>intro hc
 ·have e1:decide ((i:Int)<(l.length:Int))=false:=decide_eq_false (by omega)
  have hie:l.length≤i:=by omega
  rw[List.drop_eq_nil_of_le hie] at ho
  cases hlm:decide ((l.length:Int)<(m.length:Int)) with
  |true=>
   have hlm':=of_decide_eq_true hlm
   have hr:qF l m= -1:=by
    rw[List.drop_eq_getElem_cons (show i<m.length by omega)] at ho
    rw[←ho];rfl
   rw[hr]
   clear ho hr him hie
   repeat' first|simp only[go_sem,zQf, *]|apply bc<;>intro hc
  |false=>
   have hlm':=of_decide_eq_false hlm
   have e4:decide ((l.length:Int)>(m.length:Int))=false:=decide_eq_false (by omega)
   have hr:qF l m=0:=by
    rw[List.drop_eq_nil_of_le (by omega)] at ho
    rw[←ho];rfl
   rw[hr]
   clear ho hr him hie hlm'
   repeat' first|simp only[go_sem,zQf, *]|apply bc<;>intro hc
def zFf (v w:Vio):Bool:=decide (v.row<w.row)||((v.row==w.row)&&decide (qF v.facts w.facts<0))
theorem zOQ {v w:Vio} {cv cw:List D} (hv:v.Is cv) (hw:w.Is cw) (g:Heap):zA Tryz.prog 16 [.agg cv, .agg cw] g fun r h'=>h'=g∧r= .bool (zFf v w):=by
 obtain⟨d,rfl,hd,hdl⟩:=hv
 obtain⟨e,rfl,he,hel⟩:=hw
 have h2:=zF7 hd he hdl
 obtain⟨q1,q2,_⟩:=zJ hd
 obtain⟨q3,q4,_⟩:=zJ he
 unfold zFf
 refine zA.of_fn (g:=zZF) mix Tryz.func16 zkK rfl rfl ?_
 simp only[Tryz.f16,gJ]
 repeat' first|simp only[go_sem,zkJ, *]|apply bc<;>intro hc|(refine zA.mono (h2 _) ?_;rintro r h ⟨rfl,rfl⟩)
theorem zUb {vs ws:List Vio} {d e:D} (hd:zY 2 (vcs vs) d) (he:zY 2 (vcs ws) e) (hl:vs.length≤1073741824) (hm:∀v∈vs,v.facts.length≤1048576) (g:Heap):
  zA Tryz.prog 15 [d,e] g fun r h'=>h'=g∧∃b,r= .bool b∧(b=true↔vs=ws):=by
 refine zA.post fun Q hQ=> ?_
 have hll:=zK6 hd
 have hml:=zK6 he
 obtain⟨q1,q2,_⟩:=zJ hd
 obtain⟨q3,q4,_⟩:=zJ he
 refine zA.of_fn (g:=zZB) mix Tryz.func15 zj9 rfl rfl ?_
 simp only[Tryz.f15,gJ]
 cases hb:(((vs.length:Int))==((ws.length:Int))) with
 |false=>
  have hfin:=hQ (.bool false) g ⟨rfl,false,rfl,by simp,fun q=>by rw[q] at hb;simp at hb⟩
  clear hQ
  repeat' first|simp only[go_sem,zUm, *]|apply bc<;>intro hc
 |true=>
  have hlen:vs.length≤ws.length∧ws.length≤vs.length:=by
   have:(vs.length:Int)=ws.length:=by simpa using hb
   omega
  repeat' first|simp only[go_sem,zUm, *]|apply bc<;>intro hc
  refine zF (fun i fr h'=>fr 0=d∧fr 1=e∧fr 5= .int .i64 (i:Int)∧h'=g∧vs.take i=ws.take i) vs.length hl ?_ ?_ ?_
  ·simp only[go_sem,zUm,true_and,and_true,Int.ofNat_zero]
   rfl
  ·rintro i fr h' hlt e1 ew ⟨f0,f1,f5,rfl,ht⟩
   have hlt2:i<ws.length:=by omega
   have a1:=zMz hd hlt
   have a2:=zMz he hlt2
   have k1:vs[i].cells[0]? =some (.int .i64 vs[i].row):=rfl
   have k2:ws[i].cells[0]? =some (.int .i64 ws[i].row):=rfl
   have k3:vs[i].cells[1]? =some (.sl 1 (qZ vs[i].facts) .no):=rfl
   have k4:ws[i].cells[1]? =some (.sl 1 (qZ ws[i].facts) .no):=rfl
   have hc:=zF7 (zY.mk (xs:=qZ vs[i].facts) .no) (zY.mk (xs:=qZ ws[i].facts) .no) (hm _ (List.getElem_mem hlt)) h'
   have htk:vs[i]=ws[i]→vs.take (i+1)=ws.take (i+1):=fun q=>by rw[List.take_succ_eq_append_getElem hlt,List.take_succ_eq_append_getElem hlt2,ht,q]
   have hno:vs[i]≠ws[i]→Q (.bool false) h':=fun q=>hQ _ _ ⟨rfl,false,rfl,by simp,fun e=>absurd (by simp only[e]) q⟩
   have heq:=zOM vs[i].facts ws[i].facts
   have hrefl:∀a:List Int,qF a a=0:=fun a=>zFc.refl a
   generalize vs[i]=v at *
   generalize ws[i]=w at *
   clear hb hlen hQ ht
   cases b1:(v.row==w.row) with
   |false=>
    have hfin:=hno fun q=>by rw[q] at b1;simp at b1
    clear hno htk heq hrefl
    repeat' first|simp only[go_sem,zUm, *]|apply bc<;>intro hc
    refine zN (by kernel_rfl) ?_
    repeat' first|simp only[go_sem,zUm, *]|apply bc<;>intro hc
   |true=>
    cases b2:(qF v.facts w.facts==0) with
    |false=>
     have hfin:=hno fun q=>by rw[q,hrefl] at b2;simp at b2
     clear hno htk heq hrefl
     repeat' first|simp only[go_sem,zUm, *]|apply bc<;>intro hc
     refine zN (by kernel_rfl) ?_
     repeat' first|simp only[go_sem,zUm, *]|apply bc<;>intro hc|(refine zA.mono hc ?_;rintro r h ⟨hq,rfl⟩)
    |true=>
     have hvw:v=w:=by
      have h1:v.row=w.row:=by simpa using b1
      have h2:=heq (by simpa using b2)
      cases v;cases w
      simp only at h1 h2
      rw[h1,h2]
     have hfin:=htk hvw
     clear hno htk heq hrefl hvw
     repeat' first|simp only[go_sem,zUm, *]|apply bc<;>intro hc
     refine zN (by kernel_rfl) ?_
     repeat' first|simp only[go_sem,zUm, *]|apply bc<;>intro hc|(refine zA.mono hc ?_;rintro r h ⟨hq,rfl⟩)
  ·rintro fr h' e1 ⟨f0,f1,f5,rfl,ht⟩
   have hfin:=hQ (.bool true) h' ⟨rfl,true,rfl,fun _=>by
    rw[List.take_length,List.take_of_length_le hlen.2] at ht;exact ht,fun _=>rfl⟩
   clear hQ ht
   repeat' first|simp only[go_sem,zUm, *]|apply bc<;>intro hc
theorem zUc {c:Cat} {fs:List Fac} (h:(wT c fs==0)=true) (hm:((zKz c fs:Int)==0)=false) (n:Nat):zCa c fs ((n%zKz c fs:Nat):Int)=0:=by
 have hp:0<zKz c fs:=by
  have:(zKz c fs:Int)≠0:=by simpa using hm
  omega
 have hlt:=Nat.mod_lt n hp
 unfold zCa
 rw[h]
 simp only[Bool.not_true,Bool.false_eq_true,if_false]
 rw[if_neg]
 simp only[Bool.or_eq_true,decide_eq_true_eq,not_or]
 omega
theorem zam {n m:Nat} (hm:((m:Int)==0)=false):wo .rem .i64 .i64 (n:Int) (m:Int)=some (.int .i64 ((n%m:Nat):Int)):=by
 have b0:¬(m:Int)=0:=by simpa using hm
 have b1:(n:Int).tmod (m:Int)=((n%m:Nat):Int):=by rw[Int.tmod_eq_emod_of_nonneg (by omega)];rfl
 simp only[wo,zLE,if_true]
 rw[if_neg b0,b1]
theorem zUd {sz:Nat} {xs:List (List D)} :zY sz xs (nd sz xs):=by
 cases xs with
 |nil=>exact .inl ⟨rfl,rfl⟩
 |cons x xs=>exact zY.mk .no
theorem zan {c:Cat} {fs:List Fac} {k:Int} (hl:fs.length≤65536) (hk:zCa c fs k=0):(zIj c fs k.toNat).Sm:=by
 obtain⟨vl1,vl2⟩:=zDR (c:=c) (l:=fs)
 have hT:(zIj c fs k.toNat).ts.length=(zI c fs).1.length:=by simp[zIj,zWc,yk]
 have hO:(zIj c fs k.toNat).own.length=(zI c fs).2.1.length:=by simp[zIj,zWd,zAa]
 refine⟨by omega,by omega,fun a ha=> ?_⟩
 obtain⟨t,ht,rfl⟩:=List.mem_map.1 ha
 refine⟨zY.mk .no,?_⟩
 show t.length≤1048576
 unfold zWc yk at ht
 obtain⟨i,hi,rfl⟩:=List.mem_map.1 ht
 have hi:=List.mem_range.1 hi
 rw[List.getD_eq_getElem?_getD (l:=(zI c fs).1),List.getElem?_eq_getElem hi,Option.getD_some]
 have hv:=(zBI (c:=c) (l:=fs) _ (List.getElem_mem hi)).2
 rw[List.getD_eq_getElem?_getD]
 cases hg:((zI c fs).1[i])[(zEB (zDY c (zI c fs).1 (zI c fs).2.1) k.toNat).1.getD i 0]? with
 |none=>simp
 |some z=>
  have:=(hv.ts z (List.mem_of_getElem? hg)).2
  simp only[Option.getD_some]
  omega
theorem zao {c:Cat} {fs:List Fac} {d x td od:D} (hc:qS c d) (hs:c.Sm) (hx:zY 12 (zHr fs) x) (hF:zf4 fs) (hok:∀f∈fs,f.Ok) {k:Int} (hk:zCa c fs k=0) (h1:zY 1 (yO ((zWc c fs k.toNat).map mkA)) td) (h2:zY 1 (yX (zWd c fs k.toNat)) od):CIn c fs (zIj c fs k.toNat) d x (.agg [td,od]):=
 ⟨hc,hs,hx,by have:=hF.1.2;omega,hF.1.1,hok,⟨td,od,rfl,h1,h2⟩,zan (by have:=hF.1.2;omega) hk⟩
theorem zUe {a b:Vio} (h:zIg a b<0):zFf a b=true:=by
 rw[zBX] at h
 unfold zFf
 rcases Int.lt_trichotomy a.row b.row with q|q|q
 ·simp[q]
 ·have e:yg a.row b.row=0:=by unfold yg;rw[if_neg (by omega),if_neg (by omega)]
  rw[e] at h
  simp only[zJS,if_true] at h
  simp[q,h]
 ·have e:yg a.row b.row=1:=by unfold yg;rw[if_neg (by omega),if_pos (by omega)]
  rw[e,zJS,if_neg (by decide)] at h
  exact absurd h (by decide)
theorem zOR {c:Cat} {fs:List Fac} {y:Cho} {i:Nat} (hi:i+1<(zCe c fs y).length):zFf ((zCe c fs y)[i]'(by omega)) ((zCe c fs y)[i+1])=true:=
 zUe (List.pairwise_iff_getElem.1 zUa i (i+1) (by omega) hi (by omega))
theorem zM4 {c:Cat} {fs:List Fac} {y:Cho} (h:zV c fs y true=0) (v:Vio):((zCe c fs y).any fun w=>w.row==v.row&&w.facts==v.facts)=(zDF c fs y v==0):=by
 rw[Bool.eq_iff_iff]
 rw[List.any_eq_true,beq_iff_eq,zJh h]
 constructor
 ·rintro⟨w,hw,e⟩
  rw[Bool.and_eq_true,beq_iff_eq,beq_iff_eq] at e
  have:w=v:=by cases w;cases v;simp only at e;rw[e.1,e.2]
  rw[←this];exact hw
 ·intro hv
  exact⟨v,hv,by simp⟩
set_option maxHeartbeats 4000000 in
theorem zRM {c:Cat} {d x:D} (hc:qS c d) (hs:c.Sm) {fs:List Fac} (hx:zY 12 (zHr fs) x) (hl:fs.length≤1048576) (hok:∀f∈fs,f.Ok0) (g:Heap):zA Tryz.prog 9 [d,x] g fun r h'=>h'=g∧∃b,r= .bool b∧(b=true→zf4 fs):=by
 refine zA.post fun Q hQ=> ?_
 have hf:Q (.bool false) g:=hQ _ _ ⟨rfl,_,rfl,fun q=>by cases q⟩
 have hfin:zf4 fs→∀b,Q (.bool b) g:=fun hv b=>hQ _ _ ⟨rfl,b,rfl,fun _=>hv⟩
 have hlx:=zCM hx
 have hfc:=zWO hc hs hx hl hok
 have hcs:=hs.cs
 obtain⟨ca,cb,ce,cp,rfl,_,_,he,_⟩:=hc
 have hv4:∀a b c e:D,zQ true 4 [a,b,c,e] 0=some (.agg [a,b,c,e]):=fun a b c e=>zB rfl (by omega)
 have h47:=zGi
 have l3:=zCJ he
 have s3:=hcs.1
 have hI:=isI
 clear hQ hs
 refine zA.of_fn (g:=zgb) mix Tryz.func9 ok9 rfl rfl ?_
 simp only[Tryz.f9,gJ]
 repeat' first|simp only[go_sem,mu9, *]|apply bc<;>intro hc
 refine(hfc _).mono ?_
 rintro r h ⟨hq,b,rfl,hb⟩
 subst hq
 clear hfc
 cases b with
 |false=>
  clear hfin hb hcs hok
  repeat' first|simp only[go_sem,mu9, *]|apply bc<;>intro hc
 |true=>
 have hF:=hb rfl
 have hfin:=hfin hF
 clear hf hb
 repeat' first|simp only[go_sem,mu9, *]|apply bc<;>intro hc
 refine zF (fun i fr h'=>fr 1=x∧fr 2= .iptr [ca,cb,ce,cp] 0∧fr 7= .int .i64 (i:Int)∧IsI (fr 5)∧IsI (fr 6)∧h'=h) c.cs.length (by omega) ?_ ?_ ?_
 ·simp only[go_sem,mu9,true_and,and_true,Int.ofNat_zero,isI]
 ·rintro i fr h hlt ec ew ⟨f1,f2,f7,⟨n5,f5⟩,⟨n6,f6⟩,hq⟩
  subst hq
  have a1:=zCw he hlt
  have o1:=yt (hcs.2 _ (List.getElem_mem hlt)).1
  generalize c.cs[i]=y at *
  simp only[Cla.cells] at a1
  clear hfin hok hcs
  repeat' first|simp only[go_sem,mu9, *]|apply bc<;>intro hc
 rintro fr h ec ⟨f1,f2,f7,⟨n5,f5⟩,⟨n6,f6⟩,hq⟩
 subst hq
 clear hcs
 repeat' first|simp only[go_sem,mu9, *]|apply bc<;>intro hc
 clear f7 ec
 refine zF (fun i fr h'=>fr 1=x∧fr 8= .int .i64 (i:Int)∧IsI (fr 5)∧IsI (fr 6)∧h'=h) fs.length (by omega) ?_ ?_ ?_
 ·simp only[go_sem,mu9,true_and,and_true,Int.ofNat_zero,isI,f1,f5,f6]
 ·clear f1 f2 f5 f6 n5 n6
  rintro i fr h hlt ec ew ⟨f1,f8,⟨n5,f5⟩,⟨n6,f6⟩,hq⟩
  subst hq
  have a1:=qY hx hlt
  have hm:=List.getElem_mem hlt
  have hN:=zQu _ (Nat.le_refl _) (hok _ hm).e (by have:=hF.2 _ hm;omega)
  generalize fs[i]=f at *
  simp only[Fac.cells] at a1
  simp only[Ex.cells] at hN
  clear hfin hok hm hF
  repeat' first|simp only[go_sem,mu9, *]|apply bc<;>intro hc|(refine zA.mono (hN _) ?_;rintro r h ⟨hq2,rfl⟩)
 ·clear f1 f2 f5 f6 n5 n6
  rintro fr h ec ⟨f1,f8,⟨n5,f5⟩,⟨n6,f6⟩,hq⟩
  subst hq
  clear hok hF
  repeat' first|simp only[go_sem,mu9, *]|apply bc<;>intro hc
theorem zap {n:Nat} (hn:n≤65535):wU Tryz.prog 30 3 (.int .u16 (n:Int))=some (.int .i64 (n:Int)):=by
 simp only[wU,Tryz.underlying30,Tryz.underlying3]
 rw[zX (by omega) (by omega)]
theorem ze2 {l:List Vio} {d:D} (hd:zY 2 (vcs l) d) (hi:1≤l.length):∃d',(∀h,yP Tryz.prog 45 d none (some (.int .i64 1)) none h=some d')∧zY 2 (vcs (l.take 1)) d':=by
 rcases hd with⟨rfl,hs⟩ | ⟨tk,rfl⟩
 ·have hl:l= []:=List.map_eq_nil_iff.1 hs
  subst hl
  simp at hi
 ·refine⟨.sl 2 ((vcs l).take 1) (zLG 1 (vcs l).length tk),fun h=> ?_,?_⟩
  ·have e1:D.int .i64 (1:Int)= .int .i64 ((1:Nat):Int):=rfl
   have h1:(1:Int)≤(l.length:Int):=by omega
   rw[e1]
   simp[yP,zKJ,zCX,qU,qt,qf,zIM,zJi,zDU,h1]
  ·have:(vcs l).take 1=vcs (l.take 1):=by simp[vcs,List.map_take]
   rw[this]
   exact zY.mk _
theorem zUf {v w:Vio} {cv:List D} (hv:v.Is cv) (hw:w.Is w.cells) (g:Heap):zA Tryz.prog 19 [.agg w.cells, .iptr cv 0] g fun r h'=>h'=g∧r= .bool (w.row==v.row&&w.facts==v.facts):=by
 obtain⟨vd,rfl,hvd,hvl⟩:=hv
 obtain⟨wd,hwc,hwd,hwl⟩:=hw
 rw[hwc]
 have hc:=zWp hwd hvd hwl
 refine zA.of_fn (g:=zZS) mix Tryz.func19 zkc rfl rfl ?_
 simp only[Tryz.f19,gJ]
 repeat' first|simp only[go_sem,zkb, *]|apply bc<;>intro hc|(refine zA.mono (hc _) ?_;rintro r h ⟨hq,rfl⟩)
set_option maxHeartbeats 4000000 in
theorem zIk {c:Cat} {d x:D} (hc:qS c d) (hs:c.Sm) {fs:List Fac} (hx:zY 12 (zHr fs) x) (hl:fs.length≤1048576) (hok:∀f∈fs,f.Ok0) {n:Nat} (hn:n≤65535) {v:Vio} {cv:List D} (hv:v.Is cv) (g:Heap):zA Tryz.prog 3 [d,x, .int .u16 (n:Int), .agg cv] g fun r _=>r= .bool true:=by
 refine zA.post fun Q hQ=> ?_
 have hT:∀h,Q (.bool true) h:=fun h=>hQ _ _ rfl
 have haw:=zGI
 have hsh:=zRM hc hs hx hl hok
 obtain⟨vd,rfl,hvd,hvl⟩:=hv
 have hv:v.Is [.int .i64 v.row,vd]:=⟨vd,rfl,hvd,hvl⟩
 have hlv:=qj hvd
 have hc0:=hc
 obtain⟨ca,cb,ce,cp,rfl,_,_,_,_⟩:=hc0
 have hv4:∀a b c e:D,zQ true 4 [a,b,c,e] 0=some (.agg [a,b,c,e]):=fun a b c e=>zB rfl (by omega)
 have hv2:∀a b:D,zQ true 2 [a,b] 0=some (.agg [a,b]):=fun a b=>zB rfl (by omega)
 have hcv:=zap hn
 clear hQ
 refine zA.of_fn (g:=zga) mix Tryz.func3 ok3 rfl rfl ?_
 simp only[Tryz.f3,gJ]
 repeat' first|simp only[go_sem,mu3, *]|apply bc<;>intro hc|(refine zA.mono (haw _) ?_;rintro r h ⟨rfl,hq⟩)
 refine(hsh _).mono ?_
 rintro r h ⟨hq,b,rfl,hF⟩
 subst hq
 clear haw hsh
 cases b with
 |false=>
  clear hF
  repeat' first|simp only[go_sem,mu3, *]|apply bc<;>intro hc
 |true=>
 have hF:=hF rfl
 have hok1:∀f∈fs,f.Ok:=fun f hf=>(hok f hf).ok (hF.2 f hf)
 cases v12:decide ((v.facts.length:Int)>12) with
 |true=>
  repeat' first|simp only[go_sem,mu3, *]|apply bc<;>intro hc
 |false=>
 have hct:=zaK hc hs hx (by have:=hF.1.2;omega) hok1
 unfold zMn at hct
 cases e0:(wT c fs==0) with
 |false=>
  rw[if_neg (by rw[e0];exact Bool.false_ne_true)] at hct
  repeat' first|simp only[go_sem,mu3, *]|apply bc<;>intro hc|(refine zA.mono (hct _) ?_;rintro r h ⟨hq,rfl⟩)
 |true=>
 rw[if_pos e0] at hct
 cases m0:((zKz c fs:Int)==0) with
 |true=>
  repeat' first|simp only[go_sem,mu3, *]|apply bc<;>intro hc|(refine zA.mono (hct _) ?_;rintro r h ⟨hq,rfl⟩)
 |false=>
 have hrem:=zam (n:=n) m0
 have hk:=zUc e0 m0 n
 have hnt:=ziO hc hs hx (by have:=hF.1.2;omega) hok1 ((n%zKz c fs:Nat):Int)
 rw[hk] at hnt
 obtain⟨k,hkk⟩:∃k,n%zKz c fs=k:=⟨_,rfl⟩
 rw[hkk] at hk hnt hrem
 have e00:wT c fs=0:=by simpa using e0
 repeat' first|simp only[go_sem,mu3, *]|apply bc<;>intro hc|(refine zA.mono (hct _) ?_;rintro r h ⟨hq,rfl⟩)
 subst hq
 clear hct
 have hle:∀h,HLe Heap.emp h:=fun h i ob e=>by cases e
 refine zj Heap.emp [(0, .st,true),(1, .no,true),(2, .no,true),(3, .no,true),(4, .no,true),(5, .no,true),(6, .st,true),(7, .no,true),(8, .no,true),(9, .no,true),(10, .no,true),(11, .no,true),(12, .no,true)] (by kernel_rfl) (by kernel_rfl) (hle _) ?_
 repeat' first|simp only[go_sem,mu3, *]|apply bc<;>intro hc
 obtain⟨td,htd⟩:∃td,nd 1 (yO ((zWc c fs ((k:Nat):Int).toNat).map mkA))=td:=⟨_,rfl⟩
 obtain⟨od,hod⟩:∃od,nd 1 (yX (zWd c fs ((k:Nat):Int).toNat))=od:=⟨_,rfl⟩
 have F1:zY 1 (yO ((zWc c fs ((k:Nat):Int).toNat).map mkA)) td:=by rw[←htd];exact zUd
 have F2:zY 1 (yX (zWd c fs ((k:Nat):Int).toNat)) od:=by rw[←hod];exact zUd
 refine zZl (.tuple [.agg [td,od], .int .i64 0]) (fun H=>(hnt H).mono fun r h2 hr=>by
  obtain⟨hq,td',od',rfl,hok2,_⟩:=hr
  obtain⟨G1,G2⟩:=hok2 rfl
  exact⟨hq,by rw[G1.det,G2.det,htd,hod]⟩) ?_
 have I:=zao hc hs hx hF hok1 hk F1 F2
 have e1:=zRL hk
 obtain⟨y,hy⟩:∃y,zIj c fs ((k:Nat):Int).toNat=y:=⟨_,rfl⟩
 rw[hy] at I e1
 have e2:=zM3 e1
 have hst:zS Tryz.prog 42 (.ptr h.next 0) (.agg [td,od]) (h.new h.next (.row [.nilsl, .nilsl]))=some (h.new h.next (.row [td,od])):=zZ zOr (by omega) rfl rfl (by show(td.flat&&(od.flat&&true))=true;rw[(zJ F1).2.2,(zJ F2).2.2];rfl)
 obtain⟨G,hG,hGr,hGn⟩:∃G,h.new h.next (.row [td,od])=G∧G.at' h.next=some (.row [td,od])∧h.next<G.next:=⟨_,rfl,zK _ _ _,by rw[zD];omega⟩
 rw[hG] at hst
 have hvi:=zIG I
 have hfi:=zRJ I
 have hco:=zK7 I
 have hck:=fun {w:Vio} {cw:List D} (hw:w.Is cw)=>zRI I hw
 have hfo:=zM4 e2 v
 generalize h.next=n1 at *
 clear htd hod F1 F2 hnt hy hk hrem hkk hG e00 e0 m0
 unfold zIH at hfi
 rw[e2] at hfi
 unfold zII at hco
 rw[e1] at hco
 simp only[beq_self_eq_true,Bool.not_true,Bool.false_eq_true,if_false] at hfi hco
 rw[zDD] at hfi hco
 have hve:zIF c fs y=if decide (((zIh c fs y).length:Int)>1024)=true then 10 else 0:=by unfold zIF;rw[e2];rfl
 cases v1:decide (((zIh c fs y).length:Int)>1024) with
 |true=>
  rw[v1,if_pos rfl] at hve
  rw[hve] at hvi
  repeat' first|simp only[go_sem,mu3, *]|apply bc<;>intro hc
  refine(hvi _).mono ?_
  rintro r h2 ⟨hq,l,rfl,_,hl2⟩
  have hl3:=hl2 (by decide)
  subst hl3 hq
  clear hl2
  repeat' first|simp only[go_sem,mu3, *]|apply bc<;>intro hc
 |false=>
 rw[v1,if_neg (by simp)] at hve
 rw[hve] at hvi
 have hn1:(zCe c fs y).length≤1024:=by have:=of_decide_eq_false v1;rw[zDD,zDU] at this;omega
 clear hve v1
 repeat' first|simp only[go_sem,mu3, *]|apply bc<;>intro hc
 refine(hvi _).mono ?_
 rintro r h ⟨hq,l,rfl,hl2,_⟩
 subst hq
 have hls:=(hl2 rfl).isSl
 rw[zDD] at hls
 have hll:=zK6 hls
 obtain⟨L,hLL⟩:∃L,zCe c fs y=L:=⟨_,rfl⟩
 have hbef:∀i (hi:i+1<L.length),zFf (L[i]'(by omega)) L[i+1]=true:=by subst hLL;exact fun i hi=>zOR hi
 have hacc:∀w∈L,zDF c fs y w=0:=by subst hLL;exact fun w hw=>(zJh e2 w).2 hw
 have hvis:∀w∈L,w.Is w.cells:=by subst hLL;exact zQB
 obtain⟨num,lx,hh,_,hlf,_⟩:=zaj (c:=c) (fs:=fs) (y:=y)
 rw[zDD] at hh
 rw[hh] at hfi
 obtain⟨sm,hsm⟩:∃b,(vcs (zCe c fs y)).head?.isSome=b:=⟨_,rfl⟩
 rw[hsm] at hfi hco
 have hst2:zS Tryz.prog 33 (.ptr h.next 0) (.agg [.int .i64 num,lx]) (h.new h.next (.row [.int .i64 0, .nilsl]))=some (h.new h.next (.row [.int .i64 num,lx])):=zZ qt (by omega) rfl rfl (by show(true&&(lx.flat&&true))=true;rw[hlf];rfl)
 obtain⟨G2,hG2,r1,r2,hn2⟩:∃G2,h.new h.next (.row [.int .i64 num,lx])=G2∧G2.at' n1=some (.row [td,od])∧G2.at' h.next=some (.row [.int .i64 num,lx])∧n1<G2.next:=⟨_,rfl,by rw[zE (by omega)];exact hGr,zK _ _ _,by rw[zD];omega⟩
 rw[hG2] at hst2
 rw[hLL] at hls hll hh hsm hn1 hfo
 have hfl:∀w∈L,w.facts.length≤1048576:=fun w hw=>by obtain⟨_,_,_,q⟩:=hvis w hw;exact q
 clear hLL
 have hB1:neB true true=false:=rfl
 have hB2:neB false false=false:=rfl
 clear hl2 hG2 hvi hF hok1 e1 e2 hst
 repeat' first|simp only[go_sem,mu3, *]|apply bc<;>intro hc|(refine zA.mono (hfi _) ?_;rintro r h ⟨hq,rfl⟩)|(refine zA.mono (hco _) ?_;rintro r h ⟨hq2,rfl⟩)
 refine zCC (fun fr' h'=>fr' 112= .bool false∧fr' 1=x∧fr' 4= .iptr [ca,cb,ce,cp] 0∧fr' 7= .iptr [.int .i64 v.row,vd] 0∧fr' 11= .ptr n1 0∧fr' 12=l∧h'=G2) ?_ ?_
 ·clear hbef hacc hvis hfo hck hvd hv hlv hT
  have hwz:IntKind.i64.wrap ((0:Int)+0)=0:=rfl
  cases L with
  |nil=>
   have hs0:sm=false:=by rw[←hsm];rfl
   subst hs0
   have hl0:∀h,zBy Tryz.prog 45 l h=some (.int .i64 0):=hll
   clear hll hh hsm
   refine zj Heap.emp [(0, .no,false),(1, .no,false),(2, .no,false),(3, .no,false),(4, .no,false),(5, .no,false),(6, .no,false),(7, .no,false),(8, .no,false),(9, .no,false),(10, .no,false),(11, .no,false),(12, .no,false),(13, .no,false),(14, .no,false),(15, .no,false),(16, .no,false),(17, .no,false),(18, .no,false),(19, .no,false),(20, .no,false),(21, .no,false),(22, .no,false),(23, .no,false),(24, .no,false),(27, .no,false),(25, .no,false),(26, .no,false),(28, .no,false),(29, .no,false),(30, .no,false),(31, .no,false),(32, .no,false)] (by kernel_rfl) (by kernel_rfl) (hle _) ?_
   repeat' first|simp only[go_sem,mu3, *]|apply bc<;>intro hc
  |cons v0 rest=>
   have hs0:sm=true:=by rw[←hsm];rfl
   subst hs0
   have hh0:v0.cells= [.int .i64 num,lx]:=hh
   have hlc:(((v0::rest).length:Nat):Int)>0:=by simp only[List.length_cons];omega
   have h0:(((((v0::rest).length:Nat):Int))==0)=false:=by rw[beq_eq_false_iff_ne];omega
   have h1:decide ((((v0::rest).length:Nat):Int)>0)=true:=decide_eq_true hlc
   obtain⟨d1,hd1,hd2⟩:=ze2 hls (by simp)
   have hbs:∀nid h,zM Tryz.prog false nid 45 1 [(0, .agg [.int .i64 num,lx])] h=some (.sl 2 [[.int .i64 num,lx]] .full,h):=fun nid h=>yT qU zDL qt rfl rfl (by omega) (by omega) rfl rfl
   have hws:zY 2 (vcs [v0]) (.sl 2 [[.int .i64 num,lx]] .full):=by
    have:vcs [v0]= [[.int .i64 num,lx]]:=by simp only[vcs,List.map_cons,List.map_nil,hh0]
    rw[this];exact zY.mk _
   have hsame:=zUb hd2 hws (by simp) (fun w hw=>hfl w (List.mem_of_mem_take hw)) G2
   generalize(((v0::rest).length:Nat):Int)=N at *
   clear hh hsm hls hlc hd2 hws hh0
   refine zj Heap.emp [(0, .no,false),(1, .no,false),(2, .no,false),(3, .no,false),(4, .no,false),(5, .no,false),(6, .no,false),(7, .no,false),(8, .no,false),(9, .no,false),(10, .no,false),(11, .no,false),(12, .no,false),(13, .no,false),(14, .no,false),(15, .no,false),(16, .no,false),(17, .no,false),(18, .no,false),(19, .no,false),(20, .no,false),(21, .no,false),(22, .no,false),(23, .no,false),(24, .no,false),(27, .no,false),(25, .no,false),(26, .no,false),(28, .no,false),(29, .no,false),(30, .no,false),(31, .no,false),(32, .no,false)] (by kernel_rfl) (by kernel_rfl) (hle _) ?_
   repeat' first|simp only[go_sem,mu3, *]|apply bc<;>intro hc
   refine hsame.mono ?_
   rintro r h3 ⟨hq3,b,rfl,hb⟩
   have hb:=hb.2 rfl
   subst hb hq3
   clear hsame
   repeat' first|simp only[go_sem,mu3, *]|apply bc<;>intro hc
 rintro fr h3 ⟨f112,f1,f4,f7,f11,f12,hq⟩
 subst hq
 clear hst2 hlf hh hsm hB1 hB2 hfi hco r2
 repeat' first|simp only[go_sem,mu3, *]|apply bc<;>intro hc
 clear f112
 have hle2:=hle
 refine zF (fun i fr h=>fr 1=x∧fr 4= .iptr [ca,cb,ce,cp] 0∧fr 7= .iptr [.int .i64 v.row,vd] 0∧fr 11= .ptr n1 0∧fr 12=l∧fr 113=l∧fr 114= .int .i64 (L.length:Int)∧fr 115= .int .i64 (i:Int)∧h.at' n1=some (.row [td,od])∧n1<h.next) L.length (by omega) ?_ ?_ ?_
 ·simp only[go_sem,mu3,true_and,and_true,Int.ofNat_zero,f1,f4,f7,f11,f12,r1,hn2]
 ·clear f1 f4 f7 f11 f12 r1 hn2
  rintro i fr h hlt ec ew ⟨f1,f4,f7,f11,f12,f113,f114,f115,hr1,hn3⟩
  have a1:=zMz hls hlt
  have hw:=hvis _ (List.getElem_mem hlt)
  have hcw:=hck hw
  rw[hacc _ (List.getElem_mem hlt)] at hcw
  have hfc:(L[i]).cells= [.int .i64 (L[i]).row, .sl 1 (qZ (L[i]).facts) .no]:=rfl
  rw[hfc] at a1 hcw
  have hst3:zS Tryz.prog 33 (.ptr h.next 0) (.agg [.int .i64 (L[i]).row, .sl 1 (qZ (L[i]).facts) .no]) (h.new h.next (.row [.int .i64 0, .nilsl]))=some (h.new h.next (.row [.int .i64 (L[i]).row, .sl 1 (qZ (L[i]).facts) .no])):=zZ qt (by omega) rfl rfl rfl
  obtain⟨G3,hG3,q1,q2,hn4⟩:∃G3,h.new h.next (.row [.int .i64 (L[i]).row, .sl 1 (qZ (L[i]).facts) .no])=G3∧G3.at' n1=some (.row [td,od])∧G3.at' h.next=some (.row [.int .i64 (L[i]).row, .sl 1 (qZ (L[i]).facts) .no])∧n1<G3.next:=⟨_,rfl,by rw[zE (by omega)];exact hr1,zK _ _ _,by rw[zD];omega⟩
  rw[hG3] at hst3
  rcases i with _|j
  ·have h0:decide (((0:Nat):Int)>0)=false:=rfl
   generalize L[0]=w at *
   clear hG3 hbef hacc hvis hfo hck hw hfc
   repeat' first|simp only[go_sem,mu3, *]|apply bc<;>intro hc
   refine zj Heap.emp [(0, .no,false),(1, .no,false),(2, .no,false),(8, .no,false),(3, .no,false),(4, .no,false),(5, .no,false),(6, .no,false),(7, .no,false),(9, .no,false),(10, .no,false),(11, .no,false),(12, .no,false),(13, .no,false),(15, .no,false),(16, .no,false),(14, .no,false),(17, .no,false),(18, .no,false),(19, .no,false)] (by kernel_rfl) (by kernel_rfl) (hle _) ?_
   repeat' first|simp only[go_sem,mu3, *]|apply bc<;>intro hc|(refine zA.mono (hcw _) ?_;rintro r h ⟨hq,rfl⟩)
  ·have h0:decide (((j+1:Nat):Int)>0)=true:=decide_eq_true (by omega)
   have ew2:IntKind.i64.wrap (((j+1:Nat):Int)-1)=(j:Int):=by rw[zX (by omega) (by omega)];omega
   have a2:=zMz hls (i:=j) (by omega)
   have hw2:=hvis _ (List.getElem_mem (show j<L.length by omega))
   have hbe:=zOQ hw2 hw
   rw[hbef j hlt] at hbe
   have hfc2:(L[j]'(by omega)).cells= [.int .i64 (L[j]'(by omega)).row, .sl 1 (qZ (L[j]'(by omega)).facts) .no]:=rfl
   rw[hfc2] at a2 hbe
   rw[hfc] at hbe
   clear hG3 hbef hacc hvis hfo hck hw hfc hw2 hfc2
   generalize L[j+1]=w at *
   generalize L[j]=w2 at *
   repeat' first|simp only[go_sem,mu3, *]|apply bc<;>intro hc
   refine zj Heap.emp [(0, .no,false),(1, .no,false),(2, .no,false),(8, .no,false),(3, .no,false),(4, .no,false),(5, .no,false),(6, .no,false),(7, .no,false),(9, .no,false),(10, .no,false),(11, .no,false),(12, .no,false),(13, .no,false),(15, .no,false),(16, .no,false),(14, .no,false),(17, .no,false),(18, .no,false),(19, .no,false)] (by kernel_rfl) (by kernel_rfl) (hle _) ?_
   repeat' first|simp only[go_sem,mu3, *]|apply bc<;>intro hc|(refine zA.mono (hbe _) ?_;rintro r h ⟨hq,rfl⟩)|(refine zA.mono (hcw _) ?_;rintro r h ⟨hq,rfl⟩)
 ·clear f1 f4 f7 f11 f12 r1 hn2
  rintro fr h ec ⟨f1,f4,f7,f11,f12,f113,f114,f115,hr1,hn3⟩
  have hcf:=zDE hls (by omega) (f:=19) (cap:=[.iptr [.int .i64 v.row,vd] 0]) (p:=fun w=>w.row==v.row&&w.facts==v.facts) fun s hs h=>zUf hv (hvis s hs) h
  rw[hfo] at hcf
  have hcv2:=hck hv
  obtain⟨X,hX⟩:∃X,(zDF c fs y v==0)=X:=⟨_,rfl⟩
  have hXX:eqB X X=true:=by cases X<;>rfl
  have hT':=hT h
  clear hbef hacc hvis hck hfo hll hT
  repeat' first|simp only[go_sem,mu3, *]|apply bc<;>intro hc|(refine zA.mono (hcf _) ?_;rintro r h ⟨hq,rfl⟩)|(refine zA.mono (hcv2 _) ?_;rintro r h ⟨hq,rfl⟩)
end Go.V
