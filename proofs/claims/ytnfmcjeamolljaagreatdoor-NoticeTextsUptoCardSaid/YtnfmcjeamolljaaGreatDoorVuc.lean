/- The contract of the reference for merged notices. No condition. -/
import Derived.Test.YtnfmcjeamolljaaGreatDoorVub
import Derived.Test.YtnfmcjeamolljaaGreatDoorVrd
import Derived.Test.YtnfmcjeamolljaaGreatDoorVrc
set_option linter.unusedSimpArgs false
set_option linter.unusedVariables false
set_option linter.constructorNameAsVariable false
set_option linter.deprecated false
namespace Go.V
open Go.Proofs
set_option maxRecDepth 100000
set_option linter.unusedSimpArgs false
set_option linter.unusedVariables false

/-! licitref44.Merge. -/
theorem Own.set {h0 h : Heap} {sz : Nat} {xs : List (List D)} {d : D} (ho : Own h0 h sz xs d) {id : Nat} {o : Obj} (hi : h0.next ≤ id) (hr : h.at' id = some o) (hne : o ≠ .tok) (o' : Obj) : Own h0 (h.set id o') sz xs d :=
  ⟨ho.1.set hi _, ho.2.1.loc (Nat.le_refl _) fun i ht => set_keep fun e => by subst e; have := (ho.2.1.tok ht).2; rw [hr] at this; exact hne (Option.some.inj this), ho.2.2⟩
theorem Fin.isSl2 {l : List (List UInt8)} {d : D} (h : Fin 1 (strs l) d) : IsSl 1 (strs l) d := h.isSl
/-- The row r of the notice that is built, and the row q of the result. -/
def MH (g : Heap) (n : Note) (h : Heap) : Prop :=
  Ext g h ∧ g.next + 1 < h.next ∧ h.at' g.next = some (.row nil4) ∧ ∃ a b c e, h.at' (g.next + 1) = some (.row [a, b, c, e]) ∧ Fin 1 (strs n.ls) a ∧ Own g h 1 (strs n.ts) b ∧ Fin 1 (strs n.hs) c ∧ Fin 1 (strs n.cs) e
theorem mh_set {g h : Heap} {n : Note} {a b c e : D} {old : List D} (hE : Ext g h) (hn : g.next + 1 < h.next) (hq : h.at' g.next = some (.row nil4)) (hr : h.at' (g.next + 1) = some (.row old)) (ha : Fin 1 (strs n.ls) a) (hb : Own g h 1 (strs n.ts) b) (hc : Fin 1 (strs n.hs) c) (he : Fin 1 (strs n.cs) e) :
    MH g n (h.set (g.next + 1) (.row [a, b, c, e])) :=
  ⟨hE.set (by omega) _, hn, by rw [set_keep (by omega)]; exact hq, a, b, c, e, set_at_same _ _ _, ha, hb.set (by omega) hr (by simp) _, hc, he⟩
theorem MH.ext {g h h' : Heap} {n : Note} (hM : MH g n h) (he : Ext h h') : MH g n h' := by
  obtain ⟨hE, hn, hq, p, q, r, s, hrow, hp, hO, hr, hs⟩ := hM
  exact ⟨hE.trans he, Nat.lt_of_lt_of_le hn he.1, by rw [he.2 _ (by omega)]; exact hq, p, q, r, s, by rw [he.2 _ hn]; exact hrow, hp, hO.ext he, hr, hs⟩
theorem fin_strip {l : List (List UInt8)} {d : D} (h : Fin 1 (strs l) d) : below 0 (strip d) ∧ IsSl 1 (strs l) (strip d) := by
  rcases h with ⟨rfl, e⟩ | rfl
  · exact ⟨trivial, .inl ⟨rfl, e⟩⟩
  · have := strip_plainE (sz := 1) (xs := strs l) strs_plain .no
    rw [this.1]
    exact ⟨this.2, IsSl.mk _⟩
theorem merge_note2 {g h : Heap} {n : Note} {a b c e : D} (h1 : Fin 1 (strs n.ls) a) (h2 : Own g h 1 (strs n.ts) b) (h3 : Fin 1 (strs n.hs) c) (h4 : Fin 1 (strs n.cs) e) : below 0 (strip (.tuple [.agg [a, b, c, e], .int .i64 0])) ∧ MergeQ (n, 0) (strip (.tuple [.agg [a, b, c, e], .int .i64 0])) := by
  have es : strip (.tuple [.agg [a, b, c, e], .int .i64 0]) = .tuple [.agg [strip a, strip b, strip c, strip e], .int .i64 0] := by simp [strip, stripL]
  rw [es]
  have q1 := fin_strip h1
  have q2 := h2.2.1.fin strs_plain
  have q3 := fin_strip h3
  have q4 := fin_strip h4
  refine ⟨by simp [below, belowL, q1.1, q2.1, q3.1, q4.1], _, rfl, _, _, _, _, rfl, q1.2, q2.2.isSl, q3.2, q4.2⟩
theorem inc_inj {l : List (List UInt8)} (h : Inc l) {i j : Nat} (hi : i < l.length) (hj : j < l.length) (e : l[i] = l[j]) : i = j := by
  have hp := List.pairwise_iff_getElem.1 h
  rcases Nat.lt_trichotomy i j with q | q | q
  · exact absurd (hp i j hi hj q) (by rw [e]; exact str_lt_irrefl _)
  · exact q
  · exact absurd (hp j i hj hi q) (by rw [e]; exact str_lt_irrefl _)
theorem Own.strK {h0 h : Heap} {l : List (List UInt8)} {d : D} {x : List UInt8} {K : D → Heap → Prop} {w : HidR K} (ho : Own h0 h 1 (strs l) d) (hl : l.length ≤ 16777216)
    (hK : ∀ d' h', Own h0 h' 1 (strs (l ++ [x])) d' → h.next ≤ h'.next → (∀ i, i < h.next → (i < h0.next ∨ h.at' i ≠ some .tok) → h'.at' i = h.at' i) → d'.cells = [d'] → d'.flat = true → K d' h') : onRH (vappend Tryz.prog false h.next 22 d (.sl 1 [[.str x]] .full) h) K w :=
  Owns.str (pre := []) (post := []) ⟨fun p hp => by rcases List.mem_singleton.1 hp with rfl; exact ⟨ho.2.1, ho.2.2⟩, by simp⟩ ho.1.1 hl fun d' h' o n k c f =>
    hK d' h' ⟨⟨Nat.le_trans ho.1.1 n, fun i hi => by rw [k i (Nat.lt_of_lt_of_le hi ho.1.1) (.inl hi)]; exact ho.1.2 i hi⟩, (o.1 _ List.mem_cons_self).1, (o.1 _ List.mem_cons_self).2⟩ n k c f
/-- Two lists behind one another. -/
theorem strs_one1 (l : List (List UInt8)) : ∀ x ∈ strs l, x.length = 1 := fun x hx => by
  obtain ⟨s, _, rfl⟩ := List.mem_map.1 hx; rfl
theorem app_full {y : List (List UInt8)} {d : D} (hd : IsSl 1 (strs y) d) (hy : y.length ≤ 1048576) (h : Heap) :
    ∃ c1 h1, vappend Tryz.prog false h.next 22 (.sl 1 [] .full) d h = some (c1, h1) ∧ ((c1 = .sl 1 [] .full ∧ y = [] ∧ h1 = h) ∨ (c1 = .sl 1 (strs y) (.own h.next) ∧ h1 = h.new h.next .tok)) := by
  rcases hd with ⟨rfl, e⟩ | ⟨tk, rfl⟩
  · have e0 : y = [] := List.map_eq_nil_iff.1 e
    refine ⟨_, _, ?_, .inl ⟨rfl, e0, rfl⟩⟩
    simp [vappend, elemT_22, zokT_9, szT_9, vels, vappendE]
  · have hc := vappend_copy (P := Tryz.prog) (t := 22) (tk := tk) (h := h) (nid := h.next) elemT_22 zokT_9 szT_9 (by omega) (strs_one1 y) (by simp only [strs_length, bytesT_9]; unfold lim; omega) (by simp only [strs_length]; unfold lim; omega)
    rw [strs_length] at hc
    by_cases e0 : y = []
    · subst e0
      exact ⟨_, _, hc, .inl ⟨rfl, rfl, rfl⟩⟩
    · rw [if_neg (fun q => e0 (List.length_eq_zero_iff.1 q))] at hc
      exact ⟨_, _, hc, .inr ⟨rfl, rfl⟩⟩
theorem app_own {x y : List (List UInt8)} {d : D} {t : Nat} (hd : IsSl 1 (strs y) d) (hx : x.length ≤ 1048576) (hy : y.length ≤ 1048576) {h : Heap} (ht : h.at' t = some .tok) :
    vappend Tryz.prog false h.next 22 (.sl 1 (strs x) (.own t)) d h = some (.sl 1 (strs (x ++ y)) (.own h.next), (h.del t).new h.next .tok) := by
  rcases hd with ⟨rfl, e⟩ | ⟨tk, rfl⟩
  · have e0 : y = [] := List.map_eq_nil_iff.1 e
    subst e0
    simp [vappend, elemT_22, zokT_9, szT_9, vels, vappendE, ht, strs_length, bytesT_9, chunks]
    unfold lim; omega
  · have hch := chunks_flat (strs_one1 y)
    rw [strs_length] at hch
    simp only [vappend, elemT_22, zokT_9, szT_9, vels, if_true, flat_len (strs_one1 y), Nat.mul_div_cancel _ (show 0 < 1 by omega), vappendE, ht, strs_length, hch, bytesT_9, strs_app]
    rw [if_pos (by simp; unfold lim; omega)]
    simp
theorem cat2 {x y : List (List UInt8)} {c d : D} (hc : IsSl 1 (strs x) c) (hd : IsSl 1 (strs y) d) (hx : x.length ≤ 1048576) (hy : y.length ≤ 1048576) (h : Heap) :
    ∃ c1 h1 c2 h2, vappend Tryz.prog false h.next 22 (.sl 1 [] .full) c h = some (c1, h1) ∧ vappend Tryz.prog false h1.next 22 c1 d h1 = some (c2, h2) ∧ IsSl 1 (strs (x ++ y)) c2 ∧ Ext h h2 := by
  obtain ⟨c1, h1, p1, q1⟩ := app_full hc hx h
  rcases q1 with ⟨rfl, rfl, rfl⟩ | ⟨rfl, rfl⟩
  · obtain ⟨c2, h2, p2, q2⟩ := app_full hd hy h1
    refine ⟨_, _, _, _, p1, p2, ?_⟩
    rcases q2 with ⟨rfl, rfl, rfl⟩ | ⟨rfl, rfl⟩
    · exact ⟨IsSl.mk _, Ext.refl _⟩
    · exact ⟨IsSl.mk _, (Ext.refl _).new (Nat.le_refl _) _⟩
  · refine ⟨_, _, _, _, p1, app_own hd hx hy (new_at _ _ _), IsSl.mk _, ?_⟩
    have e1 : (h.new h.next .tok).next = h.next + 1 := next_new_eq _ _
    exact (((Ext.refl h).new (Nat.le_refl _) _).del (Nat.le_refl _)).new (by rw [e1]; omega) _

set_option maxHeartbeats 4000000 in
theorem c_refMerge {a b : Note} {x y : D} (hx : IsNote a x) (hy : IsNote b y) (hsa : a.Sm) (hsb : b.Sm) (g : Heap) :
    VCall Tryz.prog 12 [x, y] g fun r h' => h' = g ∧ MergeQ (mergeS a b) r := by
  refine VCall.pure (by kernel_rfl) fun hok => VCall.strip ?_
  have hca := c_refCheck hx hsa
  have hcb := c_refCheck hy hsb
  obtain ⟨a1, a2, a3, a4, rfl, ha1, ha2, ha3, ha4⟩ := hx
  obtain ⟨b1, b2, b3, b4, rfl, hb1, hb2, hb3, hb4⟩ := hy
  have hvp : ∀ a b c e : D, vpart true 4 [a, b, c, e] 0 = some (.agg [a, b, c, e]) := fun a b c e => vpart_whole rfl (by omega)
  have hb0 : vbuild Tryz.prog 24 [] = some (.agg nil4) := by simp [vbuild, placesT_24, zeroT_24, vfill, D.notTuple, D.cells]
  have hst0 : ∀ (H : Heap) (i : Nat), vstore Tryz.prog 24 (.ptr i 0) (.agg nil4) (H.new i (.row nil4)) = some (H.new i (.row nil4)) := fun H i => vstore_new szT_24 (by omega) rfl rfl rfl
  have hstq : ∀ {H : Heap} {p q r s : D}, H.at' g.next = some (.row nil4) → p.flat = true → q.flat = true → r.flat = true → s.flat = true → vstore Tryz.prog 24 (.ptr g.next 0) (.agg [p, q, r, s]) H = some (H.set g.next (.row [p, q, r, s])) := fun hq h1 h2 h3 h4 => vstore_whole hq szT_24 rfl (by simp) (flat4 h1 h2 h3 h4)
  have hE0 : Ext g (g.new g.next (.row nil4)) := (Ext.refl g).new (Nat.le_refl _) _
  have zero : ∀ e : Int, below g.next (strip (.tuple [.agg nil4, .int .i64 e])) ∧ MergeQ (.zero, e) (strip (.tuple [.agg nil4, .int .i64 e])) := fun e => by
    have := merge_zero (n := (.zero, e)) rfl
    exact ⟨below_mono (Nat.zero_le _) _ this.1, this.2⟩
  refine VCall.of_fn (g := cfg12) mix Tryz.func12 ok12 rfl rfl ?_
  simp only [Tryz.f12, Option.getD_some]
  by_cases k1 : checkS a = 0
  case neg =>
    have e1 : (checkS a == 0) = false := by simpa using k1
    have hm : mergeS a b = (.zero, checkS a) := by unfold mergeS; rw [if_pos k1]
    clear hcb
    repeat' first
      | (simp only [go_sem, Nat.reduceEqDiff, Int.reduceBEq, Int.reduceLT, Int.reduceLE, Int.reduceGT, Int.reduceGE, ↓reduceIte, Nat.reduceAdd, Nat.zero_add, Nat.reduceBEq, List.getElem?_cons_zero, List.getElem?_cons_succ, List.contains_cons, List.contains_nil, vpart_false, vextract, decide_true, decide_false, bne, Bool.or_false, Bool.or_true, Bool.false_or, Bool.true_or, Bool.or_self, Bool.false_and, Bool.true_and, Bool.and_false, Bool.and_true, Bool.and_self, Bool.not_true, Bool.not_false, Bool.not_not, vfieldAddr, D.notTuple, D.cells, mu12, new_at, *])
      | (refine onBH_caseN (fun hc => ?_) (fun hc => ?_))
      | (refine onBH_case (fun hc => ?_) (fun hc => ?_))
      | (refine gifH_caseNT (fun hc => ?_) (fun hc => ?_))
      | (refine gifH_caseNF (fun hc => ?_) (fun hc => ?_))
      | (refine gifH_caseT (fun hc => ?_) (fun hc => ?_))
      | (refine gifH_caseF (fun hc => ?_) (fun hc => ?_))
      | (refine VCall.mono (hca _) ?_; rintro r h ⟨rfl, rfl⟩)
  have e1 : (checkS a == 0) = true := by simpa using k1
  by_cases k2 : checkS b = 0
  case neg =>
    have e2 : (checkS b == 0) = false := by simpa using k2
    have hm : mergeS a b = (.zero, checkS b) := by unfold mergeS; rw [if_neg (by simp [k1]), if_pos k2]
    repeat' first
      | (simp only [go_sem, Nat.reduceEqDiff, Int.reduceBEq, Int.reduceLT, Int.reduceLE, Int.reduceGT, Int.reduceGE, ↓reduceIte, Nat.reduceAdd, Nat.zero_add, Nat.reduceBEq, List.getElem?_cons_zero, List.getElem?_cons_succ, List.contains_cons, List.contains_nil, vpart_false, vextract, decide_true, decide_false, bne, Bool.or_false, Bool.or_true, Bool.false_or, Bool.true_or, Bool.or_self, Bool.false_and, Bool.true_and, Bool.and_false, Bool.and_true, Bool.and_self, Bool.not_true, Bool.not_false, Bool.not_not, vfieldAddr, D.notTuple, D.cells, mu12, new_at, *])
      | (refine onBH_caseN (fun hc => ?_) (fun hc => ?_))
      | (refine onBH_case (fun hc => ?_) (fun hc => ?_))
      | (refine gifH_caseNT (fun hc => ?_) (fun hc => ?_))
      | (refine gifH_caseNF (fun hc => ?_) (fun hc => ?_))
      | (refine gifH_caseT (fun hc => ?_) (fun hc => ?_))
      | (refine gifH_caseF (fun hc => ?_) (fun hc => ?_))
      | (refine VCall.mono (hca _) ?_; rintro r h ⟨rfl, rfl⟩)
      | (refine VCall.mono (hcb _) ?_; rintro r h ⟨rfl, rfl⟩)
  have e2 : (checkS b == 0) = true := by simpa using k2
  repeat' first
    | (simp only [go_sem, Nat.reduceEqDiff, Int.reduceBEq, Int.reduceLT, Int.reduceLE, Int.reduceGT, Int.reduceGE, ↓reduceIte, Nat.reduceAdd, Nat.zero_add, Nat.reduceBEq, List.getElem?_cons_zero, List.getElem?_cons_succ, List.contains_cons, List.contains_nil, vpart_false, vextract, decide_true, decide_false, bne, Bool.or_false, Bool.or_true, Bool.false_or, Bool.true_or, Bool.or_self, Bool.false_and, Bool.true_and, Bool.and_false, Bool.and_true, Bool.and_self, Bool.not_true, Bool.not_false, Bool.not_not, vfieldAddr, D.notTuple, D.cells, mu12, new_at, *])
    | (refine onBH_caseN (fun hc => ?_) (fun hc => ?_))
    | (refine onBH_case (fun hc => ?_) (fun hc => ?_))
    | (refine gifH_caseNT (fun hc => ?_) (fun hc => ?_))
    | (refine gifH_caseNF (fun hc => ?_) (fun hc => ?_))
    | (refine gifH_caseT (fun hc => ?_) (fun hc => ?_))
    | (refine gifH_caseF (fun hc => ?_) (fun hc => ?_))
    | (refine VCall.mono (hca _) ?_; rintro r h ⟨rfl, rfl⟩)
    | (refine VCall.mono (hcb _) ?_; rintro r h ⟨rfl, rfl⟩)
  obtain ⟨H, hH, hM⟩ : ∃ H, (g.new g.next (.row nil4)).new (g.new g.next (.row nil4)).next (.row nil4) = H ∧ MH g ⟨addsT [] (a.ls.take 0), [], [], []⟩ H := by
    have e3 : (g.new g.next (.row nil4)).next = g.next + 1 := next_new_eq _ _
    rw [e3]
    refine ⟨_, rfl, hE0.new (by omega) _, ?_, ?_, .nilsl, .nilsl, .nilsl, .nilsl, new_at _ _ _, .inl ⟨rfl, rfl⟩, Own.start (hE0.new (by omega) _) 1, .inl ⟨rfl, rfl⟩, .inl ⟨rfl, rfl⟩⟩
    · rw [next_new_ge _ (by rw [e3]; exact Nat.le_refl _)]; omega
    · rw [new_keep (by omega)]; exact new_at _ _ _
  have e3 : (g.new g.next (.row nil4)).next = g.next + 1 := next_new_eq _ _
  rw [hH]
  have la := len_strs ha1
  have lb := len_strs hb1
  have c1 := check_ok k1
  have c2 := check_ok k2
  clear hca hcb hE0 hst0 hH e1 e2
  refine vwp_count (fun i fr h => fr 2 = .iptr [a1, a2, a3, a4] 0 ∧ fr 3 = .iptr [b1, b2, b3, b4] 0 ∧ fr 4 = .ptr g.next 0 ∧ fr 8 = .ptr (g.next + 1) 0 ∧ fr 9 = .int .i64 (i : Int) ∧ MH g ⟨addsT [] (a.ls.take i), [], [], []⟩ h ∧
    ∀ i' (hi : i' < a.ls.length) (hi2 : i' < a.ts.length) j (hj : j < b.ls.length) (hj2 : j < b.ts.length), i' < i → b.ls[j] = a.ls[i'] → b.ts[j] = a.ts[i']) a.ls.length (by omega) ?_ ?_ ?_
  · simp only [go_sem, Nat.reduceEqDiff, Int.reduceBEq, Int.reduceLT, Int.reduceLE, Int.reduceGT, Int.reduceGE, ↓reduceIte, Nat.reduceAdd, Nat.zero_add, Nat.reduceBEq, List.getElem?_cons_zero, List.getElem?_cons_succ, List.contains_cons, List.contains_nil, vpart_false, vextract, decide_true, decide_false, bne, Bool.or_false, Bool.or_true, Bool.false_or, Bool.true_or, Bool.or_self, Bool.false_and, Bool.true_and, Bool.and_false, Bool.and_true, Bool.and_self, Bool.not_true, Bool.not_false, Bool.not_not, vfieldAddr, D.notTuple, D.cells, mu12, true_and, and_true, Int.ofNat_zero]
    exact ⟨by rw [← e3], hM, by omega⟩
  · clear hM e3
    rintro i fr h hlt e2 ew ⟨f2, f3, f4, f8, f9, hM, hcon⟩
    have hat1 := at_strs ha1 hlt
    have hltT : i < a.ts.length := by omega
    have hat2 := at_strs ha2 hltT
    have hix := c_refIndex hb1 (by omega) a.ls[i]
    obtain ⟨hE, hn, hq, p, q, r, s, hrow, hp, hO, hr, hs⟩ := hM
    simp only at hp hO hr hs
    have hal := addsT_len [] (a.ls.take i)
    rw [List.length_take, List.length_nil] at hal
    have hadd := c_refAddText hp.isSl (by omega) a.ls[i]
    rw [← addsT_succ [] hlt] at hadd
    rcases idxS_cases b.ls a.ls[i] with ⟨hi, hno⟩ | ⟨j, hi, hjl, hje⟩
    · rw [hi] at hix
      have e4 : decide ((-1 : Int) ≥ 0) = false := rfl
      have hcon' : ∀ i' (hi : i' < a.ls.length) (hi2 : i' < a.ts.length) j (hj : j < b.ls.length) (hj2 : j < b.ts.length), i' < i + 1 → b.ls[j] = a.ls[i'] → b.ts[j] = a.ts[i'] := fun i' hi hi2 j hj hj2 hlt' he => by
        rcases Nat.lt_succ_iff_lt_or_eq.1 hlt' with q | rfl
        · exact hcon i' hi hi2 j hj hj2 q he
        · exact absurd (he ▸ List.getElem_mem hj) hno
      clear hcon hno hi
      repeat' first
        | (simp only [go_sem, Nat.reduceEqDiff, Int.reduceBEq, Int.reduceLT, Int.reduceLE, Int.reduceGT, Int.reduceGE, ↓reduceIte, Nat.reduceAdd, Nat.zero_add, Nat.reduceBEq, List.getElem?_cons_zero, List.getElem?_cons_succ, List.contains_cons, List.contains_nil, vpart_false, vextract, decide_true, decide_false, bne, Bool.or_false, Bool.or_true, Bool.false_or, Bool.true_or, Bool.or_self, Bool.false_and, Bool.true_and, Bool.and_false, Bool.and_true, Bool.and_self, Bool.not_true, Bool.not_false, Bool.not_not, vfieldAddr, D.notTuple, D.cells, mu12, *])
        | (refine onBH_caseN (fun hc => ?_) (fun hc => ?_))
        | (refine onBH_case (fun hc => ?_) (fun hc => ?_))
        | (refine gifH_caseNT (fun hc => ?_) (fun hc => ?_))
        | (refine gifH_caseNF (fun hc => ?_) (fun hc => ?_))
        | (refine gifH_caseT (fun hc => ?_) (fun hc => ?_))
        | (refine gifH_caseF (fun hc => ?_) (fun hc => ?_))
      refine vwp_text (by kernel_rfl) ?_
      repeat' first
        | (simp only [go_sem, Nat.reduceEqDiff, Int.reduceBEq, Int.reduceLT, Int.reduceLE, Int.reduceGT, Int.reduceGE, ↓reduceIte, Nat.reduceAdd, Nat.zero_add, Nat.reduceBEq, List.getElem?_cons_zero, List.getElem?_cons_succ, List.contains_cons, List.contains_nil, vpart_false, vextract, decide_true, decide_false, bne, Bool.or_false, Bool.or_true, Bool.false_or, Bool.true_or, Bool.or_self, Bool.false_and, Bool.true_and, Bool.and_false, Bool.and_true, Bool.and_self, Bool.not_true, Bool.not_false, Bool.not_not, vfieldAddr, D.notTuple, D.cells, mu12, *])
        | (refine onBH_caseN (fun hc => ?_) (fun hc => ?_))
        | (refine onBH_case (fun hc => ?_) (fun hc => ?_))
        | (refine gifH_caseNT (fun hc => ?_) (fun hc => ?_))
        | (refine gifH_caseNF (fun hc => ?_) (fun hc => ?_))
        | (refine gifH_caseT (fun hc => ?_) (fun hc => ?_))
        | (refine gifH_caseF (fun hc => ?_) (fun hc => ?_))
        | (refine VCall.mono (hix _) ?_; rintro r h ⟨rfl, rfl⟩)
      refine vwp_text (by kernel_rfl) ?_
      repeat' first
        | (simp only [go_sem, Nat.reduceEqDiff, Int.reduceBEq, Int.reduceLT, Int.reduceLE, Int.reduceGT, Int.reduceGE, ↓reduceIte, Nat.reduceAdd, Nat.zero_add, Nat.reduceBEq, List.getElem?_cons_zero, List.getElem?_cons_succ, List.contains_cons, List.contains_nil, vpart_false, vextract, decide_true, decide_false, bne, Bool.or_false, Bool.or_true, Bool.false_or, Bool.true_or, Bool.or_self, Bool.false_and, Bool.true_and, Bool.and_false, Bool.and_true, Bool.and_self, Bool.not_true, Bool.not_false, Bool.not_not, vfieldAddr, D.notTuple, D.cells, mu12, *])
        | (refine onBH_caseN (fun hc => ?_) (fun hc => ?_))
        | (refine onBH_case (fun hc => ?_) (fun hc => ?_))
        | (refine gifH_caseNT (fun hc => ?_) (fun hc => ?_))
        | (refine gifH_caseNF (fun hc => ?_) (fun hc => ?_))
        | (refine gifH_caseT (fun hc => ?_) (fun hc => ?_))
        | (refine gifH_caseF (fun hc => ?_) (fun hc => ?_))
      refine vwp_text (by kernel_rfl) ?_
      repeat' first
        | (simp only [go_sem, Nat.reduceEqDiff, Int.reduceBEq, Int.reduceLT, Int.reduceLE, Int.reduceGT, Int.reduceGE, ↓reduceIte, Nat.reduceAdd, Nat.zero_add, Nat.reduceBEq, List.getElem?_cons_zero, List.getElem?_cons_succ, List.contains_cons, List.contains_nil, vpart_false, vextract, decide_true, decide_false, bne, Bool.or_false, Bool.or_true, Bool.false_or, Bool.true_or, Bool.or_self, Bool.false_and, Bool.true_and, Bool.and_false, Bool.and_true, Bool.and_self, Bool.not_true, Bool.not_false, Bool.not_not, vfieldAddr, D.notTuple, D.cells, mu12, *])
        | (refine onBH_caseN (fun hc => ?_) (fun hc => ?_))
        | (refine onBH_case (fun hc => ?_) (fun hc => ?_))
        | (refine gifH_caseNT (fun hc => ?_) (fun hc => ?_))
        | (refine gifH_caseNF (fun hc => ?_) (fun hc => ?_))
        | (refine gifH_caseT (fun hc => ?_) (fun hc => ?_))
        | (refine gifH_caseF (fun hc => ?_) (fun hc => ?_))
      refine (hadd _).mono ?_
      rintro x h ⟨rfl, hF⟩
      have hst : vstore Tryz.prog 22 (.ptr (g.next + 1) 0) x h = some (h.set (g.next + 1) (.row [x, q, r, s])) := by
        rw [vstore_cell hrow szT_22 (by simp) (flatSl hF.isSl).2.1 (flatSl hF.isSl).1]; rfl
      have hM' : MH g ⟨addsT [] (a.ls.take (i + 1)), [], [], []⟩ (h.set (g.next + 1) (.row [x, q, r, s])) := mh_set hE hn hq hrow hF hO hr hs
      clear hE hn hq hrow hp hO hr hs hadd hix hal
      repeat' first
        | (simp only [go_sem, Nat.reduceEqDiff, Int.reduceBEq, Int.reduceLT, Int.reduceLE, Int.reduceGT, Int.reduceGE, ↓reduceIte, Nat.reduceAdd, Nat.zero_add, Nat.reduceBEq, List.getElem?_cons_zero, List.getElem?_cons_succ, List.contains_cons, List.contains_nil, vpart_false, vextract, decide_true, decide_false, bne, Bool.or_false, Bool.or_true, Bool.false_or, Bool.true_or, Bool.or_self, Bool.false_and, Bool.true_and, Bool.and_false, Bool.and_true, Bool.and_self, Bool.not_true, Bool.not_false, Bool.not_not, vfieldAddr, D.notTuple, D.cells, mu12, *])
        | (refine onBH_caseN (fun hc => ?_) (fun hc => ?_))
        | (refine onBH_case (fun hc => ?_) (fun hc => ?_))
        | (refine gifH_caseNT (fun hc => ?_) (fun hc => ?_))
        | (refine gifH_caseNF (fun hc => ?_) (fun hc => ?_))
        | (refine gifH_caseT (fun hc => ?_) (fun hc => ?_))
        | (refine gifH_caseF (fun hc => ?_) (fun hc => ?_))
      exact fun i' hi hi2 j hj hj2 => hcon' i' hi (by omega) j hj (by omega)
    · rw [hi] at hix
      have e4 : decide ((j : Int) ≥ 0) = true := decide_eq_true (by omega)
      have hjlT : j < b.ts.length := by omega
      have hat3 := at_strs hb2 hjlT
      by_cases he2 : b.ts[j] = a.ts[i]
      case neg =>
        have e5 : (b.ts[j] == a.ts[i]) = false := beq_eq_false_iff_ne.2 he2
        have hm := merge_conf k1 k2 hlt hjl hltT hjlT hje he2
        have hsz := hstq (p := .nilsl) (q := .nilsl) (r := .nilsl) (s := .nilsl) hq rfl rfl rfl rfl
        have hE2 := hE.set (id := g.next) (Nat.le_refl _) (.row nil4)
        clear hcon hje hi he2 hadd hE hn hrow hp hO hr hs hal hstq
        repeat' first
          | (simp only [go_sem, Nat.reduceEqDiff, Int.reduceBEq, Int.reduceLT, Int.reduceLE, Int.reduceGT, Int.reduceGE, ↓reduceIte, Nat.reduceAdd, Nat.zero_add, Nat.reduceBEq, List.getElem?_cons_zero, List.getElem?_cons_succ, List.contains_cons, List.contains_nil, vpart_false, vextract, decide_true, decide_false, bne, Bool.or_false, Bool.or_true, Bool.false_or, Bool.true_or, Bool.or_self, Bool.false_and, Bool.true_and, Bool.and_false, Bool.and_true, Bool.and_self, Bool.not_true, Bool.not_false, Bool.not_not, vfieldAddr, D.notTuple, D.cells, mu12, *])
          | (refine onBH_caseN (fun hc => ?_) (fun hc => ?_))
          | (refine onBH_case (fun hc => ?_) (fun hc => ?_))
          | (refine gifH_caseNT (fun hc => ?_) (fun hc => ?_))
          | (refine gifH_caseNF (fun hc => ?_) (fun hc => ?_))
          | (refine gifH_caseT (fun hc => ?_) (fun hc => ?_))
          | (refine gifH_caseF (fun hc => ?_) (fun hc => ?_))
        refine vwp_text (by kernel_rfl) ?_
        repeat' first
          | (simp only [go_sem, Nat.reduceEqDiff, Int.reduceBEq, Int.reduceLT, Int.reduceLE, Int.reduceGT, Int.reduceGE, ↓reduceIte, Nat.reduceAdd, Nat.zero_add, Nat.reduceBEq, List.getElem?_cons_zero, List.getElem?_cons_succ, List.contains_cons, List.contains_nil, vpart_false, vextract, decide_true, decide_false, bne, Bool.or_false, Bool.or_true, Bool.false_or, Bool.true_or, Bool.or_self, Bool.false_and, Bool.true_and, Bool.and_false, Bool.and_true, Bool.and_self, Bool.not_true, Bool.not_false, Bool.not_not, vfieldAddr, D.notTuple, D.cells, mu12, *])
          | (refine onBH_caseN (fun hc => ?_) (fun hc => ?_))
          | (refine onBH_case (fun hc => ?_) (fun hc => ?_))
          | (refine gifH_caseNT (fun hc => ?_) (fun hc => ?_))
          | (refine gifH_caseNF (fun hc => ?_) (fun hc => ?_))
          | (refine gifH_caseT (fun hc => ?_) (fun hc => ?_))
          | (refine gifH_caseF (fun hc => ?_) (fun hc => ?_))
          | (refine VCall.mono (hix _) ?_; rintro r h ⟨rfl, rfl⟩)
        refine vwp_text (by kernel_rfl) ?_
        repeat' first
          | (simp only [go_sem, Nat.reduceEqDiff, Int.reduceBEq, Int.reduceLT, Int.reduceLE, Int.reduceGT, Int.reduceGE, ↓reduceIte, Nat.reduceAdd, Nat.zero_add, Nat.reduceBEq, List.getElem?_cons_zero, List.getElem?_cons_succ, List.contains_cons, List.contains_nil, vpart_false, vextract, decide_true, decide_false, bne, Bool.or_false, Bool.or_true, Bool.false_or, Bool.true_or, Bool.or_self, Bool.false_and, Bool.true_and, Bool.and_false, Bool.and_true, Bool.and_self, Bool.not_true, Bool.not_false, Bool.not_not, vfieldAddr, D.notTuple, D.cells, mu12, set_at_same, *])
          | (refine onBH_caseN (fun hc => ?_) (fun hc => ?_))
          | (refine onBH_case (fun hc => ?_) (fun hc => ?_))
          | (refine gifH_caseNT (fun hc => ?_) (fun hc => ?_))
          | (refine gifH_caseNF (fun hc => ?_) (fun hc => ?_))
          | (refine gifH_caseT (fun hc => ?_) (fun hc => ?_))
          | (refine gifH_caseF (fun hc => ?_) (fun hc => ?_))
      have e5 : (b.ts[j] == a.ts[i]) = true := by rw [he2]; simp
      have hcon' : ∀ i' (hi : i' < a.ls.length) (hi2 : i' < a.ts.length) j (hj : j < b.ls.length) (hj2 : j < b.ts.length), i' < i + 1 → b.ls[j] = a.ls[i'] → b.ts[j] = a.ts[i'] := fun i' hi hi2 j' hj hj2 hlt' he => by
        rcases Nat.lt_succ_iff_lt_or_eq.1 hlt' with q | rfl
        · exact hcon i' hi hi2 j' hj hj2 q he
        · have : j' = j := inc_inj c2.2.2.2.2.1 hj hjl (he.trans hje.symm)
          subst this
          exact he2
      clear hcon hje hi he2
      repeat' first
        | (simp only [go_sem, Nat.reduceEqDiff, Int.reduceBEq, Int.reduceLT, Int.reduceLE, Int.reduceGT, Int.reduceGE, ↓reduceIte, Nat.reduceAdd, Nat.zero_add, Nat.reduceBEq, List.getElem?_cons_zero, List.getElem?_cons_succ, List.contains_cons, List.contains_nil, vpart_false, vextract, decide_true, decide_false, bne, Bool.or_false, Bool.or_true, Bool.false_or, Bool.true_or, Bool.or_self, Bool.false_and, Bool.true_and, Bool.and_false, Bool.and_true, Bool.and_self, Bool.not_true, Bool.not_false, Bool.not_not, vfieldAddr, D.notTuple, D.cells, mu12, *])
        | (refine onBH_caseN (fun hc => ?_) (fun hc => ?_))
        | (refine onBH_case (fun hc => ?_) (fun hc => ?_))
        | (refine gifH_caseNT (fun hc => ?_) (fun hc => ?_))
        | (refine gifH_caseNF (fun hc => ?_) (fun hc => ?_))
        | (refine gifH_caseT (fun hc => ?_) (fun hc => ?_))
        | (refine gifH_caseF (fun hc => ?_) (fun hc => ?_))
      refine vwp_text (by kernel_rfl) ?_
      repeat' first
        | (simp only [go_sem, Nat.reduceEqDiff, Int.reduceBEq, Int.reduceLT, Int.reduceLE, Int.reduceGT, Int.reduceGE, ↓reduceIte, Nat.reduceAdd, Nat.zero_add, Nat.reduceBEq, List.getElem?_cons_zero, List.getElem?_cons_succ, List.contains_cons, List.contains_nil, vpart_false, vextract, decide_true, decide_false, bne, Bool.or_false, Bool.or_true, Bool.false_or, Bool.true_or, Bool.or_self, Bool.false_and, Bool.true_and, Bool.and_false, Bool.and_true, Bool.and_self, Bool.not_true, Bool.not_false, Bool.not_not, vfieldAddr, D.notTuple, D.cells, mu12, *])
        | (refine onBH_caseN (fun hc => ?_) (fun hc => ?_))
        | (refine onBH_case (fun hc => ?_) (fun hc => ?_))
        | (refine gifH_caseNT (fun hc => ?_) (fun hc => ?_))
        | (refine gifH_caseNF (fun hc => ?_) (fun hc => ?_))
        | (refine gifH_caseT (fun hc => ?_) (fun hc => ?_))
        | (refine gifH_caseF (fun hc => ?_) (fun hc => ?_))
        | (refine VCall.mono (hix _) ?_; rintro r h ⟨rfl, rfl⟩)
      refine vwp_text (by kernel_rfl) ?_
      repeat' first
        | (simp only [go_sem, Nat.reduceEqDiff, Int.reduceBEq, Int.reduceLT, Int.reduceLE, Int.reduceGT, Int.reduceGE, ↓reduceIte, Nat.reduceAdd, Nat.zero_add, Nat.reduceBEq, List.getElem?_cons_zero, List.getElem?_cons_succ, List.contains_cons, List.contains_nil, vpart_false, vextract, decide_true, decide_false, bne, Bool.or_false, Bool.or_true, Bool.false_or, Bool.true_or, Bool.or_self, Bool.false_and, Bool.true_and, Bool.and_false, Bool.and_true, Bool.and_self, Bool.not_true, Bool.not_false, Bool.not_not, vfieldAddr, D.notTuple, D.cells, mu12, *])
        | (refine onBH_caseN (fun hc => ?_) (fun hc => ?_))
        | (refine onBH_case (fun hc => ?_) (fun hc => ?_))
        | (refine gifH_caseNT (fun hc => ?_) (fun hc => ?_))
        | (refine gifH_caseNF (fun hc => ?_) (fun hc => ?_))
        | (refine gifH_caseT (fun hc => ?_) (fun hc => ?_))
        | (refine gifH_caseF (fun hc => ?_) (fun hc => ?_))
      refine vwp_text (by kernel_rfl) ?_
      repeat' first
        | (simp only [go_sem, Nat.reduceEqDiff, Int.reduceBEq, Int.reduceLT, Int.reduceLE, Int.reduceGT, Int.reduceGE, ↓reduceIte, Nat.reduceAdd, Nat.zero_add, Nat.reduceBEq, List.getElem?_cons_zero, List.getElem?_cons_succ, List.contains_cons, List.contains_nil, vpart_false, vextract, decide_true, decide_false, bne, Bool.or_false, Bool.or_true, Bool.false_or, Bool.true_or, Bool.or_self, Bool.false_and, Bool.true_and, Bool.and_false, Bool.and_true, Bool.and_self, Bool.not_true, Bool.not_false, Bool.not_not, vfieldAddr, D.notTuple, D.cells, mu12, *])
        | (refine onBH_caseN (fun hc => ?_) (fun hc => ?_))
        | (refine onBH_case (fun hc => ?_) (fun hc => ?_))
        | (refine gifH_caseNT (fun hc => ?_) (fun hc => ?_))
        | (refine gifH_caseNF (fun hc => ?_) (fun hc => ?_))
        | (refine gifH_caseT (fun hc => ?_) (fun hc => ?_))
        | (refine gifH_caseF (fun hc => ?_) (fun hc => ?_))
      refine (hadd _).mono ?_
      rintro x h ⟨rfl, hF⟩
      have hst : vstore Tryz.prog 22 (.ptr (g.next + 1) 0) x h = some (h.set (g.next + 1) (.row [x, q, r, s])) := by
        rw [vstore_cell hrow szT_22 (by simp) (flatSl hF.isSl).2.1 (flatSl hF.isSl).1]; rfl
      have hM' : MH g ⟨addsT [] (a.ls.take (i + 1)), [], [], []⟩ (h.set (g.next + 1) (.row [x, q, r, s])) := mh_set hE hn hq hrow hF hO hr hs
      clear hE hn hq hrow hp hO hr hs hadd hix hal
      repeat' first
        | (simp only [go_sem, Nat.reduceEqDiff, Int.reduceBEq, Int.reduceLT, Int.reduceLE, Int.reduceGT, Int.reduceGE, ↓reduceIte, Nat.reduceAdd, Nat.zero_add, Nat.reduceBEq, List.getElem?_cons_zero, List.getElem?_cons_succ, List.contains_cons, List.contains_nil, vpart_false, vextract, decide_true, decide_false, bne, Bool.or_false, Bool.or_true, Bool.false_or, Bool.true_or, Bool.or_self, Bool.false_and, Bool.true_and, Bool.and_false, Bool.and_true, Bool.and_self, Bool.not_true, Bool.not_false, Bool.not_not, vfieldAddr, D.notTuple, D.cells, mu12, *])
        | (refine onBH_caseN (fun hc => ?_) (fun hc => ?_))
        | (refine onBH_case (fun hc => ?_) (fun hc => ?_))
        | (refine gifH_caseNT (fun hc => ?_) (fun hc => ?_))
        | (refine gifH_caseNF (fun hc => ?_) (fun hc => ?_))
        | (refine gifH_caseT (fun hc => ?_) (fun hc => ?_))
        | (refine gifH_caseF (fun hc => ?_) (fun hc => ?_))
      exact fun i' hi hi2 j hj hj2 => hcon' i' hi (by omega) j hj (by omega)
  · rintro fr h e2 ⟨f2, f3, f4, f8, f9, hM, hcon⟩
    obtain ⟨m, hm⟩ := merge_con k1 k2 fun i hi hi2 j hj hj2 he => hcon i hi hi2 j hj hj2 hi he
    have hM : MH g ⟨addsT [] (a.ls ++ b.ls.take 0), [], [], []⟩ h := by
      rw [List.take_length] at hM
      simpa using hM
    clear hcon e3
    rename MH g ⟨addsT [] (a.ls.take 0), [], [], []⟩ H => hM0
    clear hM0
    simp only [go_sem, Nat.reduceEqDiff, Int.reduceBEq, Int.reduceLT, Int.reduceLE, Int.reduceGT, Int.reduceGE, ↓reduceIte, Nat.reduceAdd, Nat.zero_add, Nat.reduceBEq, List.getElem?_cons_zero, List.getElem?_cons_succ, List.contains_cons, List.contains_nil, vpart_false, vextract, decide_true, decide_false, bne, Bool.or_false, Bool.or_true, Bool.false_or, Bool.true_or, Bool.or_self, Bool.false_and, Bool.true_and, Bool.and_false, Bool.and_true, Bool.and_self, Bool.not_true, Bool.not_false, Bool.not_not, vfieldAddr, D.notTuple, D.cells, mu12, f2, f3, f4, f8, f9, e2, la]
    refine vwp_count (fun i fr h => fr 2 = .iptr [a1, a2, a3, a4] 0 ∧ fr 3 = .iptr [b1, b2, b3, b4] 0 ∧ fr 4 = .ptr g.next 0 ∧ fr 8 = .ptr (g.next + 1) 0 ∧ fr 11 = .int .i64 (i : Int) ∧ MH g ⟨addsT [] (a.ls ++ b.ls.take i), [], [], []⟩ h) b.ls.length (by omega) ?_ ?_ ?_
    · simp only [go_sem, Nat.reduceEqDiff, Int.reduceBEq, Int.reduceLT, Int.reduceLE, Int.reduceGT, Int.reduceGE, ↓reduceIte, Nat.reduceAdd, Nat.zero_add, Nat.reduceBEq, List.getElem?_cons_zero, List.getElem?_cons_succ, List.contains_cons, List.contains_nil, vpart_false, vextract, decide_true, decide_false, bne, Bool.or_false, Bool.or_true, Bool.false_or, Bool.true_or, Bool.or_self, Bool.false_and, Bool.true_and, Bool.and_false, Bool.and_true, Bool.and_self, Bool.not_true, Bool.not_false, Bool.not_not, vfieldAddr, D.notTuple, D.cells, mu12, true_and, and_true, Int.ofNat_zero]
      exact ⟨f2, f3, f4, f8, hM⟩
    · clear hM f2 f3 f4 f8 f9 e2
      rintro i fr h hlt e2 ew ⟨f2, f3, f4, f8, f11, hM⟩
      have hat1 := at_strs hb1 hlt
      obtain ⟨hE, hn, hq, p, q, r, s, hrow, hp, hO, hr, hs⟩ := hM
      simp only at hp hO hr hs
      have hal := addsT_len [] (a.ls ++ b.ls.take i)
      rw [List.length_append, List.length_take, List.length_nil] at hal
      have hadd := c_refAddText hp.isSl (by omega) b.ls[i]
      rw [show addT (addsT [] (a.ls ++ b.ls.take i)) b.ls[i] = addsT [] (a.ls ++ b.ls.take (i + 1)) by rw [addsT_app, addsT_app, addsT_succ _ hlt]] at hadd
      repeat' first
        | (simp only [go_sem, Nat.reduceEqDiff, Int.reduceBEq, Int.reduceLT, Int.reduceLE, Int.reduceGT, Int.reduceGE, ↓reduceIte, Nat.reduceAdd, Nat.zero_add, Nat.reduceBEq, List.getElem?_cons_zero, List.getElem?_cons_succ, List.contains_cons, List.contains_nil, vpart_false, vextract, decide_true, decide_false, bne, Bool.or_false, Bool.or_true, Bool.false_or, Bool.true_or, Bool.or_self, Bool.false_and, Bool.true_and, Bool.and_false, Bool.and_true, Bool.and_self, Bool.not_true, Bool.not_false, Bool.not_not, vfieldAddr, D.notTuple, D.cells, mu12, *])
        | (refine onBH_caseN (fun hc => ?_) (fun hc => ?_))
        | (refine onBH_case (fun hc => ?_) (fun hc => ?_))
        | (refine gifH_caseNT (fun hc => ?_) (fun hc => ?_))
        | (refine gifH_caseNF (fun hc => ?_) (fun hc => ?_))
        | (refine gifH_caseT (fun hc => ?_) (fun hc => ?_))
        | (refine gifH_caseF (fun hc => ?_) (fun hc => ?_))
      refine vwp_text (by kernel_rfl) ?_
      repeat' first
        | (simp only [go_sem, Nat.reduceEqDiff, Int.reduceBEq, Int.reduceLT, Int.reduceLE, Int.reduceGT, Int.reduceGE, ↓reduceIte, Nat.reduceAdd, Nat.zero_add, Nat.reduceBEq, List.getElem?_cons_zero, List.getElem?_cons_succ, List.contains_cons, List.contains_nil, vpart_false, vextract, decide_true, decide_false, bne, Bool.or_false, Bool.or_true, Bool.false_or, Bool.true_or, Bool.or_self, Bool.false_and, Bool.true_and, Bool.and_false, Bool.and_true, Bool.and_self, Bool.not_true, Bool.not_false, Bool.not_not, vfieldAddr, D.notTuple, D.cells, mu12, *])
        | (refine onBH_caseN (fun hc => ?_) (fun hc => ?_))
        | (refine onBH_case (fun hc => ?_) (fun hc => ?_))
        | (refine gifH_caseNT (fun hc => ?_) (fun hc => ?_))
        | (refine gifH_caseNF (fun hc => ?_) (fun hc => ?_))
        | (refine gifH_caseT (fun hc => ?_) (fun hc => ?_))
        | (refine gifH_caseF (fun hc => ?_) (fun hc => ?_))
      refine (hadd _).mono ?_
      rintro x h ⟨rfl, hF⟩
      have hst : vstore Tryz.prog 22 (.ptr (g.next + 1) 0) x h = some (h.set (g.next + 1) (.row [x, q, r, s])) := by
        rw [vstore_cell hrow szT_22 (by simp) (flatSl hF.isSl).2.1 (flatSl hF.isSl).1]; rfl
      have hM' : MH g ⟨addsT [] (a.ls ++ b.ls.take (i + 1)), [], [], []⟩ (h.set (g.next + 1) (.row [x, q, r, s])) := mh_set hE hn hq hrow hF hO hr hs
      clear hE hn hq hrow hp hO hr hs hadd hal
      repeat' first
        | (simp only [go_sem, Nat.reduceEqDiff, Int.reduceBEq, Int.reduceLT, Int.reduceLE, Int.reduceGT, Int.reduceGE, ↓reduceIte, Nat.reduceAdd, Nat.zero_add, Nat.reduceBEq, List.getElem?_cons_zero, List.getElem?_cons_succ, List.contains_cons, List.contains_nil, vpart_false, vextract, decide_true, decide_false, bne, Bool.or_false, Bool.or_true, Bool.false_or, Bool.true_or, Bool.or_self, Bool.false_and, Bool.true_and, Bool.and_false, Bool.and_true, Bool.and_self, Bool.not_true, Bool.not_false, Bool.not_not, vfieldAddr, D.notTuple, D.cells, mu12, *])
        | (refine onBH_caseN (fun hc => ?_) (fun hc => ?_))
        | (refine onBH_case (fun hc => ?_) (fun hc => ?_))
        | (refine gifH_caseNT (fun hc => ?_) (fun hc => ?_))
        | (refine gifH_caseNF (fun hc => ?_) (fun hc => ?_))
        | (refine gifH_caseT (fun hc => ?_) (fun hc => ?_))
        | (refine gifH_caseF (fun hc => ?_) (fun hc => ?_))
    clear hM f2 f3 f4 f8 f9 e2
    rintro fr h e2 ⟨f2, f3, f4, f8, f11, hM⟩
    rw [List.take_length] at hM
    obtain ⟨S, hS⟩ : ∃ S, addsT [] (a.ls ++ b.ls) = S := ⟨_, rfl⟩
    rw [hS] at hM
    have hSl : S.length ≤ 2048 := by
      have := addsT_len [] (a.ls ++ b.ls)
      rw [hS, List.length_append, List.length_nil] at this
      omega
    have hSm : ∀ s, s ∈ S → s ∈ a.ls ∨ s ∈ b.ls := fun s hs => by
      rw [← hS, (addsT_both List.Pairwise.nil).2] at hs
      simpa using hs
    have hM : MH g ⟨S, (S.take 0).map (textM m), [], []⟩ h := hM
    simp only [go_sem, Nat.reduceEqDiff, Int.reduceBEq, Int.reduceLT, Int.reduceLE, Int.reduceGT, Int.reduceGE, ↓reduceIte, Nat.reduceAdd, Nat.zero_add, Nat.reduceBEq, List.getElem?_cons_zero, List.getElem?_cons_succ, List.contains_cons, List.contains_nil, vpart_false, vextract, decide_true, decide_false, bne, Bool.or_false, Bool.or_true, Bool.false_or, Bool.true_or, Bool.or_self, Bool.false_and, Bool.true_and, Bool.and_false, Bool.and_true, Bool.and_self, Bool.not_true, Bool.not_false, Bool.not_not, vfieldAddr, D.notTuple, D.cells, mu12, f2, f3, f4, f8, f11, e2, lb]
    refine vwp_count (fun i fr h => fr 2 = .iptr [a1, a2, a3, a4] 0 ∧ fr 3 = .iptr [b1, b2, b3, b4] 0 ∧ fr 4 = .ptr g.next 0 ∧ fr 8 = .ptr (g.next + 1) 0 ∧ fr 12 = .int .i64 (i : Int) ∧ MH g ⟨S, (S.take i).map (textM m), [], []⟩ h) S.length (by omega) ?_ ?_ ?_
    · simp only [go_sem, Nat.reduceEqDiff, Int.reduceBEq, Int.reduceLT, Int.reduceLE, Int.reduceGT, Int.reduceGE, ↓reduceIte, Nat.reduceAdd, Nat.zero_add, Nat.reduceBEq, List.getElem?_cons_zero, List.getElem?_cons_succ, List.contains_cons, List.contains_nil, vpart_false, vextract, decide_true, decide_false, bne, Bool.or_false, Bool.or_true, Bool.false_or, Bool.true_or, Bool.or_self, Bool.false_and, Bool.true_and, Bool.and_false, Bool.and_true, Bool.and_self, Bool.not_true, Bool.not_false, Bool.not_not, vfieldAddr, D.notTuple, D.cells, mu12, true_and, and_true, Int.ofNat_zero]
      exact ⟨f2, f3, f4, f8, hM⟩
    · clear hM f2 f3 f4 f8 f11 e2
      rintro i fr h hlt e2 ew ⟨f2, f3, f4, f8, f12, hM⟩
      obtain ⟨hE, hn, hq, p, q, r, s, hrow, hp, hO, hr, hs⟩ := hM
      simp only at hp hO hr hs
      have lp := len_strs hp.isSl
      have hat1 := at_strs hp.isSl hlt
      have htk : (S.take (i + 1)).map (textM m) = (S.take i).map (textM m) ++ [textM m S[i]] := by
        rw [List.take_succ_eq_append_getElem hlt, List.map_append]; rfl
      have hia := c_refIndex ha1 (by omega) S[i]
      rcases idxS_cases a.ls S[i] with ⟨hi, hno⟩ | ⟨j, hi, hjl, hje⟩
      · rw [hi] at hia
        have e4 : decide ((-1 : Int) ≥ 0) = false := rfl
        have hib := c_refIndex hb1 (by omega) S[i]
        have hmb : S[i] ∈ b.ls := (hSm _ (List.getElem_mem hlt)).resolve_left hno
        obtain ⟨j, hj, hjl, hje⟩ : ∃ j : Nat, idxS b.ls S[i] = (j : Int) ∧ ∃ h : j < b.ls.length, b.ls[j] = S[i] := by
          rcases idxS_cases b.ls S[i] with ⟨_, q⟩ | q
          · exact absurd hmb q
          · exact q
        rw [hj] at hib
        have hjT : j < b.ts.length := by omega
        have hat2 := at_strs hb2 hjT
        have htx := textM_b hm hjl hjT hje
        have l1 := eq_true (oneH_le hrow)
        clear hno hmb hj hje hi
        repeat' first
          | (simp only [go_sem, Nat.reduceEqDiff, Int.reduceBEq, Int.reduceLT, Int.reduceLE, Int.reduceGT, Int.reduceGE, ↓reduceIte, Nat.reduceAdd, Nat.zero_add, Nat.reduceBEq, List.getElem?_cons_zero, List.getElem?_cons_succ, List.contains_cons, List.contains_nil, vpart_false, vextract, decide_true, decide_false, bne, Bool.or_false, Bool.or_true, Bool.false_or, Bool.true_or, Bool.or_self, Bool.false_and, Bool.true_and, Bool.and_false, Bool.and_true, Bool.and_self, Bool.not_true, Bool.not_false, Bool.not_not, vfieldAddr, D.notTuple, D.cells, mu12, *])
          | (refine onBH_caseN (fun hc => ?_) (fun hc => ?_))
          | (refine onBH_case (fun hc => ?_) (fun hc => ?_))
          | (refine gifH_caseNT (fun hc => ?_) (fun hc => ?_))
          | (refine gifH_caseNF (fun hc => ?_) (fun hc => ?_))
          | (refine gifH_caseT (fun hc => ?_) (fun hc => ?_))
          | (refine gifH_caseF (fun hc => ?_) (fun hc => ?_))
        refine vwp_text (by kernel_rfl) ?_
        repeat' first
          | (simp only [go_sem, Nat.reduceEqDiff, Int.reduceBEq, Int.reduceLT, Int.reduceLE, Int.reduceGT, Int.reduceGE, ↓reduceIte, Nat.reduceAdd, Nat.zero_add, Nat.reduceBEq, List.getElem?_cons_zero, List.getElem?_cons_succ, List.contains_cons, List.contains_nil, vpart_false, vextract, decide_true, decide_false, bne, Bool.or_false, Bool.or_true, Bool.false_or, Bool.true_or, Bool.or_self, Bool.false_and, Bool.true_and, Bool.and_false, Bool.and_true, Bool.and_self, Bool.not_true, Bool.not_false, Bool.not_not, vfieldAddr, D.notTuple, D.cells, mu12, *])
          | (refine onBH_caseN (fun hc => ?_) (fun hc => ?_))
          | (refine onBH_case (fun hc => ?_) (fun hc => ?_))
          | (refine gifH_caseNT (fun hc => ?_) (fun hc => ?_))
          | (refine gifH_caseNF (fun hc => ?_) (fun hc => ?_))
          | (refine gifH_caseT (fun hc => ?_) (fun hc => ?_))
          | (refine gifH_caseF (fun hc => ?_) (fun hc => ?_))
          | (refine VCall.mono (hia _) ?_; rintro r h ⟨rfl, rfl⟩)
        refine vwp_plan (oneH (g.next + 1) (.row [p, q, r, s])) [(0, .no, true), (1, .st, true), (2, .no, true), (3, .st, true), (4, .no, true), (5, .no, true), (6, .no, true), (7, .no, true), (8, .no, true), (9, .no, true), (10, .no, true), (11, .no, true), (12, .no, true), (13, .no, true), (14, .no, true), (15, .no, true), (16, .no, true), (17, .no, false)] (by kernel_rfl) (by kernel_rfl) (oneH_le hrow) ?_
        repeat' first
          | (simp only [go_sem, Nat.reduceEqDiff, Int.reduceBEq, Int.reduceLT, Int.reduceLE, Int.reduceGT, Int.reduceGE, ↓reduceIte, Nat.reduceAdd, Nat.zero_add, Nat.reduceBEq, List.getElem?_cons_zero, List.getElem?_cons_succ, List.contains_cons, List.contains_nil, vpart_false, vextract, decide_true, decide_false, bne, Bool.or_false, Bool.or_true, Bool.false_or, Bool.true_or, Bool.or_self, Bool.false_and, Bool.true_and, Bool.and_false, Bool.and_true, Bool.and_self, Bool.not_true, Bool.not_false, Bool.not_not, vfieldAddr, D.notTuple, D.cells, mu12, oneH_at, one_str, *])
          | (refine onBH_caseN (fun hc => ?_) (fun hc => ?_))
          | (refine onBH_case (fun hc => ?_) (fun hc => ?_))
          | (refine gifH_caseNT (fun hc => ?_) (fun hc => ?_))
          | (refine gifH_caseNF (fun hc => ?_) (fun hc => ?_))
          | (refine gifH_caseT (fun hc => ?_) (fun hc => ?_))
          | (refine gifH_caseF (fun hc => ?_) (fun hc => ?_))
          | (refine VCall.mono (hib _) ?_; rintro r h ⟨rfl, rfl⟩)
        refine hO.strK (by simp; omega) fun d1 H2 hO2 n2 k2 c2' f2' => ?_
        have r2 : H2.at' (g.next + 1) = some (.row [p, q, r, s]) := by rw [k2 _ hn (.inr (by rw [hrow]; simp))]; exact hrow
        have q2 : H2.at' g.next = some (.row nil4) := by rw [k2 _ (by omega) (.inr (by rw [hq]; simp))]; exact hq
        have s1 : vstore Tryz.prog 22 (.ptr (g.next + 1) 1) d1 H2 = some (H2.set (g.next + 1) (.row [p, d1, r, s])) := by
          rw [vstore_cell r2 szT_22 (by simp) c2' f2']; rfl
        have hM' : MH g ⟨S, (S.take i).map (textM m) ++ [textM m S[i]], [], []⟩ (H2.set (g.next + 1) (.row [p, d1, r, s])) := mh_set hO2.1 (by omega) q2 r2 hp hO2 hr hs
        have l2 := eq_true (oneH_le r2)
        clear hE hn hq hrow hp hO hr hs hO2 k2 l1 htk q2
        repeat' first
          | (simp only [go_sem, Nat.reduceEqDiff, Int.reduceBEq, Int.reduceLT, Int.reduceLE, Int.reduceGT, Int.reduceGE, ↓reduceIte, Nat.reduceAdd, Nat.zero_add, Nat.reduceBEq, List.getElem?_cons_zero, List.getElem?_cons_succ, List.contains_cons, List.contains_nil, vpart_false, vextract, decide_true, decide_false, bne, Bool.or_false, Bool.or_true, Bool.false_or, Bool.true_or, Bool.or_self, Bool.false_and, Bool.true_and, Bool.and_false, Bool.and_true, Bool.and_self, Bool.not_true, Bool.not_false, Bool.not_not, vfieldAddr, D.notTuple, D.cells, mu12, oneH_at, one_str, *])
          | (refine onBH_caseN (fun hc => ?_) (fun hc => ?_))
          | (refine onBH_case (fun hc => ?_) (fun hc => ?_))
          | (refine gifH_caseNT (fun hc => ?_) (fun hc => ?_))
          | (refine gifH_caseNF (fun hc => ?_) (fun hc => ?_))
          | (refine gifH_caseT (fun hc => ?_) (fun hc => ?_))
          | (refine gifH_caseF (fun hc => ?_) (fun hc => ?_))
      · rw [hi] at hia
        have e4 : decide ((j : Int) ≥ 0) = true := decide_eq_true (by omega)
        have hjT : j < a.ts.length := by omega
        have hat2 := at_strs ha2 hjT
        have htx := textM_a hm hjl hjT hje
        clear hi hje
        repeat' first
          | (simp only [go_sem, Nat.reduceEqDiff, Int.reduceBEq, Int.reduceLT, Int.reduceLE, Int.reduceGT, Int.reduceGE, ↓reduceIte, Nat.reduceAdd, Nat.zero_add, Nat.reduceBEq, List.getElem?_cons_zero, List.getElem?_cons_succ, List.contains_cons, List.contains_nil, vpart_false, vextract, decide_true, decide_false, bne, Bool.or_false, Bool.or_true, Bool.false_or, Bool.true_or, Bool.or_self, Bool.false_and, Bool.true_and, Bool.and_false, Bool.and_true, Bool.and_self, Bool.not_true, Bool.not_false, Bool.not_not, vfieldAddr, D.notTuple, D.cells, mu12, *])
          | (refine onBH_caseN (fun hc => ?_) (fun hc => ?_))
          | (refine onBH_case (fun hc => ?_) (fun hc => ?_))
          | (refine gifH_caseNT (fun hc => ?_) (fun hc => ?_))
          | (refine gifH_caseNF (fun hc => ?_) (fun hc => ?_))
          | (refine gifH_caseT (fun hc => ?_) (fun hc => ?_))
          | (refine gifH_caseF (fun hc => ?_) (fun hc => ?_))
        refine vwp_text (by kernel_rfl) ?_
        repeat' first
          | (simp only [go_sem, Nat.reduceEqDiff, Int.reduceBEq, Int.reduceLT, Int.reduceLE, Int.reduceGT, Int.reduceGE, ↓reduceIte, Nat.reduceAdd, Nat.zero_add, Nat.reduceBEq, List.getElem?_cons_zero, List.getElem?_cons_succ, List.contains_cons, List.contains_nil, vpart_false, vextract, decide_true, decide_false, bne, Bool.or_false, Bool.or_true, Bool.false_or, Bool.true_or, Bool.or_self, Bool.false_and, Bool.true_and, Bool.and_false, Bool.and_true, Bool.and_self, Bool.not_true, Bool.not_false, Bool.not_not, vfieldAddr, D.notTuple, D.cells, mu12, *])
          | (refine onBH_caseN (fun hc => ?_) (fun hc => ?_))
          | (refine onBH_case (fun hc => ?_) (fun hc => ?_))
          | (refine gifH_caseNT (fun hc => ?_) (fun hc => ?_))
          | (refine gifH_caseNF (fun hc => ?_) (fun hc => ?_))
          | (refine gifH_caseT (fun hc => ?_) (fun hc => ?_))
          | (refine gifH_caseF (fun hc => ?_) (fun hc => ?_))
          | (refine VCall.mono (hia _) ?_; rintro r h ⟨rfl, rfl⟩)
        refine vwp_text (by kernel_rfl) ?_
        repeat' first
          | (simp only [go_sem, Nat.reduceEqDiff, Int.reduceBEq, Int.reduceLT, Int.reduceLE, Int.reduceGT, Int.reduceGE, ↓reduceIte, Nat.reduceAdd, Nat.zero_add, Nat.reduceBEq, List.getElem?_cons_zero, List.getElem?_cons_succ, List.contains_cons, List.contains_nil, vpart_false, vextract, decide_true, decide_false, bne, Bool.or_false, Bool.or_true, Bool.false_or, Bool.true_or, Bool.or_self, Bool.false_and, Bool.true_and, Bool.and_false, Bool.and_true, Bool.and_self, Bool.not_true, Bool.not_false, Bool.not_not, vfieldAddr, D.notTuple, D.cells, mu12, one_str, *])
          | (refine onBH_caseN (fun hc => ?_) (fun hc => ?_))
          | (refine onBH_case (fun hc => ?_) (fun hc => ?_))
          | (refine gifH_caseNT (fun hc => ?_) (fun hc => ?_))
          | (refine gifH_caseNF (fun hc => ?_) (fun hc => ?_))
          | (refine gifH_caseT (fun hc => ?_) (fun hc => ?_))
          | (refine gifH_caseF (fun hc => ?_) (fun hc => ?_))
        refine hO.strK (by simp; omega) fun d1 H2 hO2 n2 k2 c2' f2' => ?_
        have r2 : H2.at' (g.next + 1) = some (.row [p, q, r, s]) := by rw [k2 _ hn (.inr (by rw [hrow]; simp))]; exact hrow
        have q2 : H2.at' g.next = some (.row nil4) := by rw [k2 _ (by omega) (.inr (by rw [hq]; simp))]; exact hq
        have s1 : vstore Tryz.prog 22 (.ptr (g.next + 1) 1) d1 H2 = some (H2.set (g.next + 1) (.row [p, d1, r, s])) := by
          rw [vstore_cell r2 szT_22 (by simp) c2' f2']; rfl
        have hM' : MH g ⟨S, (S.take i).map (textM m) ++ [textM m S[i]], [], []⟩ (H2.set (g.next + 1) (.row [p, d1, r, s])) := mh_set hO2.1 (by omega) q2 r2 hp hO2 hr hs
        clear hE hn hq hrow hp hO hr hs hO2 k2 htk q2
        repeat' first
          | (simp only [go_sem, Nat.reduceEqDiff, Int.reduceBEq, Int.reduceLT, Int.reduceLE, Int.reduceGT, Int.reduceGE, ↓reduceIte, Nat.reduceAdd, Nat.zero_add, Nat.reduceBEq, List.getElem?_cons_zero, List.getElem?_cons_succ, List.contains_cons, List.contains_nil, vpart_false, vextract, decide_true, decide_false, bne, Bool.or_false, Bool.or_true, Bool.false_or, Bool.true_or, Bool.or_self, Bool.false_and, Bool.true_and, Bool.and_false, Bool.and_true, Bool.and_self, Bool.not_true, Bool.not_false, Bool.not_not, vfieldAddr, D.notTuple, D.cells, mu12, *])
          | (refine onBH_caseN (fun hc => ?_) (fun hc => ?_))
          | (refine onBH_case (fun hc => ?_) (fun hc => ?_))
          | (refine gifH_caseNT (fun hc => ?_) (fun hc => ?_))
          | (refine gifH_caseNF (fun hc => ?_) (fun hc => ?_))
          | (refine gifH_caseT (fun hc => ?_) (fun hc => ?_))
          | (refine gifH_caseF (fun hc => ?_) (fun hc => ?_))
    clear hM f2 f3 f4 f8 f11 e2
    rintro fr h e2 ⟨f2, f3, f4, f8, f12, hM⟩
    rw [List.take_length] at hM
    obtain ⟨T, hT⟩ : ∃ T, S.map (textM m) = T := ⟨_, rfl⟩
    rw [hT] at hM
    have hM1 := hM
    obtain ⟨hE, hn, hq, p, q, r, s, hrow, hp, hO, hr, hs⟩ := hM
    simp only at hp hO hr hs
    have lp := len_strs hp.isSl
    have bs3 : vbuildSlice Tryz.prog false h.next 22 0 [] h = some (.sl 1 [] .full, h) := by
      simp [vbuildSlice, elemT_22, zeroT_9, szT_9, repl, D.notTuple, D.cells, chunks, vfill]
    obtain ⟨d1, h1, d2, h2, p1, p2, hL, hE2⟩ := cat2 ha3 hb3 (by omega) (by omega) h
    simp only [go_sem, Nat.reduceEqDiff, Int.reduceBEq, Int.reduceLT, Int.reduceLE, Int.reduceGT, Int.reduceGE, ↓reduceIte, Nat.reduceAdd, Nat.zero_add, Nat.reduceBEq, List.getElem?_cons_zero, List.getElem?_cons_succ, List.contains_cons, List.contains_nil, vpart_false, vextract, decide_true, decide_false, bne, Bool.or_false, Bool.or_true, Bool.false_or, Bool.true_or, Bool.or_self, Bool.false_and, Bool.true_and, Bool.and_false, Bool.and_true, Bool.and_self, Bool.not_true, Bool.not_false, Bool.not_not, vfieldAddr, D.notTuple, D.cells, mu12, f2, f3, f4, f8, f12, e2, hrow, lp]
    refine vwp_plan Heap.emp [(0, .no, true), (1, .no, true), (2, .no, true), (4, .no, true), (5, .st, true), (3, .no, true), (6, .no, true), (7, .no, true)] (by kernel_rfl) (by kernel_rfl) (fun i ob e => by cases e) ?_
    have hle0 : ∀ h : Heap, HLe Heap.emp h := fun h i ob e => by cases e
    repeat' first
      | (simp only [go_sem, Nat.reduceEqDiff, Int.reduceBEq, Int.reduceLT, Int.reduceLE, Int.reduceGT, Int.reduceGE, ↓reduceIte, Nat.reduceAdd, Nat.zero_add, Nat.reduceBEq, List.getElem?_cons_zero, List.getElem?_cons_succ, List.contains_cons, List.contains_nil, vpart_false, vextract, decide_true, decide_false, bne, Bool.or_false, Bool.or_true, Bool.false_or, Bool.true_or, Bool.or_self, Bool.false_and, Bool.true_and, Bool.and_false, Bool.and_true, Bool.and_self, Bool.not_true, Bool.not_false, Bool.not_not, vfieldAddr, D.notTuple, D.cells, mu12, *])
      | (refine onBH_caseN (fun hc => ?_) (fun hc => ?_))
      | (refine onBH_case (fun hc => ?_) (fun hc => ?_))
      | (refine gifH_caseNT (fun hc => ?_) (fun hc => ?_))
      | (refine gifH_caseNF (fun hc => ?_) (fun hc => ?_))
      | (refine gifH_caseT (fun hc => ?_) (fun hc => ?_))
      | (refine gifH_caseF (fun hc => ?_) (fun hc => ?_))
    have hM : MH g ⟨S, T, addsT [] ((a.hs ++ b.hs).take 0), []⟩ h2 := hM1.ext hE2
    have lL := len_strs hL
    clear hM1 hE hn hq hrow hp hO hr hs lp bs3 p1 p2 hE2
    refine vwp_count (fun i fr h => fr 2 = .iptr [a1, a2, a3, a4] 0 ∧ fr 3 = .iptr [b1, b2, b3, b4] 0 ∧ fr 4 = .ptr g.next 0 ∧ fr 8 = .ptr (g.next + 1) 0 ∧ fr 14 = d2 ∧ fr 15 = .int .i64 (i : Int) ∧ MH g ⟨S, T, addsT [] ((a.hs ++ b.hs).take i), []⟩ h) (a.hs ++ b.hs).length (by simp only [List.length_append]; omega) ?_ ?_ ?_
    · simp only [go_sem, Nat.reduceEqDiff, Int.reduceBEq, Int.reduceLT, Int.reduceLE, Int.reduceGT, Int.reduceGE, ↓reduceIte, Nat.reduceAdd, Nat.zero_add, Nat.reduceBEq, List.getElem?_cons_zero, List.getElem?_cons_succ, List.contains_cons, List.contains_nil, vpart_false, vextract, decide_true, decide_false, bne, Bool.or_false, Bool.or_true, Bool.false_or, Bool.true_or, Bool.or_self, Bool.false_and, Bool.true_and, Bool.and_false, Bool.and_true, Bool.and_self, Bool.not_true, Bool.not_false, Bool.not_not, vfieldAddr, D.notTuple, D.cells, mu12, true_and, and_true, Int.ofNat_zero]
      exact ⟨f2, f3, f4, f8, hM⟩
    · clear hM f2 f3 f4 f8 f12 e2
      rintro i fr h hlt e2 ew ⟨f2, f3, f4, f8, f14, f15, hM⟩
      have hat1 := at_strs hL hlt
      obtain ⟨hE, hn, hq, p, q, r, s, hrow, hp, hO, hr, hs⟩ := hM
      simp only at hp hO hr hs
      have hal := addsT_len [] ((a.hs ++ b.hs).take i)
      rw [List.length_take, List.length_append, List.length_nil] at hal
      have hadd := c_refAddText hr.isSl (by omega) (a.hs ++ b.hs)[i]
      rw [← addsT_succ [] hlt] at hadd
      generalize (a.hs ++ b.hs)[i] = xi at *
      repeat' first
        | (simp only [go_sem, Nat.reduceEqDiff, Int.reduceBEq, Int.reduceLT, Int.reduceLE, Int.reduceGT, Int.reduceGE, ↓reduceIte, Nat.reduceAdd, Nat.zero_add, Nat.reduceBEq, List.getElem?_cons_zero, List.getElem?_cons_succ, List.contains_cons, List.contains_nil, vpart_false, vextract, decide_true, decide_false, bne, Bool.or_false, Bool.or_true, Bool.false_or, Bool.true_or, Bool.or_self, Bool.false_and, Bool.true_and, Bool.and_false, Bool.and_true, Bool.and_self, Bool.not_true, Bool.not_false, Bool.not_not, vfieldAddr, D.notTuple, D.cells, mu12, *])
        | (refine onBH_caseN (fun hc => ?_) (fun hc => ?_))
        | (refine onBH_case (fun hc => ?_) (fun hc => ?_))
        | (refine gifH_caseNT (fun hc => ?_) (fun hc => ?_))
        | (refine gifH_caseNF (fun hc => ?_) (fun hc => ?_))
        | (refine gifH_caseT (fun hc => ?_) (fun hc => ?_))
        | (refine gifH_caseF (fun hc => ?_) (fun hc => ?_))
      refine vwp_text (by kernel_rfl) ?_
      repeat' first
        | (simp only [go_sem, Nat.reduceEqDiff, Int.reduceBEq, Int.reduceLT, Int.reduceLE, Int.reduceGT, Int.reduceGE, ↓reduceIte, Nat.reduceAdd, Nat.zero_add, Nat.reduceBEq, List.getElem?_cons_zero, List.getElem?_cons_succ, List.contains_cons, List.contains_nil, vpart_false, vextract, decide_true, decide_false, bne, Bool.or_false, Bool.or_true, Bool.false_or, Bool.true_or, Bool.or_self, Bool.false_and, Bool.true_and, Bool.and_false, Bool.and_true, Bool.and_self, Bool.not_true, Bool.not_false, Bool.not_not, vfieldAddr, D.notTuple, D.cells, mu12, *])
        | (refine onBH_caseN (fun hc => ?_) (fun hc => ?_))
        | (refine onBH_case (fun hc => ?_) (fun hc => ?_))
        | (refine gifH_caseNT (fun hc => ?_) (fun hc => ?_))
        | (refine gifH_caseNF (fun hc => ?_) (fun hc => ?_))
        | (refine gifH_caseT (fun hc => ?_) (fun hc => ?_))
        | (refine gifH_caseF (fun hc => ?_) (fun hc => ?_))
      refine (hadd _).mono ?_
      rintro x h ⟨rfl, hF⟩
      have hst : vstore Tryz.prog 22 (.ptr (g.next + 1) 2) x h = some (h.set (g.next + 1) (.row [p, q, x, s])) := by
        rw [vstore_cell hrow szT_22 (by simp) (flatSl hF.isSl).2.1 (flatSl hF.isSl).1]; rfl
      have hM' : MH g ⟨S, T, addsT [] ((a.hs ++ b.hs).take (i + 1)), []⟩ (h.set (g.next + 1) (.row [p, q, x, s])) := mh_set hE hn hq hrow hp hO hF hs
      clear hE hn hq hrow hp hO hr hs hadd hal
      repeat' first
        | (simp only [go_sem, Nat.reduceEqDiff, Int.reduceBEq, Int.reduceLT, Int.reduceLE, Int.reduceGT, Int.reduceGE, ↓reduceIte, Nat.reduceAdd, Nat.zero_add, Nat.reduceBEq, List.getElem?_cons_zero, List.getElem?_cons_succ, List.contains_cons, List.contains_nil, vpart_false, vextract, decide_true, decide_false, bne, Bool.or_false, Bool.or_true, Bool.false_or, Bool.true_or, Bool.or_self, Bool.false_and, Bool.true_and, Bool.and_false, Bool.and_true, Bool.and_self, Bool.not_true, Bool.not_false, Bool.not_not, vfieldAddr, D.notTuple, D.cells, mu12, *])
        | (refine onBH_caseN (fun hc => ?_) (fun hc => ?_))
        | (refine onBH_case (fun hc => ?_) (fun hc => ?_))
        | (refine gifH_caseNT (fun hc => ?_) (fun hc => ?_))
        | (refine gifH_caseNF (fun hc => ?_) (fun hc => ?_))
        | (refine gifH_caseT (fun hc => ?_) (fun hc => ?_))
        | (refine gifH_caseF (fun hc => ?_) (fun hc => ?_))
    clear hM f2 f3 f4 f8 f12 e2
    rintro fr h e2 ⟨f2, f3, f4, f8, f14, f15, hM⟩
    rw [List.take_length] at hM
    obtain ⟨U, hU⟩ : ∃ U, addsT [] (a.hs ++ b.hs) = U := ⟨_, rfl⟩
    rw [hU] at hM
    have hM1 := hM
    clear hM
    have bs3 : vbuildSlice Tryz.prog false h.next 22 0 [] h = some (.sl 1 [] .full, h) := by
      simp [vbuildSlice, elemT_22, zeroT_9, szT_9, repl, D.notTuple, D.cells, chunks, vfill]
    simp only [go_sem, Nat.reduceEqDiff, Int.reduceBEq, Int.reduceLT, Int.reduceLE, Int.reduceGT, Int.reduceGE, ↓reduceIte, Nat.reduceAdd, Nat.zero_add, Nat.reduceBEq, List.getElem?_cons_zero, List.getElem?_cons_succ, List.contains_cons, List.contains_nil, vpart_false, vextract, decide_true, decide_false, bne, Bool.or_false, Bool.or_true, Bool.false_or, Bool.true_or, Bool.or_self, Bool.false_and, Bool.true_and, Bool.and_false, Bool.and_true, Bool.and_self, Bool.not_true, Bool.not_false, Bool.not_not, vfieldAddr, D.notTuple, D.cells, mu12, f2, f3, f4, f8, f14, f15, e2, lL]
    clear hL lL
    obtain ⟨d1, h1, d2, h2, p1, p2, hL, hE2⟩ := cat2 ha4 hb4 (by omega) (by omega) h
    refine vwp_plan Heap.emp [(0, .no, true), (1, .no, true), (2, .no, true), (4, .no, true), (5, .st, true), (3, .no, true), (6, .no, true), (7, .no, true)] (by kernel_rfl) (by kernel_rfl) (fun i ob e => by cases e) ?_
    repeat' first
      | (simp only [go_sem, Nat.reduceEqDiff, Int.reduceBEq, Int.reduceLT, Int.reduceLE, Int.reduceGT, Int.reduceGE, ↓reduceIte, Nat.reduceAdd, Nat.zero_add, Nat.reduceBEq, List.getElem?_cons_zero, List.getElem?_cons_succ, List.contains_cons, List.contains_nil, vpart_false, vextract, decide_true, decide_false, bne, Bool.or_false, Bool.or_true, Bool.false_or, Bool.true_or, Bool.or_self, Bool.false_and, Bool.true_and, Bool.and_false, Bool.and_true, Bool.and_self, Bool.not_true, Bool.not_false, Bool.not_not, vfieldAddr, D.notTuple, D.cells, mu12, *])
      | (refine onBH_caseN (fun hc => ?_) (fun hc => ?_))
      | (refine onBH_case (fun hc => ?_) (fun hc => ?_))
      | (refine gifH_caseNT (fun hc => ?_) (fun hc => ?_))
      | (refine gifH_caseNF (fun hc => ?_) (fun hc => ?_))
      | (refine gifH_caseT (fun hc => ?_) (fun hc => ?_))
      | (refine gifH_caseF (fun hc => ?_) (fun hc => ?_))
    have hM : MH g ⟨S, T, U, addsT [] ((a.cs ++ b.cs).take 0)⟩ h2 := hM1.ext hE2
    have lL := len_strs hL
    clear hM1 bs3 p1 p2 hE2
    refine vwp_count (fun i fr h => fr 2 = .iptr [a1, a2, a3, a4] 0 ∧ fr 3 = .iptr [b1, b2, b3, b4] 0 ∧ fr 4 = .ptr g.next 0 ∧ fr 8 = .ptr (g.next + 1) 0 ∧ fr 14 = d2 ∧ fr 16 = .int .i64 (i : Int) ∧ MH g ⟨S, T, U, addsT [] ((a.cs ++ b.cs).take i)⟩ h) (a.cs ++ b.cs).length (by simp only [List.length_append]; omega) ?_ ?_ ?_
    · simp only [go_sem, Nat.reduceEqDiff, Int.reduceBEq, Int.reduceLT, Int.reduceLE, Int.reduceGT, Int.reduceGE, ↓reduceIte, Nat.reduceAdd, Nat.zero_add, Nat.reduceBEq, List.getElem?_cons_zero, List.getElem?_cons_succ, List.contains_cons, List.contains_nil, vpart_false, vextract, decide_true, decide_false, bne, Bool.or_false, Bool.or_true, Bool.false_or, Bool.true_or, Bool.or_self, Bool.false_and, Bool.true_and, Bool.and_false, Bool.and_true, Bool.and_self, Bool.not_true, Bool.not_false, Bool.not_not, vfieldAddr, D.notTuple, D.cells, mu12, true_and, and_true, Int.ofNat_zero]
      exact ⟨f2, f3, f4, f8, hM⟩
    · clear hM f2 f3 f4 f8 f14 f15 e2
      rintro i fr h hlt e2 ew ⟨f2, f3, f4, f8, f14, f16, hM⟩
      have hat1 := at_strs hL hlt
      obtain ⟨hE, hn, hq, p, q, r, s, hrow, hp, hO, hr, hs⟩ := hM
      simp only at hp hO hr hs
      have hal := addsT_len [] ((a.cs ++ b.cs).take i)
      rw [List.length_take, List.length_append, List.length_nil] at hal
      have hadd := c_refAddText hs.isSl (by omega) (a.cs ++ b.cs)[i]
      rw [← addsT_succ [] hlt] at hadd
      generalize (a.cs ++ b.cs)[i] = xi at *
      repeat' first
        | (simp only [go_sem, Nat.reduceEqDiff, Int.reduceBEq, Int.reduceLT, Int.reduceLE, Int.reduceGT, Int.reduceGE, ↓reduceIte, Nat.reduceAdd, Nat.zero_add, Nat.reduceBEq, List.getElem?_cons_zero, List.getElem?_cons_succ, List.contains_cons, List.contains_nil, vpart_false, vextract, decide_true, decide_false, bne, Bool.or_false, Bool.or_true, Bool.false_or, Bool.true_or, Bool.or_self, Bool.false_and, Bool.true_and, Bool.and_false, Bool.and_true, Bool.and_self, Bool.not_true, Bool.not_false, Bool.not_not, vfieldAddr, D.notTuple, D.cells, mu12, *])
        | (refine onBH_caseN (fun hc => ?_) (fun hc => ?_))
        | (refine onBH_case (fun hc => ?_) (fun hc => ?_))
        | (refine gifH_caseNT (fun hc => ?_) (fun hc => ?_))
        | (refine gifH_caseNF (fun hc => ?_) (fun hc => ?_))
        | (refine gifH_caseT (fun hc => ?_) (fun hc => ?_))
        | (refine gifH_caseF (fun hc => ?_) (fun hc => ?_))
      refine vwp_text (by kernel_rfl) ?_
      repeat' first
        | (simp only [go_sem, Nat.reduceEqDiff, Int.reduceBEq, Int.reduceLT, Int.reduceLE, Int.reduceGT, Int.reduceGE, ↓reduceIte, Nat.reduceAdd, Nat.zero_add, Nat.reduceBEq, List.getElem?_cons_zero, List.getElem?_cons_succ, List.contains_cons, List.contains_nil, vpart_false, vextract, decide_true, decide_false, bne, Bool.or_false, Bool.or_true, Bool.false_or, Bool.true_or, Bool.or_self, Bool.false_and, Bool.true_and, Bool.and_false, Bool.and_true, Bool.and_self, Bool.not_true, Bool.not_false, Bool.not_not, vfieldAddr, D.notTuple, D.cells, mu12, *])
        | (refine onBH_caseN (fun hc => ?_) (fun hc => ?_))
        | (refine onBH_case (fun hc => ?_) (fun hc => ?_))
        | (refine gifH_caseNT (fun hc => ?_) (fun hc => ?_))
        | (refine gifH_caseNF (fun hc => ?_) (fun hc => ?_))
        | (refine gifH_caseT (fun hc => ?_) (fun hc => ?_))
        | (refine gifH_caseF (fun hc => ?_) (fun hc => ?_))
      refine (hadd _).mono ?_
      rintro x h ⟨rfl, hF⟩
      have hst : vstore Tryz.prog 22 (.ptr (g.next + 1) 3) x h = some (h.set (g.next + 1) (.row [p, q, r, x])) := by
        rw [vstore_cell hrow szT_22 (by simp) (flatSl hF.isSl).2.1 (flatSl hF.isSl).1]; rfl
      have hM' : MH g ⟨S, T, U, addsT [] ((a.cs ++ b.cs).take (i + 1))⟩ (h.set (g.next + 1) (.row [p, q, r, x])) := mh_set hE hn hq hrow hp hO hr hF
      clear hE hn hq hrow hp hO hr hs hadd hal
      repeat' first
        | (simp only [go_sem, Nat.reduceEqDiff, Int.reduceBEq, Int.reduceLT, Int.reduceLE, Int.reduceGT, Int.reduceGE, ↓reduceIte, Nat.reduceAdd, Nat.zero_add, Nat.reduceBEq, List.getElem?_cons_zero, List.getElem?_cons_succ, List.contains_cons, List.contains_nil, vpart_false, vextract, decide_true, decide_false, bne, Bool.or_false, Bool.or_true, Bool.false_or, Bool.true_or, Bool.or_self, Bool.false_and, Bool.true_and, Bool.and_false, Bool.and_true, Bool.and_self, Bool.not_true, Bool.not_false, Bool.not_not, vfieldAddr, D.notTuple, D.cells, mu12, *])
        | (refine onBH_caseN (fun hc => ?_) (fun hc => ?_))
        | (refine onBH_case (fun hc => ?_) (fun hc => ?_))
        | (refine gifH_caseNT (fun hc => ?_) (fun hc => ?_))
        | (refine gifH_caseNF (fun hc => ?_) (fun hc => ?_))
        | (refine gifH_caseT (fun hc => ?_) (fun hc => ?_))
        | (refine gifH_caseF (fun hc => ?_) (fun hc => ?_))
    clear hM f2 f3 f4 f8 f14 f15 e2
    rintro fr h e2 ⟨f2, f3, f4, f8, f14, f16, hM⟩
    rw [List.take_length, ← hU, ← hT, ← hS, addsT_sorted, addsT_sorted, addsT_sorted] at hM
    obtain ⟨N, hN⟩ : ∃ N, mergedN a b m = N := ⟨_, rfl⟩
    have hM : MH g N h := by rw [← hN]; exact hM
    have hsm := merged_sm hsa hsb k1 k2 hm
    have hmo := merge_of k1 k2 hm
    rw [hN] at hsm hmo
    obtain ⟨hE, hn, hq, p, q, r, s, hrow, hp, hO, hr, hs⟩ := hM
    have hck := c_refCheck (n := N) (d := .agg [p, q, r, s]) ⟨p, q, r, s, rfl, hp.isSl, hO.isSl, hr.isSl, hs.isSl⟩ hsm
    clear hS hT hU hSm hSl hm hsm hN c1 c2
    by_cases g1 : checkS N = 0
    · have g2 : (checkS N == 0) = true := by simpa using g1
      rw [if_neg (by simp [g1])] at hmo
      have hst := hstq hq (flatSl hp.isSl).1 (flatSl hO.isSl).1 (flatSl hr.isSl).1 (flatSl hs.isSl).1
      have hE2 := hE.set (id := g.next) (Nat.le_refl _) (.row [p, q, r, s])
      have hfin := merge_note2 hp hO hr hs
      have hfin2 := below_mono (Nat.zero_le g.next) _ hfin.1
      have hfin3 := hfin.2
      clear hE hn hq hp hO hr hs hfin hstq g1
      simp only [go_sem, Nat.reduceEqDiff, Int.reduceBEq, Int.reduceLT, Int.reduceLE, Int.reduceGT, Int.reduceGE, ↓reduceIte, Nat.reduceAdd, Nat.zero_add, Nat.reduceBEq, List.getElem?_cons_zero, List.getElem?_cons_succ, List.contains_cons, List.contains_nil, vpart_false, vextract, decide_true, decide_false, bne, Bool.or_false, Bool.or_true, Bool.false_or, Bool.true_or, Bool.or_self, Bool.false_and, Bool.true_and, Bool.and_false, Bool.and_true, Bool.and_self, Bool.not_true, Bool.not_false, Bool.not_not, vfieldAddr, D.notTuple, D.cells, mu12, f2, f3, f4, f8, f14, f16, e2, lL]
      repeat' first
        | (simp only [go_sem, Nat.reduceEqDiff, Int.reduceBEq, Int.reduceLT, Int.reduceLE, Int.reduceGT, Int.reduceGE, ↓reduceIte, Nat.reduceAdd, Nat.zero_add, Nat.reduceBEq, List.getElem?_cons_zero, List.getElem?_cons_succ, List.contains_cons, List.contains_nil, vpart_false, vextract, decide_true, decide_false, bne, Bool.or_false, Bool.or_true, Bool.false_or, Bool.true_or, Bool.or_self, Bool.false_and, Bool.true_and, Bool.and_false, Bool.and_true, Bool.and_self, Bool.not_true, Bool.not_false, Bool.not_not, vfieldAddr, D.notTuple, D.cells, mu12, set_at_same, *])
        | (refine onBH_caseN (fun hc => ?_) (fun hc => ?_))
        | (refine onBH_case (fun hc => ?_) (fun hc => ?_))
        | (refine gifH_caseNT (fun hc => ?_) (fun hc => ?_))
        | (refine gifH_caseNF (fun hc => ?_) (fun hc => ?_))
        | (refine gifH_caseT (fun hc => ?_) (fun hc => ?_))
        | (refine gifH_caseF (fun hc => ?_) (fun hc => ?_))
        | (refine VCall.mono (hck _) ?_; rintro r h ⟨rfl, rfl⟩)
    · have g2 : (checkS N == 0) = false := by simpa using g1
      rw [if_pos g1] at hmo
      have hst := hstq (p := .nilsl) (q := .nilsl) (r := .nilsl) (s := .nilsl) hq rfl rfl rfl rfl
      have hE2 := hE.set (id := g.next) (Nat.le_refl _) (.row nil4)
      clear hE hn hq hp hO hr hs hstq g1
      simp only [go_sem, Nat.reduceEqDiff, Int.reduceBEq, Int.reduceLT, Int.reduceLE, Int.reduceGT, Int.reduceGE, ↓reduceIte, Nat.reduceAdd, Nat.zero_add, Nat.reduceBEq, List.getElem?_cons_zero, List.getElem?_cons_succ, List.contains_cons, List.contains_nil, vpart_false, vextract, decide_true, decide_false, bne, Bool.or_false, Bool.or_true, Bool.false_or, Bool.true_or, Bool.or_self, Bool.false_and, Bool.true_and, Bool.and_false, Bool.and_true, Bool.and_self, Bool.not_true, Bool.not_false, Bool.not_not, vfieldAddr, D.notTuple, D.cells, mu12, f2, f3, f4, f8, f14, f16, e2, lL]
      repeat' first
        | (simp only [go_sem, Nat.reduceEqDiff, Int.reduceBEq, Int.reduceLT, Int.reduceLE, Int.reduceGT, Int.reduceGE, ↓reduceIte, Nat.reduceAdd, Nat.zero_add, Nat.reduceBEq, List.getElem?_cons_zero, List.getElem?_cons_succ, List.contains_cons, List.contains_nil, vpart_false, vextract, decide_true, decide_false, bne, Bool.or_false, Bool.or_true, Bool.false_or, Bool.true_or, Bool.or_self, Bool.false_and, Bool.true_and, Bool.and_false, Bool.and_true, Bool.and_self, Bool.not_true, Bool.not_false, Bool.not_not, vfieldAddr, D.notTuple, D.cells, mu12, set_at_same, *])
        | (refine onBH_caseN (fun hc => ?_) (fun hc => ?_))
        | (refine onBH_case (fun hc => ?_) (fun hc => ?_))
        | (refine gifH_caseNT (fun hc => ?_) (fun hc => ?_))
        | (refine gifH_caseNF (fun hc => ?_) (fun hc => ?_))
        | (refine gifH_caseT (fun hc => ?_) (fun hc => ?_))
        | (refine gifH_caseF (fun hc => ?_) (fun hc => ?_))
        | (refine VCall.mono (hck _) ?_; rintro r h ⟨rfl, rfl⟩)
end Go.V
