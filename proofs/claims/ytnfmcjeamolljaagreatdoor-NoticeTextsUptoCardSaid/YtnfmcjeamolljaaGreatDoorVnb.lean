/- Contracts of functions that concatenate, sort and compact, and what merged notices are. No condition. -/
import Derived.Test.YtnfmcjeamolljaaGreatDoorVna
import Derived.Test.YtnfmcjeamolljaaGreatDoorVp
import Derived.Test.YtnfmcjeamolljaaGreatDoorVhE
set_option linter.unusedSimpArgs false
set_option linter.unusedVariables false
set_option linter.constructorNameAsVariable false
set_option linter.deprecated false
namespace Go.V
open Go.Proofs
set_option maxRecDepth 100000
set_option linter.unusedSimpArgs false
set_option linter.unusedVariables false

/-! Lists of strings: cloned, concatenated. -/
theorem frz_rs2 {id sz len : Nat} {cs rest : List D} {xs : List (List D)} (hx : ∀ x ∈ xs, x.length = sz) (hl : xs.length = len) (hc : cs = xs.flatten ++ rest) : frz id cs (.rs id sz 0 len) = .sl sz xs .no := by
  subst hc hl
  simp only [frz]
  have hf := flat_len hx
  rw [if_pos ⟨trivial, by rw [List.length_append, hf]; omega⟩, List.drop_zero, List.take_append_of_le_length (by rw [hf]; omega), List.take_of_length_le (by rw [hf]; omega), chunks_flat hx]

/-- Strings that are appended to a row that is nobody else's. -/
theorem app_row {l : List (List UInt8)} {d : D} (hd : IsSl 1 (strs l) d) {h : Heap} {id nid n : Nat} {xs : List D} (ho : h.at' id = some (.row xs)) (hn : n ≤ xs.length) (hlen : n ≤ 1048576) (hl : l.length ≤ 1048576) :
    ∃ h2, truncRs (.rs id 1 0 n) d h = h2 ∧ h2.next = h.next ∧ (∀ j, j ≠ id → h2.at' j = h.at' j) ∧ vappend Tryz.prog true nid 22 (.rs id 1 0 n) d h2 = some (.rs nid 1 0 (n + l.length), (h2.del id).new nid (.row (xs.take n ++ l.map sdd))) := by
  have hb : (n + l.length) * 16 ≤ lim := by unfold lim; omega
  have hb2 : n + l.length ≤ lim := by unfold lim; omega
  have key : ∀ h2 : Heap, h2.at' id = some (.row (xs.take n)) → vappend Tryz.prog true nid 22 (.rs id 1 0 n) d h2 = some (.rs nid 1 0 (n + l.length), (h2.del id).new nid (.row (xs.take n ++ l.map sdd))) := fun h2 e => by
    have hv : vels 1 d h2 = some (l.map sdd) := by
      rcases hd with ⟨rfl, hs⟩ | ⟨tk, rfl⟩
      · have : l = [] := List.map_eq_nil_iff.1 hs
        subst this; rfl
      · simp only [vels, if_true, strs_flat]
    have hlt : (xs.take n).length = n := by rw [List.length_take]; omega
    simp only [vappend, elemT_22, zokT_9, szT_9, if_true, hv, Nat.div_one, vappendE, bytesT_9, List.length_map, Bool.true_and]
    rw [if_pos (by simp [hb, hb2]), e]
    simp only []
    rw [if_pos (by omega)]
  by_cases hlt : n < xs.length
  · refine ⟨h.set id (.row (xs.take n)), ?_, rfl, fun j hj => by simp [Heap.set, hj], key _ (set_at_same _ _ _)⟩
    rcases hd with ⟨rfl, hs⟩ | ⟨tk, rfl⟩ <;> simp [truncRs, ho, hlt]
  · have ht : xs.take n = xs := List.take_of_length_le (by omega)
    refine ⟨h, ?_, rfl, fun _ _ => rfl, key _ (by rw [ht]; exact ho)⟩
    rcases hd with ⟨rfl, hs⟩ | ⟨tk, rfl⟩ <;> simp [truncRs, ho, hlt]

/-- slices.Clone, written to later. -/
theorem c_cloneS {l : List (List UInt8)} {d : D} (hd : IsSl 1 (strs l) d) (h0 : l ≠ []) (hl : l.length ≤ 1048576) (h : Heap) :
    VCall Tryz.prog 77 [d] h fun r h' => r = .rs h.next 1 0 l.length ∧ h' = h.new h.next (.row (l.map sdd)) := by
  rcases hd with ⟨rfl, hs⟩ | ⟨tk, rfl⟩
  · exact absurd (List.map_eq_nil_iff.1 hs) h0
  refine VCall.of_fn (g := cfg77) mix Tryz.func77 ok77 rfl rfl ?_
  simp only [Tryz.f77, Option.getD_some]
  have hn : vbin Tryz.prog .eql 22 true (.sl 1 (strs l) tk) .nilsl = some (.bool false) := by rw [vbin_sl_nil (IsSl.mk tk) Tryz.underlying22]; rfl
  simp only [go_sem, Nat.reduceEqDiff, ↓reduceIte, hn, mu77, List.contains_cons, Nat.reduceBEq, vbuildSlice_zero elemT_22 zeroT_9 szT_9 rfl rfl (by omega : 0 < 1)]
  have hpos : 0 < l.length := List.length_pos_iff.2 h0
  have : vappend Tryz.prog true h.next 22 (.sl 1 [] .full) (.sl 1 (strs l) tk) h = some (.rs h.next 1 0 l.length, h.new h.next (.row (l.map sdd))) := by
    rw [vappend_copyM elemT_22 zokT_9 szT_9 (by omega) strs_one (by rw [bytesT_9, strs_length]; unfold lim; omega) (by rw [strs_length]; unfold lim; omega), strs_length, if_neg (by omega), strs_flat, rowObj_str Tryz.underlying9]
  simp only [truncRs, this, go_sem]

/-- slices.Grow of nil. -/
theorem c_grow {n : Nat} (h0 : 0 < n) (hn : n ≤ 1048576 * 8) (h : Heap) :
    VCall Tryz.prog 80 [.nilsl, .int .i64 n] h fun r h' => ∃ xs : List D, xs.length = n ∧ r = .rs h.next 1 0 0 ∧ h' = h.new h.next (.row xs) := by
  refine VCall.of_fn (g := cfg80) mix Tryz.func80 ok80 rfl rfl ?_
  simp only [Tryz.f80, Option.getD_some]
  have e1 : decide ((n : Int) < 0) = false := decide_eq_false (by omega)
  have e2 : IntKind.i64.wrap (0 - 0) = 0 := rfl
  have e3 : IntKind.i64.wrap ((n : Int) - 0) = n := by rw [wrap_i64 (by omega) (by omega)]; omega
  have e4 : decide ((n : Int) > 0) = true := decide_eq_true (by omega)
  have e5 : vsliceA Tryz.prog 22 .nilsl none (some (.int .i64 0)) none h = some .nilsl := by
    simp [vsliceA, arrT_22, vslice, elemT_22, szT_9, vbounds, hiOf, loOf]
  have e6 : vappendZ Tryz.prog true h.next 22 3 .nilsl (.int .i64 n) h = some (.rs h.next 1 0 n, h.new h.next (.row (repl n [.str []]))) := by
    have hb : n * 16 ≤ lim := by unfold lim; omega
    have hb2 : n ≤ lim := by unfold lim; omega
    simp only [vappendZ, Tryz.underlying3, elemT_22, zeroT_9, szT_9, bytesT_9, Int.toNat_natCast, D.notTuple, D.cells]
    rw [if_pos (by simp [hb, hb2, h0]), rowObj_str Tryz.underlying9]
  have e7 : vsliceA Tryz.prog 22 (.rs h.next 1 0 n) none (some (.int .i64 0)) none (h.new h.next (.row (repl n [.str []]))) = some (.rs h.next 1 0 0) :=
    vslice_rs_hi (n := 0) arrT_22 elemT_22 szT_9 (by omega)
  have e8 : ∀ h : Heap, vlen Tryz.prog 22 .nilsl h = some (.int .i64 0) := fun h => vlen_sl (sz := 1) IsSl.nil Tryz.underlying22
  simp only [go_sem, Nat.reduceEqDiff, ↓reduceIte, mu80, List.contains_cons, Nat.reduceBEq, e1, e2, e3, e4, capN_nil Tryz.underlying22, e8, e5, e6, e7, Option.map_none, Option.map_some, List.length_nil, Int.natCast_zero, Int.ofNat_zero]
  exact ⟨repl n [.str []], by rw [repl_one, List.length_replicate], rfl⟩

/-- slices.Grow of nil by nothing. -/
theorem c_grow0 (h : Heap) : VCall Tryz.prog 80 [.nilsl, .int .i64 0] h fun r h' => r = .nilsl ∧ h' = h := by
  refine VCall.of_fn (g := cfg80) mix Tryz.func80 ok80 rfl rfl ?_
  simp only [Tryz.f80, Option.getD_some]
  have e1 : decide ((0 : Int) < 0) = false := rfl
  have e2 : IntKind.i64.wrap (0 - 0) = 0 := rfl
  have e4 : decide ((0 : Int) > 0) = false := rfl
  have e8 : ∀ h : Heap, vlen Tryz.prog 22 .nilsl h = some (.int .i64 0) := fun h => vlen_sl (sz := 1) IsSl.nil Tryz.underlying22
  simp only [go_sem, Nat.reduceEqDiff, ↓reduceIte, mu80, List.contains_cons, Nat.reduceBEq, e1, e2, e4, capN_nil Tryz.underlying22, e8]

/-- What slices.Concat appends to. -/
def CatR (h0 h : Heap) (l : List (List UInt8)) (d : D) : Prop := (d = .nilsl ∧ l = []) ∨ ∃ id xs, d = .rs id 1 0 l.length ∧ h.at' id = some (.row xs) ∧ h0.next ≤ id ∧ id < h.next ∧ l.length ≤ xs.length ∧ xs.take l.length = l.map sdd

theorem cat_app {l l2 : List (List UInt8)} {d d2 : D} {h0 h : Heap} (hc : CatR h0 h l d) (hd : IsSl 1 (strs l2) d2) (he : Ext h0 h) (hl : l.length ≤ 1048576) (hl2 : l2.length ≤ 1048576) (hz : d = .nilsl → l2 = []) :
    ∃ d' h', vappend Tryz.prog true h.next 22 d d2 (truncRs d d2 h) = some (d', h') ∧ Ext h0 h' ∧ CatR h0 h' (l ++ l2) d' ∧ (d' = .nilsl ↔ d = .nilsl) := by
  rcases hc with ⟨rfl, rfl⟩ | ⟨id, xs, rfl, hid, hg, hlt, hle, ht⟩
  · have := hz rfl
    subst this
    refine ⟨.nilsl, h, ?_, he, .inl ⟨rfl, rfl⟩, Iff.rfl⟩
    have hv : vels 1 d2 h = some [] := by
      rcases hd with ⟨rfl, _⟩ | ⟨tk, rfl⟩ <;> rfl
    simp [truncRs, vappend, elemT_22, zokT_9, szT_9, hv, vappendE]
  · obtain ⟨h2, e1, e2, e3, e4⟩ := app_row hd (nid := h.next) hid hle hl hl2
    have he2 : Ext h0 h2 := ⟨by rw [e2]; exact he.1, fun i hi => by rw [e3 i (by omega)]; exact he.2 i hi⟩
    rw [e1, e4]
    refine ⟨_, _, rfl, (he2.del hg).new he.1 _, .inr ⟨h.next, _, by rw [List.length_append], new_at _ _ _, he.1, ?_, ?_, ?_⟩, iff_of_false (by simp) (by simp)⟩
    · have : (h2.del id).next = h2.next := rfl
      simp only [Heap.new, this, e2]; omega
    · simp; omega
    · rw [ht, List.map_append, List.take_of_length_le (by simp)]

/-- slices.Concat of two lists. -/
theorem c_concat {l1 l2 : List (List UInt8)} {a b : D} (ha : IsSl 1 (strs l1) a) (hb : IsSl 1 (strs l2) b) (h1 : l1.length ≤ 1048576) (h2 : l2.length ≤ 1048576) (tk : Tk) (h : Heap) :
    VCall Tryz.prog 34 [.sl 1 [[a], [b]] tk] h fun r h' => h' = h ∧ ((l1 ++ l2 = [] ∧ r = .nilsl) ∨ (l1 ++ l2 ≠ [] ∧ r = .sl 1 (strs (l1 ++ l2)) .no)) := by
  have s1 : ((strs l1).length : Int) = l1.length := by rw [strs_length]
  have s2 : ((strs l2).length : Int) = l2.length := by rw [strs_length]
  refine VCall.pure (by kernel_rfl) fun hok => ?_
  suffices hh : VCall Tryz.prog 34 [.sl 1 [[a], [b]] tk] h fun r h' => Ext h h' ∧ CatR h h' (l1 ++ l2) r ∧ (r = .nilsl ↔ l1 ++ l2 = []) by
    by_cases he : l1 ++ l2 = []
    · refine hh.mono ?_
      rintro r h' ⟨hE, _, hz⟩
      rw [hz.2 he]
      exact ⟨hE, trivial, .inl ⟨he, rfl⟩⟩
    · refine VCall.freezeD (hh.mono ?_)
      rintro r h' ⟨hE, hc, hz⟩
      rcases hc with ⟨rfl, e⟩ | ⟨id, xs, rfl, hid, hg, hlt, hle, ht⟩
      · exact absurd e he
      · refine ⟨id, xs, hid, hE.del hg, ?_⟩
        rw [frz_rs2 (xs := strs (l1 ++ l2)) (rest := xs.drop (l1 ++ l2).length) strs_one (strs_length _) (by rw [strs_flat, ← ht, List.take_append_drop])]
        exact ⟨below_mono (Nat.zero_le _) _ (strip_plainE (sz := 1) strs_plain .no).2, .inr ⟨he, rfl⟩⟩
  refine VCall.of_fn (g := cfg34) mix Tryz.func34 ok34 rfl rfl ?_
  simp only [Tryz.f34, Option.getD_some]
  have hx : ∀ i : Nat, i < 2 → vindexAddr Tryz.prog 144 (.sl 1 [[a], [b]] tk) (.int .i64 (i : Int)) = some (.iptr (if i = 0 then [a] else [b]) 0) := fun i hi => by
    refine vindexAddr_sl (IsSl.mk tk) elemT_144 szT_22 ?_
    rcases i with _ | _ | i
    · rfl
    · rfl
    · omega
  have hll : ∀ h : Heap, vlen Tryz.prog 144 (.sl 1 [[a], [b]] tk) h = some (.int .i64 2) := fun h => vlen_sl (IsSl.mk tk) Tryz.underlying144
  simp only [go_sem, Nat.reduceEqDiff, ↓reduceIte, mu34, List.contains_cons, Nat.reduceBEq, hll]
  refine vwp_range (fun i fr h' => fr 0 = .sl 1 [[a], [b]] tk ∧ fr 9 = .sl 1 [[a], [b]] tk ∧ fr 10 = .int .i64 2 ∧ fr 11 = .int .i64 (i : Int) ∧ fr 3 = .int .i64 ((if i = 0 then 0 else if i = 1 then l1.length else l1.length + l2.length : Nat) : Int) ∧ h' = h) 2 (by simp [go_sem]) ?_
  rintro i fr h' hi ⟨f0, f9, f10, f11, f3, rfl⟩
  have hcell : ∀ i : Nat, (if i = 0 then [a] else [b])[0]? = some (if i = 0 then a else b) := fun i => by split <;> rfl
  by_cases hlt : i < 2
  · have e1 : decide ((i : Int) < 2) = true := decide_eq_true (by omega)
    have hlen : vlen Tryz.prog 22 (if i = 0 then a else b) h' = some (.int .i64 ((if i = 0 then l1.length else l2.length : Nat) : Int)) := by
      split
      · rw [vlen_sl ha Tryz.underlying22, s1]
      · rw [vlen_sl hb Tryz.underlying22, s2]
    have hw : IntKind.i64.wrap (((if i = 0 then 0 else if i = 1 then l1.length else l1.length + l2.length : Nat) : Int) + ((if i = 0 then l1.length else l2.length : Nat) : Int)) = ((if i + 1 = 0 then 0 else if i + 1 = 1 then l1.length else l1.length + l2.length : Nat) : Int) := by
      rcases i with _ | _ | i
      · simp; rw [wrap_i64 (by omega) (by omega)]
      · simp; rw [wrap_i64 (by omega) (by omega)]
      · omega
    have hneg : decide (((if i + 1 = 0 then 0 else if i + 1 = 1 then l1.length else l1.length + l2.length : Nat) : Int) < 0) = false := decide_eq_false (by omega)
    generalize (if i + 1 = 0 then 0 else if i + 1 = 1 then l1.length else l1.length + l2.length : Nat) = q at hw hneg ⊢
    generalize (if i = 0 then 0 else if i = 1 then l1.length else l1.length + l2.length : Nat) = q0 at hw f3
    generalize (if i = 0 then l1.length else l2.length : Nat) = q1 at hw hlen
    simp only [go_sem, Nat.reduceEqDiff, ↓reduceIte, mu34, List.contains_cons, Nat.reduceBEq, f0, f9, f10, f11, f3, e1, hx i hlt, vpart_false, hcell, hlen, hw, hneg, wrap_succ (show i < lim by unfold lim; omega)]
    exact ⟨hlt, by rw [wrap_succ (by unfold lim; omega)]⟩
  · have hie : i = 2 := by omega
    subst hie
    have e1 : decide (((2 : Nat) : Int) < 2) = false := rfl
    have f3' : fr 3 = .int .i64 ((l1.length + l2.length : Nat) : Int) := f3
    have hgrow : VCall Tryz.prog 80 [.nilsl, .int .i64 ((l1.length + l2.length : Nat) : Int)] h' fun r h2 => CatR h' h2 [] r ∧ Ext h' h2 ∧ (r = .nilsl ↔ l1 ++ l2 = []) := by
      by_cases hz : l1.length + l2.length = 0
      · rw [hz]
        refine (c_grow0 h').mono ?_
        rintro r h2 ⟨rfl, rfl⟩
        exact ⟨.inl ⟨rfl, rfl⟩, Ext.refl _, iff_of_true rfl (List.length_eq_zero_iff.1 (by simpa using hz))⟩
      · refine (c_grow (by omega) (by omega) h').mono ?_
        rintro r h2 ⟨xs, hxs, rfl, rfl⟩
        refine ⟨.inr ⟨h'.next, xs, rfl, new_at _ _ _, Nat.le_refl _, ?_, by simp, by simp⟩, (Ext.refl _).new (Nat.le_refl _) _, iff_of_false (by simp) fun e => hz (by rw [← List.length_append, e]; rfl)⟩
        rw [next_new_eq]; omega
    simp only [go_sem, Nat.reduceEqDiff, ↓reduceIte, mu34, List.contains_cons, Nat.reduceBEq, f0, f9, f10, f11, f3', e1]
    refine hgrow.mono ?_
    rintro d0 h3 ⟨hc0, hE0, hz0⟩
    obtain ⟨L, hL0, hL1, hL2⟩ : ∃ L : Nat → List (List UInt8), L 0 = [] ∧ L 1 = l1 ∧ L 2 = l1 ++ l2 := ⟨fun i => if i = 0 then [] else if i = 1 then l1 else l1 ++ l2, rfl, rfl, rfl⟩
    simp only [go_sem, Nat.reduceEqDiff, ↓reduceIte, f0, hll]
    refine vwp_range (fun i fr h4 => fr 25 = .sl 1 [[a], [b]] tk ∧ fr 26 = .int .i64 2 ∧ fr 27 = .int .i64 (i : Int) ∧ Ext h' h4 ∧ CatR h' h4 (L i) (fr 6) ∧ (fr 6 = .nilsl ↔ l1 ++ l2 = [])) 2 ?_ ?_
    · simp only [go_sem, Nat.reduceEqDiff, ↓reduceIte, f0, true_and, hL0]
      exact ⟨rfl, hE0, hc0, hz0⟩
    rintro i fr2 h4 hi2 ⟨g25, g26, g27, gE, gC, gz⟩
    obtain ⟨d, g6⟩ : ∃ x, fr2 6 = x := ⟨_, rfl⟩
    rw [g6] at gC gz
    by_cases hlt2 : i < 2
    · have e2 : decide ((i : Int) < 2) = true := decide_eq_true (by omega)
      have hpart : IsSl 1 (strs (if i = 0 then l1 else l2)) (if i = 0 then a else b) := by split <;> assumption
      have hL : L (i + 1) = L i ++ (if i = 0 then l1 else l2) := by
        rcases i with _ | _ | i
        · simp [hL0, hL1]
        · simp [hL2, hL1]
        · omega
      have hll1 : (L i).length ≤ 1048576 := by
        rcases i with _ | _ | i
        · simp [hL0]
        · rw [hL1]; exact h1
        · omega
      obtain ⟨d', h5, k1, k2, k3, k4⟩ := cat_app gC hpart gE hll1 (by split <;> assumption) (fun e => by
        have := List.append_eq_nil_iff.1 (gz.1 e)
        split
        · exact this.1
        · exact this.2)
      rw [← hL] at k3
      simp only [go_sem, Nat.reduceEqDiff, ↓reduceIte, mu34, List.contains_cons, Nat.reduceBEq, g25, g26, g27, g6, e2, hx i hlt2, vpart_false, hcell, k1, wrap_succ (show i < lim by unfold lim; omega)]
      exact ⟨hlt2, by rw [wrap_succ (by unfold lim; omega)], k2, k3, k4.trans gz⟩
    · have hie : i = 2 := by omega
      subst hie
      rw [hL2] at gC
      simp only [go_sem, Nat.reduceEqDiff, ↓reduceIte, mu34, List.contains_cons, Nat.reduceBEq, g25, g26, g27, g6, e1]
      exact ⟨gE, gC, gz⟩
end Go.V
namespace Go.V
open Go.Proofs
set_option maxRecDepth 100000
set_option linter.unusedSimpArgs false
set_option linter.unusedVariables false

/-! Lists of strings: sorted, each once. -/
/-- A list that is handed on: nil, or with elements. -/
def Fin0 (l : List (List UInt8)) (d : D) : Prop := (l = [] ∧ d = .nilsl) ∨ (l ≠ [] ∧ d = .sl 1 (strs l) .no)
theorem Fin0.isSl {l : List (List UInt8)} {d : D} (hf : Fin0 l d) : IsSl 1 (strs l) d := by
  rcases hf with ⟨rfl, rfl⟩ | ⟨_, rfl⟩
  · exact IsSl.nil
  · exact IsSl.mk _

theorem c_sort {l : List (List UInt8)} {id : Nat} {h : Heap} (h0 : l ≠ []) (hl : l.length ≤ 1048576) (hrow : h.at' id = some (.row (l.map sdd))) :
    VCall Tryz.prog 78 [.rs id 1 0 l.length] h fun r h' => r = .tuple [] ∧ h' = h.set id (.row ((l.mergeSort fun x y => decide (x ≤ y)).map sdd)) := by
  have := VCall.of_rowU (P := Tryz.prog) (f := 78) (α := List UInt8) (enc := encStr) (dd := sdd) (fun M ρ x v hr => dd_str hr) (fun _ => rfl) (xs := l) (ys := l.mergeSort fun x y => decide (x ≤ y)) (rest := []) (id := id) (pre := []) (post := []) (h := h) (by kernel_rfl) (by simpa using hrow) (List.length_pos_iff.2 h0) (List.length_mergeSort _) (fun y hy => .inl (List.mem_mergeSort.1 hy))
    (fun blk o cap w M ρ va hH hb h1 h2 hr => by
      simp only [relL] at hr
      subst hr
      exact Tryz.slices_Sort_string blk o cap l w hH hb (by omega))
  simpa using this

theorem compact_mem {l : List (List UInt8)} {x : List UInt8} (hx : x ∈ Lib.compact l) : x ∈ l := by
  unfold Lib.compact Lib.compactUpTo at hx
  obtain ⟨j, hj, rfl⟩ := List.mem_map.1 hx
  have hj' : j < l.length := List.mem_range.1 (List.mem_filter.1 hj).1
  have : l.toArray[j]! = l[j] := by simp [hj']
  rw [this]; exact List.getElem_mem hj'

theorem c_compact {l : List (List UInt8)} {id : Nat} {h : Heap} (h0 : l ≠ []) (hl : l.length ≤ 1048576) (hrow : h.at' id = some (.row (l.map sdd))) :
    VCall Tryz.prog 79 [.rs id 1 0 l.length] h fun r h' => r = .rs id 1 0 (Lib.compact l).length ∧ h' = h.set id (.row ((Lib.compact l ++ List.replicate (l.length - (Lib.compact l).length) []).map sdd)) := by
  have hle := Lib.compact_length_le l
  have := VCall.of_row (P := Tryz.prog) (f := 79) (α := List UInt8) (enc := encStr) (dd := sdd) (fun M ρ x v hr => dd_str hr) (fun _ => rfl) (xs := l) (ys := Lib.compact l ++ List.replicate (l.length - (Lib.compact l).length) []) (m := (Lib.compact l).length) (rest := []) (id := id) (pre := []) (post := []) (h := h) (by kernel_rfl) (by simpa using hrow) (List.length_pos_iff.2 h0) (by simp; omega) hle
    (fun y hy => by
      rcases List.mem_append.1 hy with hy | hy
      · exact .inl (compact_mem hy)
      · refine .inr fun M ρ => ?_
        rw [List.eq_of_mem_replicate hy]
        simp only [sdd, rel]
        exact ⟨⟨#[]⟩, rfl, rfl, by decide⟩)
    (fun blk o cap w M ρ va hH h1 h2 hr => by
      simp only [relL] at hr
      subst hr
      exact Tryz.slices_Compact_string blk o cap l w hH (by omega) h1)
  simpa using this

/-- notice.sorted. -/
theorem c_sorted {l : List (List UInt8)} {d : D} (hd : Fin0 l d) (hl : l.length ≤ 1048576) (h : Heap) :
    VCall Tryz.prog 33 [d] h fun r h' => h' = h ∧ Fin0 (sortedS l) r := by
  rcases hd with ⟨rfl, rfl⟩ | ⟨h0, rfl⟩
  · refine (VCall.of_run (sett := fun _ => true) (ext := libF) (fuel := 40) (k := 20) (d := .nilsl) mix tab_ok lib_ok (by kernel_rfl) (by kernel_rfl) (by kernel_rfl) h).mono ?_
    rintro r h' ⟨rfl, rfl⟩
    exact ⟨rfl, .inl ⟨List.eq_nil_of_length_eq_zero (Nat.le_zero.1 (sortedS_len [])), rfl⟩⟩
  refine VCall.pure (by kernel_rfl) fun hok => VCall.freezeD ?_
  refine VCall.of_fn (g := cfg33) mix Tryz.func33 ok33 rfl rfl ?_
  simp only [Tryz.f33, Option.getD_some]
  simp only [go_sem, Nat.reduceEqDiff, ↓reduceIte, mu33]
  refine (c_cloneS (IsSl.mk .no) h0 hl h).mono ?_
  rintro r h2 ⟨rfl, rfl⟩
  refine (c_sort h0 hl (new_at _ _ _)).mono ?_
  rintro r h2 ⟨rfl, rfl⟩
  have e1 : (l.mergeSort fun x y => decide (x ≤ y)).length = l.length := List.length_mergeSort _
  have hne : (l.mergeSort fun x y => decide (x ≤ y)) ≠ [] := fun e => h0 (List.length_eq_zero_iff.1 (by rw [← e1, e]; rfl))
  have hc := c_compact (l := l.mergeSort fun x y => decide (x ≤ y)) (id := h.next) (h := (h.new h.next (.row (l.map sdd))).set h.next (.row ((l.mergeSort fun x y => decide (x ≤ y)).map sdd))) hne (by omega) (set_at_same _ _ _)
  rw [e1] at hc
  refine hc.mono ?_
  rintro r h2 ⟨rfl, rfl⟩
  refine ⟨h.next, _, set_at_same _ _ _, ((((Ext.refl h).new (Nat.le_refl _) _).set (Nat.le_refl _) _).set (Nat.le_refl _) _).del (Nat.le_refl _), ?_⟩
  have hs0 : sortedS l ≠ [] := fun e => by
    obtain ⟨x, hx⟩ := List.exists_mem_of_ne_nil l h0
    have := sortedS_mem.2 hx
    rw [e] at this; cases this
  have hdef : Lib.compact (l.mergeSort fun x y => decide (x ≤ y)) = sortedS l := rfl
  rw [hdef, frz_rs2 (xs := strs (sortedS l)) (rest := (List.replicate (l.length - (sortedS l).length) []).map sdd) strs_one (strs_length _) (by rw [strs_flat, List.map_append])]
  exact ⟨below_mono (Nat.zero_le _) _ (strip_plainE (sz := 1) strs_plain .no).2, .inr ⟨hs0, rfl⟩⟩
end Go.V
namespace Go.V

/-! Merged notices: plain laws. -/
/-- Pairs that are put into a map, unless one contradicts another. -/
def addAll : List (Str × Str) → KV → Option KV
  | [], m => some m
  | (k, v) :: ps, m => match kvGet k m with
    | some t => if t == v then addAll ps (kvPut k v m) else none
    | none => addAll ps (kvPut k v m)

theorem addAll_some : ∀ {ps : List (Str × Str)} {m m' : KV}, addAll ps m = some m' → (∀ k v, (k, v) ∈ ps → kvGet k m' = some v) ∧ ∀ k v, kvGet k m = some v → kvGet k m' = some v
  | [], m, m', h => by
    simp only [addAll, Option.some.injEq] at h
    subst h
    exact ⟨fun k v hx => (by cases hx), fun k v hx => hx⟩
  | (k, v) :: ps, m, m', h => by
    have key : addAll ps (kvPut k v m) = some m' → (∀ w, kvGet k m = some w → w = v) → (∀ k' v', (k', v') ∈ (k, v) :: ps → kvGet k' m' = some v') ∧ ∀ k' v', kvGet k' m = some v' → kvGet k' m' = some v' := fun h hw => by
      obtain ⟨h1, h2⟩ := addAll_some h
      have hk : kvGet k m' = some v := h2 k v (by rw [kvGet_put]; simp)
      refine ⟨fun k' v' hx => ?_, fun k' v' hx => ?_⟩
      · rcases List.mem_cons.1 hx with e | hx
        · cases e; exact hk
        · exact h1 k' v' hx
      · by_cases e : k' = k
        · subst e
          rw [hw v' hx]; exact hk
        · exact h2 k' v' (by rw [kvGet_put]; simp [e, hx])
    simp only [addAll] at h
    cases hg : kvGet k m with
    | none => rw [hg] at h; exact key h fun w e => by rw [hg] at e; cases e
    | some t =>
      rw [hg] at h
      simp only at h
      split at h
      · rename_i ht
        exact key h fun w e => by rw [hg] at e; cases e; simpa using ht
      · cases h

/-- No two pairs contradict each other. -/
def Con (ps : List (Str × Str)) : Prop := ∀ k v w, (k, v) ∈ ps → (k, w) ∈ ps → v = w

theorem addAll_ok : ∀ {ps : List (Str × Str)} {m : KV}, Con ps → (∀ k v w, (k, v) ∈ ps → kvGet k m = some w → v = w) → ∃ m', addAll ps m = some m'
  | [], m, _, _ => ⟨m, rfl⟩
  | (k, v) :: ps, m, h1, h2 => by
    have ih : ∃ m', addAll ps (kvPut k v m) = some m' := addAll_ok (fun k' v' w' ha hb => h1 k' v' w' (List.mem_cons_of_mem _ ha) (List.mem_cons_of_mem _ hb)) fun k' v' w' ha hb => by
      rw [kvGet_put] at hb
      by_cases e : k' = k
      · subst e
        simp only [beq_self_eq_true, if_true, Option.some.injEq] at hb
        subst hb
        exact h1 k' v' v (List.mem_cons_of_mem _ ha) (List.mem_cons_self ..)
      · rw [if_neg (by simpa using e)] at hb
        exact h2 k' v' w' (List.mem_cons_of_mem _ ha) hb
    simp only [addAll]
    cases hg : kvGet k m with
    | none => exact ih
    | some t =>
      have := h2 k v t (List.mem_cons_self ..) hg
      subst this
      simpa using ih
theorem addAll_con {ps : List (Str × Str)} {m : KV} (h : addAll ps [] = some m) : Con ps := fun k v w ha hb => by
  have h1 := (addAll_some h).1 k v ha
  have h2 := (addAll_some h).1 k w hb
  rw [h1] at h2
  exact Option.some.inj h2
theorem con_addAll {ps : List (Str × Str)} (h : Con ps) : ∃ m, addAll ps [] = some m := addAll_ok h fun k v w _ e => by cases e

def zipN (n : Note) : List (Str × Str) := n.ls.zip n.ts
def mergedN (a b : Note) (m : KV) : Note := ⟨sortedS (a.ls ++ b.ls), (sortedS (a.ls ++ b.ls)).map fun s => (kvGet s m).getD [], sortedS (a.hs ++ b.hs), sortedS (a.cs ++ b.cs)⟩
def Note.zero : Note := ⟨[], [], [], []⟩
/-- The merged notice, and the error. -/
def mergeS (a b : Note) : Note × Int :=
  if checkS a ≠ 0 then (.zero, checkS a) else if checkS b ≠ 0 then (.zero, checkS b) else
  match addAll (zipN a ++ zipN b) [] with
  | none => (.zero, 9)
  | some m => if checkS (mergedN a b m) ≠ 0 then (.zero, checkS (mergedN a b m)) else (mergedN a b m, 0)

theorem incrS_inc {e : Nat → Int} {l : List Str} (h : incrS e l = 0) : Inc l := by
  unfold incrS at h
  have h0 := firstE_zero.1 h
  have step : ∀ i (hi : i + 1 < l.length), l[i] < l[i + 1] := fun i hi => by
    have := h0 (i + 1) hi
    unfold incrAt at this
    by_cases q : e (i + 1) ≠ 0
    · rw [if_pos q] at this; exact absurd this q
    · rw [if_neg q] at this
      have g1 : l.getD (i + 1) [] = l[i + 1] := getD_at hi
      have g2 : l.getD i [] = l[i] := getD_at (by omega)
      simp only [Nat.add_sub_cancel, g1, g2] at this
      rw [← List.not_le]
      intro hle
      have hl : leS l[i + 1] l[i] = true := by
        unfold leS
        rw [lstr_lt]
        by_cases q : l[i + 1] = l[i]
        · simp [q]
        · rw [decide_eq_true (str_lt_of_le hle q)]; rfl
      rw [if_pos ⟨by omega, hl⟩] at this
      exact absurd this (by decide)
  have far : ∀ d i (hi : i + d + 1 < l.length), l[i] < l[i + d + 1] := fun d => by
    induction d with
    | zero => exact fun i hi => step i hi
    | succ d ih => exact fun i hi => str_lt_trans (ih i (by omega)) (step (i + d + 1) hi)
  refine List.pairwise_iff_getElem.2 fun i j hi hj hij => ?_
  obtain ⟨d, rfl⟩ : ∃ d, j = i + d + 1 := ⟨j - i - 1, by omega⟩
  exact far d i hj

/-- What a notice without an error is like. -/
theorem check_ok {n : Note} (h : checkS n = 0) : n.ls.length ≤ 1024 ∧ n.hs.length ≤ 1024 ∧ n.cs.length ≤ 1024 ∧ n.ts.length = n.ls.length ∧ Inc n.ls ∧ Inc n.hs ∧ Inc n.cs := by
  unfold checkS at h
  split at h
  · cases h
  rename_i h1
  split at h
  · cases h
  rename_i h2
  split at h
  · rename_i h3; exact absurd h h3
  rename_i h3
  split at h
  · rename_i h4; exact absurd h h4
  rename_i h4
  exact ⟨by omega, by omega, by omega, by omega, incrS_inc (Decidable.not_not.1 h3), incrS_inc (Decidable.not_not.1 h4), incrS_inc h⟩

theorem zip_key {ls ts : List Str} {k v : Str} (h : (k, v) ∈ ls.zip ts) : k ∈ ls ∧ v ∈ ts := List.of_mem_zip h
theorem zip_con {ls ts : List Str} (h : Inc ls) : Con (ls.zip ts) := fun k v w ha hb => by
  obtain ⟨i, hi, e1⟩ := List.mem_iff_getElem.1 ha
  obtain ⟨j, hj, e2⟩ := List.mem_iff_getElem.1 hb
  rw [List.getElem_zip, Prod.mk.injEq] at e1 e2
  rw [List.length_zip] at hi hj
  have : i = j := by
    rcases Nat.lt_trichotomy i j with q | q | q
    · have := List.pairwise_iff_getElem.1 h i j (by omega) (by omega) q
      rw [e1.1, e2.1] at this
      exact absurd this (str_lt_irrefl _)
    · exact q
    · have := List.pairwise_iff_getElem.1 h j i (by omega) (by omega) q
      rw [e1.1, e2.1] at this
      exact absurd this (str_lt_irrefl _)
  subst this
  rw [← e1.2, ← e2.2]
theorem zip_has {ls ts : List Str} (h : ts.length = ls.length) {k : Str} (hk : k ∈ ls) : ∃ v, (k, v) ∈ ls.zip ts := by
  obtain ⟨i, hi, rfl⟩ := List.mem_iff_getElem.1 hk
  refine ⟨ts[i], ?_⟩
  rw [List.mem_iff_getElem]
  exact ⟨i, by rw [List.length_zip]; omega, by rw [List.getElem_zip]⟩
theorem zip_texts {ls ts : List Str} {m : KV} (h : ts.length = ls.length) (hm : ∀ k v, (k, v) ∈ ls.zip ts → kvGet k m = some v) : ls.map (fun s => (kvGet s m).getD []) = ts := by
  apply List.ext_getElem
  · rw [List.length_map, h]
  · intro i h1 h2
    rw [List.length_map] at h1
    rw [List.getElem_map, hm ls[i] ts[i] (List.mem_iff_getElem.2 ⟨i, by rw [List.length_zip]; omega, by rw [List.getElem_zip]⟩)]
    rfl

theorem con_congr {p q : List (Str × Str)} (h : ∀ x, x ∈ q → x ∈ p) (hc : Con p) : Con q := fun k v w ha hb => hc k v w (h _ ha) (h _ hb)
theorem con_self {p : List (Str × Str)} (hc : Con p) : Con (p ++ p) := con_congr (fun x hx => by rcases List.mem_append.1 hx with h | h <;> exact h) hc

/-- When a merged notice has no error. -/
theorem merge_some {a b : Note} (h : (mergeS a b).2 = 0) : ∃ m, checkS a = 0 ∧ checkS b = 0 ∧ addAll (zipN a ++ zipN b) [] = some m ∧ checkS (mergedN a b m) = 0 ∧ mergeS a b = (mergedN a b m, 0) := by
  unfold mergeS at h ⊢
  split at h
  · rename_i q; exact absurd h q
  rename_i h1
  split at h
  · rename_i q; exact absurd h q
  rename_i h2
  split at h
  · cases h
  rename_i m hm
  split at h
  · rename_i q; exact absurd h q
  rename_i h3
  rw [if_neg h1, if_neg h2, hm]
  rw [if_neg h3]
  exact ⟨m, by omega, by omega, rfl, by omega, rfl⟩
theorem merge_of {a b : Note} {m : KV} (h1 : checkS a = 0) (h2 : checkS b = 0) (h3 : addAll (zipN a ++ zipN b) [] = some m) : mergeS a b = if checkS (mergedN a b m) ≠ 0 then (.zero, checkS (mergedN a b m)) else (mergedN a b m, 0) := by
  unfold mergeS
  rw [if_neg (by simp [h1]), if_neg (by simp [h2]), h3]
theorem merge_err {a b : Note} (h : (mergeS a b).2 ≠ 0) : (mergeS a b).1 = .zero := by
  unfold mergeS at h ⊢
  split
  · rfl
  rename_i h1
  rw [if_neg h1] at h
  split
  · rfl
  rename_i h2
  rw [if_neg h2] at h
  split
  · rfl
  rename_i m hm
  rw [hm] at h
  simp only at h
  split
  · rfl
  · rename_i h3
    rw [if_neg h3] at h
    exact absurd rfl h

/-- Merging is idempotent. -/
theorem merge_self (a : Note) : (mergeS a a).2 = checkS a ∧ (checkS a = 0 → (mergeS a a).1 = a) := by
  by_cases h : checkS a = 0
  · obtain ⟨_, _, _, hl, i1, i2, i3⟩ := check_ok h
    have hc : Con (zipN a ++ zipN a) := con_self (zip_con i1)
    obtain ⟨m, hm⟩ := con_addAll hc
    have he : mergedN a a m = a := by
      unfold mergedN
      rw [sortedS_keep i1 fun x hx => hx, sortedS_keep i2 fun x hx => hx, sortedS_keep i3 fun x hx => hx, zip_texts hl fun k v hx => (addAll_some hm).1 k v (List.mem_append_left _ hx)]
    rw [merge_of h h hm, he, if_neg (by simp [h])]
    exact ⟨h.symm, fun _ => rfl⟩
  · unfold mergeS
    rw [if_pos h]
    exact ⟨rfl, fun e => absurd e h⟩

theorem mergedN_has {a b : Note} (ha : a.ts.length = a.ls.length) (hb : b.ts.length = b.ls.length) {s : Str} (hs : s ∈ sortedS (a.ls ++ b.ls)) : ∃ v, (s, v) ∈ zipN a ++ zipN b := by
  rcases List.mem_append.1 (sortedS_mem.1 hs) with h | h
  · obtain ⟨v, hv⟩ := zip_has ha h
    exact ⟨v, List.mem_append_left _ hv⟩
  · obtain ⟨v, hv⟩ := zip_has hb h
    exact ⟨v, List.mem_append_right _ hv⟩

/-- Merging is commutative. -/
theorem merge_swap {a b : Note} (h : (mergeS a b).2 = 0) : mergeS b a = mergeS a b := by
  obtain ⟨m, h1, h2, h3, h4, h5⟩ := merge_some h
  obtain ⟨_, _, _, la, _⟩ := check_ok h1
  obtain ⟨_, _, _, lb, _⟩ := check_ok h2
  obtain ⟨m', hm'⟩ := con_addAll (con_congr (q := zipN b ++ zipN a) (fun x hx => by simpa [or_comm] using hx) (addAll_con h3))
  have he : mergedN b a m' = mergedN a b m := by
    unfold mergedN
    rw [sortedS_comm b.ls a.ls, sortedS_comm b.hs a.hs, sortedS_comm b.cs a.cs]
    congr 1
    refine List.map_congr_left fun s hs => ?_
    obtain ⟨v, hv⟩ := mergedN_has la lb hs
    rw [(addAll_some h3).1 s v hv, (addAll_some hm').1 s v (by simpa [or_comm] using hv)]
  rw [merge_of h2 h1 hm', he, h5, if_neg (by simp [h4])]

/-- Merged once more, nothing changes. -/
theorem merge_again {a b : Note} (h : (mergeS a b).2 = 0) : mergeS (mergeS a b).1 b = ((mergeS a b).1, 0) := by
  obtain ⟨m, h1, h2, h3, h4, h5⟩ := merge_some h
  obtain ⟨_, _, _, la, _⟩ := check_ok h1
  obtain ⟨_, _, _, lb, _⟩ := check_ok h2
  rw [h5]
  simp only
  obtain ⟨_, _, _, ln, i1, i2, i3⟩ := check_ok h4
  have hz : ∀ k v, (k, v) ∈ zipN (mergedN a b m) ++ zipN b → kvGet k m = some v := fun k v hx => by
    rcases List.mem_append.1 hx with hx | hx
    · obtain ⟨i, hi, e⟩ := List.mem_iff_getElem.1 hx
      unfold zipN at e hi
      rw [List.getElem_zip, Prod.mk.injEq] at e
      have hk := (zip_key hx).1
      obtain ⟨w, hw⟩ := mergedN_has la lb hk
      have hg := (addAll_some h3).1 k w hw
      have : v = w := by
        rw [← e.2]
        simp only [mergedN, List.getElem_map]
        have e1 := e.1
        simp only [mergedN] at e1
        rw [e1, hg]; rfl
      rw [this]; exact hg
    · exact (addAll_some h3).1 k v (List.mem_append_right _ hx)
  obtain ⟨m2, hm2⟩ := con_addAll (ps := zipN (mergedN a b m) ++ zipN b) fun k v w ha hb => by
    have e1 := hz k v ha
    have e2 := hz k w hb
    rw [e1] at e2
    exact Option.some.inj e2
  have he : mergedN (mergedN a b m) b m2 = mergedN a b m := by
    have k1 : sortedS ((mergedN a b m).ls ++ b.ls) = (mergedN a b m).ls := sortedS_keep i1 fun x hx => sortedS_mem.2 (List.mem_append_right _ hx)
    have k2 : sortedS ((mergedN a b m).hs ++ b.hs) = (mergedN a b m).hs := sortedS_keep i2 fun x hx => sortedS_mem.2 (List.mem_append_right _ hx)
    have k3 : sortedS ((mergedN a b m).cs ++ b.cs) = (mergedN a b m).cs := sortedS_keep i3 fun x hx => sortedS_mem.2 (List.mem_append_right _ hx)
    have k4 : (mergedN a b m).ls.map (fun s => (kvGet s m2).getD []) = (mergedN a b m).ts := zip_texts ln fun k v hx => (addAll_some hm2).1 k v (List.mem_append_left _ hx)
    show (⟨_, _, _, _⟩ : Note) = _
    rw [k1, k2, k3, k4]
  rw [merge_of h4 h2 hm2, he, if_neg (by simp [h4])]

/-- What is kept. -/
theorem merge_keeps {a b : Note} (h : (mergeS a b).2 = 0) : (∀ x ∈ a.ls, x ∈ (mergeS a b).1.ls) ∧ (∀ x ∈ a.ts, x ∈ (mergeS a b).1.ts) ∧ (∀ x ∈ a.hs, x ∈ (mergeS a b).1.hs) ∧ (∀ x ∈ b.cs, x ∈ (mergeS a b).1.cs) ∧ (mergeS a b).1.hs.length ≤ a.hs.length + b.hs.length := by
  obtain ⟨m, h1, h2, h3, h4, h5⟩ := merge_some h
  obtain ⟨_, _, _, la, _⟩ := check_ok h1
  rw [h5]
  refine ⟨fun x hx => sortedS_mem.2 (List.mem_append_left _ hx), fun x hx => ?_, fun x hx => sortedS_mem.2 (List.mem_append_left _ hx), fun x hx => sortedS_mem.2 (List.mem_append_right _ hx), ?_⟩
  · obtain ⟨i, hi, rfl⟩ := List.mem_iff_getElem.1 hx
    have hin : (a.ls[i]'(by omega), a.ts[i]) ∈ zipN a := List.mem_iff_getElem.2 ⟨i, by unfold zipN; rw [List.length_zip]; omega, by simp only [zipN, List.getElem_zip]⟩
    have hg := (addAll_some h3).1 _ _ (List.mem_append_left _ hin)
    refine List.mem_map.2 ⟨a.ls[i]'(by omega), sortedS_mem.2 (List.mem_append_left _ (List.getElem_mem _)), ?_⟩
    rw [hg]; rfl
  · have := sortedS_len (a.hs ++ b.hs)
    rw [List.length_append] at this
    exact this

/-- The merged notice is not too long. -/
theorem merged_sm {a b : Note} {m : KV} (hsa : a.Sm) (hsb : b.Sm) (h1 : checkS a = 0) (h2 : checkS b = 0) (h3 : addAll (zipN a ++ zipN b) [] = some m) : (mergedN a b m).Sm := by
  obtain ⟨la1, la2, la3, la, _⟩ := check_ok h1
  obtain ⟨lb1, lb2, lb3, lb, _⟩ := check_ok h2
  have both : ∀ {l1 l2 : List Str}, SmL l1 → SmL l2 → l1.length ≤ 1024 → l2.length ≤ 1024 → SmL (sortedS (l1 ++ l2)) := fun s1 s2 e1 e2 => by
    refine ⟨?_, fun s hs => ?_⟩
    · refine Nat.le_trans (sortedS_len _) ?_
      rw [List.length_append]; omega
    · rcases List.mem_append.1 (sortedS_mem.1 hs) with q | q
      · exact s1.2 s q
      · exact s2.2 s q
  have hls := both hsa.ls hsb.ls la1 lb1
  refine ⟨hls, ⟨?_, fun s hs => ?_⟩, both hsa.hs hsb.hs la2 lb2, both hsa.cs hsb.cs la3 lb3⟩
  · simp only [mergedN, List.length_map]; exact hls.1
  · simp only [mergedN] at hs
    obtain ⟨k, hk, rfl⟩ := List.mem_map.1 hs
    obtain ⟨v, hv⟩ := mergedN_has la lb hk
    rw [(addAll_some h3).1 k v hv]
    rcases List.mem_append.1 hv with q | q
    · exact hsa.ts.2 v (zip_key q).2
    · exact hsb.ts.2 v (zip_key q).2
theorem merge_sm {a b : Note} (hsa : a.Sm) (hsb : b.Sm) (h : (mergeS a b).2 = 0) : (mergeS a b).1.Sm := by
  obtain ⟨m, h1, h2, h3, _, h5⟩ := merge_some h
  rw [h5]
  exact merged_sm hsa hsb h1 h2 h3
end Go.V
