/- Contracts of the functions that sort and list violations, at no licenses. No condition. -/
import Derived.Test.YtkifdjnbkkkhlaaGreatDoorVka
set_option linter.unusedSimpArgs false
set_option linter.unusedVariables false
set_option linter.constructorNameAsVariable false
set_option linter.deprecated false
namespace Go.V
open Go.Proofs
set_option maxRecDepth 100000
set_option linter.unusedSimpArgs false
set_option linter.unusedVariables false

/-- Violations and their cells. -/
def VioL (vs : List Vio) (cs : List (List D)) : Prop := cs.length = vs.length ∧ ∀ (j : Nat) (v : Vio) (c : List D), vs[j]? = some v → cs[j]? = some c → v.Is c
theorem VioL.len {vs : List Vio} {cs : List (List D)} (hv : VioL vs cs) : ∀ c ∈ cs, c.length = 2 := fun c hc => by
  obtain ⟨j, hj⟩ := List.mem_iff_getElem?.1 hc
  have hlt := (List.getElem?_eq_some_iff.1 hj).1
  obtain ⟨d, rfl, _⟩ := hv.2 j (vs[j]'(by rw [← hv.1]; exact hlt)) c (List.getElem?_eq_getElem _) hj
  rfl
theorem VioL.get {vs : List Vio} {cs : List (List D)} (hv : VioL vs cs) {i : Nat} (hi : i < vs.length) : ∃ c, cs[i]? = some c ∧ (vs[i]).Is c :=
  ⟨_, List.getElem?_eq_getElem (by rw [hv.1]; exact hi), hv.2 i _ _ (List.getElem?_eq_getElem hi) (List.getElem?_eq_getElem (by rw [hv.1]; exact hi))⟩

/-- A slice of violations in a row. -/
def VSl (h : Heap) (vs : List Vio) (d : D) : Prop := (d = .nilsl ∧ vs = []) ∨ ∃ id cs, d = .rs id 2 0 vs.length ∧ h.at' id = some (.row cs.flatten) ∧ VioL vs cs

set_option maxHeartbeats 1000000 in
/-- The insertion sort of violations that are in order. -/
theorem c_insertion {vs : List Vio} {d : D} {h : Heap} (hd : VSl h vs d) (hl : vs.length ≤ 1048576) (hs : ∀ i (h : i + 1 < vs.length), ¬ cmpV vs[i + 1] vs[i] < 0) :
    VCall Tryz.prog 195 [d, .int .i64 0, .int .i64 vs.length, .fn (.func 87) [] []] h fun _ h' => h' = h := by
  refine VCall.of_fn (g := cfg195) mix Tryz.func195 ok195 rfl rfl ?_
  simp only [Tryz.f195, Option.getD_some]
  simp only [go_sem, Nat.reduceEqDiff, ↓reduceIte, mu195]
  refine vwp_range (fun i fr h' => fr 0 = d ∧ fr 1 = .int .i64 0 ∧ fr 2 = .int .i64 vs.length ∧ fr 3 = .fn (.func 87) [] [] ∧ fr 8 = .int .i64 ((i + 1 : Nat) : Int) ∧ h' = h) vs.length ?_ ?_
  · simp only [go_sem, Nat.reduceEqDiff, ↓reduceIte, true_and]
    rfl
  rintro i fr h' hle ⟨f0, f1, f2, f3, f8, rfl⟩
  simp only [go_sem, Nat.reduceEqDiff, ↓reduceIte, f0, f1, f2, f3, f8]
  by_cases hlt : i + 1 < vs.length
  · rw [decide_eq_true (by exact_mod_cast hlt)]
    obtain ⟨id, cs, hde, hi, hv⟩ : ∃ id cs, d = .rs id 2 0 vs.length ∧ h'.at' id = some (.row cs.flatten) ∧ VioL vs cs := by
      rcases hd with ⟨_, rfl⟩ | hd
      · simp at hlt
      · exact hd
    simp only [go_sem, Nat.reduceEqDiff, ↓reduceIte, f0, f1, f2, f3, f8]
    refine vwp_range (fun j fr h2 => fr 0 = d ∧ fr 1 = .int .i64 0 ∧ fr 2 = .int .i64 vs.length ∧ fr 3 = .fn (.func 87) [] [] ∧ fr 8 = .int .i64 ((i + 1 : Nat) : Int) ∧ fr 9 = .int .i64 ((i + 1 : Nat) : Int) ∧ h2 = h') 0 ?_ ?_
    · simp only [go_sem, Nat.reduceEqDiff, ↓reduceIte, f0, f1, f2, f3, f8, true_and]
    rintro j fr2 h2 _ ⟨f0, f1, f2, f3, f8, f9, rfl⟩
    obtain ⟨c1, hc1, hI1⟩ := hv.get hlt
    obtain ⟨c0, hc0, hI0⟩ := hv.get (show i < vs.length by omega)
    have hw : IntKind.i64.wrap (((i + 1 : Nat) : Int) - 1) = ((i : Nat) : Int) := by rw [wrap_i64 (by omega) (by omega)]; omega
    have hgt : decide (((i + 1 : Nat) : Int) > 0) = true := decide_eq_true (by omega)
    simp only [go_sem, Nat.reduceEqDiff, ↓reduceIte, f0, f1, f2, f3, f8, f9]
    refine vwp_cut (fun fr' h' => fr' 34 = .bool false ∧ fr' 0 = d ∧ fr' 1 = .int .i64 0 ∧ fr' 2 = .int .i64 vs.length ∧ fr' 3 = .fn (.func 87) [] [] ∧ fr' 8 = .int .i64 ((i + 1 : Nat) : Int) ∧ h' = h2) ?_ ?_
    · refine vwp_text (by kernel_rfl) ?_
      simp only [go_sem, Nat.reduceEqDiff, ↓reduceIte, f0, f1, f2, f3, f8, f9, hgt, hw, hde, vindexAddr_rs elemT_36 szT_48 hlt, vindexAddr_rs elemT_36 szT_48 (show i < vs.length by omega), hi, vpart_flat hv.len Nat.two_pos hc1, vpart_flat hv.len Nat.two_pos hc0]
      refine (c_compare hI1 hI0 _).mono ?_
      rintro r h3 ⟨rfl, rfl⟩
      simp only [go_sem, Nat.reduceEqDiff, ↓reduceIte, decide_eq_false (hs i hlt)]
    rintro fr' h3 ⟨g34, g0, g1, g2, g3, g8, rfl⟩
    simp only [go_sem, Nat.reduceEqDiff, ↓reduceIte, g34, g0, g1, g2, g3, g8]
    exact ⟨by omega, by rw [wrap_succ (by unfold lim; omega)]⟩
  · rw [decide_eq_false (by omega)]
    simp only [go_sem, Nat.reduceEqDiff, ↓reduceIte]

/-- The sorting of at most 12 violations that are in order. -/
theorem c_pdq {vs : List Vio} {d : D} {h : Heap} (hd : VSl h vs d) (hl : vs.length ≤ 12) (hs : ∀ i (h : i + 1 < vs.length), ¬ cmpV vs[i + 1] vs[i] < 0) (m : Int) :
    VCall Tryz.prog 144 [d, .int .i64 0, .int .i64 vs.length, .int .i64 m, .fn (.func 87) [] []] h fun _ h' => h' = h := by
  refine VCall.of_fn (g := cfg144) mix Tryz.func144 ok144 rfl rfl ?_
  simp only [Tryz.f144, Option.getD_some]
  simp only [go_sem, Nat.reduceEqDiff, ↓reduceIte, mu144]
  refine vwp_range (fun j fr h2 => fr 0 = d ∧ fr 1 = .int .i64 0 ∧ fr 2 = .int .i64 vs.length ∧ fr 3 = .int .i64 m ∧ fr 4 = .fn (.func 87) [] [] ∧ h2 = h) 0 ?_ ?_
  · simp only [go_sem, Nat.reduceEqDiff, ↓reduceIte, true_and]
  rintro j fr2 h2 _ ⟨f0, f1, f2, f3, f4, rfl⟩
  have hw : IntKind.i64.wrap ((vs.length : Int) - 0) = vs.length := by rw [wrap_i64 (by omega) (by omega)]; omega
  have h12 : decide ((vs.length : Int) ≤ 12) = true := decide_eq_true (by omega)
  simp only [go_sem, Nat.reduceEqDiff, ↓reduceIte, f0, f1, f2, f3, f4, hw, h12]
  refine (c_insertion hd (by omega) hs).mono ?_
  rintro r h3 rfl
  simp only [go_sem, Nat.reduceEqDiff, ↓reduceIte]

def noExt : FuncId → List D → (Nat → Option Obj) → Option D := fun _ _ _ => none
theorem no_ext {P : Program} : ∀ (g : FuncId) (args : List D) (h : Heap) (d : D), noExt g args h.at' = some d → VCall P g args h fun a b => a = d ∧ b = h := fun _ _ _ _ e => by cases e
/-- The number of bits of small numbers. -/
theorem c_len12 : ∀ n : Nat, n ≤ 12 → ∃ m : Int, ∀ h, VCall Tryz.prog 143 [.int .u64 (n : Int)] h fun r h' => h' = h ∧ r = .int .i64 m
  | 0, _ => ⟨0, fun h => VCall.of_run (sett := fun _ => false) (ext := noExt) (fuel := 20) (k := 10) (d := .int .i64 0) mix tab_ok no_ext (by kernel_rfl) (by kernel_rfl) (by kernel_rfl) h⟩
  | 1, _ => ⟨1, fun h => VCall.of_run (sett := fun _ => false) (ext := noExt) (fuel := 20) (k := 10) (d := .int .i64 1) mix tab_ok no_ext (by kernel_rfl) (by kernel_rfl) (by kernel_rfl) h⟩
  | 2, _ => ⟨2, fun h => VCall.of_run (sett := fun _ => false) (ext := noExt) (fuel := 20) (k := 10) (d := .int .i64 2) mix tab_ok no_ext (by kernel_rfl) (by kernel_rfl) (by kernel_rfl) h⟩
  | 3, _ => ⟨2, fun h => VCall.of_run (sett := fun _ => false) (ext := noExt) (fuel := 20) (k := 10) (d := .int .i64 2) mix tab_ok no_ext (by kernel_rfl) (by kernel_rfl) (by kernel_rfl) h⟩
  | 4, _ => ⟨3, fun h => VCall.of_run (sett := fun _ => false) (ext := noExt) (fuel := 20) (k := 10) (d := .int .i64 3) mix tab_ok no_ext (by kernel_rfl) (by kernel_rfl) (by kernel_rfl) h⟩
  | 5, _ => ⟨3, fun h => VCall.of_run (sett := fun _ => false) (ext := noExt) (fuel := 20) (k := 10) (d := .int .i64 3) mix tab_ok no_ext (by kernel_rfl) (by kernel_rfl) (by kernel_rfl) h⟩
  | 6, _ => ⟨3, fun h => VCall.of_run (sett := fun _ => false) (ext := noExt) (fuel := 20) (k := 10) (d := .int .i64 3) mix tab_ok no_ext (by kernel_rfl) (by kernel_rfl) (by kernel_rfl) h⟩
  | 7, _ => ⟨3, fun h => VCall.of_run (sett := fun _ => false) (ext := noExt) (fuel := 20) (k := 10) (d := .int .i64 3) mix tab_ok no_ext (by kernel_rfl) (by kernel_rfl) (by kernel_rfl) h⟩
  | 8, _ => ⟨4, fun h => VCall.of_run (sett := fun _ => false) (ext := noExt) (fuel := 20) (k := 10) (d := .int .i64 4) mix tab_ok no_ext (by kernel_rfl) (by kernel_rfl) (by kernel_rfl) h⟩
  | 9, _ => ⟨4, fun h => VCall.of_run (sett := fun _ => false) (ext := noExt) (fuel := 20) (k := 10) (d := .int .i64 4) mix tab_ok no_ext (by kernel_rfl) (by kernel_rfl) (by kernel_rfl) h⟩
  | 10, _ => ⟨4, fun h => VCall.of_run (sett := fun _ => false) (ext := noExt) (fuel := 20) (k := 10) (d := .int .i64 4) mix tab_ok no_ext (by kernel_rfl) (by kernel_rfl) (by kernel_rfl) h⟩
  | 11, _ => ⟨4, fun h => VCall.of_run (sett := fun _ => false) (ext := noExt) (fuel := 20) (k := 10) (d := .int .i64 4) mix tab_ok no_ext (by kernel_rfl) (by kernel_rfl) (by kernel_rfl) h⟩
  | 12, _ => ⟨4, fun h => VCall.of_run (sett := fun _ => false) (ext := noExt) (fuel := 20) (k := 10) (d := .int .i64 4) mix tab_ok no_ext (by kernel_rfl) (by kernel_rfl) (by kernel_rfl) h⟩
  | n + 13, h => by omega

/-- slices.SortFunc at at most 12 violations that are in order. -/
theorem c_sortFunc {vs : List Vio} {d : D} {h : Heap} (hd : VSl h vs d) (hl : vs.length ≤ 12) (hs : ∀ i (h : i + 1 < vs.length), ¬ cmpV vs[i + 1] vs[i] < 0) :
    VCall Tryz.prog 98 [d, .fn (.func 87) [] []] h fun _ h' => h' = h := by
  have hlen : vlen Tryz.prog 36 d h = some (.int .i64 vs.length) := by
    rcases hd with ⟨rfl, rfl⟩ | ⟨id, cs, rfl, _⟩
    · exact vlen_sl (IsSl.nil (sz := 2)) Tryz.underlying36
    · exact vlen_rs Tryz.underlying36
  obtain ⟨m, hm⟩ := c_len12 vs.length hl
  have hcv : vconvert Tryz.prog 3 221 (.int .i64 (vs.length : Int)) = some (.int .u64 (vs.length : Int)) := by
    have hu : Tryz.prog.underlying 221 = some (.int .u64) := by kernel_rfl
    have hw : IntKind.u64.wrap (vs.length : Int) = vs.length := by
      unfold IntKind.wrap
      simp [IntKind.signed, IntKind.bits]
      omega
    simp only [vconvert, Tryz.underlying3, hu, hw]
  refine VCall.of_fn (g := cfg98) mix Tryz.func98 ok98 rfl rfl ?_
  simp only [Tryz.f98, Option.getD_some]
  simp only [go_sem, Nat.reduceEqDiff, ↓reduceIte, mu98, hlen, hcv]
  refine (hm h).mono ?_
  rintro r h2 ⟨rfl, rfl⟩
  exact (c_pdq hd hl hs m).mono fun _ _ e => e

/-- slices.CompactFunc at violations of which none is equal to the one before it. -/
theorem c_compactFunc {vs : List Vio} {d : D} {h : Heap} (hd : VSl h vs d) (hl : vs.length ≤ 1048576) (hs : ∀ i (h : i + 1 < vs.length), ¬ cmpV vs[i + 1] vs[i] = 0) :
    VCall Tryz.prog 99 [d, .fn (.func 46) [] []] h fun r h' => h' = h ∧ r = d := by
  have hlen : vlen Tryz.prog 36 d h = some (.int .i64 vs.length) := by
    rcases hd with ⟨rfl, rfl⟩ | ⟨id, cs, rfl, _⟩
    · exact vlen_sl (IsSl.nil (sz := 2)) Tryz.underlying36
    · exact vlen_rs Tryz.underlying36
  refine VCall.of_fn (g := cfg99) mix Tryz.func99 ok99 rfl rfl ?_
  simp only [Tryz.f99, Option.getD_some]
  simp only [go_sem, Nat.reduceEqDiff, ↓reduceIte, mu99, hlen]
  by_cases h2 : vs.length < 2
  · rw [decide_eq_true (by omega)]
    simp only [go_sem, Nat.reduceEqDiff, ↓reduceIte]
  rw [decide_eq_false (by omega)]
  obtain ⟨id, cs, rfl, hi, hv⟩ : ∃ id cs, d = .rs id 2 0 vs.length ∧ h.at' id = some (.row cs.flatten) ∧ VioL vs cs := by
    rcases hd with ⟨_, rfl⟩ | hd
    · simp at h2
    · exact hd
  simp only [go_sem, Nat.reduceEqDiff, ↓reduceIte]
  refine vwp_range (fun i fr h' => fr 0 = .rs id 2 0 vs.length ∧ fr 1 = .fn (.func 46) [] [] ∧ fr 5 = .int .i64 ((i + 1 : Nat) : Int) ∧ h' = h) vs.length ?_ ?_
  · simp only [go_sem, Nat.reduceEqDiff, ↓reduceIte, true_and]
    rfl
  rintro i fr h' hle ⟨f0, f1, f5, rfl⟩
  simp only [go_sem, Nat.reduceEqDiff, ↓reduceIte, f0, f1, f5, vlen_rs Tryz.underlying36]
  by_cases hlt : i + 1 < vs.length
  · rw [decide_eq_true (by exact_mod_cast hlt)]
    obtain ⟨c1, hc1, hI1⟩ := hv.get hlt
    obtain ⟨c0, hc0, hI0⟩ := hv.get (show i < vs.length by omega)
    have hw : IntKind.i64.wrap (((i + 1 : Nat) : Int) - 1) = ((i : Nat) : Int) := by rw [wrap_i64 (by omega) (by omega)]; omega
    simp only [go_sem, Nat.reduceEqDiff, ↓reduceIte, f0, f1, f5]
    refine vwp_cut (fun fr' h2 => fr' 28 = .bool false ∧ fr' 0 = .rs id 2 0 vs.length ∧ fr' 1 = .fn (.func 46) [] [] ∧ fr' 5 = .int .i64 ((i + 1 : Nat) : Int) ∧ h2 = h') ?_ ?_
    · refine vwp_text (by kernel_rfl) ?_
      simp only [go_sem, Nat.reduceEqDiff, ↓reduceIte, f0, f1, f5, hw, vindexAddr_rs elemT_36 szT_48 hlt, vindexAddr_rs elemT_36 szT_48 (show i < vs.length by omega), hi, vpart_flat hv.len Nat.two_pos hc1, vpart_flat hv.len Nat.two_pos hc0]
      refine (c_equal hI1 hI0 _).mono ?_
      rintro r h3 ⟨rfl, rfl⟩
      simp only [go_sem, Nat.reduceEqDiff, ↓reduceIte, beq_eq_false_iff_ne.2 (hs i hlt)]
    rintro fr' h3 ⟨g28, g0, g1, g5, rfl⟩
    simp only [go_sem, Nat.reduceEqDiff, ↓reduceIte, g28, g0, g1, g5]
    exact ⟨by omega, by rw [wrap_succ (by unfold lim; omega)]⟩
  · rw [decide_eq_false (by omega)]
    simp only [go_sem, Nat.reduceEqDiff, ↓reduceIte, f0]
end Go.V
namespace Go.V
open Go.Proofs
set_option maxRecDepth 100000
set_option linter.unusedSimpArgs false
set_option linter.unusedVariables false

/-! One fact: cloned, sorted, compacted. -/
theorem c_clone1 (n : Int) (tk : Tk) (h : Heap) : VCall Tryz.prog 95 [.sl 1 [[.int .i64 n]] tk] h fun r h' => r = .rs h.next 1 0 1 ∧ h' = h.new h.next (.row [.int .i64 n]) := by
  refine VCall.of_fn (g := cfg95) mix Tryz.func95 ok95 rfl rfl ?_
  simp only [Tryz.f95, Option.getD_some]
  have hn : vbin Tryz.prog .eql 46 true (.sl 1 [[.int .i64 n]] tk) .nilsl = some (.bool false) := by rw [vbin_sl_nil (IsSl.mk tk) Tryz.underlying46]; rfl
  simp only [go_sem, Nat.reduceEqDiff, ↓reduceIte, hn, mu95, List.contains_cons, Nat.reduceBEq, vbuildSlice_zero elemT_46 zeroT_3 szT_3 rfl rfl (by omega : 0 < 1)]
  have : vappend Tryz.prog true h.next 46 (.sl 1 [] .full) (.sl 1 [[.int .i64 n]] tk) h = some (.rs h.next 1 0 1, h.new h.next (.row [.int .i64 n])) := by
    simp [vappend, elemT_46, zokT_3, szT_3, vels, vappendE, bytesT_3, lim]
  simp only [this, go_sem]

theorem c_insI1 (id : Nat) (h : Heap) : VCall Tryz.prog 184 [.rs id 1 0 1, .int .i64 0, .int .i64 1] h fun _ h' => h' = h := by
  refine VCall.of_fn (g := cfg184) mix Tryz.func184 ok184 rfl rfl ?_
  simp only [Tryz.f184, Option.getD_some]
  have hw : IntKind.i64.wrap (0 + 1) = 1 := rfl
  simp only [go_sem, Nat.reduceEqDiff, ↓reduceIte, hw]
  refine vwp_range (fun j fr h2 => fr 2 = .int .i64 1 ∧ fr 6 = .int .i64 1 ∧ h2 = h) 0 ?_ ?_
  · simp only [go_sem, Nat.reduceEqDiff, ↓reduceIte, true_and]
  rintro j fr2 h2 _ ⟨f2, f6, rfl⟩
  have hlt : decide ((1 : Int) < 1) = false := rfl
  simp only [go_sem, Nat.reduceEqDiff, ↓reduceIte, f2, f6, hlt]

theorem c_pdqI1 (id : Nat) (m : Int) (h : Heap) : VCall Tryz.prog 142 [.rs id 1 0 1, .int .i64 0, .int .i64 1, .int .i64 m] h fun _ h' => h' = h := by
  refine VCall.of_fn (g := cfg142) mix Tryz.func142 ok142 rfl rfl ?_
  simp only [Tryz.f142, Option.getD_some]
  have hw : IntKind.i64.wrap (1 - 0) = 1 := rfl
  have h12 : decide ((1 : Int) ≤ 12) = true := rfl
  simp only [go_sem, Nat.reduceEqDiff, ↓reduceIte, mu142]
  refine vwp_range (fun j fr h2 => fr 0 = .rs id 1 0 1 ∧ fr 1 = .int .i64 0 ∧ fr 2 = .int .i64 1 ∧ h2 = h) 0 ?_ ?_
  · simp only [go_sem, Nat.reduceEqDiff, ↓reduceIte, true_and]
  rintro j fr2 h2 _ ⟨f0, f1, f2, rfl⟩
  simp only [go_sem, Nat.reduceEqDiff, ↓reduceIte, f0, f1, f2, hw, h12]
  refine (c_insI1 _ _).mono ?_
  rintro r h3 rfl
  simp only [go_sem, Nat.reduceEqDiff, ↓reduceIte]

theorem c_sortI1 (id : Nat) (h : Heap) : VCall Tryz.prog 96 [.rs id 1 0 1] h fun _ h' => h' = h := by
  obtain ⟨m, hm⟩ := c_len12 1 (by omega)
  have hcv : vconvert Tryz.prog 3 221 (.int .i64 ((1 : Nat) : Int)) = some (.int .u64 ((1 : Nat) : Int)) := by kernel_rfl
  refine VCall.of_fn (g := cfg96) mix Tryz.func96 ok96 rfl rfl ?_
  simp only [Tryz.f96, Option.getD_some]
  simp only [go_sem, Nat.reduceEqDiff, ↓reduceIte, mu96, vlen_rs Tryz.underlying46, hcv]
  refine (hm h).mono ?_
  rintro r h2 ⟨rfl, rfl⟩
  exact (c_pdqI1 id m _).mono fun _ _ e => e

/-- slices.Compact of one element, which is not written to any more. -/
theorem c_compactI1 {id : Nat} {n : Int} {h : Heap} (hi : h.at' id = some (.row [.int .i64 n])) : VCall Tryz.prog 97 [.rs id 1 0 1] h fun r h' => r = .sl 1 [[.int .i64 n]] .no ∧ h' = h.del id := by
  refine VCall.freezeD ?_
  refine VCall.of_fn (g := cfg97) mix Tryz.func97 ok97 rfl rfl ?_
  simp only [Tryz.f97, Option.getD_some]
  have h12 : decide (((1 : Nat) : Int) < 2) = true := rfl
  simp only [go_sem, Nat.reduceEqDiff, ↓reduceIte, mu97, vlen_rs Tryz.underlying46, h12]
  exact ⟨id, _, hi, by simp [frz, chunks], rfl⟩

/-! What is found is noted. -/
def vioCells (num : Int) (ks : List Int) : List D := [.int .i64 num, .sl 1 (ints ks) .no]
theorem vioCells_len (num : Int) (ks : List (List Int)) : ∀ c ∈ ks.map (vioCells num), c.length = 2 := fun c hc => by
  obtain ⟨k, _, rfl⟩ := List.mem_map.1 hc; rfl
theorem vioCells_L (num : Int) (ks : List (List Int)) (h : ∀ k ∈ ks, k.length ≤ 1048576) : VioL (ks.map (Vio.mk num)) (ks.map (vioCells num)) := by
  refine ⟨by simp, fun j v c hv hc => ?_⟩
  rw [List.getElem?_map] at hv hc
  obtain ⟨k, hk, rfl⟩ := Option.map_eq_some_iff.1 hv
  rw [hk] at hc
  cases hc
  exact ⟨_, rfl, IsSl.mk _, h k (List.mem_of_getElem? hk)⟩

/-- The list of what was found: in a row that is nobody else's. -/
def OwnR (h : Heap) (sz : Nat) (xs : List (List D)) (d : D) : Prop := (d = .nilsl ∧ xs = []) ∨ ∃ id, d = .rs id sz 0 xs.length ∧ h.at' id = some (.row xs.flatten) ∧ id < h.next ∧ xs ≠ []
def rowOf (d : D) (i : Nat) : Prop := match d with
  | .rs id _ _ _ => i = id
  | _ => False

theorem OwnR.loc {h h' : Heap} {sz : Nat} {xs : List (List D)} {d : D} (ho : OwnR h sz xs d) (hn : h.next ≤ h'.next) (hk : ∀ i, rowOf d i → h'.at' i = h.at' i) : OwnR h' sz xs d := by
  rcases ho with h1 | ⟨t, rfl, h1, h2⟩
  · exact .inl h1
  · exact .inr ⟨t, rfl, by rw [hk t rfl]; exact h1, by omega, h2.2⟩

theorem OwnR.app {P : Program} {h : Heap} {sz nid : Nat} {xs ys : List (List D)} {d : D} {tk : Tk} {t e : TypeId} (ho : OwnR h sz xs d) (he : elemT P t = some e) (hz : zokT P e = true) (hs : szT P e = sz) (h0 : 0 < sz) (hxs : ∀ y ∈ xs, y.length = sz) (hys : ∀ y ∈ ys, y.length = sz) (hy0 : ys ≠ [])
    (hb : (xs.length + ys.length) * bytesT P e ≤ lim) (hl : xs.length + ys.length ≤ lim) : ∃ g : Heap, vappend P true nid t d (.sl sz ys tk) h = some (.rs nid sz 0 (xs ++ ys).length, g.new nid (.row (xs ++ ys).flatten)) ∧ g.next = h.next ∧ (∀ i, ¬ rowOf d i → g.at' i = h.at' i) := by
  have hfl : ys.flatten.length = ys.length * sz := flat_len hys
  have hlen : 0 < ys.length := List.length_pos_iff.2 hy0
  simp only [vappend, he, hz, hs, vels, if_true, hfl, Nat.mul_div_cancel _ h0]
  rcases ho with ⟨rfl, rfl⟩ | ⟨id, rfl, h1, h2⟩
  · refine ⟨h, ?_, rfl, fun _ _ => rfl⟩
    simp only [vappendE]
    rw [if_neg (by omega), if_pos (by simp only [Bool.and_eq_true, decide_eq_true_eq]; simp only [List.length_nil, Nat.zero_add] at hb hl; exact ⟨hb, hl⟩)]
    simp
  · refine ⟨h.del id, ?_, rfl, fun i hi => del_keep fun e => hi (by rw [e]; rfl)⟩
    have hf2 : xs.flatten.length = xs.length * sz := flat_len hxs
    simp only [vappendE, Bool.true_and, decide_true]
    rw [if_pos (by simp only [Bool.and_eq_true, decide_eq_true_eq]; exact ⟨hb, hl⟩)]
    simp only [h1, hf2, if_true]
    simp

def YVio (num : Int) (fn : D) (nl nr : Nat) (ks : List (List Int)) (S : Nat → Prop) (h : Heap) : Prop :=
  nl < h.next ∧ nr < h.next ∧ nl ≠ nr ∧ h.at' nr = some (.row [.int .i64 num, fn]) ∧ ∃ d, h.at' nl = some (.row [d]) ∧ OwnR h 2 (ks.map (vioCells num)) d ∧ ¬ rowOf d nl ∧ ¬ rowOf d nr ∧ ∀ i, S i ↔ (i = nl ∨ i = nr ∨ rowOf d i)

set_option maxHeartbeats 1000000 in
theorem c_found {num : Int} {fn : D} {nl nr : Nat} {ks : List (List Int)} (hks : ks.length < 1048576) {S : Nat → Prop} {h : Heap} (hY : YVio num fn nl nr ks S h) (n : Int) (tk : Tk) :
    VCall Tryz.prog 94 [.sl 1 (ints [n]) tk, .ptr nl 0, .ptr nr 0] h fun _ h' => ∃ S', (∀ i, S' i → S i ∨ h.next ≤ i) ∧ But S h h' ∧ YVio num fn nl nr (ks ++ [[n]]) S' h' := by
  obtain ⟨y1, y2, y3, y4, d, y5, y6, y7, y8, y9⟩ := hY
  refine VCall.of_fn (g := cfg94) mix Tryz.func94 ok94 rfl rfl ?_
  simp only [Tryz.f94, Option.getD_some]
  simp only [go_sem, Nat.reduceEqDiff, ↓reduceIte, ints]
  refine (c_clone1 n tk h).mono ?_
  rintro r h1 ⟨rfl, rfl⟩
  refine (c_sortI1 _ _).mono ?_
  rintro r h1 rfl
  obtain ⟨h0, e1, e2, e3⟩ : ∃ h0 : Heap, h0.at' nl = some (.row [d]) ∧ h0.at' nr = some (.row [.int .i64 num, fn]) ∧ ∀ i ob, h0.at' i = some ob → (i = nl ∨ i = nr) ∧ h.at' i = some ob := by
    refine ⟨⟨h.next, fun i => if i = nl ∨ i = nr then h.at' i else none⟩, by simp [y5], by simp [y4], fun i ob e => ?_⟩
    simp only at e
    split at e
    · exact ⟨‹_›, e⟩
    · cases e
  have hle1 : HLe h0 (h.new h.next (.row [.int .i64 n])) := fun i ob e => by
    obtain ⟨g1, g2⟩ := e3 i ob e
    rw [new_keep (by rcases g1 with rfl | rfl <;> omega)]; exact g2
  refine vwp_plan h0 [(0, .st, true), (1, .no, true), (2, .st, true), (3, .no, true), (4, .no, true), (5, .no, true), (6, .no, true), (7, .no, false), (8, .no, false)] (by kernel_rfl) (by kernel_rfl) hle1 ?_
  simp only [go_sem, Nat.reduceEqDiff, ↓reduceIte, e1, e2, vpart_false, Nat.zero_add, eq_true hle1]
  refine (c_compactI1 (new_at _ _ _)).mono ?_
  rintro r h2 ⟨rfl, rfl⟩
  have hnx : ((h.new h.next (.row [.int .i64 n])).del h.next).next = h.next + 1 := next_new_eq h (.row [.int .i64 n])
  have hke : ∀ i, i ≠ h.next → ((h.new h.next (.row [.int .i64 n])).del h.next).at' i = h.at' i := fun i hi => by rw [del_keep hi, new_keep hi]
  have hle2 : HLe h0 ((h.new h.next (.row [.int .i64 n])).del h.next) := fun i ob e => by
    obtain ⟨g1, g2⟩ := e3 i ob e
    rw [hke _ (by rcases g1 with rfl | rfl <;> omega)]; exact g2
  generalize (h.new h.next (.row [.int .i64 n])).del h.next = h2 at hnx hke hle2 ⊢
  simp only [go_sem, Nat.reduceEqDiff, ↓reduceIte, eq_true hle2]
  have hb : vbuild Tryz.prog 48 [(0, .int .i64 num), (1, .sl 1 [[.int .i64 n]] .no)] = some (.agg (vioCells num [n])) := by
    simp [vbuild, placesT_48, zeroT_48, vfill, putAt, vioCells, ints, D.cells, D.notTuple]
  rw [hb]
  simp only [go_sem, Nat.reduceEqDiff, ↓reduceIte, eq_true hle2, mu94, List.contains_cons, Nat.reduceBEq]
  rw [vbuildSlice_one (x := .agg (vioCells num [n])) elemT_36 zeroT_48 szT_48 rfl rfl (by omega) (by omega) rfl rfl]
  simp only [go_sem, Nat.reduceEqDiff, ↓reduceIte, eq_true hle2]
  have y6' : OwnR h2 2 (ks.map (vioCells num)) d := y6.loc (by omega) fun i hi => by
    refine hke i ?_
    rcases y6 with ⟨rfl, _⟩ | ⟨id, rfl, _, hid, _⟩
    · exact hi.elim
    · simp only [rowOf] at hi; omega
  have hkl : (ks.map (vioCells num)).length = ks.length := List.length_map ..
  obtain ⟨g, hg1, hg2, hg3⟩ := OwnR.app (nid := h2.next) (tk := .full) y6' elemT_36 zokT_48 szT_48 (by omega) (vioCells_len num ks) (ys := [vioCells num [n]]) (by simp [vioCells]) (by simp) (by rw [hkl, bytesT_48]; unfold lim; simp; omega) (by rw [hkl]; unfold lim; simp; omega)
  have hmp : ks.map (vioCells num) ++ [vioCells num [n]] = (ks ++ [[n]]).map (vioCells num) := by simp
  rw [hmp] at hg1
  have hnl : (g.new h2.next (.row ((ks ++ [[n]]).map (vioCells num)).flatten)).at' nl = some (.row [d]) := by rw [new_keep (by omega), hg3 _ y7, hke _ (by omega), y5]
  simp only [hg1, go_sem, Nat.reduceEqDiff, ↓reduceIte]
  rw [vstore_cell hnl szT_36 (by simp) rfl rfl]
  simp only [go_sem, Nat.reduceEqDiff, ↓reduceIte, List.set_cons_zero]
  have hgn : (g.new h2.next (.row ((ks ++ [[n]]).map (vioCells num)).flatten)).next = h.next + 2 := by simp only [Heap.new]; omega
  refine ⟨fun i => i = nl ∨ i = nr ∨ i = h2.next, fun i hi => ?_, ⟨by simp only [next_set]; omega, fun i hi hn => ?_⟩, by simp only [next_set]; omega, by simp only [next_set]; omega, y3, ?_, _, set_at_same _ _ _, .inr ⟨h2.next, rfl, ?_, ?_, by simp⟩, ?_, ?_, fun i => Iff.rfl⟩
  · rcases hi with rfl | rfl | rfl
    · exact .inl ((y9 _).2 (.inl rfl))
    · exact .inl ((y9 _).2 (.inr (.inl rfl)))
    · exact .inr (by omega)
  · have n1 : i ≠ nl := fun e => hn ((y9 i).2 (.inl e))
    have n2 : ¬ rowOf d i := fun e => hn ((y9 i).2 (.inr (.inr e)))
    rw [set_keep n1, new_keep (by omega), hg3 _ n2, hke _ (by omega)]
  · rw [set_keep (Ne.symm y3), new_keep (by omega), hg3 _ y8, hke _ (by omega), y4]
  · rw [set_keep (by omega), new_at]
  · simp only [next_set]; omega
  · simp only [rowOf]; omega
  · simp only [rowOf]; omega

theorem found_ok {num : Int} {fn : D} {nl nr : Nat} : Fnd Tryz.prog 1 (.fn (.func 94) [] [.ptr nl 0, .ptr nr 0]) (YVio num fn nl nr) := by
  refine ⟨fun ks S h hy i hi => ?_, fun ks S h h' hy hn hk => ?_, fun ks S h l tk hy hl h0 h8 hft => ?_⟩
  · obtain ⟨y1, y2, y3, y4, d, y5, y6, y7, y8, y9⟩ := hy
    rcases (y9 i).1 hi with rfl | rfl | hi
    · exact y1
    · exact y2
    · rcases y6 with ⟨rfl, _⟩ | ⟨id, rfl, _, hid, _⟩
      · exact hi.elim
      · simp only [rowOf] at hi; omega
  · obtain ⟨y1, y2, y3, y4, d, y5, y6, y7, y8, y9⟩ := hy
    exact ⟨by omega, by omega, y3, by rw [hk nr ((y9 _).2 (.inr (.inl rfl)))]; exact y4, d, by rw [hk nl ((y9 _).2 (.inl rfl))]; exact y5, y6.loc hn fun i hi => hk i ((y9 i).2 (.inr (.inr hi))), y7, y8, y9⟩
  · obtain ⟨n, rfl⟩ : ∃ n, l = [n] := by
      cases l with
      | nil => simp at h0
      | cons n l => cases l with
        | nil => exact ⟨n, rfl⟩
        | cons m l => simp at h8
    exact c_found hl hy n tk
end Go.V
namespace Go.V
open Go.Proofs
set_option maxRecDepth 100000
set_option linter.unusedSimpArgs false
set_option linter.unusedVariables false

/-- The shippings, each alone. -/
def noneV (fs : List Fact) : List (List Int) := (idxFrom (ofKind 2) fs 0).map fun (i : Nat) => [(i : Int)]

/-- The row with a number: what finds its violations. -/
def rowFn (s : D) : Nat → D
  | 0 => .fn (.func 136) [s] []
  | 1 => .fn (.func 137) [s] []
  | 2 => .fn (.func 138) [s] []
  | 3 => .fn (.func 139) [s] []
  | 4 => .fn (.func 140) [s] []
  | _ => .fn (.func 141) [s] []
def rowK (fs : List Fact) (i : Nat) : List (List Int) := if i = 5 then noneV fs else []
def rowCells (s : D) (i : Nat) : List D := [.int .i64 (i : Int), rowFn s i]
def rowL (s : D) : List (List D) := [rowCells s 0, rowCells s 1, rowCells s 2, rowCells s 3, rowCells s 4, rowCells s 5]
theorem rowL_get (s : D) : ∀ i, i < 6 → (rowL s)[i]? = some (rowCells s i)
  | 0, _ => rfl
  | 1, _ => rfl
  | 2, _ => rfl
  | 3, _ => rfl
  | 4, _ => rfl
  | 5, _ => rfl
  | n + 6, h => by omega

theorem c_row {x found : D} {m1 m2 : Nat} {fs : List Fact} (hx : IsSl 12 (facts fs) x) (hl : fs.length ≤ 1000) (hok : ∀ f ∈ fs, f.Ok)
    {Y : List (List Int) → (Nat → Prop) → Heap → Prop} (y : Fnd Tryz.prog 1 found Y) (hfd : found.notTuple = true) (hfc : found.cells = [found]) {S : Nat → Prop} {h : Heap} (hY : Y [] S h)
    (hm1 : m1 < h.next) (he1 : h.at' m1 = some (.map [])) (hm2 : m2 < h.next) (he2 : h.at' m2 = some (.map [])) (hn2 : ¬ S m2) : ∀ i, i < 6 →
    VInv Tryz.prog (rowFn (.iptr (sc0 x m1 m2) 0) i) [found] h fun _ h' => ∃ S', (∀ i, S' i → S i ∨ h.next ≤ i) ∧ But S h h' ∧ Y (rowK fs i) S' h' := by
  have ext : ∀ h', Ext h h' → ∃ S', (∀ i, S' i → S i ∨ h.next ≤ i) ∧ But S h h' ∧ Y [] S' h' := fun h' he => ⟨S, fun i hi => .inl hi, he.but S, y.ext hY he⟩
  intro i hi
  rcases i with _ | _ | _ | _ | _ | _ | i
  · exact (c_forbid0 hx hl hok hm1 he1 hfd hfc).mono fun _ h' he => ext h' he
  · exact (c_share0 hx hl hok hm1 he1 hfd hfc).mono fun _ h' he => ext h' he
  · exact (c_lack0 hx hl hok hm1 he1 hfd hfc).mono fun _ h' he => ext h' he
  · exact (c_apart0 hx hl hok hm1 he1 hfd hfc).mono fun _ h' he => ext h' he
  · exact c_must0 hx hl hok y hfd hfc (Nat.zero_le _) hY hm2 he2 hn2
  · exact c_none (lx := []) (lics := []) rfl IsSl.nil rfl hx hl hok (Nat.le_refl 1) y hfd hfc (Nat.zero_le _) hY
  · omega

theorem len_two : ∀ {a : List D}, a.length = 2 → ∃ x y, a = [x, y]
  | [x, y], _ => ⟨x, y, rfl⟩

theorem c_rows (sc : List D) (h : Heap) : VCall Tryz.prog 93 [.iptr sc 0] h fun r h' => h' = h ∧ r = .sl 2 (rowL (.iptr sc 0)) .full := by
  refine VCall.of_fn (g := cfg93) mix Tryz.func93 ok93 rfl rfl ?_
  simp only [Tryz.f93, Option.getD_some]
  simp only [go_sem, Nat.reduceEqDiff, ↓reduceIte, mu93]
  have hb : ∀ (i : Int) (f : FuncId), vbuild Tryz.prog 182 [(0, .int .i64 i), (1, .fn (.func f) [.iptr sc 0] [])] = some (.agg [.int .i64 i, .fn (.func f) [.iptr sc 0] []]) := fun i f => by
    simp [vbuild, placesT_182, zeroT_182, vfill, putAt, D.cells, D.notTuple]
  simp only [hb, go_sem, Nat.reduceEqDiff, ↓reduceIte]
  have hs : ∀ a b c d e f : List D, a.length = 2 → b.length = 2 → c.length = 2 → d.length = 2 → e.length = 2 → f.length = 2 → vbuildSlice Tryz.prog false h.next 178 6 [(0, .agg a), (1, .agg b), (2, .agg c), (3, .agg d), (4, .agg e), (5, .agg f)] h = some (.sl 2 [a, b, c, d, e, f] .full, h) := fun a b c d e f ha hb hc hd he hf => by
    obtain ⟨a1, a2, rfl⟩ := len_two ha
    obtain ⟨b1, b2, rfl⟩ := len_two hb
    obtain ⟨c1, c2, rfl⟩ := len_two hc
    obtain ⟨d1, d2, rfl⟩ := len_two hd
    obtain ⟨e1, e2, rfl⟩ := len_two he
    obtain ⟨f1, f2, rfl⟩ := len_two hf
    simp [vbuildSlice, elemT_178, zeroT_182, szT_182, D.notTuple, D.cells, repl, vfill, putAt, chunks, lim]
  rw [hs _ _ _ _ _ _ rfl rfl rfl rfl rfl rfl]
  simp only [go_sem]
  rfl

/-- The violations of a row, as they are yielded. -/
def rowV (fs : List Fact) (i : Nat) : D := match rowK fs i with
  | [] => .nilsl
  | l => .sl 2 (l.map (vioCells (i : Int))) .no

theorem c_compactV {vs : List Vio} {cs : List (List D)} {d : D} {h : Heap} (hd : (d = .nilsl ∧ vs = []) ∨ ∃ id, d = .rs id 2 0 vs.length ∧ h.at' id = some (.row cs.flatten)) (hv : VioL vs cs) (hl : vs.length ≤ 1048576) (hs : ∀ i (h : i + 1 < vs.length), ¬ cmpV vs[i + 1] vs[i] = 0) :
    VCall Tryz.prog 99 [d, .fn (.func 46) [] []] h fun r h' => (d = .nilsl ∧ r = .nilsl ∧ h' = h) ∨ ∃ id, d = .rs id 2 0 vs.length ∧ r = .sl 2 cs .no ∧ h' = h.del id := by
  rcases hd with ⟨rfl, rfl⟩ | ⟨id, rfl, hi⟩
  · exact (c_compactFunc (.inl ⟨rfl, rfl⟩) hl hs).mono fun r h' hx => .inl ⟨rfl, hx.2, hx.1⟩
  · refine VCall.freezeD ((c_compactFunc (.inr ⟨id, cs, rfl, hi, hv⟩) hl hs).mono fun r h' hx => ?_)
    obtain ⟨rfl, rfl⟩ := hx
    exact ⟨id, _, hi, .inr ⟨id, rfl, frz_rs hv.len hv.1 rfl, rfl⟩⟩

theorem idxFrom_inc (p : Fact → Bool) : ∀ (l : List Fact) (k : Nat), (idxFrom p l k).Pairwise (· < ·)
  | [], _ => by simp [idxFrom]
  | f :: l, k => by
    simp only [idxFrom]
    split
    · refine List.pairwise_cons.2 ⟨fun i hi => ?_, idxFrom_inc p l (k + 1)⟩
      have := (idxFrom_lt p l (k + 1) i hi).1
      omega
    · exact idxFrom_inc p l (k + 1)

theorem cmpV_one {num a b : Int} (h : a < b) : cmpV ⟨num, [b]⟩ ⟨num, [a]⟩ = 1 := by
  have h1 : cmpI num num = 0 := by simp [cmpI]
  have h2 : cmpI b a = 1 := by simp [cmpI, h]; omega
  simp [cmpV, orL, h1, cmpL, h2]

theorem rowK_sorted (fs : List Fact) (num : Int) (k : Nat) : ∀ i (h : i + 1 < ((rowK fs k).map (Vio.mk num)).length), cmpV ((rowK fs k).map (Vio.mk num))[i + 1] ((rowK fs k).map (Vio.mk num))[i] = 1 := by
  intro i h
  unfold rowK at h ⊢
  split at h
  · rename_i hk
    simp only [if_pos hk] at *
    simp only [noneV, List.getElem_map]
    refine cmpV_one ?_
    have := List.pairwise_iff_getElem.1 (idxFrom_inc (ofKind 2) fs 0) i (i + 1) (by simp [noneV] at h; omega) (by simpa [noneV] using h) (by omega)
    exact_mod_cast this
  · simp at h

set_option maxHeartbeats 1000000 in
/-- (*state).violations's iterator. -/
theorem c_violations1 {x : D} {m1 m2 : Nat} {fs : List Fact} (hx : IsSl 12 (facts fs) x) (hl : fs.length ≤ 1000) (hok : ∀ f ∈ fs, f.Ok) (h12 : (noneV fs).length ≤ 12)
    {id : Nat} {Y : Nat → (Nat → Prop) → Heap → Prop} {Z : (Nat → Prop) → Heap → Prop} (y : Yld Tryz.prog id 6 (fun i => [rowV fs i]) Y Z) {S : Nat → Prop} {h : Heap} (hY : Y 0 S h)
    (hm1 : m1 < h.next) (he1 : h.at' m1 = some (.map [])) (hn1 : ¬ S m1) (hm2 : m2 < h.next) (he2 : h.at' m2 = some (.map [])) (hn2 : ¬ S m2) :
    VCall Tryz.prog 92 [.yld id, .iptr [.iptr (sc0 x m1 m2) 0] 0] h fun _ h' => ∃ S', (∀ j, S' j → S j ∨ h.next ≤ j) ∧ But S h h' ∧ (Y 6 S' h' ∨ Z S' h') := by
  refine VCall.of_fn (g := cfg92) mix Tryz.func92 ok92 rfl rfl ?_
  simp only [Tryz.f92, Option.getD_some]
  simp only [go_sem, Nat.reduceEqDiff, ↓reduceIte, vpart_false]
  refine (c_rows _ _).mono ?_
  rintro r h ⟨rfl, rfl⟩
  have hrl : ((rowL (.iptr (sc0 x m1 m2) 0)).length : Int) = 6 := rfl
  simp only [go_sem, Nat.reduceEqDiff, ↓reduceIte, vlen_sl (IsSl.mk (sz := 2) _) Tryz.underlying178, hrl]
  refine vwp_range (fun i fr h' => fr 0 = .yld id ∧ fr 1 = .iptr [.iptr (sc0 x m1 m2) 0] 0 ∧ fr 7 = .sl 2 (rowL (.iptr (sc0 x m1 m2) 0)) .full ∧ fr 8 = .int .i64 6 ∧ fr 9 = .int .i64 (i : Int) ∧ ∃ S', (∀ j, S' j → S j ∨ h.next ≤ j) ∧ But S h h' ∧ Y i S' h') 6 ?_ ?_
  · simp only [go_sem, Nat.reduceEqDiff, ↓reduceIte, true_and]
    exact ⟨rfl, S, fun j hj => .inl hj, But.refl S h, hY⟩
  rintro i fr h' hi ⟨f0, f1, f7, f8, f9, S', hS, hbut, hYi⟩
  simp only [go_sem, Nat.reduceEqDiff, ↓reduceIte, f0, f1, f7, f8, f9]
  by_cases hlt : i < 6
  · rw [decide_eq_true (by exact_mod_cast hlt)]
    have hw : vpart true 2 (rowCells (.iptr (sc0 x m1 m2) 0) i) 0 = some (.agg (rowCells (.iptr (sc0 x m1 m2) 0) i)) := vpart_whole rfl (by omega)
    have hst : ∀ (h : Heap) (id : Nat), vstore Tryz.prog 182 (.ptr id 0) (.agg (rowCells (.iptr (sc0 x m1 m2) 0) i)) (h.new id (.row [.int .i64 0, .nilfn])) = some (h.new id (.row (rowCells (.iptr (sc0 x m1 m2) 0) i))) := fun h id => vstore_new szT_182 (by omega) rfl rfl (by rcases i with _ | _ | _ | _ | _ | i <;> rfl)
    simp only [go_sem, Nat.reduceEqDiff, ↓reduceIte, f0, f1, f7, f8, f9, vindexAddr_sl (IsSl.mk (sz := 2) _) elemT_178 szT_182 (rowL_get _ _ hlt), hw, hst, vpart_false]
    have hnr := new2_at (H := h') (.row (rowCells (.iptr (sc0 x m1 m2) 0) i)) (.row [.nilsl])
    have hke : ∀ j, j < h'.next → ((h'.new h'.next (.row (rowCells (.iptr (sc0 x m1 m2) 0) i))).new (h'.new h'.next (.row (rowCells (.iptr (sc0 x m1 m2) 0) i))).next (.row [.nilsl])).at' j = h'.at' j := fun j hj => new2_keep _ _ hj
    have hnl := new_at (h'.new h'.next (.row (rowCells (.iptr (sc0 x m1 m2) 0) i))) (h'.new h'.next (.row (rowCells (.iptr (sc0 x m1 m2) 0) i))).next (.row [.nilsl])
    have hnx : ((h'.new h'.next (.row (rowCells (.iptr (sc0 x m1 m2) 0) i))).new (h'.new h'.next (.row (rowCells (.iptr (sc0 x m1 m2) 0) i))).next (.row [.nilsl])).next = h'.next + 2 := by rw [next_new_eq, next_new_eq]
    have hnle : (h'.new h'.next (.row (rowCells (.iptr (sc0 x m1 m2) 0) i))).next = h'.next + 1 := next_new_eq _ _
    generalize (h'.new h'.next (.row (rowCells (.iptr (sc0 x m1 m2) 0) i))).new (h'.new h'.next (.row (rowCells (.iptr (sc0 x m1 m2) 0) i))).next (.row [.nilsl]) = H at hnr hke hnl hnx ⊢
    generalize (h'.new h'.next (.row (rowCells (.iptr (sc0 x m1 m2) 0) i))).next = nl at hnl hnle ⊢
    have hc1 : (rowCells (.iptr (sc0 x m1 m2) 0) i)[0 + 1]? = some (rowFn (.iptr (sc0 x m1 m2) 0) i) := rfl
    simp only [hnr, rowPart_row, vpart_false, hc1, onS_some]
    have hext1 : Ext h' H := ⟨by omega, hke⟩
    have hbutH : But S h H := hbut.trans (hext1.but S) fun i hi => .inl hi
    have Y0 : YVio (i : Int) (rowFn (.iptr (sc0 x m1 m2) 0) i) nl h'.next [] (fun j => j = nl ∨ j = h'.next) H := ⟨by omega, by omega, by omega, hnr, .nilsl, hnl, .inl ⟨rfl, rfl⟩, fun e => e, fun e => e, fun j => ⟨fun e => e.elim .inl fun e => .inr (.inl e), fun e => e.elim .inl fun e => e.elim .inr fun e => e.elim⟩⟩
    have hb1 := hbut.1
    refine VInv.mono ?_ (c_row hx hl hok (found_ok (num := (i : Int)) (fn := rowFn (.iptr (sc0 x m1 m2) 0) i) (nl := nl) (nr := h'.next)) rfl rfl Y0 (m1 := m1) (m2 := m2) (by omega) (by rw [hbutH.2 _ hm1 hn1]; exact he1) (by omega) (by rw [hbutH.2 _ hm2 hn2]; exact he2) (by omega) i hlt)
    rintro r h2 ⟨S2, s2, b2, w1, w2, w3, w4, d2, w5, w6, w7, w8, w9⟩
    simp only [w5, rowPart_row, vpart_false, List.getElem?_cons_zero, onS_some]
    have hvl := vioCells_L (i : Int) (rowK fs i) fun k hk => by
      unfold rowK at hk
      split at hk
      · obtain ⟨j, _, rfl⟩ := List.mem_map.1 hk
        simp
      · simp at hk
    have hk12 : (rowK fs i).length ≤ 12 := by
      unfold rowK
      split
      · exact h12
      · simp
    have hkl : ((rowK fs i).map (Vio.mk (i : Int))).length = (rowK fs i).length := List.length_map ..
    have hcl : ((rowK fs i).map (vioCells (i : Int))).length = (rowK fs i).length := List.length_map ..
    have hsl : VSl h2 ((rowK fs i).map (Vio.mk (i : Int))) d2 := by
      rcases w6 with ⟨rfl, e⟩ | ⟨id2, rfl, g1, g2, g3⟩
      · exact .inl ⟨rfl, by rw [List.map_eq_nil_iff] at e ⊢; exact e⟩
      · exact .inr ⟨id2, _, by rw [hcl, hkl], g1, hvl⟩
    refine (c_sortFunc hsl (by omega) fun j hj => by rw [rowK_sorted fs i i j hj]; omega).mono ?_
    rintro _ h3 rfl
    simp only [w5, rowPart_row, vpart_false, List.getElem?_cons_zero, onS_some]
    refine (c_compactV (cs := (rowK fs i).map (vioCells (i : Int))) (d := d2) ?_ hvl (by omega) fun j hj => by rw [rowK_sorted fs i i j hj]; omega).mono ?_
    · rcases w6 with ⟨rfl, e⟩ | ⟨id2, rfl, g1, g2, g3⟩
      · exact .inl ⟨rfl, by rw [List.map_eq_nil_iff] at e ⊢; exact e⟩
      · exact .inr ⟨id2, by rw [hcl, hkl], g1⟩
    rintro r h4 hr
    have hfin : r = rowV fs i ∧ Ext h' h4 := by
      have hold : ∀ j, j < h'.next → h3.at' j = h'.at' j := fun j hj => by rw [b2.2 j (by omega) (by omega), hke j hj]
      have hb2 := b2.1
      rcases w6 with ⟨rfl, e⟩ | ⟨id2, rfl, g1, g2, g3⟩
      · rw [List.map_eq_nil_iff] at e
        rcases hr with ⟨_, rfl, rfl⟩ | ⟨_, e2, _⟩
        · exact ⟨by simp [rowV, e], by omega, hold⟩
        · cases e2
      · rcases hr with ⟨e2, _⟩ | ⟨id3, e2, rfl, rfl⟩
        · cases e2
        · simp only [D.rs.injEq] at e2
          obtain ⟨rfl, _⟩ := e2
          have hid : H.next ≤ id2 := by
            rcases s2 id2 ((w9 id2).2 (.inr (.inr rfl))) with (e | e) | e
            · exact absurd e.symm (fun e => w7 (by rw [e]; rfl))
            · exact absurd e.symm (fun e => w8 (by rw [e]; rfl))
            · exact e
          refine ⟨?_, by simp only [next_del]; omega, fun j hj => by rw [del_keep (by omega), hold j hj]⟩
          unfold rowV
          cases hk : rowK fs i with
          | nil => rw [hk] at g3; simp at g3
          | cons a l => rfl
    obtain ⟨rfl, hext4⟩ := hfin
    have hgo := y.go i S' h4 hlt (y.ext hYi hext4)
    refine hgo.mono ?_
    rintro r h5 ⟨S3, hS3, hb5, hr5⟩
    have hbut5 : But S h h5 := (hbut.trans (hext4.but S) fun i hi => .inl hi).trans hb5 hS
    have hsub : ∀ j, S3 j → S j ∨ h.next ≤ j := fun j hj => by
      rcases hS3 j hj with hj | hj
      · exact hS j hj
      · have := hext4.1
        exact .inr (by omega)
    rcases hr5 with ⟨rfl, hY5⟩ | ⟨rfl, hZ5⟩
    · simp only [vun, go_sem, Nat.reduceEqDiff, ↓reduceIte]
      exact ⟨hlt, by rw [wrap_succ (by unfold lim; omega)], S3, hsub, hbut5, hY5⟩
    · simp only [vun, go_sem, Nat.reduceEqDiff, ↓reduceIte]
      exact ⟨S3, hsub, hbut5, .inr hZ5⟩
  · have hie : i = 6 := by omega
    subst hie
    rw [decide_eq_false (by omega)]
    simp only [go_sem, Nat.reduceEqDiff, ↓reduceIte]
    exact ⟨S', hS, hbut, .inl hYi⟩
end Go.V
namespace Go.V
open Go.Proofs
set_option maxRecDepth 100000
set_option linter.unusedSimpArgs false
set_option linter.unusedVariables false

theorem c_violations (sc : List D) (h : Heap) : VCall Tryz.prog 53 [.iptr sc 0] h fun r h' => h' = h ∧ r = .fn (.func 92) [] [.iptr [.iptr sc 0] 0] := by
  refine VCall.of_fn (g := cfg53) mix Tryz.func53 ok53 rfl rfl ?_
  simp only [Tryz.f53, Option.getD_some]
  simp only [go_sem, Nat.reduceEqDiff, ↓reduceIte, mu53, show (D.iptr sc 0).notTuple = true from rfl, show (D.iptr sc 0).cells = [.iptr sc 0] from rfl]

/-- All violations. -/
def allV (fs : List Fact) : List (List D) := (noneV fs).map (vioCells 5)
theorem allV_length (fs : List Fact) : (allV fs).length = (noneV fs).length := List.length_map ..
theorem ints_plain {l : List Int} : ∀ x ∈ ints l, PlainC x := fun x hx => by
  obtain ⟨s, _, rfl⟩ := List.mem_map.1 hx
  exact ⟨rfl, ⟨trivial, trivial⟩, rfl⟩
theorem vio_plain (num : Int) (l : List Int) : PlainC (vioCells num l) := by
  have h := strip_plainE (ints_plain (l := l)) (sz := 1) .no
  refine ⟨rfl, ⟨trivial, h.2, trivial⟩, ?_⟩
  simp only [vioCells, stripL, h.1]
  rfl
theorem allV_plain {fs : List Fact} : ∀ x ∈ allV fs, PlainC x := fun x hx => by
  obtain ⟨s, _, rfl⟩ := List.mem_map.1 hx
  exact vio_plain _ _

theorem rowV_nil (fs : List Fact) {i : Nat} (h : i < 5) : rowV fs i = .nilsl := by
  unfold rowV rowK
  rw [if_neg (by omega)]
theorem rowV_five (fs : List Fact) : (rowV fs 5 = .nilsl ∧ allV fs = []) ∨ (rowV fs 5 = .sl 2 (allV fs) .no ∧ allV fs ≠ []) := by
  unfold rowV rowK allV
  rw [if_pos rfl]
  cases noneV fs with
  | nil => exact .inl ⟨rfl, rfl⟩
  | cons a l => exact .inr ⟨rfl, by simp⟩

/-- What was listed after k rows. -/
def allC (fs : List Fact) (k : Nat) (h : Heap) (d : D) : Prop := if k ≤ 5 then d = .nilsl else OwnSl h 2 (allV fs) d
def YAll (n0 : Nat) (L : LRec) (fs : List Fact) (k : Nat) (S : Nat → Prop) (h : Heap) : Prop :=
  n0 + 1 < h.next ∧ h.at' (n0 + 1) = some (.loop L) ∧ ∃ d, h.at' n0 = some (.row [d]) ∧ allC fs k h d ∧ ∀ i, S i ↔ (i = n0 ∨ i = n0 + 1 ∨ tokOf d i)

theorem allC.tok {fs : List Fact} {k : Nat} {h : Heap} {d : D} (ho : allC fs k h d) {i : Nat} (hi : tokOf d i) : i < h.next ∧ h.at' i = some .tok := by
  unfold allC at ho
  split at ho
  · subst ho; exact hi.elim
  · exact ho.tok hi
theorem allC.loc {fs : List Fact} {k : Nat} {h h' : Heap} {d : D} (ho : allC fs k h d) (hn : h.next ≤ h'.next) (hk : ∀ i, tokOf d i → h'.at' i = h.at' i) : allC fs k h' d := by
  unfold allC at ho ⊢
  split
  · rename_i h5; rw [if_pos h5] at ho; exact ho
  · rename_i h5; rw [if_neg h5] at ho; exact ho.loc hn hk
theorem YAll.here {n0 : Nat} {L : LRec} {fs : List Fact} {k : Nat} {S : Nat → Prop} {h : Heap} (y : YAll n0 L fs k S h) (i : Nat) (hi : S i) : i < h.next := by
  obtain ⟨h1, _, d, _, h3, h4⟩ := y
  rcases (h4 i).1 hi with rfl | rfl | ht
  · omega
  · omega
  · exact (h3.tok ht).1
theorem YAll.loc {n0 : Nat} {L : LRec} {fs : List Fact} {k : Nat} {S : Nat → Prop} {h h' : Heap} (y : YAll n0 L fs k S h) (hn : h.next ≤ h'.next) (hk : ∀ i, S i → h'.at' i = h.at' i) : YAll n0 L fs k S h' := by
  obtain ⟨h1, h2, d, h3, h4, h5⟩ := y
  exact ⟨by omega, by rw [hk _ ((h5 _).2 (.inr (.inl rfl)))]; exact h2, d, by rw [hk _ ((h5 _).2 (.inl rfl))]; exact h3, h4.loc hn fun i hi => hk i ((h5 i).2 (.inr (.inr hi))), h5⟩

set_option maxHeartbeats 1000000 in
/-- (*state).all. -/
theorem c_all {x : D} {m1 m2 : Nat} {fs : List Fact} (hx : IsSl 12 (facts fs) x) (hl : fs.length ≤ 1000) (hok : ∀ f ∈ fs, f.Ok) (h12 : (noneV fs).length ≤ 12) {h : Heap}
    (hm1 : m1 < h.next) (he1 : h.at' m1 = some (.map [])) (hm2 : m2 < h.next) (he2 : h.at' m2 = some (.map [])) :
    VCall Tryz.prog 20 [.iptr (sc0 x m1 m2) 0] h fun r h' => h' = h ∧ Fin 2 (allV fs) r := by
  refine VCall.pure (by kernel_rfl) fun hok' => VCall.strip ?_
  refine VCall.of_fn (g := cfg20) mix Tryz.func20 ok20 rfl rfl ?_
  simp only [Tryz.f20, Option.getD_some]
  simp only [go_sem, Nat.reduceEqDiff, ↓reduceIte, mu20]
  refine (c_violations _ _).mono ?_
  rintro r h2 ⟨rfl, rfl⟩
  simp only [go_sem, Nat.reduceEqDiff, ↓reduceIte]
  simp only [next_new_eq]
  generalize hL : LRec.mk _ _ _ _ _ _ _ = L
  have y : Yld Tryz.prog (h.next + 1) 6 (fun i => [rowV fs i]) (YAll h.next L fs) (fun _ _ => False) := by
    refine ⟨fun k S h y => y.here, fun k S h h' y hn hk => y.loc hn hk, fun S h hz => hz.elim, fun S h h' hz => hz.elim, fun i S h3 hi hy => ?_⟩
    obtain ⟨g1, g2, d, g3, g4, g5⟩ := hy
    rw [← hL] at g2
    refine VYield.round (g := cfg20) mix g2 rfl (by kernel_rfl) (by kernel_rfl) (by kernel_rfl) ?_
    simp only [go_sem, Nat.reduceEqDiff, ↓reduceIte, mu20]
    refine ⟨g2, ?_⟩
    generalize hB : LRec.mk .busy _ _ _ _ _ _ = B
    have hBL : ({ B with st := .ready, pending := none } : LRec) = L := by rw [← hB, ← hL]
    generalize h5e : Heap.set h3 (h.next + 1) (.loop B) = h5
    have a1 : h5.at' h.next = some (.row [d]) := by rw [← h5e, set_keep (by omega)]; exact g3
    have a3 : h5.at' (h.next + 1) = some (.loop B) := by rw [← h5e]; simp [Heap.set]
    have a4 : h5.next = h3.next := by rw [← h5e, next_set]
    rw [← a4]
    have a5 : allC fs i h5 d := g4.loc (by omega) fun j hj => by
      have := g4.tok hj
      rw [← h5e, set_keep (fun e => by subst e; rw [g2] at this; cases this.2)]
    have fin : ∀ (d' : D) (h6 : Heap) (fr : Frm), d'.cells = [d'] → d'.flat = true → h5.next ≤ h6.next → (∀ j, j < h5.next → ¬ tokOf d j → h6.at' j = h5.at' j) → (∀ j, tokOf d' j → h5.next ≤ j) → allC fs (i + 1) h6 d' →
        roundQ (fun r h' => ∃ S', (∀ j, S' j → S j ∨ h5.next ≤ j) ∧ But S h3 h' ∧ ((r = .bool true ∧ YAll h.next L fs (i + 1) S' h') ∨ (r = .bool false ∧ False))) (h.next + 1) .normal fr (h6.set h.next (.row [d'])) := by
      intro d' h6 fr b5 b6 b2 b3 b4 b1
      have c2 : (h6.set h.next (.row [d'])).at' (h.next + 1) = some (.loop B) := by
        rw [set_keep (by omega), b3 _ (by omega) fun ht => ?_]
        · exact a3
        · have := (a5.tok ht).2
          rw [a3] at this; cases this
      refine roundQ_normal c2 ⟨fun j => j = h.next ∨ j = h.next + 1 ∨ tokOf d' j, fun j hj => ?_, ⟨by simp only [go_sem]; omega, fun j hj hS => ?_⟩, .inl ⟨rfl, by simp only [go_sem]; omega, ?_, d', ?_, ?_, fun j => Iff.rfl⟩⟩
      · rcases hj with rfl | rfl | hj
        · exact .inl ((g5 _).2 (.inl rfl))
        · exact .inl ((g5 _).2 (.inr (.inl rfl)))
        · exact .inr (by have := b4 j hj; omega)
      · have n1 : j ≠ h.next := fun e => hS ((g5 j).2 (.inl e))
        have n2 : j ≠ h.next + 1 := fun e => hS ((g5 j).2 (.inr (.inl e)))
        rw [set_keep n2, set_keep n1, b3 j (by omega) (fun ht => hS ((g5 j).2 (.inr (.inr ht)))), ← h5e, set_keep n2]
      · rw [set_at_same, hBL]
      · rw [set_keep (by omega), set_at_same]
      · refine b1.loc (Nat.le_refl _) fun j hj => ?_
        have := b4 j hj
        rw [set_keep (by omega), set_keep (by omega)]
    by_cases h5' : i < 5
    · unfold allC at a5
      rw [if_pos (by omega)] at a5
      subst a5
      have hap : vappend Tryz.prog false h5.next 36 .nilsl .nilsl h5 = some (.nilsl, h5) := by
        simp [vappend, elemT_36, zokT_48, szT_48, vels, vappendE]
      have hst : vstore Tryz.prog 36 (.ptr h.next 0) .nilsl h5 = some (h5.set h.next (.row [.nilsl])) := by
        rw [vstore_cell a1 szT_36 (by simp) rfl rfl]; rfl
      simp only [a1, go_sem, Nat.reduceEqDiff, ↓reduceIte, vpart_false, rowV_nil fs h5', hap, hst]
      exact fin .nilsl h5 _ rfl rfl (Nat.le_refl _) (fun _ _ _ => rfl) (fun j (hj : False) => hj.elim) (by unfold allC; rw [if_pos (by omega)])
    · have hi5 : i = 5 := by omega
      subst hi5
      unfold allC at a5
      rw [if_pos (by omega)] at a5
      subst a5
      rcases rowV_five fs with ⟨hr, hn⟩ | ⟨hr, hn⟩
      · have hap : vappend Tryz.prog false h5.next 36 .nilsl .nilsl h5 = some (.nilsl, h5) := by
          simp [vappend, elemT_36, zokT_48, szT_48, vels, vappendE]
        have hst : vstore Tryz.prog 36 (.ptr h.next 0) .nilsl h5 = some (h5.set h.next (.row [.nilsl])) := by
          rw [vstore_cell a1 szT_36 (by simp) rfl rfl]; rfl
        simp only [a1, go_sem, Nat.reduceEqDiff, ↓reduceIte, vpart_false, hr, hap, hst]
        exact fin .nilsl h5 _ rfl rfl (Nat.le_refl _) (fun _ _ _ => rfl) (fun j (hj : False) => hj.elim) (by unfold allC; rw [if_neg (by omega)]; exact .inl ⟨rfl, hn⟩)
      · simp only [a1, go_sem, Nat.reduceEqDiff, ↓reduceIte, vpart_false, hr]
        refine OwnSl.app2 (h := h5) (xs := []) (ys := allV fs) (.inl ⟨rfl, rfl⟩) elemT_36 zokT_48 szT_48 (by omega) (vioCells_len _ _) hn (by rw [allV_length, bytesT_48]; unfold lim; simp; omega) (by rw [allV_length]; unfold lim; simp; omega) ?_
        intro d' h6 b1 b2 b3 b4 b5 b6
        have hst : vstore Tryz.prog 36 (.ptr h.next 0) d' h6 = some (h6.set h.next (.row [d'])) := by
          rw [vstore_cell (by rw [b3 _ (by omega) fun e => e]; exact a1) szT_36 (by simp) b5 b6]; rfl
        simp only [go_sem, Nat.reduceEqDiff, ↓reduceIte, hst]
        exact fin _ _ _ b5 b6 b2 b3 b4 (by unfold allC; rw [if_neg (by omega)]; exact b1)
  refine (c_violations1 hx hl hok h12 y (S := fun i => i = h.next ∨ i = h.next + 1) (h := (h.new h.next (.row [.nilsl])).new (h.next + 1) (.loop L)) ?_ (m1 := m1) (m2 := m2) ?_ ?_ ?_ ?_ ?_ ?_).mono ?_
  · refine ⟨?_, new_at _ _ _, .nilsl, by rw [new_keep (by omega), new_at], rfl, fun j => by simp [tokOf]⟩
    rw [next_new_ge _ (by rw [next_new_eq]; exact Nat.le_refl _)]
    omega
  · rw [next_new_ge _ (by rw [next_new_eq]; exact Nat.le_refl _)]; omega
  · rw [new_keep (by omega), new_keep (by omega)]; exact he1
  · omega
  · rw [next_new_ge _ (by rw [next_new_eq]; exact Nat.le_refl _)]; omega
  · rw [new_keep (by omega), new_keep (by omega)]; exact he2
  · omega
  rintro r h2 ⟨S', hS, hb, hY | hz⟩
  · obtain ⟨g1, g2, d, g3, g4, g5⟩ := hY
    unfold allC at g4
    rw [if_neg (by omega)] at g4
    refine ⟨L, g2, ?_, ?_⟩
    · rw [← hL]; intro e; cases e
    have hp : L.pending = none := by rw [← hL]
    rw [hp, pendQ_none]
    have a1 : (h2.del (h.next + 1)).at' h.next = some (.row [d]) := by rw [del_keep (by omega)]; exact g3
    simp only [go_sem, Nat.reduceEqDiff, ↓reduceIte, a1, vpart_false]
    have hfin := g4.fin allV_plain
    refine ⟨Ext.del (Ext.of_but (((Ext.refl h).new (Nat.le_refl _) _).new (by omega) _) hb fun j hj => ?_) (by omega), below_mono (Nat.zero_le _) _ hfin.1, hfin.2⟩
    rcases hj with rfl | rfl <;> omega
  · exact hz.elim
end Go.V
