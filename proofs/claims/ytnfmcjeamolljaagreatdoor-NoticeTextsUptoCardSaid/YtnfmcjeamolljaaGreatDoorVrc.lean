/- Contracts of functions on numbers, and lines that are joined. No condition. -/
import Derived.Test.YtnfmcjeamolljaaGreatDoorVrb
import Derived.Test.YtnfmcjeamolljaaGreatDoorVhF
import Derived.Test.YtnfmcjeamolljaaGreatDoorVSh
import Derived.Shelf.Strconv.Itoa3
import Derived.Test.YtnfmcjeamolljaaGreatDoorVra
import Derived.Test.YtnfmcjeamolljaaGreatDoorVnc
import Derived.Test.YtnfmcjeamolljaaGreatDoorVp
set_option linter.unusedSimpArgs false
set_option linter.unusedVariables false
set_option linter.constructorNameAsVariable false
set_option linter.deprecated false
namespace Go.V
open Go.Proofs
set_option maxRecDepth 100000
set_option linter.unusedSimpArgs false
set_option linter.unusedVariables false

/-- strconv.Itoa. -/
theorem l_itoa {n : Int} (h1 : 0 ≤ n) (h2 : n ≤ 1048576) (hl : (Lib.itoa n).length ≤ 1048576) (h : Heap) : VCall Tryz.prog 29 [.int .i64 n] h fun r h' => h' = h ∧ r = .str (Lib.itoa n) := by
  have hx : ∀ s, s = tabName → ∀ {w : World}, Lib.TabIs Tryz.prog w tabName .u64 Lib.pow10Tab → Lib.TabIs Tryz.prog w s .u64 Lib.pow10Tab := fun s hs w ht => by rw [hs]; exact ht
  exact (libItoa_ok (by kernel_rfl) (g := 0) (by kernel_rfl) (fun n h1 h2 w ht => Any.strconv_Itoa Tryz.laysM171 n h1 h2 w (hx _ (by kernel_rfl) ht)) (by omega) (by omega) (by unfold lim; omega) h).mono fun a b hab => ⟨hab.2, hab.1⟩

end Go.V
namespace Go.V
open Go.Proofs
set_option maxRecDepth 100000
set_option linter.unusedSimpArgs false
set_option linter.unusedVariables false

def licW : List UInt8 := [108, 105, 99, 101, 110, 115, 101, 32]
def holdW : List UInt8 := [104, 111, 108, 100, 101, 114]
def chgW : List UInt8 := [99, 104, 97, 110, 103, 101]
def licW0 : List UInt8 := [108, 105, 99, 101, 110, 115, 101]

/-! The reference's check of a notice. -/
theorem geq_le (a b : List UInt8) : (!lstr a b) = leS b a := by
  unfold leS
  rw [lstr_lt, lstr_lt]
  by_cases h1 : a < b
  · have h2 : ¬ b < a := fun h => str_lt_irrefl _ (str_lt_trans h1 h)
    have h3 : (b == a) = false := beq_eq_false_iff_ne.2 fun e => by subst e; exact str_lt_irrefl _ h1
    rw [decide_eq_true h1, decide_eq_false h2, h3]; rfl
  · rw [decide_eq_false h1]
    by_cases h3 : b = a
    · subst h3; simp
    · rw [decide_eq_true (str_lt_of_le (List.not_lt.1 h1) h3)]; rfl

/-- The first error is at i. -/
theorem incrS_at {e : Nat → Int} {l : List (List UInt8)} {i : Nat} (hi : i < l.length) (hj : ∀ j, j < i → incrAt e l j = 0) {v : Int} (hv : incrAt e l i = v) (h0 : v ≠ 0) : incrS e l = v := by
  unfold incrS
  rw [firstE_at hi hj (by rw [hv]; exact h0), hv]
theorem incrS_no {e : Nat → Int} {l : List (List UInt8)} (hj : ∀ j, j < l.length → incrAt e l j = 0) : incrS e l = 0 := firstE_zero.2 hj
theorem incrAt_e {e : Nat → Int} {l : List (List UInt8)} {i : Nat} {v : Int} (h : e i = v) (h0 : v ≠ 0) : incrAt e l i = v := by
  unfold incrAt; rw [if_pos (by rw [h]; exact h0), h]
theorem incrAt_le {e : Nat → Int} {l : List (List UInt8)} {i : Nat} (h : e i = 0) (hi : i < l.length) (h0 : 0 < i) (hle : leS l[i] (l[i - 1]'(by omega)) = true) : incrAt e l i = 5 := by
  unfold incrAt
  rw [if_neg (by simp [h]), if_pos ⟨h0, by rw [getD_at hi, getD_at (by omega)]; exact hle⟩]
theorem incrAt_ok {e : Nat → Int} {l : List (List UInt8)} {i : Nat} (h : e i = 0) (hi : i < l.length) (hle : ∀ h0 : 0 < i, leS l[i] (l[i - 1]'(by omega)) = false) : incrAt e l i = 0 := by
  unfold incrAt
  rw [if_neg (by simp [h]), if_neg fun q => by rw [getD_at hi, getD_at (by omega), hle q.1] at q; exact Bool.false_ne_true q.2]
theorem incrAt_next {e : Nat → Int} {l : List (List UInt8)} {i : Nat} (hj : ∀ j, j < i → incrAt e l j = 0) (h : incrAt e l i = 0) : ∀ j, j < i + 1 → incrAt e l j = 0 := fun j hji => by
  rcases Nat.lt_succ_iff_lt_or_eq.1 hji with hji | rfl
  · exact hj j hji
  · exact h
end Go.V
namespace Go.V
open Go.Proofs
set_option maxRecDepth 100000
set_option linter.unusedSimpArgs false
set_option linter.unusedVariables false

theorem Owns.str {h0 h : Heap} {pre post : List (List (List D) × D)} {l : List (List UInt8)} {d : D} {x : List UInt8} {K : D → Heap → Prop} {w : HidR K} (ho : Owns h0 h 1 (pre ++ (strs l, d) :: post)) (hn : h0.next ≤ h.next) (hl : l.length ≤ 16777216)
    (hK : ∀ d' h', Owns h0 h' 1 (pre ++ (strs (l ++ [x]), d') :: post) → h.next ≤ h'.next → (∀ i, i < h.next → (i < h0.next ∨ h.at' i ≠ some .tok) → h'.at' i = h.at' i) → d'.cells = [d'] → d'.flat = true → K d' h') : onRH (vappend Tryz.prog false h.next 22 d (.sl 1 [[.str x]] .full) h) K w :=
  ho.appAt hn elemT_22 zokT_9 szT_9 (by omega) (by simp) (by simp) (by simp only [strs_length, bytesT_9, List.length_cons, List.length_nil]; unfold lim; omega) (by simp only [strs_length, List.length_cons, List.length_nil]; unfold lim; omega) fun d' h' o => hK d' h' (by rw [strs_app]; exact o)

/-- A heap with one object. -/
def oneH (r : Nat) (o : Obj) : Heap := ⟨0, fun i => if i = r then some o else none⟩
theorem oneH_at (r : Nat) (o : Obj) : (oneH r o).at' r = some o := if_pos rfl
theorem oneH_le {r : Nat} {o : Obj} {h : Heap} (hr : h.at' r = some o) : HLe (oneH r o) h := fun i ob e => by
  unfold oneH at e
  simp only at e
  split at e
  · rename_i hi; subst hi; rw [hr]; exact e
  · cases e

end Go.V
namespace Go.V
open Go.Proofs
set_option maxRecDepth 100000
set_option linter.unusedSimpArgs false
set_option linter.unusedVariables false

/-! Lines that are joined. -/
theorem join_cons2 (x y : List UInt8) (r : List (List UInt8)) (sep : List UInt8) : Lib.join (x :: y :: r) sep = x ++ sep ++ Lib.join (y :: r) sep := by
  simp [Lib.join, List.intercalate, List.intersperse]
theorem join_split (c : UInt8) : ∀ s : List UInt8, Lib.join (splitB c s) [c] = s
  | [] => rfl
  | b :: s => by
    have ih := join_split c s
    have hne := splitB_ne c s
    simp only [splitB]
    cases hp : splitB c s with
    | nil => exact absurd hp hne
    | cons p ps =>
      rw [hp] at ih
      by_cases hb : b = c
      · rw [if_pos hb, join_cons2, ih, hb]; rfl
      · rw [if_neg hb]
        simp only []
        cases ps with
        | nil =>
          rw [Lib.join_one] at ih ⊢
          rw [ih]
        | cons q qs =>
          rw [join_cons2] at ih ⊢
          rw [← ih]; simp
end Go.V
