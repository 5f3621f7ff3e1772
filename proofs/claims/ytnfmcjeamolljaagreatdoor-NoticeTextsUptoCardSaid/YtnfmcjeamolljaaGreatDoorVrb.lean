/- Contracts of functions of the references on names, texts and paths. No condition. -/
import Derived.Test.YtnfmcjeamolljaaGreatDoorVra
import Derived.Test.YtnfmcjeamolljaaGreatDoorVna
import Derived.Test.YtnfmcjeamolljaaGreatDoorVnb
set_option linter.unusedSimpArgs false
set_option linter.unusedVariables false
set_option linter.constructorNameAsVariable false
set_option linter.deprecated false
namespace Go.V
open Go.Proofs
set_option maxRecDepth 100000
set_option linter.unusedSimpArgs false
set_option linter.unusedVariables false

/-! The references' parts of names, texts and paths. -/
/-- A byte of a name. -/
def nameB (b : UInt8) : Bool := decide ((b.toNat : Int) ≥ 97) && decide ((b.toNat : Int) ≤ 122) || decide ((b.toNat : Int) ≥ 48) && decide ((b.toNat : Int) ≤ 57) || (b.toNat : Int) == 45 || (b.toNat : Int) == 46
theorem u8_all {p : UInt8 → Bool} (h : (List.range 256).all (fun n => p (UInt8.ofNat n)) = true) (b : UInt8) : p b = true := by
  have := List.all_eq_true.1 h b.toNat (List.mem_range.2 (UInt8.toNat_lt b))
  simpa using this
theorem nameB_eq (b : UInt8) : nameSet.contains b = nameB b := by
  have := u8_all (p := fun b => nameSet.contains b == nameB b) (by decide +kernel) b
  simpa using this
theorem isNameS_cons (b : UInt8) (r : List UInt8) : isNameS (b :: r) = (!(decide (((b :: r).length : Int) > 32) || decide ((b.toNat : Int) < 97) || decide ((b.toNat : Int) > 122) || ((b :: r : List UInt8) == [97, 110, 100]) || ((b :: r : List UInt8) == [111, 114]) || ((b :: r : List UInt8) == [119, 105, 116, 104])) && (b :: r).all nameB) := by
  have h1 : (b :: r).all (fun x => nameSet.contains x) = (b :: r).all nameB := by
    congr 1; funext x; exact nameB_eq x
  have e0 : isNameS (b :: r) = (!(decide ((b :: r).length > 32) || decide ((b.toNat : Int) < 97) || decide ((b.toNat : Int) > 122) || ((b :: r : List UInt8) == [97, 110, 100]) || ((b :: r : List UInt8) == [111, 114]) || ((b :: r : List UInt8) == [119, 105, 116, 104])) && (Lib.trimS (b :: r) nameSet == [])) := rfl
  rw [e0, trimS_nil, h1, ← dec_nat]; rfl
theorem all_no {p : UInt8 → Bool} {s : List UInt8} {i : Nat} (hi : i < s.length) (h : p s[i] = false) : s.all p = false := by
  cases e : s.all p with
  | false => rfl
  | true => rw [List.all_eq_true.1 e _ (List.getElem_mem hi)] at h; cases h
theorem all_yes {p : UInt8 → Bool} {s : List UInt8} (h : ∀ j (hj : j < s.length), j < s.length → p s[j] = true) : s.all p = true := List.all_eq_true.2 fun x hx => by
  obtain ⟨j, hj, rfl⟩ := List.mem_iff_getElem.1 hx
  exact h j hj hj
theorem all_step {p : UInt8 → Bool} {s : List UInt8} {i : Nat} (hi : i < s.length) (hj : ∀ j (hj : j < s.length), j < i → p s[j] = true) (hp : p s[i] = true) : ∀ j (hj : j < s.length), j < i + 1 → p s[j] = true := fun j hjl hji => by
  rcases Nat.lt_succ_iff_lt_or_eq.1 hji with hji | rfl
  · exact hj j hjl hji
  · exact hp

theorem c_refName {s : List UInt8} (hl : s.length ≤ 1048576) (h : Heap) : VCall Tryz.prog 45 [.str s] h fun r h' => h' = h ∧ r = .bool (isNameS s) := by
  refine VCall.of_fn (g := cfg45) mix Tryz.func45 ok45 rfl rfl ?_
  simp only [Tryz.f45, Option.getD_some]
  cases s with
  | nil =>
    have e1 : decide ((([] : List UInt8).length : Int) < 1) = true := rfl
    repeat' first
      | (simp only [go_sem, Nat.reduceEqDiff, ↓reduceIte, Nat.reduceAdd, Nat.zero_add, Nat.reduceBEq, List.getElem?_cons_zero, List.getElem?_cons_succ, List.contains_cons, List.contains_nil, vpart_false, vextract, bne, Bool.or_false, Bool.or_true, Bool.false_or, Bool.true_or, Bool.or_self, Bool.false_and, Bool.true_and, Bool.and_false, Bool.and_true, Bool.and_self, Bool.not_true, Bool.not_false, Bool.not_not, vfieldAddr, D.notTuple, D.cells, mu45, isNameS, *])
      | (refine onBH_caseN (fun hc => ?_) (fun hc => ?_))
      | (refine onBH_case (fun hc => ?_) (fun hc => ?_))
      | (refine gifH_caseNT (fun hc => ?_) (fun hc => ?_))
      | (refine gifH_caseNF (fun hc => ?_) (fun hc => ?_))
      | (refine gifH_caseT (fun hc => ?_) (fun hc => ?_))
      | (refine gifH_caseF (fun hc => ?_) (fun hc => ?_))
  | cons b r =>
    have e1 : decide (((b :: r).length : Int) < 1) = false := decide_eq_false (by simp only [List.length_cons]; omega)
    have hi : vindex Tryz.prog 9 (.str (b :: r)) (.int .i64 0) = some (.int .u8 b.toNat) := vindex_str (n := 0) Tryz.underlying9 rfl
    have hN := isNameS_cons b r
    generalize hs : b :: r = s at *
    repeat' first
      | (simp only [go_sem, Nat.reduceEqDiff, ↓reduceIte, Nat.reduceAdd, Nat.zero_add, Nat.reduceBEq, List.getElem?_cons_zero, List.getElem?_cons_succ, List.contains_cons, List.contains_nil, vpart_false, vextract, bne, Bool.or_false, Bool.or_true, Bool.false_or, Bool.true_or, Bool.or_self, Bool.false_and, Bool.true_and, Bool.and_false, Bool.and_true, Bool.and_self, Bool.not_true, Bool.not_false, Bool.not_not, vfieldAddr, D.notTuple, D.cells, mu45, *])
      | (refine onBH_caseN (fun hc => ?_) (fun hc => ?_))
      | (refine onBH_case (fun hc => ?_) (fun hc => ?_))
      | (refine gifH_caseNT (fun hc => ?_) (fun hc => ?_))
      | (refine gifH_caseNF (fun hc => ?_) (fun hc => ?_))
      | (refine gifH_caseT (fun hc => ?_) (fun hc => ?_))
      | (refine gifH_caseF (fun hc => ?_) (fun hc => ?_))
    refine vwp_count (fun i fr h' => fr 0 = .str s ∧ fr 3 = .int .i64 (i : Int) ∧ h' = h ∧ ∀ j (hj : j < s.length), j < i → nameB s[j] = true) s.length (by omega) ?_ ?_ ?_
    · simp [go_sem]
    · rintro i fr h' hlt e2 ew ⟨f0, f3, rfl, hj⟩
      cases hb : nameB s[i] with
      | true =>
        have hn := hb
        unfold nameB at hn
        repeat' first
          | (simp only [go_sem, Nat.reduceEqDiff, ↓reduceIte, Nat.reduceAdd, Nat.zero_add, Nat.reduceBEq, List.getElem?_cons_zero, List.getElem?_cons_succ, List.contains_cons, List.contains_nil, vpart_false, vextract, bne, Bool.or_false, Bool.or_true, Bool.false_or, Bool.true_or, Bool.or_self, Bool.false_and, Bool.true_and, Bool.and_false, Bool.and_true, Bool.and_self, Bool.not_true, Bool.not_false, Bool.not_not, vfieldAddr, D.notTuple, D.cells, mu45, at_str hlt, *])
          | (refine onBH_caseN (fun hc => ?_) (fun hc => ?_))
          | (refine onBH_case (fun hc => ?_) (fun hc => ?_))
          | (refine gifH_caseNT (fun hc => ?_) (fun hc => ?_))
          | (refine gifH_caseNF (fun hc => ?_) (fun hc => ?_))
          | (refine gifH_caseT (fun hc => ?_) (fun hc => ?_))
          | (refine gifH_caseF (fun hc => ?_) (fun hc => ?_))
        all_goals first
          | exact fun j hjl hji => all_step hlt hj hb j hjl hji
          | (exfalso; simp_all; done)
          | (exfalso; simp_all; omega)
      | false =>
        have hn := hb
        unfold nameB at hn
        repeat' first
          | (simp only [go_sem, Nat.reduceEqDiff, ↓reduceIte, Nat.reduceAdd, Nat.zero_add, Nat.reduceBEq, List.getElem?_cons_zero, List.getElem?_cons_succ, List.contains_cons, List.contains_nil, vpart_false, vextract, bne, Bool.or_false, Bool.or_true, Bool.false_or, Bool.true_or, Bool.or_self, Bool.false_and, Bool.true_and, Bool.and_false, Bool.and_true, Bool.and_self, Bool.not_true, Bool.not_false, Bool.not_not, vfieldAddr, D.notTuple, D.cells, mu45, at_str hlt, *])
          | (refine onBH_caseN (fun hc => ?_) (fun hc => ?_))
          | (refine onBH_case (fun hc => ?_) (fun hc => ?_))
          | (refine gifH_caseNT (fun hc => ?_) (fun hc => ?_))
          | (refine gifH_caseNF (fun hc => ?_) (fun hc => ?_))
          | (refine gifH_caseT (fun hc => ?_) (fun hc => ?_))
          | (refine gifH_caseF (fun hc => ?_) (fun hc => ?_))
        all_goals first
          | (rw [all_no hlt hb]; done)
          | (exfalso; simp_all; done)
          | (exfalso; simp_all; omega)
    · rintro fr h' e2 ⟨f0, f3, rfl, hj⟩
      repeat' first
        | (simp only [go_sem, Nat.reduceEqDiff, ↓reduceIte, Nat.reduceAdd, Nat.zero_add, Nat.reduceBEq, List.getElem?_cons_zero, List.getElem?_cons_succ, List.contains_cons, List.contains_nil, vpart_false, vextract, bne, Bool.or_false, Bool.or_true, Bool.false_or, Bool.true_or, Bool.or_self, Bool.false_and, Bool.true_and, Bool.and_false, Bool.and_true, Bool.and_self, Bool.not_true, Bool.not_false, Bool.not_not, vfieldAddr, D.notTuple, D.cells, mu45, *])
        | (refine onBH_caseN (fun hc => ?_) (fun hc => ?_))
        | (refine onBH_case (fun hc => ?_) (fun hc => ?_))
        | (refine gifH_caseNT (fun hc => ?_) (fun hc => ?_))
        | (refine gifH_caseNF (fun hc => ?_) (fun hc => ?_))
        | (refine gifH_caseT (fun hc => ?_) (fun hc => ?_))
        | (refine gifH_caseF (fun hc => ?_) (fun hc => ?_))
      rw [all_yes hj]

theorem c_refLines44 {s : List UInt8} (hl : s.length ≤ 1048576) (h : Heap) : VCall Tryz.prog 31 [.str s] h fun r h' => h' = h ∧ Fin 1 (strs (linesS s)) r := by
  refine VCall.of_fn (g := cfg31) mix Tryz.func31 ok31 rfl rfl ?_
  simp only [Tryz.f31, Option.getD_some]
  repeat' first
    | (simp only [go_sem, Nat.reduceEqDiff, ↓reduceIte, Nat.reduceAdd, Nat.zero_add, Nat.reduceBEq, List.getElem?_cons_zero, List.getElem?_cons_succ, List.contains_cons, List.contains_nil, vpart_false, vextract, bne, Bool.or_false, Bool.or_true, Bool.false_or, Bool.true_or, Bool.or_self, Bool.false_and, Bool.true_and, Bool.and_false, Bool.and_true, Bool.and_self, Bool.not_true, Bool.not_false, Bool.not_not, vfieldAddr, D.notTuple, D.cells, mu31, *])
    | (refine onBH_caseN (fun hc => ?_) (fun hc => ?_))
    | (refine onBH_case (fun hc => ?_) (fun hc => ?_))
    | (refine gifH_caseNT (fun hc => ?_) (fun hc => ?_))
    | (refine gifH_caseNF (fun hc => ?_) (fun hc => ?_))
    | (refine gifH_caseT (fun hc => ?_) (fun hc => ?_))
    | (refine gifH_caseF (fun hc => ?_) (fun hc => ?_))
    | (refine VCall.mono (c_lines36 hl _) ?_; rintro r h ⟨rfl, hr⟩)
  · have hs : s = [] := by simpa using hc
    rw [hs]; exact .inl ⟨rfl, rfl⟩
  · have hs : s ≠ [] := by simpa using hc
    rw [linesS, if_neg hs]; exact hr

theorem c_refPlain {s : List UInt8} (hl : s.length ≤ 1048576) (h : Heap) : VCall Tryz.prog 46 [.str s] h fun r h' => h' = h ∧ r = .bool (!s.any textBad2) := by
  refine VCall.of_fn (g := cfg46) mix Tryz.func46 ok46 rfl rfl ?_
  simp only [Tryz.f46, Option.getD_some]
  repeat' first
    | (simp only [go_sem, Nat.reduceEqDiff, ↓reduceIte, Nat.reduceAdd, Nat.zero_add, Nat.reduceBEq, List.getElem?_cons_zero, List.getElem?_cons_succ, List.contains_cons, List.contains_nil, vpart_false, vextract, bne, Bool.or_false, Bool.or_true, Bool.false_or, Bool.true_or, Bool.or_self, Bool.false_and, Bool.true_and, Bool.and_false, Bool.and_true, Bool.and_self, Bool.not_true, Bool.not_false, Bool.not_not, vfieldAddr, D.notTuple, D.cells, mu46, *])
    | (refine onBH_caseN (fun hc => ?_) (fun hc => ?_))
    | (refine onBH_case (fun hc => ?_) (fun hc => ?_))
    | (refine gifH_caseNT (fun hc => ?_) (fun hc => ?_))
    | (refine gifH_caseNF (fun hc => ?_) (fun hc => ?_))
    | (refine gifH_caseT (fun hc => ?_) (fun hc => ?_))
    | (refine gifH_caseF (fun hc => ?_) (fun hc => ?_))
  refine vwp_count (fun i fr h' => fr 0 = .str s ∧ fr 3 = .int .i64 (i : Int) ∧ h' = h ∧ ∀ j (hj : j < s.length), j < i → textBad2 s[j] = false) s.length (by omega) ?_ ?_ ?_
  · simp [go_sem]
  · rintro i fr h' hlt e2 ew ⟨f0, f3, rfl, hj⟩
    cases hb : textBad2 s[i] with
    | true =>
      have hn := hb
      unfold textBad2 at hn
      repeat' first
        | (simp only [go_sem, Nat.reduceEqDiff, ↓reduceIte, Nat.reduceAdd, Nat.zero_add, Nat.reduceBEq, List.getElem?_cons_zero, List.getElem?_cons_succ, List.contains_cons, List.contains_nil, vpart_false, vextract, bne, Bool.or_false, Bool.or_true, Bool.false_or, Bool.true_or, Bool.or_self, Bool.false_and, Bool.true_and, Bool.and_false, Bool.and_true, Bool.and_self, Bool.not_true, Bool.not_false, Bool.not_not, vfieldAddr, D.notTuple, D.cells, mu46, at_str hlt, *])
        | (refine onBH_caseN (fun hc => ?_) (fun hc => ?_))
        | (refine onBH_case (fun hc => ?_) (fun hc => ?_))
        | (refine gifH_caseNT (fun hc => ?_) (fun hc => ?_))
        | (refine gifH_caseNF (fun hc => ?_) (fun hc => ?_))
        | (refine gifH_caseT (fun hc => ?_) (fun hc => ?_))
        | (refine gifH_caseF (fun hc => ?_) (fun hc => ?_))
      all_goals first
        | (rw [any_at hlt hb]; rfl; done)
        | (exfalso; simp_all; done)
        | (exfalso; simp_all; omega)
    | false =>
      have hn := hb
      unfold textBad2 at hn
      repeat' first
        | (simp only [go_sem, Nat.reduceEqDiff, ↓reduceIte, Nat.reduceAdd, Nat.zero_add, Nat.reduceBEq, List.getElem?_cons_zero, List.getElem?_cons_succ, List.contains_cons, List.contains_nil, vpart_false, vextract, bne, Bool.or_false, Bool.or_true, Bool.false_or, Bool.true_or, Bool.or_self, Bool.false_and, Bool.true_and, Bool.and_false, Bool.and_true, Bool.and_self, Bool.not_true, Bool.not_false, Bool.not_not, vfieldAddr, D.notTuple, D.cells, mu46, at_str hlt, *])
        | (refine onBH_caseN (fun hc => ?_) (fun hc => ?_))
        | (refine onBH_case (fun hc => ?_) (fun hc => ?_))
        | (refine gifH_caseNT (fun hc => ?_) (fun hc => ?_))
        | (refine gifH_caseNF (fun hc => ?_) (fun hc => ?_))
        | (refine gifH_caseT (fun hc => ?_) (fun hc => ?_))
        | (refine gifH_caseF (fun hc => ?_) (fun hc => ?_))
      all_goals first
        | exact fun j hjl hji => all_next (p := textBad2) hlt hj hb j hjl hji
        | (exfalso; simp_all; done)
        | (exfalso; simp_all; omega)
  · rintro fr h' e2 ⟨f0, f3, rfl, hj⟩
    repeat' first
      | (simp only [go_sem, Nat.reduceEqDiff, ↓reduceIte, Nat.reduceAdd, Nat.zero_add, Nat.reduceBEq, List.getElem?_cons_zero, List.getElem?_cons_succ, List.contains_cons, List.contains_nil, vpart_false, vextract, bne, Bool.or_false, Bool.or_true, Bool.false_or, Bool.true_or, Bool.or_self, Bool.false_and, Bool.true_and, Bool.and_false, Bool.and_true, Bool.and_self, Bool.not_true, Bool.not_false, Bool.not_not, vfieldAddr, D.notTuple, D.cells, mu46, *])
      | (refine onBH_caseN (fun hc => ?_) (fun hc => ?_))
      | (refine onBH_case (fun hc => ?_) (fun hc => ?_))
      | (refine gifH_caseNT (fun hc => ?_) (fun hc => ?_))
      | (refine gifH_caseNF (fun hc => ?_) (fun hc => ?_))
      | (refine gifH_caseT (fun hc => ?_) (fun hc => ?_))
      | (refine gifH_caseF (fun hc => ?_) (fun hc => ?_))
    rw [any_no hj]; rfl

def edgeB (b : UInt8) : Bool := (b.toNat : Int) == 32 || (b.toNat : Int) == 9 || (b.toNat : Int) == 42 || (b.toNat : Int) == 47
theorem c_edge (b : UInt8) (h : Heap) : VCall Tryz.prog 86 [.int .u8 (b.toNat : Int)] h fun r h' => h' = h ∧ r = .bool (edgeB b) := by
  refine VCall.of_fn (g := cfg86) mix Tryz.func86 ok86 rfl rfl ?_
  simp only [Tryz.f86, Option.getD_some]
  repeat' first
    | (simp only [go_sem, Nat.reduceEqDiff, ↓reduceIte, Nat.reduceAdd, Nat.zero_add, Nat.reduceBEq, List.getElem?_cons_zero, List.getElem?_cons_succ, List.contains_cons, List.contains_nil, vpart_false, vextract, bne, Bool.or_false, Bool.or_true, Bool.false_or, Bool.true_or, Bool.or_self, Bool.false_and, Bool.true_and, Bool.and_false, Bool.and_true, Bool.and_self, Bool.not_true, Bool.not_false, Bool.not_not, vfieldAddr, D.notTuple, D.cells, mu86, edgeB, Bool.true_or, Bool.false_or, *])
    | (refine onBH_caseN (fun hc => ?_) (fun hc => ?_))
    | (refine onBH_case (fun hc => ?_) (fun hc => ?_))
    | (refine gifH_caseNT (fun hc => ?_) (fun hc => ?_))
    | (refine gifH_caseNF (fun hc => ?_) (fun hc => ?_))
    | (refine gifH_caseT (fun hc => ?_) (fun hc => ?_))
    | (refine gifH_caseF (fun hc => ?_) (fun hc => ?_))

theorem edge_eq (b : UInt8) (h : textBad b = false) : edgeB b = ([32, 42, 47] : List UInt8).contains b := by
  have := u8_all (p := fun b => textBad b || edgeB b == ([32, 42, 47] : List UInt8).contains b) (by decide +kernel) b
  rw [h] at this
  simpa using this
theorem isTextS_cons (b : UInt8) (r : List UInt8) : isTextS (b :: r) = (!(decide (((b :: r).length : Int) > 200) || edgeB b || edgeB ((b :: r).getLast (by simp))) && !(b :: r).any textBad) := by
  unfold isTextS
  rw [trimS_same, ← dec_nat _ 200]
  have h1 : decide ((b :: r).length < 1) = false := by simp
  rw [h1]
  cases ha : (b :: r).any textBad with
  | true => simp
  | false =>
    have hb : ∀ x ∈ b :: r, textBad x = false := fun x hx => by
      have := List.any_eq_false.1 ha x hx
      simpa using this
    rw [edge_eq b (hb b (by simp)), edge_eq _ (hb _ (List.getLast_mem (by simp)))]
    simp [Bool.not_or, Bool.and_assoc]

theorem c_refText {s : List UInt8} (hl : s.length ≤ 1048576) (h : Heap) : VCall Tryz.prog 47 [.str s] h fun r h' => h' = h ∧ r = .bool (isTextS s) := by
  refine VCall.of_fn (g := cfg47) mix Tryz.func47 ok47 rfl rfl ?_
  simp only [Tryz.f47, Option.getD_some]
  cases s with
  | nil =>
    have e1 : decide ((([] : List UInt8).length : Int) < 1) = true := rfl
    repeat' first
      | (simp only [go_sem, Nat.reduceEqDiff, ↓reduceIte, Nat.reduceAdd, Nat.zero_add, Nat.reduceBEq, List.getElem?_cons_zero, List.getElem?_cons_succ, List.contains_cons, List.contains_nil, vpart_false, vextract, bne, Bool.or_false, Bool.or_true, Bool.false_or, Bool.true_or, Bool.or_self, Bool.false_and, Bool.true_and, Bool.and_false, Bool.and_true, Bool.and_self, Bool.not_true, Bool.not_false, Bool.not_not, vfieldAddr, D.notTuple, D.cells, mu47, *])
      | (refine onBH_caseN (fun hc => ?_) (fun hc => ?_))
      | (refine onBH_case (fun hc => ?_) (fun hc => ?_))
      | (refine gifH_caseNT (fun hc => ?_) (fun hc => ?_))
      | (refine gifH_caseNF (fun hc => ?_) (fun hc => ?_))
      | (refine gifH_caseT (fun hc => ?_) (fun hc => ?_))
      | (refine gifH_caseF (fun hc => ?_) (fun hc => ?_))
    rfl
  | cons b r =>
    have e1 : decide (((b :: r).length : Int) < 1) = false := decide_eq_false (by simp only [List.length_cons]; omega)
    have hi : vindex Tryz.prog 9 (.str (b :: r)) (.int .i64 0) = some (.int .u8 b.toNat) := vindex_str (n := 0) Tryz.underlying9 rfl
    have ew : IntKind.i64.wrap (((b :: r).length : Int) - 1) = ((((b :: r).length - 1 : Nat)) : Int) := by rw [wrap_i64 (by simp only [List.length_cons]; omega) (by omega)]; simp only [List.length_cons]; omega
    have hi2 : vindex Tryz.prog 9 (.str (b :: r)) (.int .i64 (((b :: r).length - 1 : Nat) : Int)) = some (.int .u8 (((b :: r).getLast (by simp)).toNat : Int)) := by
      rw [at_str (by simp), List.getLast_eq_getElem]
    have hN := isTextS_cons b r
    generalize (b :: r).getLast (by simp) = z at *
    generalize hs : b :: r = s at *
    repeat' first
      | (simp only [go_sem, Nat.reduceEqDiff, ↓reduceIte, Nat.reduceAdd, Nat.zero_add, Nat.reduceBEq, List.getElem?_cons_zero, List.getElem?_cons_succ, List.contains_cons, List.contains_nil, vpart_false, vextract, bne, Bool.or_false, Bool.or_true, Bool.false_or, Bool.true_or, Bool.or_self, Bool.false_and, Bool.true_and, Bool.and_false, Bool.and_true, Bool.and_self, Bool.not_true, Bool.not_false, Bool.not_not, vfieldAddr, D.notTuple, D.cells, mu47, *])
      | (refine onBH_caseN (fun hc => ?_) (fun hc => ?_))
      | (refine onBH_case (fun hc => ?_) (fun hc => ?_))
      | (refine gifH_caseNT (fun hc => ?_) (fun hc => ?_))
      | (refine gifH_caseNF (fun hc => ?_) (fun hc => ?_))
      | (refine gifH_caseT (fun hc => ?_) (fun hc => ?_))
      | (refine gifH_caseF (fun hc => ?_) (fun hc => ?_))
      | (refine VCall.mono (c_edge b _) ?_; rintro r h ⟨rfl, rfl⟩)
      | (refine VCall.mono (c_edge z _) ?_; rintro r h ⟨rfl, rfl⟩)
    refine vwp_count (fun i fr h' => fr 0 = .str s ∧ fr 3 = .int .i64 (i : Int) ∧ h' = h ∧ ∀ j (hj : j < s.length), j < i → textBad s[j] = false) s.length (by omega) ?_ ?_ ?_
    · simp [go_sem]
    · rintro i fr h' hlt e2 ew ⟨f0, f3, rfl, hj⟩
      cases hb : textBad s[i] with
      | true =>
        have hn := hb
        unfold textBad at hn
        repeat' first
          | (simp only [go_sem, Nat.reduceEqDiff, ↓reduceIte, Nat.reduceAdd, Nat.zero_add, Nat.reduceBEq, List.getElem?_cons_zero, List.getElem?_cons_succ, List.contains_cons, List.contains_nil, vpart_false, vextract, bne, Bool.or_false, Bool.or_true, Bool.false_or, Bool.true_or, Bool.or_self, Bool.false_and, Bool.true_and, Bool.and_false, Bool.and_true, Bool.and_self, Bool.not_true, Bool.not_false, Bool.not_not, vfieldAddr, D.notTuple, D.cells, mu47, at_str hlt, *])
          | (refine onBH_caseN (fun hc => ?_) (fun hc => ?_))
          | (refine onBH_case (fun hc => ?_) (fun hc => ?_))
          | (refine gifH_caseNT (fun hc => ?_) (fun hc => ?_))
          | (refine gifH_caseNF (fun hc => ?_) (fun hc => ?_))
          | (refine gifH_caseT (fun hc => ?_) (fun hc => ?_))
          | (refine gifH_caseF (fun hc => ?_) (fun hc => ?_))
        all_goals first
          | (rw [any_at hlt hb]; rfl; done)
          | (exfalso; simp_all; done)
          | (exfalso; simp_all; omega)
      | false =>
        have hn := hb
        unfold textBad at hn
        repeat' first
          | (simp only [go_sem, Nat.reduceEqDiff, ↓reduceIte, Nat.reduceAdd, Nat.zero_add, Nat.reduceBEq, List.getElem?_cons_zero, List.getElem?_cons_succ, List.contains_cons, List.contains_nil, vpart_false, vextract, bne, Bool.or_false, Bool.or_true, Bool.false_or, Bool.true_or, Bool.or_self, Bool.false_and, Bool.true_and, Bool.and_false, Bool.and_true, Bool.and_self, Bool.not_true, Bool.not_false, Bool.not_not, vfieldAddr, D.notTuple, D.cells, mu47, at_str hlt, *])
          | (refine onBH_caseN (fun hc => ?_) (fun hc => ?_))
          | (refine onBH_case (fun hc => ?_) (fun hc => ?_))
          | (refine gifH_caseNT (fun hc => ?_) (fun hc => ?_))
          | (refine gifH_caseNF (fun hc => ?_) (fun hc => ?_))
          | (refine gifH_caseT (fun hc => ?_) (fun hc => ?_))
          | (refine gifH_caseF (fun hc => ?_) (fun hc => ?_))
        all_goals first
          | exact fun j hjl hji => all_next (p := textBad) hlt hj hb j hjl hji
          | (exfalso; simp_all; done)
          | (exfalso; simp_all; omega)
    · rintro fr h' e2 ⟨f0, f3, rfl, hj⟩
      repeat' first
        | (simp only [go_sem, Nat.reduceEqDiff, ↓reduceIte, Nat.reduceAdd, Nat.zero_add, Nat.reduceBEq, List.getElem?_cons_zero, List.getElem?_cons_succ, List.contains_cons, List.contains_nil, vpart_false, vextract, bne, Bool.or_false, Bool.or_true, Bool.false_or, Bool.true_or, Bool.or_self, Bool.false_and, Bool.true_and, Bool.and_false, Bool.and_true, Bool.and_self, Bool.not_true, Bool.not_false, Bool.not_not, vfieldAddr, D.notTuple, D.cells, mu47, *])
        | (refine onBH_caseN (fun hc => ?_) (fun hc => ?_))
        | (refine onBH_case (fun hc => ?_) (fun hc => ?_))
        | (refine gifH_caseNT (fun hc => ?_) (fun hc => ?_))
        | (refine gifH_caseNF (fun hc => ?_) (fun hc => ?_))
        | (refine gifH_caseT (fun hc => ?_) (fun hc => ?_))
        | (refine gifH_caseF (fun hc => ?_) (fun hc => ?_))
      rw [any_no hj]; rfl
end Go.V
namespace Go.V
open Go.Proofs
set_option maxRecDepth 100000
set_option linter.unusedSimpArgs false
set_option linter.unusedVariables false

/-! The references' paths, and the check of a notice. -/
def partBadB (b : UInt8) : Bool := (decide ((b.toNat : Int) < 97) || decide ((b.toNat : Int) > 122)) && (decide ((b.toNat : Int) < 48) || decide ((b.toNat : Int) > 57)) && !((b.toNat : Int) == 46) && !((b.toNat : Int) == 95) && !((b.toNat : Int) == 45)
theorem partBad_eq (b : UInt8) : partBad b.toNat = partBadB b := by
  have := u8_all (p := fun b => partBad b.toNat == partBadB b) (by decide +kernel) b
  simpa using this
theorem partBad_high (n : Nat) (h : 128 ≤ n) : partBad n = true := by
  simp only [partBad, Bool.not_eq_true', Bool.or_eq_false_iff, Bool.and_eq_false_iff, decide_eq_false_iff_not]
  omega
theorem partS_cons (b : UInt8) (r : List UInt8) : partS (b :: r) = !(decide (((b :: r).length : Int) > 32) || (b.toNat : Int) == 46 || (b.toNat : Int) == 45 || (b :: r).any partBadB) := by
  have e1 : ((b.toNat : Int) == 46) = (b == 46) := u8_eq b 46
  have e2 : ((b.toNat : Int) == 45) = (b == 45) := u8_eq b 45
  have e3 : (b :: r).any (fun b => partBad b.toNat) = (b :: r).any partBadB := by congr 1; funext x; exact partBad_eq x
  have e4 : decide (((b :: r).length : Int) > 32) = decide ((b :: r).length > 32) := dec_nat _ 32
  simp only [partS]
  rw [anyRune_bytes partBad_high (by omega), List.drop_zero, e3, e1, e2, e4]
  simp only [Bool.or_assoc]

set_option maxHeartbeats 2000000 in
theorem c_refPart {s : List UInt8} (hl : s.length ≤ 1048576) (h : Heap) : VCall Tryz.prog 88 [.str s] h fun r h' => h' = h ∧ r = .bool (partS s) := by
  refine VCall.of_fn (g := cfg88) mix Tryz.func88 ok88 rfl rfl ?_
  simp only [Tryz.f88, Option.getD_some]
  cases s with
  | nil =>
    have e1 : decide ((([] : List UInt8).length : Int) < 1) = true := rfl
    repeat' first
      | (simp only [go_sem, Nat.reduceEqDiff, ↓reduceIte, Nat.reduceAdd, Nat.zero_add, Nat.reduceBEq, List.getElem?_cons_zero, List.getElem?_cons_succ, List.contains_cons, List.contains_nil, vpart_false, vextract, bne, Bool.or_false, Bool.or_true, Bool.false_or, Bool.true_or, Bool.or_self, Bool.false_and, Bool.true_and, Bool.and_false, Bool.and_true, Bool.and_self, Bool.not_true, Bool.not_false, Bool.not_not, vfieldAddr, D.notTuple, D.cells, mu88, *])
      | (refine onBH_caseN (fun hc => ?_) (fun hc => ?_))
      | (refine onBH_case (fun hc => ?_) (fun hc => ?_))
      | (refine gifH_caseNT (fun hc => ?_) (fun hc => ?_))
      | (refine gifH_caseNF (fun hc => ?_) (fun hc => ?_))
      | (refine gifH_caseT (fun hc => ?_) (fun hc => ?_))
      | (refine gifH_caseF (fun hc => ?_) (fun hc => ?_))
    rfl
  | cons b r =>
    have e1 : decide (((b :: r).length : Int) < 1) = false := decide_eq_false (by simp only [List.length_cons]; omega)
    have hi : vindex Tryz.prog 9 (.str (b :: r)) (.int .i64 0) = some (.int .u8 b.toNat) := vindex_str (n := 0) Tryz.underlying9 rfl
    have hN := partS_cons b r
    generalize hs : b :: r = s at *
    repeat' first
      | (simp only [go_sem, Nat.reduceEqDiff, ↓reduceIte, Nat.reduceAdd, Nat.zero_add, Nat.reduceBEq, List.getElem?_cons_zero, List.getElem?_cons_succ, List.contains_cons, List.contains_nil, vpart_false, vextract, bne, Bool.or_false, Bool.or_true, Bool.false_or, Bool.true_or, Bool.or_self, Bool.false_and, Bool.true_and, Bool.and_false, Bool.and_true, Bool.and_self, Bool.not_true, Bool.not_false, Bool.not_not, vfieldAddr, D.notTuple, D.cells, mu88, *])
      | (refine onBH_caseN (fun hc => ?_) (fun hc => ?_))
      | (refine onBH_case (fun hc => ?_) (fun hc => ?_))
      | (refine gifH_caseNT (fun hc => ?_) (fun hc => ?_))
      | (refine gifH_caseNF (fun hc => ?_) (fun hc => ?_))
      | (refine gifH_caseT (fun hc => ?_) (fun hc => ?_))
      | (refine gifH_caseF (fun hc => ?_) (fun hc => ?_))
    refine vwp_count (fun i fr h' => fr 0 = .str s ∧ fr 3 = .int .i64 (i : Int) ∧ h' = h ∧ ∀ j (hj : j < s.length), j < i → partBadB s[j] = false) s.length (by omega) ?_ ?_ ?_
    · simp [go_sem]
    · rintro i fr h' hlt e2 ew ⟨f0, f3, rfl, hj⟩
      cases hb : partBadB s[i] with
      | true =>
        have hn := hb
        unfold partBadB at hn
        repeat' first
          | (simp only [go_sem, Nat.reduceEqDiff, ↓reduceIte, Nat.reduceAdd, Nat.zero_add, Nat.reduceBEq, List.getElem?_cons_zero, List.getElem?_cons_succ, List.contains_cons, List.contains_nil, vpart_false, vextract, bne, Bool.or_false, Bool.or_true, Bool.false_or, Bool.true_or, Bool.or_self, Bool.false_and, Bool.true_and, Bool.and_false, Bool.and_true, Bool.and_self, Bool.not_true, Bool.not_false, Bool.not_not, vfieldAddr, D.notTuple, D.cells, mu88, at_str hlt, *])
          | (refine onBH_caseN (fun hc => ?_) (fun hc => ?_))
          | (refine onBH_case (fun hc => ?_) (fun hc => ?_))
          | (refine gifH_caseNT (fun hc => ?_) (fun hc => ?_))
          | (refine gifH_caseNF (fun hc => ?_) (fun hc => ?_))
          | (refine gifH_caseT (fun hc => ?_) (fun hc => ?_))
          | (refine gifH_caseF (fun hc => ?_) (fun hc => ?_))
        all_goals first
          | (rw [any_at hlt hb]; rfl; done)
          | (simp only [bne, Bool.or_false, Bool.or_true, Bool.false_or, Bool.true_or, Bool.or_self, Bool.false_and, Bool.true_and, Bool.and_false, Bool.and_true, Bool.and_self, Bool.not_true, Bool.not_false, Bool.not_not, Bool.true_eq_false, Bool.false_eq_true, *] at hn; done)
      | false =>
        have hn := hb
        unfold partBadB at hn
        repeat' first
          | (simp only [go_sem, Nat.reduceEqDiff, ↓reduceIte, Nat.reduceAdd, Nat.zero_add, Nat.reduceBEq, List.getElem?_cons_zero, List.getElem?_cons_succ, List.contains_cons, List.contains_nil, vpart_false, vextract, bne, Bool.or_false, Bool.or_true, Bool.false_or, Bool.true_or, Bool.or_self, Bool.false_and, Bool.true_and, Bool.and_false, Bool.and_true, Bool.and_self, Bool.not_true, Bool.not_false, Bool.not_not, vfieldAddr, D.notTuple, D.cells, mu88, at_str hlt, *])
          | (refine onBH_caseN (fun hc => ?_) (fun hc => ?_))
          | (refine onBH_case (fun hc => ?_) (fun hc => ?_))
          | (refine gifH_caseNT (fun hc => ?_) (fun hc => ?_))
          | (refine gifH_caseNF (fun hc => ?_) (fun hc => ?_))
          | (refine gifH_caseT (fun hc => ?_) (fun hc => ?_))
          | (refine gifH_caseF (fun hc => ?_) (fun hc => ?_))
        all_goals first
          | exact fun j hjl hji => all_next (p := partBadB) hlt hj hb j hjl hji
          | (simp only [bne, Bool.or_false, Bool.or_true, Bool.false_or, Bool.true_or, Bool.or_self, Bool.false_and, Bool.true_and, Bool.and_false, Bool.and_true, Bool.and_self, Bool.not_true, Bool.not_false, Bool.not_not, Bool.true_eq_false, Bool.false_eq_true, *] at hn; done)
    · rintro fr h' e2 ⟨f0, f3, rfl, hj⟩
      repeat' first
        | (simp only [go_sem, Nat.reduceEqDiff, ↓reduceIte, Nat.reduceAdd, Nat.zero_add, Nat.reduceBEq, List.getElem?_cons_zero, List.getElem?_cons_succ, List.contains_cons, List.contains_nil, vpart_false, vextract, bne, Bool.or_false, Bool.or_true, Bool.false_or, Bool.true_or, Bool.or_self, Bool.false_and, Bool.true_and, Bool.and_false, Bool.and_true, Bool.and_self, Bool.not_true, Bool.not_false, Bool.not_not, vfieldAddr, D.notTuple, D.cells, mu88, *])
        | (refine onBH_caseN (fun hc => ?_) (fun hc => ?_))
        | (refine onBH_case (fun hc => ?_) (fun hc => ?_))
        | (refine gifH_caseNT (fun hc => ?_) (fun hc => ?_))
        | (refine gifH_caseNF (fun hc => ?_) (fun hc => ?_))
        | (refine gifH_caseT (fun hc => ?_) (fun hc => ?_))
        | (refine gifH_caseF (fun hc => ?_) (fun hc => ?_))
      rw [any_no hj]; rfl

theorem c_refPath {s : List UInt8} (hl : s.length ≤ 1048576) (h : Heap) : VCall Tryz.prog 48 [.str s] h fun r h' => h' = h ∧ r = .int .i64 (pathS s) := by
  have hlen := splitB_len_le 47 s
  have hpl := splitB_part_le 47 s
  generalize hps : splitB 47 s = ps at *
  have hsp := c_split03 hl 47
  rw [hps] at hsp
  refine VCall.of_fn (g := cfg48) mix Tryz.func48 ok48 rfl rfl ?_
  simp only [Tryz.f48, Option.getD_some]
  by_cases g1 : s.length > 128
  · have e1 : decide ((s.length : Int) > 128) = true := decide_eq_true (by omega)
    repeat' first
      | (simp only [go_sem, Nat.reduceEqDiff, ↓reduceIte, Nat.reduceAdd, Nat.zero_add, Nat.reduceBEq, List.getElem?_cons_zero, List.getElem?_cons_succ, List.contains_cons, List.contains_nil, vpart_false, vextract, bne, Bool.or_false, Bool.or_true, Bool.false_or, Bool.true_or, Bool.or_self, Bool.false_and, Bool.true_and, Bool.and_false, Bool.and_true, Bool.and_self, Bool.not_true, Bool.not_false, Bool.not_not, vfieldAddr, D.notTuple, D.cells, mu48, *])
      | (refine onBH_caseN (fun hc => ?_) (fun hc => ?_))
      | (refine onBH_case (fun hc => ?_) (fun hc => ?_))
      | (refine gifH_caseNT (fun hc => ?_) (fun hc => ?_))
      | (refine gifH_caseNF (fun hc => ?_) (fun hc => ?_))
      | (refine gifH_caseT (fun hc => ?_) (fun hc => ?_))
      | (refine gifH_caseF (fun hc => ?_) (fun hc => ?_))
    rw [pathS, if_pos (.inl g1)]
  have e1 : decide ((s.length : Int) > 128) = false := decide_eq_false (by omega)
  repeat' first
    | (simp only [go_sem, Nat.reduceEqDiff, ↓reduceIte, Nat.reduceAdd, Nat.zero_add, Nat.reduceBEq, List.getElem?_cons_zero, List.getElem?_cons_succ, List.contains_cons, List.contains_nil, vpart_false, vextract, bne, Bool.or_false, Bool.or_true, Bool.false_or, Bool.true_or, Bool.or_self, Bool.false_and, Bool.true_and, Bool.and_false, Bool.and_true, Bool.and_self, Bool.not_true, Bool.not_false, Bool.not_not, vfieldAddr, D.notTuple, D.cells, mu48, *])
    | (refine onBH_caseN (fun hc => ?_) (fun hc => ?_))
    | (refine onBH_case (fun hc => ?_) (fun hc => ?_))
    | (refine gifH_caseNT (fun hc => ?_) (fun hc => ?_))
    | (refine gifH_caseNF (fun hc => ?_) (fun hc => ?_))
    | (refine gifH_caseT (fun hc => ?_) (fun hc => ?_))
    | (refine gifH_caseF (fun hc => ?_) (fun hc => ?_))
  refine (hsp _).mono ?_
  rintro r h ⟨rfl, hr⟩
  by_cases g2 : ps.length > 8
  · have e2 : decide ((ps.length : Int) > 8) = true := decide_eq_true (by omega)
    repeat' first
      | (simp only [go_sem, Nat.reduceEqDiff, ↓reduceIte, Nat.reduceAdd, Nat.zero_add, Nat.reduceBEq, List.getElem?_cons_zero, List.getElem?_cons_succ, List.contains_cons, List.contains_nil, vpart_false, vextract, bne, Bool.or_false, Bool.or_true, Bool.false_or, Bool.true_or, Bool.or_self, Bool.false_and, Bool.true_and, Bool.and_false, Bool.and_true, Bool.and_self, Bool.not_true, Bool.not_false, Bool.not_not, vfieldAddr, D.notTuple, D.cells, mu48, len_strs hr.isSl, *])
      | (refine onBH_caseN (fun hc => ?_) (fun hc => ?_))
      | (refine onBH_case (fun hc => ?_) (fun hc => ?_))
      | (refine gifH_caseNT (fun hc => ?_) (fun hc => ?_))
      | (refine gifH_caseNF (fun hc => ?_) (fun hc => ?_))
      | (refine gifH_caseT (fun hc => ?_) (fun hc => ?_))
      | (refine gifH_caseF (fun hc => ?_) (fun hc => ?_))
    rw [pathS, if_pos (.inr (.inl (by rw [hps]; exact g2)))]
  have e2 : decide ((ps.length : Int) > 8) = false := decide_eq_false (by omega)
  repeat' first
    | (simp only [go_sem, Nat.reduceEqDiff, ↓reduceIte, Nat.reduceAdd, Nat.zero_add, Nat.reduceBEq, List.getElem?_cons_zero, List.getElem?_cons_succ, List.contains_cons, List.contains_nil, vpart_false, vextract, bne, Bool.or_false, Bool.or_true, Bool.false_or, Bool.true_or, Bool.or_self, Bool.false_and, Bool.true_and, Bool.and_false, Bool.and_true, Bool.and_self, Bool.not_true, Bool.not_false, Bool.not_not, vfieldAddr, D.notTuple, D.cells, mu48, len_strs hr.isSl, *])
    | (refine onBH_caseN (fun hc => ?_) (fun hc => ?_))
    | (refine onBH_case (fun hc => ?_) (fun hc => ?_))
    | (refine gifH_caseNT (fun hc => ?_) (fun hc => ?_))
    | (refine gifH_caseNF (fun hc => ?_) (fun hc => ?_))
    | (refine gifH_caseT (fun hc => ?_) (fun hc => ?_))
    | (refine gifH_caseF (fun hc => ?_) (fun hc => ?_))
  refine vwp_count (fun i fr h' => fr 14 = r ∧ fr 15 = .int .i64 ps.length ∧ fr 16 = .int .i64 (i : Int) ∧ h' = h ∧ ∀ j (hj : j < ps.length), j < i → (!partS ps[j]) = false) ps.length (by omega) ?_ ?_ ?_
  · simp only [go_sem, Nat.reduceEqDiff, ↓reduceIte, Nat.reduceAdd, Nat.zero_add, Nat.reduceBEq, List.getElem?_cons_zero, List.getElem?_cons_succ, List.contains_cons, List.contains_nil, vpart_false, vextract, bne, Bool.or_false, Bool.or_true, Bool.false_or, Bool.true_or, Bool.or_self, Bool.false_and, Bool.true_and, Bool.and_false, Bool.and_true, Bool.and_self, Bool.not_true, Bool.not_false, Bool.not_not, vfieldAddr, D.notTuple, D.cells, mu48, true_and, and_true, Int.ofNat_zero, len_strs hr.isSl]
    exact fun j h1 h2 => by omega
  · rintro i fr h' hlt e3 ew ⟨f14, f15, f16, rfl, hj⟩
    have hsl := hpl _ (List.getElem_mem hlt)
    cases hb : partS ps[i] with
    | true =>
      repeat' first
        | (simp only [go_sem, Nat.reduceEqDiff, ↓reduceIte, Nat.reduceAdd, Nat.zero_add, Nat.reduceBEq, List.getElem?_cons_zero, List.getElem?_cons_succ, List.contains_cons, List.contains_nil, vpart_false, vextract, bne, Bool.or_false, Bool.or_true, Bool.false_or, Bool.true_or, Bool.or_self, Bool.false_and, Bool.true_and, Bool.and_false, Bool.and_true, Bool.and_self, Bool.not_true, Bool.not_false, Bool.not_not, vfieldAddr, D.notTuple, D.cells, mu48, at_strs hr.isSl hlt, *])
        | (refine onBH_caseN (fun hc => ?_) (fun hc => ?_))
        | (refine onBH_case (fun hc => ?_) (fun hc => ?_))
        | (refine gifH_caseNT (fun hc => ?_) (fun hc => ?_))
        | (refine gifH_caseNF (fun hc => ?_) (fun hc => ?_))
        | (refine gifH_caseT (fun hc => ?_) (fun hc => ?_))
        | (refine gifH_caseF (fun hc => ?_) (fun hc => ?_))
        | (refine VCall.mono (c_refPart (s := ps[i]) (by omega) _) ?_; rintro r h ⟨rfl, rfl⟩)
      exact fun j hjl hji => all_next (p := fun p => !partS p) hlt hj (by rw [hb]; rfl) j hjl hji
    | false =>
      repeat' first
        | (simp only [go_sem, Nat.reduceEqDiff, ↓reduceIte, Nat.reduceAdd, Nat.zero_add, Nat.reduceBEq, List.getElem?_cons_zero, List.getElem?_cons_succ, List.contains_cons, List.contains_nil, vpart_false, vextract, bne, Bool.or_false, Bool.or_true, Bool.false_or, Bool.true_or, Bool.or_self, Bool.false_and, Bool.true_and, Bool.and_false, Bool.and_true, Bool.and_self, Bool.not_true, Bool.not_false, Bool.not_not, vfieldAddr, D.notTuple, D.cells, mu48, at_strs hr.isSl hlt, *])
        | (refine onBH_caseN (fun hc => ?_) (fun hc => ?_))
        | (refine onBH_case (fun hc => ?_) (fun hc => ?_))
        | (refine gifH_caseNT (fun hc => ?_) (fun hc => ?_))
        | (refine gifH_caseNF (fun hc => ?_) (fun hc => ?_))
        | (refine gifH_caseT (fun hc => ?_) (fun hc => ?_))
        | (refine gifH_caseF (fun hc => ?_) (fun hc => ?_))
        | (refine VCall.mono (c_refPart (s := ps[i]) (by omega) _) ?_; rintro r h ⟨rfl, rfl⟩)
      rw [pathS, if_pos (.inr (.inr (by rw [hps]; exact any_at (p := fun p => !partS p) hlt (by rw [hb]; rfl))))]
  · rintro fr h' e3 ⟨f14, f15, f16, rfl, hj⟩
    repeat' first
      | (simp only [go_sem, Nat.reduceEqDiff, ↓reduceIte, Nat.reduceAdd, Nat.zero_add, Nat.reduceBEq, List.getElem?_cons_zero, List.getElem?_cons_succ, List.contains_cons, List.contains_nil, vpart_false, vextract, bne, Bool.or_false, Bool.or_true, Bool.false_or, Bool.true_or, Bool.or_self, Bool.false_and, Bool.true_and, Bool.and_false, Bool.and_true, Bool.and_self, Bool.not_true, Bool.not_false, Bool.not_not, vfieldAddr, D.notTuple, D.cells, mu48, *])
      | (refine onBH_caseN (fun hc => ?_) (fun hc => ?_))
      | (refine onBH_case (fun hc => ?_) (fun hc => ?_))
      | (refine gifH_caseNT (fun hc => ?_) (fun hc => ?_))
      | (refine gifH_caseNF (fun hc => ?_) (fun hc => ?_))
      | (refine gifH_caseT (fun hc => ?_) (fun hc => ?_))
      | (refine gifH_caseF (fun hc => ?_) (fun hc => ?_))
    rw [pathS, if_neg ?_]
    rintro (h1 | h1 | h1)
    · exact g1 h1
    · rw [hps] at h1; exact g2 h1
    · rw [hps, any_no (p := fun p => !partS p) hj] at h1; cases h1
end Go.V
