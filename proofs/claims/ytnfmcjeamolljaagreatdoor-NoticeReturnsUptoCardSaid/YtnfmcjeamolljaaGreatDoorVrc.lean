/- Contracts of functions on numbers and on strings that are cut and joined. No condition. -/
import Derived.Test.YtnfmcjeamolljaaGreatDoorVrb
import Derived.Test.YtnfmcjeamolljaaGreatDoorVxA
import Derived.Lib.SmallJoins
import Derived.Test.YtnfmcjeamolljaaGreatDoorVhF
import Derived.Test.YtnfmcjeamolljaaGreatDoorVSj
import Derived.Shelf.Strconv.Itoa3
set_option linter.unusedSimpArgs false
set_option linter.unusedVariables false
set_option linter.constructorNameAsVariable false
set_option linter.deprecated false
namespace Go.V
open Go.Proofs
set_option maxRecDepth 100000
set_option linter.unusedSimpArgs false
set_option linter.unusedVariables false

/-! Numbers in texts. -/
/-- strconv.Atoi at digits. -/
theorem l_atoi {s : List UInt8} (hl : s.length ≤ 18) {n : Int} (hn : Lib.atoi s = some n) (hf : fits .i64 n) (h : Heap) : VCall Tryz.prog 190 [.str s] h fun r h' => h' = h ∧ r = .tuple [.int .i64 n, .niliface] := by
  refine (VCall.of_lib (by kernel_rfl) (fun M ρ va w hr => ?_) h).mono fun a b hab => ⟨hab.2, hab.1⟩
  simp only [relL, rel] at hr
  obtain ⟨v, vs, e, ⟨b, rfl, rfl, h2⟩, rfl⟩ := hr
  have ev : va = #[.string b] := Array.ext' (by simpa using e)
  subst ev
  have e1 : b.size = b.data.toList.length := by rw [Array.length_toList]; rfl
  refine (Tryz.strconv_Atoi b n (by rw [e1]; exact hl) hn w).mono fun e w' hq => ?_
  obtain ⟨rfl, t, rfl⟩ := hq
  refine ⟨_, rfl, Joins.below_bytesWorld _ _ _ _ (Nat.le_refl _), fun M' ρ' => ?_⟩
  simp only [rel, relL]
  exact ⟨_, rfl, _, [_], rfl, ⟨rfl, hf⟩, _, [], rfl, rfl, rfl⟩

def digB (b : UInt8) : Bool := !(decide ((b.toNat : Int) < 48) || decide ((b.toNat : Int) > 57))
def digSet : List UInt8 := [48, 49, 50, 51, 52, 53, 54, 55, 56, 57]
theorem digB_eq (b : UInt8) : digSet.contains b = digB b := by
  have := u8_all (p := fun b => digSet.contains b == digB b) (by decide +kernel) b
  simpa using this
theorem digB_val {b : UInt8} (h : digB b = true) : Lib.digitVal b = some (b.toNat - 48) ∧ 48 ≤ b.toNat ∧ b.toNat ≤ 57 := by
  unfold digB at h
  simp only [Bool.not_eq_true', Bool.or_eq_false_iff, decide_eq_false_iff_not] at h
  unfold Lib.digitVal
  rw [if_pos (by omega)]
  exact ⟨rfl, by omega, by omega⟩
theorem digB_no {b : UInt8} (h : digB b = false) : Lib.digitVal b = none := by
  unfold digB at h
  simp only [Bool.not_eq_false', Bool.or_eq_true, decide_eq_true_eq] at h
  unfold Lib.digitVal
  rw [if_neg (by omega)]
theorem decFrom_digits : ∀ {l : List UInt8} (_ : l.all digB = true) (a : Nat), ∃ n, Lib.decFrom a l = some n ∧ n < (a + 1) * 10 ^ l.length
  | [], _, a => ⟨a, rfl, by simp⟩
  | b :: l, h, a => by
    simp only [List.all_cons, Bool.and_eq_true] at h
    obtain ⟨h1, h2, h3⟩ := digB_val h.1
    obtain ⟨n, e, hn⟩ := decFrom_digits h.2 (a * 10 + (b.toNat - 48))
    refine ⟨n, by simp only [Lib.decFrom, h1]; exact e, Nat.lt_of_lt_of_le hn ?_⟩
    rw [List.length_cons, Nat.pow_succ, Nat.mul_comm (10 ^ l.length) 10, ← Nat.mul_assoc]
    exact Nat.mul_le_mul_right _ (by omega)
theorem decFrom_none : ∀ {l : List UInt8} (_ : l.all digB = false) (a : Nat), Lib.decFrom a l = none
  | [], h, a => by simp at h
  | b :: l, h, a => by
    cases hb : digB b with
    | false => simp only [Lib.decFrom, digB_no hb]
    | true =>
      simp only [List.all_cons, hb, Bool.true_and] at h
      simp only [Lib.decFrom, (digB_val hb).1]
      exact decFrom_none h _

/-- The form of a number of 1 to 3 digits. -/
def numForm (s : List UInt8) : Bool := match s with
  | [] => false
  | b :: r => !(decide (((b :: r).length : Int) > 3) || decide (((b :: r).length : Int) > 1) && (b.toNat : Int) == 48)
/-- The number that digits are, or -1. -/
def numV (s : List UInt8) : Int := match Lib.decFrom 0 s with | some n => (n : Int) | none => -1
/-- The number that a word is, or -1. -/
def numS (s : List UInt8) : Int := if numForm s then numV s else -1
theorem numForm_len {s : List UInt8} (h : numForm s = true) : 1 ≤ s.length ∧ s.length ≤ 3 := by
  cases s with
  | nil => cases h
  | cons b r =>
    simp only [numForm, Bool.not_eq_true', Bool.or_eq_false_iff, decide_eq_false_iff_not] at h
    simp only [List.length_cons] at h ⊢
    omega
theorem numS_lt (s : List UInt8) : -1 ≤ numS s ∧ numS s < 1000 := by
  unfold numS numV
  split
  · rename_i h
    have hl := numForm_len h
    cases hd : s.all digB with
    | true =>
      obtain ⟨n, e, hn⟩ := decFrom_digits hd 0
      rw [e]
      have : 10 ^ s.length ≤ 10 ^ 3 := Nat.pow_le_pow_right (by omega) hl.2
      simp only []
      omega
    | false => rw [decFrom_none hd]; simp
  · omega
theorem numS_nonneg {s : List UInt8} (h : 0 ≤ numS s) : numForm s = true ∧ s.all digB = true ∧ ∃ n, Lib.decFrom 0 s = some n ∧ numS s = (n : Int) := by
  unfold numS numV at h ⊢
  split at h
  · rename_i hf
    rw [if_pos hf]
    cases hd : s.all digB with
    | true =>
      obtain ⟨n, e, _⟩ := decFrom_digits hd 0
      exact ⟨hf, rfl, n, e, by rw [e]⟩
    | false => rw [decFrom_none hd] at h; simp at h
  · omega

theorem c_number {s : List UInt8} (hl : s.length ≤ 1048576) (h : Heap) : VCall Tryz.prog 139 [.str s] h fun r h' => h' = h ∧ r = .tuple [.int .i64 (if numS s < 0 then 0 else numS s), .bool (decide (numS s ≥ 0))] := by
  refine VCall.of_fn (g := cfg139) mix Tryz.func139 ok139 rfl rfl ?_
  simp only [Tryz.f139, Option.getD_some]
  have hpair : ∀ {x y : Int} {b c : Bool}, x = y → b = c → (D.tuple [.int .i64 x, .bool b]) = .tuple [.int .i64 y, .bool c] := by rintro _ _ _ _ rfl rfl; rfl
  have neg : numS s = -1 → (D.tuple [.int .i64 0, .bool false]) = .tuple [.int .i64 (if numS s < 0 then 0 else numS s), .bool (decide (numS s ≥ 0))] := fun e => by rw [e]; rfl
  cases s with
  | nil =>
    have e1 : decide ((([] : List UInt8).length : Int) < 1) = true := rfl
    repeat' first
      | (simp only [go_sem, Nat.reduceEqDiff, ↓reduceIte, Nat.reduceAdd, Nat.zero_add, Nat.reduceBEq, List.getElem?_cons_zero, List.getElem?_cons_succ, List.contains_cons, List.contains_nil, vpart_false, vextract, bne, Bool.or_false, Bool.or_true, Bool.false_or, Bool.true_or, Bool.or_self, Bool.false_and, Bool.true_and, Bool.and_false, Bool.and_true, Bool.and_self, Bool.not_true, Bool.not_false, Bool.not_not, vfieldAddr, D.notTuple, D.cells, mu139, *])
      | (refine onBH_caseN (fun hc => ?_) (fun hc => ?_))
      | (refine onBH_case (fun hc => ?_) (fun hc => ?_))
      | (refine gifH_caseNT (fun hc => ?_) (fun hc => ?_))
      | (refine gifH_caseNF (fun hc => ?_) (fun hc => ?_))
      | (refine gifH_caseT (fun hc => ?_) (fun hc => ?_))
      | (refine gifH_caseF (fun hc => ?_) (fun hc => ?_))
    rfl
  | cons b r =>
    have e1 : decide (((b :: r).length : Int) < 1) = false := decide_eq_false (by simp only [List.length_cons]; omega)
    have hi : vindex Tryz.prog 9 (.str (b :: r)) (.int .i64 0) = some (.int .u8 b.toNat) := vindex_str (n := 0) Tryz.underlying9 rfl
    have hform : (decide (((b :: r).length : Int) > 3) || decide (((b :: r).length : Int) > 1) && (b.toNat : Int) == 48) = !numForm (b :: r) := by simp only [numForm, Bool.not_not]
    have htrim : (Lib.trimS (b :: r) digSet == []) = (b :: r).all digB := by
      rw [trimS_nil]; congr 1; funext x; exact digB_eq x
    have hat : (b :: r).all digB = true → Lib.atoi (b :: r) = (Lib.decFrom 0 (b :: r)).map fun (m : Nat) => (m : Int) := fun hd => by
      simp only [List.all_cons, Bool.and_eq_true] at hd
      obtain ⟨_, h2, h3⟩ := digB_val hd.1
      have n1 : (b == 45) = false := beq_eq_false_iff_ne.2 fun e => by subst e; exact absurd h2 (by decide)
      have n2 : (b == 43) = false := beq_eq_false_iff_ne.2 fun e => by subst e; exact absurd h2 (by decide)
      simp only [Lib.atoi, n1, n2, Lib.decNat, List.isEmpty_cons, Bool.false_eq_true, if_false]
    generalize hs : b :: r = s at *
    cases hf : numForm s with
    | false =>
      have hn : numS s = -1 := by unfold numS; rw [if_neg (by rw [hf]; exact Bool.false_ne_true)]
      rw [hf] at hform
      repeat' first
        | (simp only [go_sem, Nat.reduceEqDiff, ↓reduceIte, Nat.reduceAdd, Nat.zero_add, Nat.reduceBEq, List.getElem?_cons_zero, List.getElem?_cons_succ, List.contains_cons, List.contains_nil, vpart_false, vextract, bne, Bool.or_false, Bool.or_true, Bool.false_or, Bool.true_or, Bool.or_self, Bool.false_and, Bool.true_and, Bool.and_false, Bool.and_true, Bool.and_self, Bool.not_true, Bool.not_false, Bool.not_not, vfieldAddr, D.notTuple, D.cells, mu139, *])
        | (refine onBH_caseN (fun hc => ?_) (fun hc => ?_))
        | (refine onBH_case (fun hc => ?_) (fun hc => ?_))
        | (refine gifH_caseNT (fun hc => ?_) (fun hc => ?_))
        | (refine gifH_caseNF (fun hc => ?_) (fun hc => ?_))
        | (refine gifH_caseT (fun hc => ?_) (fun hc => ?_))
        | (refine gifH_caseF (fun hc => ?_) (fun hc => ?_))
        | (refine VCall.mono (l_trim hl (c := digSet) (by decide) (by decide) _) ?_; rintro r h ⟨rfl, rfl⟩)
      all_goals first
        | (exact neg hn)
        | (simp only [bne, Bool.or_false, Bool.or_true, Bool.false_or, Bool.true_or, Bool.or_self, Bool.false_and, Bool.true_and, Bool.and_false, Bool.and_true, Bool.and_self, Bool.not_true, Bool.not_false, Bool.not_not, Bool.true_eq_false, Bool.false_eq_true, *] at hform; done)
    | true =>
      rw [hf] at hform
      have hlen := numForm_len hf
      cases hd : s.all digB with
      | false =>
        have hn : numS s = -1 := by unfold numS numV; rw [if_pos hf, decFrom_none hd]
        repeat' first
          | (simp only [go_sem, Nat.reduceEqDiff, ↓reduceIte, Nat.reduceAdd, Nat.zero_add, Nat.reduceBEq, List.getElem?_cons_zero, List.getElem?_cons_succ, List.contains_cons, List.contains_nil, vpart_false, vextract, bne, Bool.or_false, Bool.or_true, Bool.false_or, Bool.true_or, Bool.or_self, Bool.false_and, Bool.true_and, Bool.and_false, Bool.and_true, Bool.and_self, Bool.not_true, Bool.not_false, Bool.not_not, vfieldAddr, D.notTuple, D.cells, mu139, *])
          | (refine onBH_caseN (fun hc => ?_) (fun hc => ?_))
          | (refine onBH_case (fun hc => ?_) (fun hc => ?_))
          | (refine gifH_caseNT (fun hc => ?_) (fun hc => ?_))
          | (refine gifH_caseNF (fun hc => ?_) (fun hc => ?_))
          | (refine gifH_caseT (fun hc => ?_) (fun hc => ?_))
          | (refine gifH_caseF (fun hc => ?_) (fun hc => ?_))
          | (refine VCall.mono (l_trim hl (c := digSet) (by decide) (by decide) _) ?_; rintro r h ⟨rfl, rfl⟩)
        all_goals first
          | (exact neg hn)
          | (simp only [bne, Bool.or_false, Bool.or_true, Bool.false_or, Bool.true_or, Bool.or_self, Bool.false_and, Bool.true_and, Bool.and_false, Bool.and_true, Bool.and_self, Bool.not_true, Bool.not_false, Bool.not_not, Bool.true_eq_false, Bool.false_eq_true, *] at hform; done)
      | true =>
        obtain ⟨n, e, hlt⟩ := decFrom_digits hd 0
        have h10 : 10 ^ s.length ≤ 10 ^ 3 := Nat.pow_le_pow_right (by omega) hlen.2
        have hn : numS s = (n : Int) := by unfold numS numV; rw [if_pos hf, e]
        have hfit : fits .i64 (n : Int) := by rw [fits_iff]; simp [IntKind.min, IntKind.max, IntKind.signed, IntKind.bits]; omega
        have ha : Lib.atoi s = some (n : Int) := by rw [hat hd, e]; rfl
        repeat' first
          | (simp only [go_sem, Nat.reduceEqDiff, ↓reduceIte, Nat.reduceAdd, Nat.zero_add, Nat.reduceBEq, List.getElem?_cons_zero, List.getElem?_cons_succ, List.contains_cons, List.contains_nil, vpart_false, vextract, bne, Bool.or_false, Bool.or_true, Bool.false_or, Bool.true_or, Bool.or_self, Bool.false_and, Bool.true_and, Bool.and_false, Bool.and_true, Bool.and_self, Bool.not_true, Bool.not_false, Bool.not_not, vfieldAddr, D.notTuple, D.cells, mu139, *])
          | (refine onBH_caseN (fun hc => ?_) (fun hc => ?_))
          | (refine onBH_case (fun hc => ?_) (fun hc => ?_))
          | (refine gifH_caseNT (fun hc => ?_) (fun hc => ?_))
          | (refine gifH_caseNF (fun hc => ?_) (fun hc => ?_))
          | (refine gifH_caseT (fun hc => ?_) (fun hc => ?_))
          | (refine gifH_caseF (fun hc => ?_) (fun hc => ?_))
          | (refine VCall.mono (l_trim hl (c := digSet) (by decide) (by decide) _) ?_; rintro r h ⟨rfl, rfl⟩)
          | (refine VCall.mono (l_atoi (by omega) ha hfit _) ?_; rintro r h ⟨rfl, rfl⟩)
        all_goals first
          | (simp only [bne, Bool.or_false, Bool.or_true, Bool.false_or, Bool.true_or, Bool.or_self, Bool.false_and, Bool.true_and, Bool.and_false, Bool.and_true, Bool.and_self, Bool.not_true, Bool.not_false, Bool.not_not, Bool.true_eq_false, Bool.false_eq_true, *] at hform; done)
          | skip
        all_goals
          refine vwp_text (by kernel_rfl) ?_
          have hnil : vbin Tryz.prog .eql 79 true .niliface .niliface = some (.bool true) := by kernel_rfl
          repeat' first
            | (simp only [go_sem, Nat.reduceEqDiff, ↓reduceIte, Nat.reduceAdd, Nat.zero_add, Nat.reduceBEq, List.getElem?_cons_zero, List.getElem?_cons_succ, List.contains_cons, List.contains_nil, vpart_false, vextract, bne, Bool.or_false, Bool.or_true, Bool.false_or, Bool.true_or, Bool.or_self, Bool.false_and, Bool.true_and, Bool.and_false, Bool.and_true, Bool.and_self, Bool.not_true, Bool.not_false, Bool.not_not, vfieldAddr, D.notTuple, D.cells, mu139, *])
            | (refine onBH_caseN (fun hc => ?_) (fun hc => ?_))
            | (refine onBH_case (fun hc => ?_) (fun hc => ?_))
            | (refine gifH_caseNT (fun hc => ?_) (fun hc => ?_))
            | (refine gifH_caseNF (fun hc => ?_) (fun hc => ?_))
            | (refine gifH_caseT (fun hc => ?_) (fun hc => ?_))
            | (refine gifH_caseF (fun hc => ?_) (fun hc => ?_))
          exact hpair (by rw [if_neg (by omega)]) (decide_eq_true (by omega)).symm
end Go.V
namespace Go.V
open Go.Proofs
set_option maxRecDepth 100000
set_option linter.unusedSimpArgs false
set_option linter.unusedVariables false

/-! Strings that are cut, joined and begun with; numbers of the references. -/
/-- The parts ahead of and behind the first byte c. -/
def cutB (c : UInt8) (s : List UInt8) : Option (List UInt8 × List UInt8) := match s.findIdx? (· == c) with
  | some i => some (s.take i, s.drop (i + 1))
  | none => none
theorem cutB_at {c : UInt8} {s : List UInt8} {m : Nat} (hm : s[m]? = some c) (hk : ∀ k, k < m → s[k]? ≠ some c) : cutB c s = some (s.take m, s.drop (m + 1)) := by
  have hl := (List.getElem?_eq_some_iff.1 hm)
  have : s.findIdx? (· == c) = some m := by
    rw [List.findIdx?_eq_some_iff_getElem]
    refine ⟨hl.1, by rw [hl.2]; simp, fun j hj => ?_⟩
    have := hk j hj
    rw [List.getElem?_eq_getElem (by have := hl.1; omega)] at this
    simpa using this
  rw [cutB, this]
theorem cutB_none {c : UInt8} {s : List UInt8} (hk : ∀ k : Nat, s[k]? ≠ some c) : cutB c s = none := by
  have : s.findIdx? (· == c) = none := by
    rw [List.findIdx?_eq_none_iff]
    intro x hx
    obtain ⟨j, hj, rfl⟩ := List.mem_iff_getElem.1 hx
    have := hk j
    rw [List.getElem?_eq_getElem hj] at this
    simpa using this
  rw [cutB, this]
theorem cutB_cases (c : UInt8) (s : List UInt8) : (Lib.indexByte s c = -1 ∧ cutB c s = none) ∨ ∃ m : Nat, Lib.indexByte s c = (m : Int) ∧ m < s.length ∧ cutB c s = some (s.take m, s.drop (m + 1)) := by
  have h1 := Lib.indexByte_ge s c
  by_cases h : Lib.indexByte s c = -1
  · exact .inl ⟨h, cutB_none fun k => Lib.indexByte_none h k⟩
  · obtain ⟨m, hm⟩ := Int.eq_ofNat_of_zero_le (show 0 ≤ Lib.indexByte s c by omega)
    obtain ⟨g1, g2⟩ := Lib.indexByte_some hm
    exact .inr ⟨m, hm, (List.getElem?_eq_some_iff.1 g1).1, cutB_at g1 g2⟩
theorem cutB_len {c : UInt8} {s a b : List UInt8} (h : cutB c s = some (a, b)) : a.length + b.length + 1 = s.length := by
  rcases cutB_cases c s with ⟨_, h2⟩ | ⟨m, _, hm, h2⟩
  · rw [h2] at h; cases h
  · rw [h2] at h
    cases h
    simp only [List.length_take, List.length_drop]; omega
def cutD (c : UInt8) (s : List UInt8) : D := match cutB c s with
  | some (a, b) => .tuple [.str a, .str b, .bool true]
  | none => .tuple [.str s, .str [], .bool false]

theorem l_index2 {s : List UInt8} (hl : s.length ≤ 1048576) (c : UInt8) (h : Heap) : VCall Tryz.prog 189 [.str s, .str [c]] h fun r h' => h' = h ∧ r = .int .i64 (Lib.indexByte s c) := by
  have h1 := Lib.indexByte_ge s c
  have h2 : Lib.indexByte s c ≤ s.length := by
    by_cases h0 : Lib.indexByte s c = -1
    · omega
    · obtain ⟨m, hm⟩ := Int.eq_ofNat_of_zero_le (show 0 ≤ Lib.indexByte s c by omega)
      have := (List.getElem?_eq_some_iff.1 (Lib.indexByte_some hm).1).1
      omega
  refine (libIndex_ok (by kernel_rfl) (fun s c w => Tryz.stringslite_Index_one s c w) (args := [.str s, .str [c]]) (d := .int .i64 (Lib.indexByte s c)) ?_ h).mono fun a b hab => ⟨hab.2, hab.1⟩
  simp only [libIndex, intR]
  rw [wrap_i64 (by omega) (by omega)]
  simp

theorem c_cut {s : List UInt8} (hl : s.length ≤ 1048576) (c : UInt8) (h : Heap) : VCall Tryz.prog 90 [.str s, .str [c]] h fun r h' => h' = h ∧ r = cutD c s := by
  have hcut : ∀ h : Heap, VCall Tryz.prog 138 [.str s, .str [c]] h fun r h' => h' = h ∧ r = cutD c s := fun h => by
    refine VCall.of_fn (g := cfg138) mix Tryz.func138 ok138 rfl rfl ?_
    simp only [Tryz.f138, Option.getD_some]
    rcases cutB_cases c s with ⟨hm, hs⟩ | ⟨m, hm, hml, hs⟩
    · have e1 : decide ((-1 : Int) ≥ 0) = false := rfl
      have eD : cutD c s = .tuple [.str s, .str [], .bool false] := by simp only [cutD, hs]
      repeat' first
        | (simp only [go_sem, Nat.reduceEqDiff, ↓reduceIte, Nat.reduceAdd, Nat.zero_add, Nat.reduceBEq, List.getElem?_cons_zero, List.getElem?_cons_succ, List.contains_cons, List.contains_nil, vpart_false, vextract, bne, Bool.or_false, Bool.or_true, Bool.false_or, Bool.true_or, Bool.or_self, Bool.false_and, Bool.true_and, Bool.and_false, Bool.and_true, Bool.and_self, Bool.not_true, Bool.not_false, Bool.not_not, vfieldAddr, D.notTuple, D.cells, mu138, *])
        | (refine onBH_caseN (fun hc => ?_) (fun hc => ?_))
        | (refine onBH_case (fun hc => ?_) (fun hc => ?_))
        | (refine gifH_caseNT (fun hc => ?_) (fun hc => ?_))
        | (refine gifH_caseNF (fun hc => ?_) (fun hc => ?_))
        | (refine gifH_caseT (fun hc => ?_) (fun hc => ?_))
        | (refine gifH_caseF (fun hc => ?_) (fun hc => ?_))
        | (refine VCall.mono (l_index2 hl c _) ?_; rintro r h ⟨rfl, rfl⟩)
    · have e1 : decide ((m : Int) ≥ 0) = true := decide_eq_true (by omega)
      have eD : cutD c s = .tuple [.str (s.take m), .str (s.drop (m + 1)), .bool true] := by simp only [cutD, hs]
      have e2 : (([c] : List UInt8).length : Int) = 1 := rfl
      have ew : IntKind.i64.wrap ((m : Int) + 1) = ((m + 1 : Nat) : Int) := wrap_succ (by unfold lim; omega)
      repeat' first
        | (simp only [go_sem, Nat.reduceEqDiff, ↓reduceIte, Nat.reduceAdd, Nat.zero_add, Nat.reduceBEq, List.getElem?_cons_zero, List.getElem?_cons_succ, List.contains_cons, List.contains_nil, vpart_false, vextract, bne, Bool.or_false, Bool.or_true, Bool.false_or, Bool.true_or, Bool.or_self, Bool.false_and, Bool.true_and, Bool.and_false, Bool.and_true, Bool.and_self, Bool.not_true, Bool.not_false, Bool.not_not, vfieldAddr, D.notTuple, D.cells, mu138, *])
        | (refine onBH_caseN (fun hc => ?_) (fun hc => ?_))
        | (refine onBH_case (fun hc => ?_) (fun hc => ?_))
        | (refine gifH_caseNT (fun hc => ?_) (fun hc => ?_))
        | (refine gifH_caseNF (fun hc => ?_) (fun hc => ?_))
        | (refine gifH_caseT (fun hc => ?_) (fun hc => ?_))
        | (refine gifH_caseF (fun hc => ?_) (fun hc => ?_))
        | (refine VCall.mono (l_index2 hl c _) ?_; rintro r h ⟨rfl, rfl⟩)
      refine vwp_text (by kernel_rfl) ?_
      repeat' first
        | (simp only [go_sem, Nat.reduceEqDiff, ↓reduceIte, Nat.reduceAdd, Nat.zero_add, Nat.reduceBEq, List.getElem?_cons_zero, List.getElem?_cons_succ, List.contains_cons, List.contains_nil, vpart_false, vextract, bne, Bool.or_false, Bool.or_true, Bool.false_or, Bool.true_or, Bool.or_self, Bool.false_and, Bool.true_and, Bool.and_false, Bool.and_true, Bool.and_self, Bool.not_true, Bool.not_false, Bool.not_not, vfieldAddr, D.notTuple, D.cells, mu138, hi_str (show m ≤ s.length by omega), lo_str (show m + 1 ≤ s.length by omega), Option.map_none, Option.map_some, *])
        | (refine onBH_caseN (fun hc => ?_) (fun hc => ?_))
        | (refine onBH_case (fun hc => ?_) (fun hc => ?_))
        | (refine gifH_caseNT (fun hc => ?_) (fun hc => ?_))
        | (refine gifH_caseNF (fun hc => ?_) (fun hc => ?_))
        | (refine gifH_caseT (fun hc => ?_) (fun hc => ?_))
        | (refine gifH_caseF (fun hc => ?_) (fun hc => ?_))
  refine VCall.of_fn (g := cfg90) mix Tryz.func90 ok90 rfl rfl ?_
  simp only [Tryz.f90, Option.getD_some]
  cases hc : cutB c s with
  | none =>
    have eD : cutD c s = .tuple [.str s, .str [], .bool false] := by simp only [cutD, hc]
    repeat' first
      | (simp only [go_sem, Nat.reduceEqDiff, ↓reduceIte, Nat.reduceAdd, Nat.zero_add, Nat.reduceBEq, List.getElem?_cons_zero, List.getElem?_cons_succ, List.contains_cons, List.contains_nil, vpart_false, vextract, bne, Bool.or_false, Bool.or_true, Bool.false_or, Bool.true_or, Bool.or_self, Bool.false_and, Bool.true_and, Bool.and_false, Bool.and_true, Bool.and_self, Bool.not_true, Bool.not_false, Bool.not_not, vfieldAddr, D.notTuple, D.cells, mu90, *])
      | (refine onBH_caseN (fun hc => ?_) (fun hc => ?_))
      | (refine onBH_case (fun hc => ?_) (fun hc => ?_))
      | (refine gifH_caseNT (fun hc => ?_) (fun hc => ?_))
      | (refine gifH_caseNF (fun hc => ?_) (fun hc => ?_))
      | (refine gifH_caseT (fun hc => ?_) (fun hc => ?_))
      | (refine gifH_caseF (fun hc => ?_) (fun hc => ?_))
      | (refine VCall.mono (hcut _) ?_; rintro r h ⟨rfl, rfl⟩)
  | some p =>
    obtain ⟨a, b⟩ := p
    have eD : cutD c s = .tuple [.str a, .str b, .bool true] := by simp only [cutD, hc]
    repeat' first
      | (simp only [go_sem, Nat.reduceEqDiff, ↓reduceIte, Nat.reduceAdd, Nat.zero_add, Nat.reduceBEq, List.getElem?_cons_zero, List.getElem?_cons_succ, List.contains_cons, List.contains_nil, vpart_false, vextract, bne, Bool.or_false, Bool.or_true, Bool.false_or, Bool.true_or, Bool.or_self, Bool.false_and, Bool.true_and, Bool.and_false, Bool.and_true, Bool.and_self, Bool.not_true, Bool.not_false, Bool.not_not, vfieldAddr, D.notTuple, D.cells, mu90, *])
      | (refine onBH_caseN (fun hc => ?_) (fun hc => ?_))
      | (refine onBH_case (fun hc => ?_) (fun hc => ?_))
      | (refine gifH_caseNT (fun hc => ?_) (fun hc => ?_))
      | (refine gifH_caseNF (fun hc => ?_) (fun hc => ?_))
      | (refine gifH_caseT (fun hc => ?_) (fun hc => ?_))
      | (refine gifH_caseF (fun hc => ?_) (fun hc => ?_))
      | (refine VCall.mono (hcut _) ?_; rintro r h ⟨rfl, rfl⟩)

/-- strings.Join. -/
theorem l_join {l : List (List UInt8)} {d : D} (hd : IsSl 1 (strs l) d) {sep : List UInt8} (hl : (Lib.join l sep).length ≤ 1073741824) (h : Heap) : VCall Tryz.prog 140 [d, .str sep] h fun r h' => h' = h ∧ r = .str (Lib.join l sep) :=
  (libJoin_ok (by kernel_rfl) (fun a c sep w => Tryz.strings_Join_none a c sep w) (fun bk o c xs sep w h1 h2 h3 h4 h5 => Tryz.strings_Join bk o c xs sep w h1 h2 h3 h4 h5) hd (by unfold lim; omega) h).mono fun a b hab => ⟨hab.2, hab.1⟩

/-- strconv.Itoa. -/
theorem l_itoa {n : Int} (h1 : 0 ≤ n) (h2 : n ≤ 1048576) (hl : (Lib.itoa n).length ≤ 1048576) (h : Heap) : VCall Tryz.prog 29 [.int .i64 n] h fun r h' => h' = h ∧ r = .str (Lib.itoa n) := by
  have hx : ∀ s, s = tabName → ∀ {w : World}, Lib.TabIs Tryz.prog w tabName .u64 Lib.pow10Tab → Lib.TabIs Tryz.prog w s .u64 Lib.pow10Tab := fun s hs w ht => by rw [hs]; exact ht
  exact (libItoa_ok (by kernel_rfl) (g := 0) (by kernel_rfl) (fun n h1 h2 w ht => Any.strconv_Itoa Tryz.laysM171 n h1 h2 w (hx _ (by kernel_rfl) ht)) (by omega) (by omega) (by unfold lim; omega) h).mono fun a b hab => ⟨hab.2, hab.1⟩

/-! The references. -/
/-- Whether a string begins with a word. -/
def begS (s w : List UInt8) : Bool := decide (w.length ≤ s.length) && (s.take w.length == w)
def begD (s w : List UInt8) : D := if begS s w then .tuple [.str (s.drop w.length), .bool true] else .tuple [.str [], .bool false]
theorem c_begins {s w : List UInt8} (hl : s.length ≤ 1048576) (h : Heap) : VCall Tryz.prog 54 [.str s, .str w] h fun r h' => h' = h ∧ r = begD s w := by
  refine VCall.of_fn (g := cfg54) mix Tryz.func54 ok54 rfl rfl ?_
  simp only [Tryz.f54, Option.getD_some]
  by_cases hw : w.length ≤ s.length
  · have e1 : decide ((s.length : Int) < w.length) = false := decide_eq_false (by omega)
    cases hb : (s.take w.length == w) with
    | true =>
      have eD : begD s w = .tuple [.str (s.drop w.length), .bool true] := by unfold begD begS; rw [if_pos (by rw [decide_eq_true hw, hb]; rfl)]
      repeat' first
        | (simp only [go_sem, Nat.reduceEqDiff, ↓reduceIte, Nat.reduceAdd, Nat.zero_add, Nat.reduceBEq, List.getElem?_cons_zero, List.getElem?_cons_succ, List.contains_cons, List.contains_nil, vpart_false, vextract, bne, Bool.or_false, Bool.or_true, Bool.false_or, Bool.true_or, Bool.or_self, Bool.false_and, Bool.true_and, Bool.and_false, Bool.and_true, Bool.and_self, Bool.not_true, Bool.not_false, Bool.not_not, vfieldAddr, D.notTuple, D.cells, mu54, hi_str hw, lo_str hw, Option.map_none, Option.map_some, *])
        | (refine onBH_caseN (fun hc => ?_) (fun hc => ?_))
        | (refine onBH_case (fun hc => ?_) (fun hc => ?_))
        | (refine gifH_caseNT (fun hc => ?_) (fun hc => ?_))
        | (refine gifH_caseNF (fun hc => ?_) (fun hc => ?_))
        | (refine gifH_caseT (fun hc => ?_) (fun hc => ?_))
        | (refine gifH_caseF (fun hc => ?_) (fun hc => ?_))
    | false =>
      have eD : begD s w = .tuple [.str [], .bool false] := by unfold begD begS; rw [if_neg (by rw [hb]; simp)]
      repeat' first
        | (simp only [go_sem, Nat.reduceEqDiff, ↓reduceIte, Nat.reduceAdd, Nat.zero_add, Nat.reduceBEq, List.getElem?_cons_zero, List.getElem?_cons_succ, List.contains_cons, List.contains_nil, vpart_false, vextract, bne, Bool.or_false, Bool.or_true, Bool.false_or, Bool.true_or, Bool.or_self, Bool.false_and, Bool.true_and, Bool.and_false, Bool.and_true, Bool.and_self, Bool.not_true, Bool.not_false, Bool.not_not, vfieldAddr, D.notTuple, D.cells, mu54, hi_str hw, lo_str hw, Option.map_none, Option.map_some, *])
        | (refine onBH_caseN (fun hc => ?_) (fun hc => ?_))
        | (refine onBH_case (fun hc => ?_) (fun hc => ?_))
        | (refine gifH_caseNT (fun hc => ?_) (fun hc => ?_))
        | (refine gifH_caseNF (fun hc => ?_) (fun hc => ?_))
        | (refine gifH_caseT (fun hc => ?_) (fun hc => ?_))
        | (refine gifH_caseF (fun hc => ?_) (fun hc => ?_))
  · have e1 : decide ((s.length : Int) < w.length) = true := decide_eq_true (by omega)
    have eD : begD s w = .tuple [.str [], .bool false] := by unfold begD begS; rw [if_neg (by rw [decide_eq_false hw]; simp)]
    repeat' first
      | (simp only [go_sem, Nat.reduceEqDiff, ↓reduceIte, Nat.reduceAdd, Nat.zero_add, Nat.reduceBEq, List.getElem?_cons_zero, List.getElem?_cons_succ, List.contains_cons, List.contains_nil, vpart_false, vextract, bne, Bool.or_false, Bool.or_true, Bool.false_or, Bool.true_or, Bool.or_self, Bool.false_and, Bool.true_and, Bool.and_false, Bool.and_true, Bool.and_self, Bool.not_true, Bool.not_false, Bool.not_not, vfieldAddr, D.notTuple, D.cells, mu54, *])
      | (refine onBH_caseN (fun hc => ?_) (fun hc => ?_))
      | (refine onBH_case (fun hc => ?_) (fun hc => ?_))
      | (refine gifH_caseNT (fun hc => ?_) (fun hc => ?_))
      | (refine gifH_caseNF (fun hc => ?_) (fun hc => ?_))
      | (refine gifH_caseT (fun hc => ?_) (fun hc => ?_))
      | (refine gifH_caseF (fun hc => ?_) (fun hc => ?_))

theorem conv_u8 (n : Int) : vconvert Tryz.prog 5 3 (.int .u8 n) = some (.int .i64 (IntKind.i64.wrap n)) := by
  simp only [vconvert, Tryz.underlying5, Tryz.underlying3]
theorem wrap_u8 {x : Int} (h1 : 0 ≤ x) (h2 : x < 256) : IntKind.u8.wrap x = x := by
  unfold IntKind.wrap
  simp [IntKind.signed, IntKind.bits]
  omega

theorem c_refNumber {s : List UInt8} (hl : s.length ≤ 1048576) (h : Heap) : VCall Tryz.prog 93 [.str s] h fun r h' => h' = h ∧ r = .int .i64 (numS s) := by
  refine VCall.of_fn (g := cfg93) mix Tryz.func93 ok93 rfl rfl ?_
  simp only [Tryz.f93, Option.getD_some]
  cases s with
  | nil =>
    have e1 : decide ((([] : List UInt8).length : Int) < 1) = true := rfl
    repeat' first
      | (simp only [go_sem, Nat.reduceEqDiff, ↓reduceIte, Nat.reduceAdd, Nat.zero_add, Nat.reduceBEq, List.getElem?_cons_zero, List.getElem?_cons_succ, List.contains_cons, List.contains_nil, vpart_false, vextract, bne, Bool.or_false, Bool.or_true, Bool.false_or, Bool.true_or, Bool.or_self, Bool.false_and, Bool.true_and, Bool.and_false, Bool.and_true, Bool.and_self, Bool.not_true, Bool.not_false, Bool.not_not, vfieldAddr, D.notTuple, D.cells, mu93, *])
      | (refine onBH_caseN (fun hc => ?_) (fun hc => ?_))
      | (refine onBH_case (fun hc => ?_) (fun hc => ?_))
      | (refine gifH_caseNT (fun hc => ?_) (fun hc => ?_))
      | (refine gifH_caseNF (fun hc => ?_) (fun hc => ?_))
      | (refine gifH_caseT (fun hc => ?_) (fun hc => ?_))
      | (refine gifH_caseF (fun hc => ?_) (fun hc => ?_))
    rfl
  | cons b r =>
    have e1 : decide (((b :: r).length : Int) < 1) = false := decide_eq_false (by simp only [List.length_cons]; omega)
    have hi : vindex Tryz.prog 9 (.str (b :: r)) (.int .i64 0) = some (.int .u8 b.toNat) := vindex_str (n := 0) Tryz.underlying9 rfl
    have hform : (decide (((b :: r).length : Int) > 3) || decide (((b :: r).length : Int) > 1) && (b.toNat : Int) == 48) = !numForm (b :: r) := by simp only [numForm, Bool.not_not]
    generalize hs : b :: r = s at *
    cases hf : numForm s with
    | false =>
      have hn : numS s = -1 := by unfold numS; rw [if_neg (by rw [hf]; exact Bool.false_ne_true)]
      rw [hf] at hform
      have hg : ∀ (P : Prop), (decide ((s.length : Int) > 3) = false) → (decide ((s.length : Int) > 1) = false ∨ ((b.toNat : Int) == 48) = false) → P := fun P h1 h2 => by
        rw [h1] at hform
        rcases h2 with h2 | h2 <;> rw [h2] at hform <;> simp at hform
      repeat' first
        | (simp only [go_sem, Nat.reduceEqDiff, ↓reduceIte, Nat.reduceAdd, Nat.zero_add, Nat.reduceBEq, List.getElem?_cons_zero, List.getElem?_cons_succ, List.contains_cons, List.contains_nil, vpart_false, vextract, bne, Bool.or_false, Bool.or_true, Bool.false_or, Bool.true_or, Bool.or_self, Bool.false_and, Bool.true_and, Bool.and_false, Bool.and_true, Bool.and_self, Bool.not_true, Bool.not_false, Bool.not_not, vfieldAddr, D.notTuple, D.cells, mu93, *])
        | (refine onBH_caseN (fun hc => ?_) (fun hc => ?_))
        | (refine onBH_case (fun hc => ?_) (fun hc => ?_))
        | (refine gifH_caseNT (fun hc => ?_) (fun hc => ?_))
        | (refine gifH_caseNF (fun hc => ?_) (fun hc => ?_))
        | (refine gifH_caseT (fun hc => ?_) (fun hc => ?_))
        | (refine gifH_caseF (fun hc => ?_) (fun hc => ?_))
      all_goals exact hg _ (by assumption) (by first | exact .inl (by assumption) | exact .inr (by assumption))
    | true =>
      rw [hf] at hform
      have hlen := numForm_len hf
      have hn : numS s = numV s := by unfold numS; rw [if_pos hf]
      repeat' first
        | (simp only [go_sem, Nat.reduceEqDiff, ↓reduceIte, Nat.reduceAdd, Nat.zero_add, Nat.reduceBEq, List.getElem?_cons_zero, List.getElem?_cons_succ, List.contains_cons, List.contains_nil, vpart_false, vextract, bne, Bool.or_false, Bool.or_true, Bool.false_or, Bool.true_or, Bool.or_self, Bool.false_and, Bool.true_and, Bool.and_false, Bool.and_true, Bool.and_self, Bool.not_true, Bool.not_false, Bool.not_not, vfieldAddr, D.notTuple, D.cells, mu93, *])
        | (refine onBH_caseN (fun hc => ?_) (fun hc => ?_))
        | (refine onBH_case (fun hc => ?_) (fun hc => ?_))
        | (refine gifH_caseNT (fun hc => ?_) (fun hc => ?_))
        | (refine gifH_caseNF (fun hc => ?_) (fun hc => ?_))
        | (refine gifH_caseT (fun hc => ?_) (fun hc => ?_))
        | (refine gifH_caseF (fun hc => ?_) (fun hc => ?_))
      all_goals first
        | (simp only [bne, Bool.or_false, Bool.or_true, Bool.false_or, Bool.true_or, Bool.or_self, Bool.false_and, Bool.true_and, Bool.and_false, Bool.and_true, Bool.and_self, Bool.not_true, Bool.not_false, Bool.not_not, Bool.true_eq_false, Bool.false_eq_true, *] at hform; done)
        | skip
      all_goals
        refine vwp_count (fun i fr h' => fr 0 = .str s ∧ fr 4 = .int .i64 (i : Int) ∧ h' = h ∧ ∃ a : Nat, fr 3 = .int .i64 (a : Int) ∧ a < 10 ^ i ∧ Lib.decFrom a (s.drop i) = Lib.decFrom 0 s) s.length (by omega) ?_ ?_ ?_
        · simp [go_sem]
          exact ⟨0, rfl, by simp, rfl⟩
        · rintro i fr h' hlt e2 ew ⟨f0, f4, rfl, a, f3, ha, hd⟩
          rw [List.drop_eq_getElem_cons hlt] at hd
          have hp : 10 ^ i ≤ 10 ^ 3 := Nat.pow_le_pow_right (by omega) (by omega)
          cases hb : digB s[i] with
          | false =>
            have hn2 : numV s = -1 := by unfold numV; rw [← hd]; simp only [Lib.decFrom, digB_no hb]
            have hx := hb
            unfold digB at hx
            clear hd
            repeat' first
              | (simp only [go_sem, Nat.reduceEqDiff, ↓reduceIte, Nat.reduceAdd, Nat.zero_add, Nat.reduceBEq, List.getElem?_cons_zero, List.getElem?_cons_succ, List.contains_cons, List.contains_nil, vpart_false, vextract, bne, Bool.or_false, Bool.or_true, Bool.false_or, Bool.true_or, Bool.or_self, Bool.false_and, Bool.true_and, Bool.and_false, Bool.and_true, Bool.and_self, Bool.not_true, Bool.not_false, Bool.not_not, vfieldAddr, D.notTuple, D.cells, mu93, at_str hlt, *])
              | (refine onBH_caseN (fun hc => ?_) (fun hc => ?_))
              | (refine onBH_case (fun hc => ?_) (fun hc => ?_))
              | (refine gifH_caseNT (fun hc => ?_) (fun hc => ?_))
              | (refine gifH_caseNF (fun hc => ?_) (fun hc => ?_))
              | (refine gifH_caseT (fun hc => ?_) (fun hc => ?_))
              | (refine gifH_caseF (fun hc => ?_) (fun hc => ?_))
            all_goals try (simp only [bne, Bool.or_false, Bool.or_true, Bool.false_or, Bool.true_or, Bool.or_self, Bool.false_and, Bool.true_and, Bool.and_false, Bool.and_true, Bool.and_self, Bool.not_true, Bool.not_false, Bool.not_not, Bool.true_eq_false, Bool.false_eq_true, *] at hx; done)
          | true =>
            obtain ⟨v1, v2, v3⟩ := digB_val hb
            have q1 : decide ((s[i].toNat : Int) < 48) = false := decide_eq_false (by omega)
            have q2 : decide ((s[i].toNat : Int) > 57) = false := decide_eq_false (by omega)
            have w1 : IntKind.u8.wrap ((s[i].toNat : Int) - 48) = ((s[i].toNat - 48 : Nat) : Int) := by rw [wrap_u8 (by omega) (by omega)]; omega
            have w2 : IntKind.i64.wrap ((s[i].toNat - 48 : Nat) : Int) = ((s[i].toNat - 48 : Nat) : Int) := wrap_i64 (by omega) (by omega)
            have w3 : IntKind.i64.wrap (10 * (a : Int)) = ((10 * a : Nat) : Int) := by rw [wrap_i64 (by omega) (by omega)]; omega
            have w4 : IntKind.i64.wrap (((10 * a : Nat) : Int) + ((s[i].toNat - 48 : Nat) : Int)) = ((a * 10 + (s[i].toNat - 48) : Nat) : Int) := by rw [wrap_i64 (by omega) (by omega)]; omega
            have hd2 : Lib.decFrom (a * 10 + (s[i].toNat - 48)) (s.drop (i + 1)) = Lib.decFrom 0 s := by rw [← hd]; simp only [Lib.decFrom, v1]
            clear hd hb v1
            repeat' first
              | (simp only [go_sem, Nat.reduceEqDiff, ↓reduceIte, Nat.reduceAdd, Nat.zero_add, Nat.reduceBEq, List.getElem?_cons_zero, List.getElem?_cons_succ, List.contains_cons, List.contains_nil, vpart_false, vextract, bne, Bool.or_false, Bool.or_true, Bool.false_or, Bool.true_or, Bool.or_self, Bool.false_and, Bool.true_and, Bool.and_false, Bool.and_true, Bool.and_self, Bool.not_true, Bool.not_false, Bool.not_not, vfieldAddr, D.notTuple, D.cells, mu93, at_str hlt, conv_u8, *])
              | (refine onBH_caseN (fun hc => ?_) (fun hc => ?_))
              | (refine onBH_case (fun hc => ?_) (fun hc => ?_))
              | (refine gifH_caseNT (fun hc => ?_) (fun hc => ?_))
              | (refine gifH_caseNF (fun hc => ?_) (fun hc => ?_))
              | (refine gifH_caseT (fun hc => ?_) (fun hc => ?_))
              | (refine gifH_caseF (fun hc => ?_) (fun hc => ?_))
            exact ⟨_, rfl, by rw [Nat.pow_succ]; omega, hd2⟩
        · rintro fr h' e2 ⟨f0, f4, rfl, a, f3, ha, hd⟩
          rw [List.drop_length] at hd
          have hn2 : numV s = (a : Int) := by unfold numV; rw [← hd]; rfl
          clear hd
          repeat' first
            | (simp only [go_sem, Nat.reduceEqDiff, ↓reduceIte, Nat.reduceAdd, Nat.zero_add, Nat.reduceBEq, List.getElem?_cons_zero, List.getElem?_cons_succ, List.contains_cons, List.contains_nil, vpart_false, vextract, bne, Bool.or_false, Bool.or_true, Bool.false_or, Bool.true_or, Bool.or_self, Bool.false_and, Bool.true_and, Bool.and_false, Bool.and_true, Bool.and_self, Bool.not_true, Bool.not_false, Bool.not_not, vfieldAddr, D.notTuple, D.cells, mu93, *])
            | (refine onBH_caseN (fun hc => ?_) (fun hc => ?_))
            | (refine onBH_case (fun hc => ?_) (fun hc => ?_))
            | (refine gifH_caseNT (fun hc => ?_) (fun hc => ?_))
            | (refine gifH_caseNF (fun hc => ?_) (fun hc => ?_))
            | (refine gifH_caseT (fun hc => ?_) (fun hc => ?_))
            | (refine gifH_caseF (fun hc => ?_) (fun hc => ?_))
end Go.V
namespace Go.V
open Go.Proofs
set_option maxRecDepth 100000
set_option linter.unusedSimpArgs false
set_option linter.unusedVariables false

def licW : List UInt8 := [108, 105, 99, 101, 110, 115, 101, 32]
/-- The name and the number of lines of a line that begins a license; the number is -1 if it begins none. -/
def licT (t : List UInt8) : List UInt8 × Int := match cutB 32 t with
  | some (a, b) => if a = [] then ([], -1) else (a, numS b)
  | none => ([], -1)
def licS (s : List UInt8) : List UInt8 × Int := if begS s licW then licT (s.drop 8) else ([], -1)

theorem c_refLicense {s : List UInt8} (hl : s.length ≤ 1048576) (h : Heap) : VCall Tryz.prog 53 [.str s] h fun r h' => h' = h ∧ r = .tuple [.str (licS s).1, .int .i64 (licS s).2] := by
  refine VCall.of_fn (g := cfg53) mix Tryz.func53 ok53 rfl rfl ?_
  simp only [Tryz.f53, Option.getD_some]
  have hbeg := c_begins (w := licW) hl
  unfold begD at hbeg
  have e8 : licW.length = 8 := rfl
  cases hb : begS s licW with
  | false =>
    have e1 : licS s = ([], -1) := by unfold licS; rw [if_neg (by rw [hb]; exact Bool.false_ne_true)]
    rw [if_neg (by rw [hb]; exact Bool.false_ne_true)] at hbeg
    repeat' first
      | (simp only [go_sem, Nat.reduceEqDiff, ↓reduceIte, Nat.reduceAdd, Nat.zero_add, Nat.reduceBEq, List.getElem?_cons_zero, List.getElem?_cons_succ, List.contains_cons, List.contains_nil, vpart_false, vextract, bne, Bool.or_false, Bool.or_true, Bool.false_or, Bool.true_or, Bool.or_self, Bool.false_and, Bool.true_and, Bool.and_false, Bool.and_true, Bool.and_self, Bool.not_true, Bool.not_false, Bool.not_not, vfieldAddr, D.notTuple, D.cells, mu53, *])
      | (refine onBH_caseN (fun hc => ?_) (fun hc => ?_))
      | (refine onBH_case (fun hc => ?_) (fun hc => ?_))
      | (refine gifH_caseNT (fun hc => ?_) (fun hc => ?_))
      | (refine gifH_caseNF (fun hc => ?_) (fun hc => ?_))
      | (refine gifH_caseT (fun hc => ?_) (fun hc => ?_))
      | (refine gifH_caseF (fun hc => ?_) (fun hc => ?_))
      | (refine VCall.mono (hbeg _) ?_; rintro r h ⟨rfl, rfl⟩)
  | true =>
    rw [if_pos hb, e8] at hbeg
    have e1 : licS s = licT (s.drop 8) := by unfold licS; rw [if_pos hb]
    have ht : (s.drop 8).length ≤ s.length := by simp
    clear hb e8
    generalize s.drop 8 = t at *
    repeat' first
      | (simp only [go_sem, Nat.reduceEqDiff, ↓reduceIte, Nat.reduceAdd, Nat.zero_add, Nat.reduceBEq, List.getElem?_cons_zero, List.getElem?_cons_succ, List.contains_cons, List.contains_nil, vpart_false, vextract, bne, Bool.or_false, Bool.or_true, Bool.false_or, Bool.true_or, Bool.or_self, Bool.false_and, Bool.true_and, Bool.and_false, Bool.and_true, Bool.and_self, Bool.not_true, Bool.not_false, Bool.not_not, vfieldAddr, D.notTuple, D.cells, mu53, *])
      | (refine onBH_caseN (fun hc => ?_) (fun hc => ?_))
      | (refine onBH_case (fun hc => ?_) (fun hc => ?_))
      | (refine gifH_caseNT (fun hc => ?_) (fun hc => ?_))
      | (refine gifH_caseNF (fun hc => ?_) (fun hc => ?_))
      | (refine gifH_caseT (fun hc => ?_) (fun hc => ?_))
      | (refine gifH_caseF (fun hc => ?_) (fun hc => ?_))
      | (refine VCall.mono (hbeg _) ?_; rintro r h ⟨rfl, rfl⟩)
    refine vwp_count (fun i fr h' => fr 4 = .str t ∧ fr 6 = .int .i64 (i : Int) ∧ h' = h ∧ ∀ j, j < i → t[j]? ≠ some 32) t.length (by omega) ?_ ?_ ?_
    · simp [go_sem]
    · rintro i fr h' hlt e2 ew ⟨f4, f6, rfl, hno⟩
      have h32 : ((t[i].toNat : Int) == 32) = (t[i] == 32) := u8_eq t[i] 32
      cases hc : (t[i] == 32) with
      | false =>
        repeat' first
          | (simp only [go_sem, Nat.reduceEqDiff, ↓reduceIte, Nat.reduceAdd, Nat.zero_add, Nat.reduceBEq, List.getElem?_cons_zero, List.getElem?_cons_succ, List.contains_cons, List.contains_nil, vpart_false, vextract, bne, Bool.or_false, Bool.or_true, Bool.false_or, Bool.true_or, Bool.or_self, Bool.false_and, Bool.true_and, Bool.and_false, Bool.and_true, Bool.and_self, Bool.not_true, Bool.not_false, Bool.not_not, vfieldAddr, D.notTuple, D.cells, mu53, at_str hlt, h32, *])
          | (refine onBH_caseN (fun hc => ?_) (fun hc => ?_))
          | (refine onBH_case (fun hc => ?_) (fun hc => ?_))
          | (refine gifH_caseNT (fun hc => ?_) (fun hc => ?_))
          | (refine gifH_caseNF (fun hc => ?_) (fun hc => ?_))
          | (refine gifH_caseT (fun hc => ?_) (fun hc => ?_))
          | (refine gifH_caseF (fun hc => ?_) (fun hc => ?_))
        intro j hj
        rcases Nat.lt_succ_iff_lt_or_eq.1 hj with hj | rfl
        · exact hno j hj
        · rw [List.getElem?_eq_getElem hlt]
          intro e
          rw [Option.some.inj e] at hc; simp at hc
      | true =>
        have hcut : cutB 32 t = some (t.take i, t.drop (i + 1)) := cutB_at (by rw [List.getElem?_eq_getElem hlt]; simpa using hc) hno
        cases h0 : ((i : Int) == 0) with
        | true =>
          have hi0 : i = 0 := by simpa using h0
          have e3 : licT t = ([], -1) := by unfold licT; rw [hcut]; simp [hi0]
          clear hi0
          repeat' first
            | (simp only [go_sem, Nat.reduceEqDiff, ↓reduceIte, Nat.reduceAdd, Nat.zero_add, Nat.reduceBEq, List.getElem?_cons_zero, List.getElem?_cons_succ, List.contains_cons, List.contains_nil, vpart_false, vextract, bne, Bool.or_false, Bool.or_true, Bool.false_or, Bool.true_or, Bool.or_self, Bool.false_and, Bool.true_and, Bool.and_false, Bool.and_true, Bool.and_self, Bool.not_true, Bool.not_false, Bool.not_not, vfieldAddr, D.notTuple, D.cells, mu53, at_str hlt, h32, *])
            | (refine onBH_caseN (fun hc => ?_) (fun hc => ?_))
            | (refine onBH_case (fun hc => ?_) (fun hc => ?_))
            | (refine gifH_caseNT (fun hc => ?_) (fun hc => ?_))
            | (refine gifH_caseNF (fun hc => ?_) (fun hc => ?_))
            | (refine gifH_caseT (fun hc => ?_) (fun hc => ?_))
            | (refine gifH_caseF (fun hc => ?_) (fun hc => ?_))
        | false =>
          have hi0 : i ≠ 0 := by simpa using h0
          have hne : t.take i ≠ [] := by
            intro e
            have := congrArg List.length e
            simp only [List.length_take, List.length_nil] at this
            omega
          have e3 : licT t = (t.take i, numS (t.drop (i + 1))) := by unfold licT; rw [hcut]; simp only []; rw [if_neg hne]
          clear hi0 hne
          repeat' first
            | (simp only [go_sem, Nat.reduceEqDiff, ↓reduceIte, Nat.reduceAdd, Nat.zero_add, Nat.reduceBEq, List.getElem?_cons_zero, List.getElem?_cons_succ, List.contains_cons, List.contains_nil, vpart_false, vextract, bne, Bool.or_false, Bool.or_true, Bool.false_or, Bool.true_or, Bool.or_self, Bool.false_and, Bool.true_and, Bool.and_false, Bool.and_true, Bool.and_self, Bool.not_true, Bool.not_false, Bool.not_not, vfieldAddr, D.notTuple, D.cells, mu53, at_str hlt, h32, *])
            | (refine onBH_caseN (fun hc => ?_) (fun hc => ?_))
            | (refine onBH_case (fun hc => ?_) (fun hc => ?_))
            | (refine gifH_caseNT (fun hc => ?_) (fun hc => ?_))
            | (refine gifH_caseNF (fun hc => ?_) (fun hc => ?_))
            | (refine gifH_caseT (fun hc => ?_) (fun hc => ?_))
            | (refine gifH_caseF (fun hc => ?_) (fun hc => ?_))
          refine vwp_text (by kernel_rfl) ?_
          repeat' first
            | (simp only [go_sem, Nat.reduceEqDiff, ↓reduceIte, Nat.reduceAdd, Nat.zero_add, Nat.reduceBEq, List.getElem?_cons_zero, List.getElem?_cons_succ, List.contains_cons, List.contains_nil, vpart_false, vextract, bne, Bool.or_false, Bool.or_true, Bool.false_or, Bool.true_or, Bool.or_self, Bool.false_and, Bool.true_and, Bool.and_false, Bool.and_true, Bool.and_self, Bool.not_true, Bool.not_false, Bool.not_not, vfieldAddr, D.notTuple, D.cells, mu53, hi_str (show i ≤ t.length by omega), lo_str (show i + 1 ≤ t.length by omega), Option.map_none, Option.map_some, *])
            | (refine onBH_caseN (fun hc => ?_) (fun hc => ?_))
            | (refine onBH_case (fun hc => ?_) (fun hc => ?_))
            | (refine gifH_caseNT (fun hc => ?_) (fun hc => ?_))
            | (refine gifH_caseNF (fun hc => ?_) (fun hc => ?_))
            | (refine gifH_caseT (fun hc => ?_) (fun hc => ?_))
            | (refine gifH_caseF (fun hc => ?_) (fun hc => ?_))
            | (refine VCall.mono (c_refNumber (s := t.drop (i + 1)) (by simp; omega) _) ?_; rintro r h ⟨rfl, rfl⟩)
    · rintro fr h' e2 ⟨f4, f6, rfl, hno⟩
      have hcut : cutB 32 t = none := cutB_none fun k hk => hno k (List.getElem?_eq_some_iff.1 hk).1 hk
      have e3 : licT t = ([], -1) := by unfold licT; rw [hcut]
      repeat' first
        | (simp only [go_sem, Nat.reduceEqDiff, ↓reduceIte, Nat.reduceAdd, Nat.zero_add, Nat.reduceBEq, List.getElem?_cons_zero, List.getElem?_cons_succ, List.contains_cons, List.contains_nil, vpart_false, vextract, bne, Bool.or_false, Bool.or_true, Bool.false_or, Bool.true_or, Bool.or_self, Bool.false_and, Bool.true_and, Bool.and_false, Bool.and_true, Bool.and_self, Bool.not_true, Bool.not_false, Bool.not_not, vfieldAddr, D.notTuple, D.cells, mu53, *])
        | (refine onBH_caseN (fun hc => ?_) (fun hc => ?_))
        | (refine onBH_case (fun hc => ?_) (fun hc => ?_))
        | (refine gifH_caseNT (fun hc => ?_) (fun hc => ?_))
        | (refine gifH_caseNF (fun hc => ?_) (fun hc => ?_))
        | (refine gifH_caseT (fun hc => ?_) (fun hc => ?_))
        | (refine gifH_caseF (fun hc => ?_) (fun hc => ?_))

/-! The reference's check of a notice. -/
theorem geq_le (a b : List UInt8) : (!lstr a b) = leS b a := by
  unfold leS
  rw [lstr_lt, lstr_lt]
  by_cases h1 : a < b
  · have h2 : ¬ b < a := fun h => str_lt_irrefl _ (str_lt_trans h1 h)
    have h3 : (b == a) = false := beq_eq_false_iff_ne.2 fun e => by subst e; exact str_lt_irrefl _ h1
    rw [decide_eq_true h1, decide_eq_false h2, h3]; rfl
  · rw [decide_eq_false h1]
    by_cases h3 : b = a
    · subst h3; simp
    · rw [decide_eq_true (str_lt_of_le (List.not_lt.1 h1) h3)]; rfl

/-- The first error is at i. -/
theorem incrS_at {e : Nat → Int} {l : List (List UInt8)} {i : Nat} (hi : i < l.length) (hj : ∀ j, j < i → incrAt e l j = 0) {v : Int} (hv : incrAt e l i = v) (h0 : v ≠ 0) : incrS e l = v := by
  unfold incrS
  rw [firstE_at hi hj (by rw [hv]; exact h0), hv]
theorem incrS_no {e : Nat → Int} {l : List (List UInt8)} (hj : ∀ j, j < l.length → incrAt e l j = 0) : incrS e l = 0 := firstE_zero.2 hj
theorem incrAt_e {e : Nat → Int} {l : List (List UInt8)} {i : Nat} {v : Int} (h : e i = v) (h0 : v ≠ 0) : incrAt e l i = v := by
  unfold incrAt; rw [if_pos (by rw [h]; exact h0), h]
theorem incrAt_le {e : Nat → Int} {l : List (List UInt8)} {i : Nat} (h : e i = 0) (hi : i < l.length) (h0 : 0 < i) (hle : leS l[i] (l[i - 1]'(by omega)) = true) : incrAt e l i = 5 := by
  unfold incrAt
  rw [if_neg (by simp [h]), if_pos ⟨h0, by rw [getD_at hi, getD_at (by omega)]; exact hle⟩]
theorem incrAt_ok {e : Nat → Int} {l : List (List UInt8)} {i : Nat} (h : e i = 0) (hi : i < l.length) (hle : ∀ h0 : 0 < i, leS l[i] (l[i - 1]'(by omega)) = false) : incrAt e l i = 0 := by
  unfold incrAt
  rw [if_neg (by simp [h]), if_neg fun q => by rw [getD_at hi, getD_at (by omega), hle q.1] at q; exact Bool.false_ne_true q.2]
theorem incrAt_next {e : Nat → Int} {l : List (List UInt8)} {i : Nat} (hj : ∀ j, j < i → incrAt e l j = 0) (h : incrAt e l i = 0) : ∀ j, j < i + 1 → incrAt e l j = 0 := fun j hji => by
  rcases Nat.lt_succ_iff_lt_or_eq.1 hji with hji | rfl
  · exact hj j hji
  · exact h
end Go.V
