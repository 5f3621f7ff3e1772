/- Contracts of header.Write, of the parts of a notice and of notice.Check. No condition. -/
import Derived.Test.YtnfmcjeamolljaaGreatDoorVp
import Derived.Test.YtnfmcjeamolljaaGreatDoorVxA
import Derived.Test.YtnfmcjeamolljaaGreatDoorVhE
set_option linter.unusedSimpArgs false
set_option linter.unusedVariables false
set_option linter.constructorNameAsVariable false
set_option linter.deprecated false
namespace Go.V
open Go.Proofs
set_option maxRecDepth 100000
set_option linter.unusedSimpArgs false
set_option linter.unusedVariables false

/-! Bytes that are searched. -/
def bytesL (s : List UInt8) : List (List D) := s.map fun b => [.int .u8 (b.toNat : Int)]
theorem bytesL_length (s : List UInt8) : (bytesL s).length = s.length := List.length_map ..
theorem bytesL_get {s : List UInt8} {i : Nat} (h : i < s.length) : (bytesL s)[i]? = some [.int .u8 (s[i].toNat : Int)] := by simp [bytesL, h]
theorem conv_bytes (s : List UInt8) : vconvert Tryz.prog 9 74 (.str s) = some (.sl 1 (bytesL s) .no) := by
  simp only [vconvert, Tryz.underlying9, Tryz.underlying74, Tryz.underlying5, bytesL]

/-- slices.IndexFunc at bytes. -/
theorem c_indexFuncB {l : List UInt8} {d : D} (hd : IsSl 1 (bytesL l) d) (hl : l.length ≤ 1048576) {g : FuncId} {fst cap : List D} {p : UInt8 → Bool} (hp : ∀ s ∈ l, ∀ h, VCall Tryz.prog g (fst ++ [.int .u8 (s.toNat : Int)] ++ cap) h fun r h' => h' = h ∧ r = .bool (p s)) (h : Heap) :
    VCall Tryz.prog 185 [d, .fn (.func g) fst cap] h fun r h' => h' = h ∧ r = .int .i64 (match l.findIdx? p with | some i => (i : Int) | none => -1) := by
  refine VCall.of_fn (g := cfg185) mix Tryz.func185 ok185 rfl rfl ?_
  simp only [Tryz.f185, Option.getD_some]
  have hll : ((bytesL l).length : Int) = l.length := by rw [bytesL_length]
  simp only [go_sem, Nat.reduceEqDiff, ↓reduceIte, vlen_sl hd Tryz.underlying74, hll]
  refine vwp_range (fun i fr h' => fr 0 = d ∧ fr 1 = .fn (.func g) fst cap ∧ fr 7 = .int .i64 l.length ∧ fr 8 = .int .i64 (i : Int) ∧ h' = h ∧ ∀ j (hj : j < l.length), j < i → p l[j] = false) l.length (by simp [go_sem]) ?_
  rintro i fr h' hi ⟨f0, f1, f7, f8, rfl, hj⟩
  simp only [go_sem, Nat.reduceEqDiff, ↓reduceIte, f0, f1, f7, f8]
  by_cases hlt : i < l.length
  · rw [decide_eq_true (by exact_mod_cast hlt)]
    simp only [go_sem, Nat.reduceEqDiff, ↓reduceIte, f0, f1, f7, f8, vindexAddr_sl hd elemT_74 szT_5 (bytesL_get hlt), vpart_false]
    refine (hp _ (List.getElem_mem hlt) _).mono ?_
    rintro r h2 ⟨rfl, rfl⟩
    cases he : p l[i] with
    | true =>
      simp only [go_sem, Nat.reduceEqDiff, ↓reduceIte]
      have : l.findIdx? p = some i := by
        rw [List.findIdx?_eq_some_iff_getElem]
        exact ⟨hlt, he, fun j hji => by rw [hj j (by omega) hji]; exact Bool.false_ne_true⟩
      rw [this]
    | false =>
      simp only [go_sem, Nat.reduceEqDiff, ↓reduceIte]
      refine ⟨hlt, by rw [wrap_succ (by unfold lim; omega)], fun j hjl hji => ?_⟩
      rcases Nat.lt_succ_iff_lt_or_eq.1 hji with hji | rfl
      · exact hj j hjl hji
      · exact he
  · have hie : i = l.length := by omega
    subst hie
    rw [decide_eq_false (by omega)]
    simp only [go_sem, Nat.reduceEqDiff, ↓reduceIte]
    have : l.findIdx? p = none := by
      rw [List.findIdx?_eq_none_iff]
      intro n hn
      obtain ⟨j, hjl, rfl⟩ := List.mem_iff_getElem.1 hn
      exact hj j hjl hjl
    rw [this]

/-- slices.ContainsFunc at bytes. -/
theorem c_containsFuncB {l : List UInt8} {d : D} (hd : IsSl 1 (bytesL l) d) (hl : l.length ≤ 1048576) {g : FuncId} {fst cap : List D} {p : UInt8 → Bool} (hp : ∀ s ∈ l, ∀ h, VCall Tryz.prog g (fst ++ [.int .u8 (s.toNat : Int)] ++ cap) h fun r h' => h' = h ∧ r = .bool (p s)) (h : Heap) :
    VCall Tryz.prog 131 [d, .fn (.func g) fst cap] h fun r h' => h' = h ∧ r = .bool (l.any p) := by
  refine VCall.of_fn (g := cfg131) mix Tryz.func131 ok131 rfl rfl ?_
  simp only [Tryz.f131, Option.getD_some]
  simp only [go_sem, Nat.reduceEqDiff, ↓reduceIte]
  refine (c_indexFuncB hd hl hp _).mono ?_
  rintro r h2 ⟨rfl, rfl⟩
  simp only [go_sem, Nat.reduceEqDiff, ↓reduceIte]
  exact congrArg D.bool (findIdx_ge (l := l) (p := p))

/-! The values of headers. -/
def textBad (b : UInt8) : Bool := decide ((b.toNat : Int) < 32) || decide ((b.toNat : Int) > 126)
theorem c_isText1 (b : UInt8) (h : Heap) : VCall Tryz.prog 132 [.int .u8 (b.toNat : Int)] h fun r h' => h' = h ∧ r = .bool (textBad b) := by
  refine VCall.of_fn (g := cfg132) mix Tryz.func132 ok132 rfl rfl ?_
  simp only [Tryz.f132, Option.getD_some]
  cases h1 : decide ((b.toNat : Int) < 32) with
  | true =>
    simp only [go_sem, Nat.reduceEqDiff, ↓reduceIte, h1]
    simp only [textBad, h1, Bool.true_or]
  | false =>
    simp only [go_sem, Nat.reduceEqDiff, ↓reduceIte, h1]
    simp only [textBad, h1, Bool.false_or]

/-- A value of a header. -/
def isTextS (s : List UInt8) : Bool := !(decide (s.length < 1) || decide (s.length > 200) || !(Lib.trimS s [32, 42, 47] == s)) && !s.any textBad

theorem c_isText {s : List UInt8} (hl : s.length ≤ 1048576) (h : Heap) : VCall Tryz.prog 83 [.str s] h fun r h' => h' = h ∧ r = .bool (isTextS s) := by
  refine VCall.of_fn (g := cfg83) mix Tryz.func83 ok83 rfl rfl ?_
  simp only [Tryz.f83, Option.getD_some]
  have e1 : decide ((s.length : Int) < 1) = decide (s.length < 1) := by
    by_cases e : s.length < 1
    · rw [decide_eq_true e, decide_eq_true (by omega)]
    · rw [decide_eq_false e, decide_eq_false (by omega)]
  have e2 : decide ((s.length : Int) > 200) = decide (s.length > 200) := by
    by_cases e : s.length > 200
    · rw [decide_eq_true e, decide_eq_true (by omega)]
    · rw [decide_eq_false e, decide_eq_false (by omega)]
  cases h1 : decide (s.length < 1) with
  | true =>
    simp only [go_sem, Nat.reduceEqDiff, ↓reduceIte, vlen_str Tryz.underlying9, e1, h1]
    simp only [isTextS, h1, Bool.true_or, Bool.not_true, Bool.false_and]
  | false =>
  cases h2 : decide (s.length > 200) with
  | true =>
    simp only [go_sem, Nat.reduceEqDiff, ↓reduceIte, vlen_str Tryz.underlying9, e1, h1, e2, h2]
    simp only [isTextS, h1, h2, Bool.true_or, Bool.or_true, Bool.not_true, Bool.false_and]
  | false =>
  simp only [go_sem, Nat.reduceEqDiff, ↓reduceIte, vlen_str Tryz.underlying9, e1, h1, e2, h2]
  refine (l_trim hl (c := [32, 42, 47]) rfl (by simp) h).mono ?_
  rintro r h' ⟨rfl, rfl⟩
  cases h3 : (Lib.trimS s [32, 42, 47] == s) with
  | false =>
    simp only [go_sem, Nat.reduceEqDiff, ↓reduceIte, h3]
    simp only [isTextS, h1, h2, h3, Bool.false_or, Bool.not_false, Bool.not_true, Bool.false_and]
  | true =>
    simp only [go_sem, Nat.reduceEqDiff, ↓reduceIte, h3, conv_bytes]
    refine (c_containsFuncB (IsSl.mk .no) hl (p := textBad) (fun b _ h => c_isText1 b h) h').mono ?_
    rintro r h2' ⟨rfl, rfl⟩
    simp only [vun, go_sem, Nat.reduceEqDiff, ↓reduceIte]
    simp only [isTextS, h1, h2, h3, Bool.false_or, Bool.not_false, Bool.not_true, Bool.true_and]

/-- header.words. -/
theorem c_words (h : Heap) : VCall Tryz.prog 82 [] h fun r h' => h' = h ∧ r = .sl 1 [[.str [76, 105, 99, 101, 110, 115, 101, 58]], [.str [67, 111, 112, 121, 114, 105, 103, 104, 116, 58]]] .no :=
  VCall.of_run (sett := fun _ => true) (ext := libF) (fuel := 20) (k := 10) mix tab_ok lib_ok (by kernel_rfl) (by kernel_rfl) (by kernel_rfl) h

/-- header.Write, of a copyright. -/
theorem c_write {s : List UInt8} (hl : s.length ≤ 1048576) (h : Heap) : VCall Tryz.prog 42 [.int .i64 1, .str s] h fun r h' => h' = h ∧ ∃ x, r = .tuple [.str x, .int .i64 (if isTextS s then 0 else 4)] := by
  refine VCall.of_fn (g := cfg42) mix Tryz.func42 ok42 rfl rfl ?_
  simp only [Tryz.f42, Option.getD_some]
  have g1 : decide ((1 : Int) < 0) = false := rfl
  have g2 : ∀ (xs : List (List D)), xs.length = 2 → decide ((1 : Int) ≥ (xs.length : Int)) = false := fun xs hx => by rw [hx]; rfl
  have gl : (([[.str [76, 105, 99, 101, 110, 115, 101, 58]], [.str [67, 111, 112, 121, 114, 105, 103, 104, 116, 58]]] : List (List D)).length : Int) = 2 := rfl
  have g3 : decide ((1 : Int) ≥ 2) = false := rfl
  simp only [go_sem, Nat.reduceEqDiff, ↓reduceIte, g1]
  refine (c_words h).mono ?_
  rintro r h ⟨rfl, rfl⟩
  simp only [go_sem, Nat.reduceEqDiff, ↓reduceIte, vlen_sl (IsSl.mk .no) Tryz.underlying22, gl, g3]
  refine (c_isText hl h).mono ?_
  rintro r h ⟨rfl, rfl⟩
  cases ht : isTextS s with
  | false =>
    simp only [vun, go_sem, Nat.reduceEqDiff, ↓reduceIte]
    exact ⟨_, rfl⟩
  | true =>
    simp only [vun, go_sem, Nat.reduceEqDiff, ↓reduceIte]
    refine (c_words h).mono ?_
    rintro r h ⟨rfl, rfl⟩
    have hix : vindexAddr Tryz.prog 22 (.sl 1 [[.str [76, 105, 99, 101, 110, 115, 101, 58]], [.str [67, 111, 112, 121, 114, 105, 103, 104, 116, 58]]] .no) (.int .i64 1) = some (.iptr [.str [67, 111, 112, 121, 114, 105, 103, 104, 116, 58]] 0) := vindexAddr_sl (i := 1) (IsSl.mk .no) elemT_22 szT_9 rfl
    have ha : ∀ a b : List UInt8, a.length ≤ 2000000 → b.length ≤ 2000000 → vstr .add a b = some (.str (a ++ b)) := fun a b h1 h2 => by
      simp only [vstr]; rw [if_pos (by unfold lim; omega)]
    have hsl : s.length ≤ 200 := by
      unfold isTextS at ht
      simp only [Bool.and_eq_true, Bool.not_eq_true', Bool.or_eq_false_iff, decide_eq_false_iff_not] at ht
      omega
    simp only [go_sem, Nat.reduceEqDiff, ↓reduceIte, hix, vpart_false, List.getElem?_cons_zero]
    rw [ha _ _ (by simp) (by simp)]
    simp only [go_sem]
    rw [ha _ _ (by simp) (by simp)]
    simp only [go_sem]
    rw [ha _ _ (by simp) (by omega)]
    simp only [go_sem, Nat.reduceEqDiff, ↓reduceIte]
    exact ⟨_, rfl⟩
end Go.V
namespace Go.V
open Go.Proofs
set_option maxRecDepth 100000
set_option linter.unusedSimpArgs false
set_option linter.unusedVariables false

/-! The parts of notices. -/
def nameSet : List UInt8 := [97, 98, 99, 100, 101, 102, 103, 104, 105, 106, 107, 108, 109, 110, 111, 112, 113, 114, 115, 116, 117, 118, 119, 120, 121, 122, 48, 49, 50, 51, 52, 53, 54, 55, 56, 57, 45, 46]
/-- A name of a license. -/
def isNameS (s : List UInt8) : Bool := match s with
  | [] => false
  | b :: r => !(decide ((b :: r).length > 32) || decide ((b.toNat : Int) < 97) || decide ((b.toNat : Int) > 122) || ((b :: r : List UInt8) == [97, 110, 100]) || ((b :: r : List UInt8) == [111, 114]) || ((b :: r : List UInt8) == [119, 105, 116, 104])) && (Lib.trimS (b :: r) nameSet == [])

theorem c_isName {s : List UInt8} (hl : s.length ≤ 1048576) (h : Heap) : VCall Tryz.prog 39 [.str s] h fun r h' => h' = h ∧ r = .bool (isNameS s) := by
  refine VCall.of_fn (g := cfg39) mix Tryz.func39 ok39 rfl rfl ?_
  simp only [Tryz.f39, Option.getD_some]
  cases s with
  | nil =>
    have e1 : decide ((([] : List UInt8).length : Int) < 1) = true := rfl
    simp only [go_sem, Nat.reduceEqDiff, ↓reduceIte, vlen_str Tryz.underlying9, e1, isNameS]
  | cons b r =>
    have e1 : decide (((b :: r).length : Int) < 1) = false := decide_eq_false (by simp only [List.length_cons]; omega)
    have e2 : decide (((b :: r).length : Int) > 32) = decide ((b :: r).length > 32) := by
      by_cases e : (b :: r).length > 32
      · rw [decide_eq_true e, decide_eq_true (by omega)]
      · rw [decide_eq_false e, decide_eq_false (by omega)]
    have hi : vindex Tryz.prog 9 (.str (b :: r)) (.int .i64 0) = some (.int .u8 b.toNat) := vindex_str (n := 0) Tryz.underlying9 rfl
    cases h2 : decide ((b :: r).length > 32) with
    | true =>
      simp only [go_sem, Nat.reduceEqDiff, ↓reduceIte, vlen_str Tryz.underlying9, e1, e2, h2]
      simp only [isNameS, h2, Bool.true_or, Bool.not_true, Bool.false_and]
    | false =>
    cases h3 : decide ((b.toNat : Int) < 97) with
    | true =>
      simp only [go_sem, Nat.reduceEqDiff, ↓reduceIte, vlen_str Tryz.underlying9, e1, e2, h2, hi, h3]
      simp only [isNameS, h2, h3, Bool.true_or, Bool.or_true, Bool.not_true, Bool.false_and]
    | false =>
    cases h4 : decide ((b.toNat : Int) > 122) with
    | true =>
      simp only [go_sem, Nat.reduceEqDiff, ↓reduceIte, vlen_str Tryz.underlying9, e1, e2, h2, hi, h3, h4]
      simp only [isNameS, h2, h3, h4, Bool.true_or, Bool.or_true, Bool.not_true, Bool.false_and]
    | false =>
    cases h5 : ((b :: r : List UInt8) == [97, 110, 100]) with
    | true =>
      simp only [go_sem, Nat.reduceEqDiff, ↓reduceIte, vlen_str Tryz.underlying9, e1, e2, h2, hi, h3, h4, h5]
      simp only [isNameS, h2, h3, h4, h5, Bool.true_or, Bool.or_true, Bool.not_true, Bool.false_and]
    | false =>
    cases h6 : ((b :: r : List UInt8) == [111, 114]) with
    | true =>
      simp only [go_sem, Nat.reduceEqDiff, ↓reduceIte, vlen_str Tryz.underlying9, e1, e2, h2, hi, h3, h4, h5, h6]
      simp only [isNameS, h2, h3, h4, h5, h6, Bool.true_or, Bool.or_true, Bool.not_true, Bool.false_and]
    | false =>
    cases h7 : ((b :: r : List UInt8) == [119, 105, 116, 104]) with
    | true =>
      simp only [go_sem, Nat.reduceEqDiff, ↓reduceIte, vlen_str Tryz.underlying9, e1, e2, h2, hi, h3, h4, h5, h6, h7]
      simp only [isNameS, h2, h3, h4, h5, h6, h7, Bool.true_or, Bool.or_true, Bool.not_true, Bool.false_and]
    | false =>
      simp only [go_sem, Nat.reduceEqDiff, ↓reduceIte, vlen_str Tryz.underlying9, e1, e2, h2, hi, h3, h4, h5, h6, h7]
      refine (l_trim hl (c := nameSet) (by decide) (by decide) h).mono ?_
      rintro r2 h' ⟨rfl, rfl⟩
      simp only [go_sem, Nat.reduceEqDiff, ↓reduceIte]
      simp only [isNameS, h2, h3, h4, h5, h6, h7, Bool.false_or, Bool.not_false, Bool.true_and]

/-- The lines of a text. -/
def linesS (s : List UInt8) : List (List UInt8) := if s = [] then [] else splitB 10 s
theorem c_lines {s : List UInt8} (hl : s.length ≤ 1048576) (h : Heap) : VCall Tryz.prog 27 [.str s] h fun r h' => h' = h ∧ Fin 1 (strs (linesS s)) r := by
  refine VCall.of_fn (g := cfg27) mix Tryz.func27 ok27 rfl rfl ?_
  simp only [Tryz.f27, Option.getD_some]
  cases h1 : (s == []) with
  | true =>
    simp only [go_sem, Nat.reduceEqDiff, ↓reduceIte, h1]
    have : s = [] := by simpa using h1
    subst this
    exact .inl ⟨rfl, rfl⟩
  | false =>
    simp only [go_sem, Nat.reduceEqDiff, ↓reduceIte, h1]
    refine (c_split hl 10 h).mono ?_
    rintro r h' ⟨rfl, rfl⟩
    simp only [go_sem, Nat.reduceEqDiff, ↓reduceIte]
    have : s ≠ [] := by simpa using h1
    rw [linesS, if_neg this]
    exact .inr rfl

/-- A byte that no text of a license has. -/
def textBad2 (b : UInt8) : Bool := ((b.toNat : Int) != 10) && (decide ((b.toNat : Int) < 32) || decide ((b.toNat : Int) > 126))
def checkTextS (s : List UInt8) : Int := if s.length > 4096 ∨ (linesS s).length > 999 then 10 else if s.any textBad2 then 4 else 0

theorem c_checkText {s : List UInt8} (hl : s.length ≤ 1048576) (h : Heap) : VCall Tryz.prog 40 [.str s] h fun r h' => h' = h ∧ r = .int .i64 (checkTextS s) := by
  refine VCall.of_fn (g := cfg40) mix Tryz.func40 ok40 rfl rfl ?_
  simp only [Tryz.f40, Option.getD_some]
  have e1 : decide ((s.length : Int) > 4096) = decide (s.length > 4096) := by
    by_cases e : s.length > 4096
    · rw [decide_eq_true e, decide_eq_true (by omega)]
    · rw [decide_eq_false e, decide_eq_false (by omega)]
  have e2 : decide (((strs (linesS s)).length : Int) > 999) = decide ((linesS s).length > 999) := by
    rw [strs_length]
    by_cases e : (linesS s).length > 999
    · rw [decide_eq_true e, decide_eq_true (by omega)]
    · rw [decide_eq_false e, decide_eq_false (by omega)]
  cases h1 : decide (s.length > 4096) with
  | true =>
    simp only [go_sem, Nat.reduceEqDiff, ↓reduceIte, vlen_str Tryz.underlying9, e1, h1]
    rw [checkTextS, if_pos (.inl (of_decide_eq_true h1))]
  | false =>
  have g1 := of_decide_eq_false h1
  simp only [go_sem, Nat.reduceEqDiff, ↓reduceIte, vlen_str Tryz.underlying9, e1, h1]
  refine (c_lines hl h).mono ?_
  rintro r h ⟨rfl, hr⟩
  cases h2 : decide ((linesS s).length > 999) with
  | true =>
    simp only [go_sem, Nat.reduceEqDiff, ↓reduceIte, vlen_sl hr.isSl Tryz.underlying22, e2, h2]
    rw [checkTextS, if_pos (.inr (of_decide_eq_true h2))]
  | false =>
  have g2 := of_decide_eq_false h2
  have hll : ((bytesL s).length : Int) = s.length := by rw [bytesL_length]
  simp only [go_sem, Nat.reduceEqDiff, ↓reduceIte, vlen_sl hr.isSl Tryz.underlying22, e2, h2, conv_bytes, vlen_sl (IsSl.mk .no) Tryz.underlying74, hll]
  refine vwp_range (fun i fr h' => fr 15 = .sl 1 (bytesL s) .no ∧ fr 16 = .int .i64 s.length ∧ fr 17 = .int .i64 (i : Int) ∧ h' = h ∧ ∀ j (hj : j < s.length), j < i → textBad2 s[j] = false) s.length (by simp [go_sem]) ?_
  rintro i fr h' hi ⟨f15, f16, f17, rfl, hj⟩
  simp only [go_sem, Nat.reduceEqDiff, ↓reduceIte, f15, f16, f17]
  by_cases hlt : i < s.length
  · rw [decide_eq_true (by exact_mod_cast hlt)]
    have bad : textBad2 s[i] = true → checkTextS s = 4 := fun hb => by
      rw [checkTextS, if_neg (fun e => e.elim g1 g2), if_pos (List.any_eq_true.2 ⟨_, List.getElem_mem hlt, hb⟩)]
    have good : textBad2 s[i] = false → ∀ j (hj : j < s.length), j < i + 1 → textBad2 s[j] = false := fun hb j hjl hji => by
      rcases Nat.lt_succ_iff_lt_or_eq.1 hji with hji | rfl
      · exact hj j hjl hji
      · exact hb
    cases h3 : ((s[i].toNat : Int) != 10) with
    | false =>
      simp only [go_sem, Nat.reduceEqDiff, ↓reduceIte, f15, f16, f17, vindexAddr_sl (IsSl.mk .no) elemT_74 szT_5 (bytesL_get hlt), vpart_false, List.getElem?_cons_zero, h3]
      exact ⟨hlt, by rw [wrap_succ (by unfold lim; omega)], good (by simp only [textBad2, h3, Bool.false_and])⟩
    | true =>
    cases h4 : decide ((s[i].toNat : Int) < 32) with
    | true =>
      simp only [go_sem, Nat.reduceEqDiff, ↓reduceIte, f15, f16, f17, vindexAddr_sl (IsSl.mk .no) elemT_74 szT_5 (bytesL_get hlt), vpart_false, List.getElem?_cons_zero, h3, h4]
      rw [bad (by simp only [textBad2, h3, h4, Bool.true_or, Bool.and_self])]
    | false =>
    cases h5 : decide ((s[i].toNat : Int) > 126) with
    | true =>
      simp only [go_sem, Nat.reduceEqDiff, ↓reduceIte, f15, f16, f17, vindexAddr_sl (IsSl.mk .no) elemT_74 szT_5 (bytesL_get hlt), vpart_false, List.getElem?_cons_zero, h3, h4, h5]
      rw [bad (by simp only [textBad2, h3, h4, h5, Bool.or_true, Bool.and_self])]
    | false =>
      simp only [go_sem, Nat.reduceEqDiff, ↓reduceIte, f15, f16, f17, vindexAddr_sl (IsSl.mk .no) elemT_74 szT_5 (bytesL_get hlt), vpart_false, List.getElem?_cons_zero, h3, h4, h5]
      exact ⟨hlt, by rw [wrap_succ (by unfold lim; omega)], good (by simp only [textBad2, h3, h4, h5, Bool.or_self, Bool.and_false])⟩
  · have hie : i = s.length := by omega
    subst hie
    rw [decide_eq_false (by omega)]
    simp only [go_sem, Nat.reduceEqDiff, ↓reduceIte]
    have : s.any textBad2 = false := by
      rw [List.any_eq_false]
      intro x hx
      obtain ⟨j, hjl, rfl⟩ := List.mem_iff_getElem.1 hx
      rw [hj j hjl hjl]; exact Bool.false_ne_true
    rw [checkTextS, if_neg (fun e => e.elim g1 g2), if_neg (by rw [this]; exact Bool.false_ne_true)]
end Go.V
namespace Go.V
open Go.Proofs
set_option maxRecDepth 100000
set_option linter.unusedSimpArgs false
set_option linter.unusedVariables false

/-! Lists that increase. -/
/-- String a is not behind string b. -/
def leS (a b : List UInt8) : Bool := lstr a b || a == b
/-- The error at one place. -/
def incrAt (e : Nat → Int) (l : List (List UInt8)) (i : Nat) : Int := if e i ≠ 0 then e i else if 0 < i ∧ leS (l.getD i []) (l.getD (i - 1) []) = true then 5 else 0
/-- The first error. -/
def firstE (e : Nat → Int) : Nat → Int
  | 0 => 0
  | n + 1 => if firstE e n ≠ 0 then firstE e n else e n
def incrS (e : Nat → Int) (l : List (List UInt8)) : Int := firstE (incrAt e l) l.length

theorem firstE_zero {e : Nat → Int} : ∀ {n : Nat}, firstE e n = 0 ↔ ∀ i, i < n → e i = 0
  | 0 => by simp [firstE]
  | n + 1 => by
    have ih := firstE_zero (e := e) (n := n)
    simp only [firstE]
    constructor
    · intro h
      have h0 : firstE e n = 0 := by
        by_cases q : firstE e n = 0
        · exact q
        · rw [if_pos q] at h; exact h
      rw [if_neg (by simp [h0])] at h
      intro i hi
      rcases Nat.lt_succ_iff_lt_or_eq.1 hi with hi | rfl
      · exact ih.1 h0 i hi
      · exact h
    · intro h
      have h0 := ih.2 fun i hi => h i (by omega)
      rw [if_neg (by simp [h0])]
      exact h n (by omega)
theorem firstE_at {e : Nat → Int} : ∀ {n i : Nat}, i < n → (∀ j, j < i → e j = 0) → e i ≠ 0 → firstE e n = e i
  | 0, i, h, _, _ => by omega
  | n + 1, i, h, hj, hi => by
    simp only [firstE]
    by_cases q : i < n
    · rw [firstE_at q hj hi, if_pos hi]
    · have : i = n := by omega
      subst this
      rw [if_neg (by rw [firstE_zero.2 hj]; simp)]

theorem vstr_leq (a b : List UInt8) : vstr .leq a b = some (.bool (leS a b)) := rfl

/-- notice.increasing at strings. -/
theorem c_increasing {l : List (List UInt8)} {d : D} (hd : IsSl 1 (strs l) d) (hl : l.length ≤ 1048576) {g : FuncId} {fst cap : List D} {e : Nat → Int} (he : ∀ i, i < l.length → ∀ h, VCall Tryz.prog g (fst ++ [.int .i64 (i : Int)] ++ cap) h fun r h' => h' = h ∧ r = .int .i64 (e i)) (h : Heap) :
    VCall Tryz.prog 37 [d, .fn (.func g) fst cap] h fun r h' => h' = h ∧ r = .int .i64 (incrS e l) := by
  refine VCall.of_fn (g := cfg37) mix Tryz.func37 ok37 rfl rfl ?_
  simp only [Tryz.f37, Option.getD_some]
  have hll : ((strs l).length : Int) = l.length := by rw [strs_length]
  simp only [go_sem, Nat.reduceEqDiff, ↓reduceIte, vlen_sl hd Tryz.underlying22, hll]
  refine vwp_range (fun i fr h' => fr 0 = d ∧ fr 1 = .fn (.func g) fst cap ∧ fr 8 = .int .i64 l.length ∧ fr 9 = .int .i64 (i : Int) ∧ h' = h ∧ ∀ j, j < i → incrAt e l j = 0) l.length (by simp [go_sem]) ?_
  rintro i fr h' hi ⟨f0, f1, f8, f9, rfl, hj⟩
  simp only [go_sem, Nat.reduceEqDiff, ↓reduceIte, f0, f1, f8, f9]
  by_cases hlt : i < l.length
  · rw [decide_eq_true (by exact_mod_cast hlt)]
    simp only [go_sem, Nat.reduceEqDiff, ↓reduceIte, f0, f1, f8, f9]
    refine (he i hlt h').mono ?_
    rintro r h2 ⟨rfl, rfl⟩
    have bad : incrAt e l i ≠ 0 → incrS e l = incrAt e l i := fun hb => firstE_at hlt hj hb
    cases h1 : (e i != 0) with
    | true =>
      have hne : e i ≠ 0 := by simpa using h1
      have hat : incrAt e l i = e i := by rw [incrAt, if_pos hne]
      simp only [go_sem, Nat.reduceEqDiff, ↓reduceIte, h1]
      rw [bad (by rw [hat]; exact hne), hat]
    | false =>
      have heq : e i = 0 := by simpa using h1
      simp only [go_sem, Nat.reduceEqDiff, ↓reduceIte, h1, f0, f1, f8, f9]
      by_cases h0 : 0 < i
      · have hd0 : decide ((i : Int) > 0) = true := decide_eq_true (by omega)
        have hw : IntKind.i64.wrap ((i : Int) - 1) = ((i - 1 : Nat) : Int) := by rw [wrap_i64 (by omega) (by omega)]; omega
        have hlt' : i - 1 < l.length := by omega
        have g1 : l.getD i [] = l[i] := by simp [hlt]
        have g2 : l.getD (i - 1) [] = l[i - 1] := by simp [hlt']
        cases hle : leS l[i] l[i - 1] with
        | true =>
          refine vwp_text (by kernel_rfl) ?_
          simp only [go_sem, Nat.reduceEqDiff, ↓reduceIte, f0, f1, f8, f9, hd0, hw, vindexAddr_sl hd elemT_22 szT_9 (strs_get hlt), vindexAddr_sl hd elemT_22 szT_9 (strs_get hlt'), vpart_false, List.getElem?_cons_zero, vstr_leq, hle]
          have hat : incrAt e l i = 5 := by rw [incrAt, if_neg (by simp [heq]), if_pos ⟨h0, by rw [g1, g2]; exact hle⟩]
          rw [bad (by rw [hat]; simp), hat]
        | false =>
          refine vwp_text (by kernel_rfl) ?_
          simp only [go_sem, Nat.reduceEqDiff, ↓reduceIte, f0, f1, f8, f9, hd0, hw, vindexAddr_sl hd elemT_22 szT_9 (strs_get hlt), vindexAddr_sl hd elemT_22 szT_9 (strs_get hlt'), vpart_false, List.getElem?_cons_zero, vstr_leq, hle]
          have hat : incrAt e l i = 0 := by rw [incrAt, if_neg (by simp [heq]), if_neg (fun q => by rw [g1, g2, hle] at q; exact Bool.false_ne_true q.2)]
          refine ⟨hlt, by rw [wrap_succ (by unfold lim; omega)], fun j hji => ?_⟩
          rcases Nat.lt_succ_iff_lt_or_eq.1 hji with hji | rfl
          · exact hj j hji
          · exact hat
      · have hd0 : decide ((i : Int) > 0) = false := decide_eq_false (by omega)
        refine vwp_text (by kernel_rfl) ?_
        simp only [go_sem, Nat.reduceEqDiff, ↓reduceIte, f0, f1, f8, f9, hd0]
        have hat : incrAt e l i = 0 := by rw [incrAt, if_neg (by simp [heq]), if_neg (fun q => h0 q.1)]
        refine ⟨hlt, by rw [wrap_succ (by unfold lim; omega)], fun j hji => ?_⟩
        rcases Nat.lt_succ_iff_lt_or_eq.1 hji with hji | rfl
        · exact hj j hji
        · exact hat
  · have hie : i = l.length := by omega
    subst hie
    rw [decide_eq_false (by omega)]
    simp only [go_sem, Nat.reduceEqDiff, ↓reduceIte]
    rw [incrS, firstE_zero.2 hj]
end Go.V
namespace Go.V
open Go.Proofs
set_option maxRecDepth 100000
set_option linter.unusedSimpArgs false
set_option linter.unusedVariables false

/-! notice.Check. -/
/-- A notice: names, texts, holders, changes. -/
structure Note where
  ls : List (List UInt8)
  ts : List (List UInt8)
  hs : List (List UInt8)
  cs : List (List UInt8)
/-- A list that is not too long. -/
def SmL (l : List (List UInt8)) : Prop := l.length ≤ 1048576 ∧ ∀ s ∈ l, s.length ≤ 1048576
structure Note.Sm (n : Note) : Prop where
  ls : SmL n.ls
  ts : SmL n.ts
  hs : SmL n.hs
  cs : SmL n.cs
/-- A value that holds a notice. -/
def IsNote (n : Note) (d : D) : Prop := ∃ a b c e, d = .agg [a, b, c, e] ∧ IsSl 1 (strs n.ls) a ∧ IsSl 1 (strs n.ts) b ∧ IsSl 1 (strs n.hs) c ∧ IsSl 1 (strs n.cs) e

/-- The error of a license. -/
def licAt (n : Note) (i : Nat) : Int := if isNameS (n.ls.getD i []) then checkTextS (n.ts.getD i []) else 2
def holdAt (n : Note) (i : Nat) : Int := if isTextS (n.hs.getD i []) then 0 else 4
def changeAt (n : Note) (i : Nat) : Int := pathS (n.cs.getD i [])
/-- The first error of a notice. -/
def checkS (n : Note) : Int :=
  if max (max (max n.ls.length n.ts.length) n.hs.length) n.cs.length > 1024 then 10
  else if n.ts.length ≠ n.ls.length then 9
  else if incrS (licAt n) n.ls ≠ 0 then incrS (licAt n) n.ls
  else if incrS (holdAt n) n.hs ≠ 0 then incrS (holdAt n) n.hs
  else incrS (changeAt n) n.cs

theorem getD_at {l : List (List UInt8)} {i : Nat} (h : i < l.length) : l.getD i [] = l[i] := by simp [h]

theorem c_check1 {n : Note} {a b c e : D} (ha : IsSl 1 (strs n.ls) a) (hb : IsSl 1 (strs n.ts) b) (hs : n.Sm) (hl : n.ts.length = n.ls.length) {i : Nat} (hi : i < n.ls.length) (h : Heap) :
    VCall Tryz.prog 38 [.int .i64 (i : Int), .iptr [a, b, c, e] 0] h fun r h' => h' = h ∧ r = .int .i64 (licAt n i) := by
  refine VCall.of_fn (g := cfg38) mix Tryz.func38 ok38 rfl rfl ?_
  simp only [Tryz.f38, Option.getD_some]
  have hi' : i < n.ts.length := by omega
  simp only [go_sem, Nat.reduceEqDiff, ↓reduceIte, vfieldAddr, Nat.reduceAdd, Nat.zero_add, vpart_false, List.getElem?_cons_zero, List.getElem?_cons_succ, vindexAddr_sl ha elemT_22 szT_9 (strs_get hi)]
  refine (c_isName (hs.ls.2 _ (List.getElem_mem hi)) h).mono ?_
  rintro r h ⟨rfl, rfl⟩
  cases h1 : isNameS n.ls[i] with
  | false =>
    simp only [vun, go_sem, Nat.reduceEqDiff, ↓reduceIte, Bool.not_false, Bool.not_true]
    rw [licAt, getD_at hi, h1]; rfl
  | true =>
    simp only [vun, go_sem, Nat.reduceEqDiff, ↓reduceIte, Bool.not_false, Bool.not_true, vfieldAddr, Nat.reduceAdd, Nat.zero_add, vpart_false, List.getElem?_cons_zero, List.getElem?_cons_succ, vindexAddr_sl hb elemT_22 szT_9 (strs_get hi')]
    refine (c_checkText (hs.ts.2 _ (List.getElem_mem hi')) h).mono ?_
    rintro r h ⟨rfl, rfl⟩
    simp only [go_sem, Nat.reduceEqDiff, ↓reduceIte]
    rw [licAt, getD_at hi, getD_at hi', h1]; rfl

theorem c_check2 {n : Note} {a b c e : D} (hc : IsSl 1 (strs n.hs) c) (hs : n.Sm) {i : Nat} (hi : i < n.hs.length) (h : Heap) :
    VCall Tryz.prog 41 [.int .i64 (i : Int), .iptr [a, b, c, e] 0] h fun r h' => h' = h ∧ r = .int .i64 (holdAt n i) := by
  refine VCall.of_fn (g := cfg41) mix Tryz.func41 ok41 rfl rfl ?_
  simp only [Tryz.f41, Option.getD_some]
  simp only [go_sem, Nat.reduceEqDiff, ↓reduceIte, vfieldAddr, Nat.reduceAdd, Nat.zero_add, vpart_false, List.getElem?_cons_zero, List.getElem?_cons_succ, vindexAddr_sl hc elemT_22 szT_9 (strs_get hi)]
  refine (c_write (hs.hs.2 _ (List.getElem_mem hi)) h).mono ?_
  rintro r h ⟨rfl, x, rfl⟩
  simp only [go_sem, Nat.reduceEqDiff, ↓reduceIte, vextract, List.getElem?_cons_zero, List.getElem?_cons_succ]
  rw [holdAt, getD_at hi]

theorem c_check3 {n : Note} {a b c e : D} (he : IsSl 1 (strs n.cs) e) (hs : n.Sm) {i : Nat} (hi : i < n.cs.length) (h : Heap) :
    VCall Tryz.prog 43 [.int .i64 (i : Int), .iptr [a, b, c, e] 0] h fun r h' => h' = h ∧ r = .int .i64 (changeAt n i) := by
  refine VCall.of_fn (g := cfg43) mix Tryz.func43 ok43 rfl rfl ?_
  simp only [Tryz.f43, Option.getD_some]
  simp only [go_sem, Nat.reduceEqDiff, ↓reduceIte, vfieldAddr, Nat.reduceAdd, Nat.zero_add, vpart_false, List.getElem?_cons_zero, List.getElem?_cons_succ, vindexAddr_sl he elemT_22 szT_9 (strs_get hi)]
  refine (c_treePath (hs.cs.2 _ (List.getElem_mem hi)) h).mono ?_
  rintro r h ⟨rfl, rfl⟩
  simp only [go_sem, Nat.reduceEqDiff, ↓reduceIte]
  rw [changeAt, getD_at hi]

theorem vmax_nat (a b : Nat) : vmax (.int .i64 (a : Int)) (.int .i64 (b : Int)) = some (.int .i64 ((max a b : Nat) : Int)) := by
  simp only [vmax, if_true]
  by_cases q : (b : Int) > a
  · rw [if_pos q, Nat.max_eq_right (by omega)]
  · rw [if_neg q, Nat.max_eq_left (by omega)]
theorem vmax_nat4 (a b c e : Nat) : vmaxs (.int .i64 (a : Int)) [.int .i64 (b : Int), .int .i64 (c : Int), .int .i64 (e : Int)] = some (.int .i64 ((max (max (max a b) c) e : Nat) : Int)) := by
  simp only [vmaxs, vmax_nat]

theorem c_check {n : Note} {d : D} (hd : IsNote n d) (hs : n.Sm) (h : Heap) :
    VCall Tryz.prog 13 [d] h fun r h' => h' = h ∧ r = .int .i64 (checkS n) := by
  obtain ⟨a, b, c, e, rfl, ha, hb, hc, he⟩ := hd
  refine VCall.of_fn (g := cfg13) mix Tryz.func13 ok13 rfl rfl ?_
  simp only [Tryz.f13, Option.getD_some]
  have l1 : ((strs n.ls).length : Int) = n.ls.length := by rw [strs_length]
  have l2 : ((strs n.ts).length : Int) = n.ts.length := by rw [strs_length]
  have l3 : ((strs n.hs).length : Int) = n.hs.length := by rw [strs_length]
  have l4 : ((strs n.cs).length : Int) = n.cs.length := by rw [strs_length]
  have e1 : decide (((max (max (max n.ls.length n.ts.length) n.hs.length) n.cs.length : Nat) : Int) > 1024) = decide (max (max (max n.ls.length n.ts.length) n.hs.length) n.cs.length > 1024) := by
    by_cases q : max (max (max n.ls.length n.ts.length) n.hs.length) n.cs.length > 1024
    · rw [decide_eq_true q, decide_eq_true (by omega)]
    · rw [decide_eq_false q, decide_eq_false (by omega)]
  cases h1 : decide (max (max (max n.ls.length n.ts.length) n.hs.length) n.cs.length > 1024) with
  | true =>
    simp only [go_sem, Nat.reduceEqDiff, ↓reduceIte, mu13, List.contains_nil, D.notTuple, D.cells, vfieldAddr, Nat.reduceAdd, Nat.zero_add, vpart_false, List.getElem?_cons_zero, List.getElem?_cons_succ, vlen_sl ha Tryz.underlying22, vlen_sl hb Tryz.underlying22, vlen_sl hc Tryz.underlying22, vlen_sl he Tryz.underlying22, l1, l2, l3, l4, vmax_nat4, e1, h1]
    rw [checkS, if_pos (of_decide_eq_true h1)]
  | false =>
  have g1 := of_decide_eq_false h1
  cases h2 : ((n.ts.length : Int) != n.ls.length) with
  | true =>
    simp only [go_sem, Nat.reduceEqDiff, ↓reduceIte, mu13, List.contains_nil, D.notTuple, D.cells, vfieldAddr, Nat.reduceAdd, Nat.zero_add, vpart_false, List.getElem?_cons_zero, List.getElem?_cons_succ, vlen_sl ha Tryz.underlying22, vlen_sl hb Tryz.underlying22, vlen_sl hc Tryz.underlying22, vlen_sl he Tryz.underlying22, l1, l2, l3, l4, vmax_nat4, e1, h1, h2]
    rw [checkS, if_neg g1, if_pos (by simp at h2; omega)]
  | false =>
  have g2 : n.ts.length = n.ls.length := by simp at h2; omega
  have hck : checkS n = if incrS (licAt n) n.ls ≠ 0 then incrS (licAt n) n.ls else if incrS (holdAt n) n.hs ≠ 0 then incrS (holdAt n) n.hs else incrS (changeAt n) n.cs := by
    rw [checkS, if_neg g1, if_neg (by simp [g2])]
  simp only [go_sem, Nat.reduceEqDiff, ↓reduceIte, mu13, List.contains_nil, D.notTuple, D.cells, vfieldAddr, Nat.reduceAdd, Nat.zero_add, vpart_false, List.getElem?_cons_zero, List.getElem?_cons_succ, vlen_sl ha Tryz.underlying22, vlen_sl hb Tryz.underlying22, vlen_sl hc Tryz.underlying22, vlen_sl he Tryz.underlying22, l1, l2, l3, l4, vmax_nat4, e1, h1, h2]
  refine (c_increasing ha hs.ls.1 (e := licAt n) (g := 38) (fst := []) (cap := [.iptr [a, b, c, e] 0]) (fun i hi h => c_check1 ha hb hs g2 hi h) h).mono ?_
  rintro r h ⟨rfl, rfl⟩
  cases h3 : (incrS (licAt n) n.ls != 0) with
  | true =>
    simp only [go_sem, Nat.reduceEqDiff, ↓reduceIte, mu13, List.contains_nil, D.notTuple, D.cells, vfieldAddr, Nat.reduceAdd, Nat.zero_add, vpart_false, List.getElem?_cons_zero, List.getElem?_cons_succ, vlen_sl ha Tryz.underlying22, vlen_sl hb Tryz.underlying22, vlen_sl hc Tryz.underlying22, vlen_sl he Tryz.underlying22, l1, l2, l3, l4, vmax_nat4, e1, h1, h2, h3]
    rw [hck, if_pos (by simpa using h3)]
  | false =>
  simp only [go_sem, Nat.reduceEqDiff, ↓reduceIte, mu13, List.contains_nil, D.notTuple, D.cells, vfieldAddr, Nat.reduceAdd, Nat.zero_add, vpart_false, List.getElem?_cons_zero, List.getElem?_cons_succ, vlen_sl ha Tryz.underlying22, vlen_sl hb Tryz.underlying22, vlen_sl hc Tryz.underlying22, vlen_sl he Tryz.underlying22, l1, l2, l3, l4, vmax_nat4, e1, h1, h2, h3]
  refine (c_increasing hc hs.hs.1 (e := holdAt n) (g := 41) (fst := []) (cap := [.iptr [a, b, c, e] 0]) (fun i hi h => c_check2 hc hs hi h) h).mono ?_
  rintro r h ⟨rfl, rfl⟩
  cases h4 : (incrS (holdAt n) n.hs != 0) with
  | true =>
    simp only [go_sem, Nat.reduceEqDiff, ↓reduceIte, mu13, List.contains_nil, D.notTuple, D.cells, vfieldAddr, Nat.reduceAdd, Nat.zero_add, vpart_false, List.getElem?_cons_zero, List.getElem?_cons_succ, vlen_sl ha Tryz.underlying22, vlen_sl hb Tryz.underlying22, vlen_sl hc Tryz.underlying22, vlen_sl he Tryz.underlying22, l1, l2, l3, l4, vmax_nat4, e1, h1, h2, h3, h4]
    rw [hck, if_neg (by simpa using h3), if_pos (by simpa using h4)]
  | false =>
  simp only [go_sem, Nat.reduceEqDiff, ↓reduceIte, mu13, List.contains_nil, D.notTuple, D.cells, vfieldAddr, Nat.reduceAdd, Nat.zero_add, vpart_false, List.getElem?_cons_zero, List.getElem?_cons_succ, vlen_sl ha Tryz.underlying22, vlen_sl hb Tryz.underlying22, vlen_sl hc Tryz.underlying22, vlen_sl he Tryz.underlying22, l1, l2, l3, l4, vmax_nat4, e1, h1, h2, h3, h4]
  refine (c_increasing he hs.cs.1 (e := changeAt n) (g := 43) (fst := []) (cap := [.iptr [a, b, c, e] 0]) (fun i hi h => c_check3 he hs hi h) h).mono ?_
  rintro r h ⟨rfl, rfl⟩
  simp only [go_sem, Nat.reduceEqDiff, ↓reduceIte, mu13, List.contains_nil, D.notTuple, D.cells, vfieldAddr, Nat.reduceAdd, Nat.zero_add, vpart_false, List.getElem?_cons_zero, List.getElem?_cons_succ, vlen_sl ha Tryz.underlying22, vlen_sl hb Tryz.underlying22, vlen_sl hc Tryz.underlying22, vlen_sl he Tryz.underlying22, l1, l2, l3, l4, vmax_nat4, e1, h1, h2, h3, h4]
  rw [hck, if_neg (by simpa using h3), if_neg (by simpa using h4)]
end Go.V
