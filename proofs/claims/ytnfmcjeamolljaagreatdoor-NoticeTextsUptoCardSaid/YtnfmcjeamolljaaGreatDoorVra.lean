/- Contracts of functions of the references on strings. No condition. -/
import Derived.Test.YtnfmcjeamolljaaGreatDoorVyT
import Derived.Test.YtnfmcjeamolljaaGreatDoorVxT
import Derived.Test.YtnfmcjeamolljaaGreatDoorVp
import Derived.Test.YtnfmcjeamolljaaGreatDoorVhF
set_option linter.unusedSimpArgs false
set_option linter.unusedVariables false
set_option linter.constructorNameAsVariable false
set_option linter.deprecated false
namespace Go.V
open Go.Proofs
set_option maxRecDepth 100000
set_option linter.unusedSimpArgs false
set_option linter.unusedVariables false

/-! Operations at this program's types of strings. -/
@[go_sem] theorem len_str (s : List UInt8) (h : Heap) : vlen Tryz.prog 9 (.str s) h = some (.int .i64 s.length) := vlen_str Tryz.underlying9
theorem at_str {s : List UInt8} {i : Nat} (hi : i < s.length) : vindex Tryz.prog 9 (.str s) (.int .i64 (i : Int)) = some (.int .u8 (s[i].toNat : Int)) := vindex_str Tryz.underlying9 (List.getElem?_eq_getElem hi)
theorem cut_str {s : List UInt8} {m n : Nat} (hm : m ≤ n) (hn : n ≤ s.length) (h : Heap) : vsliceA Tryz.prog 9 (.str s) (some (.int .i64 (m : Int))) (some (.int .i64 (n : Int))) none h = some (.str ((s.take n).drop m)) := vslice_str_mid arrT_9 Tryz.underlying9 hm hn
theorem lo_str {s : List UInt8} {n : Nat} (hn : n ≤ s.length) (h : Heap) : vsliceA Tryz.prog 9 (.str s) (some (.int .i64 (n : Int))) none none h = some (.str (s.drop n)) := vslice_str_lo arrT_9 Tryz.underlying9 hn
theorem hi_str {s : List UInt8} {n : Nat} (hn : n ≤ s.length) (h : Heap) : vsliceA Tryz.prog 9 (.str s) none (some (.int .i64 (n : Int))) none h = some (.str (s.take n)) := vslice_str_hi arrT_9 Tryz.underlying9 hn
theorem len_strs {l : List (List UInt8)} {d : D} (hd : IsSl 1 (strs l) d) (h : Heap) : vlen Tryz.prog 22 d h = some (.int .i64 l.length) := by rw [vlen_sl hd Tryz.underlying22, strs_length]
theorem at_strs {l : List (List UInt8)} {d : D} (hd : IsSl 1 (strs l) d) {i : Nat} (hi : i < l.length) : vindexAddr Tryz.prog 22 d (.int .i64 (i : Int)) = some (.iptr [.str l[i]] 0) := vindexAddr_sl hd elemT_22 szT_9 (strs_get hi)
theorem one_str (s : List UInt8) (nid : Nat) (h : Heap) : vbuildSlice Tryz.prog false nid 22 1 [(0, .str s)] h = some (.sl 1 [[.str s]] .full, h) := vbuildSlice_one elemT_22 zeroT_9 szT_9 rfl rfl (by omega) (by omega) rfl rfl
theorem strs_app (l m : List (List UInt8)) : strs (l ++ m) = strs l ++ strs m := by simp [strs]
theorem Own.str {h0 h : Heap} {l : List (List UInt8)} {d : D} {x : List UInt8} {K : D → Heap → Prop} {w : HidR K} (ho : Own h0 h 1 (strs l) d) (hl : l.length ≤ 16777216) (hK : ∀ d' h', Own h0 h' 1 (strs (l ++ [x])) d' → K d' h') : onRH (vappend Tryz.prog false h.next 22 d (.sl 1 [[.str x]] .full) h) K w :=
  ho.appH elemT_22 zokT_9 szT_9 (by omega) (by simp) (by simp) (by simp only [strs_length, bytesT_9, List.length_cons, List.length_nil]; unfold lim; omega) (by simp only [strs_length, List.length_cons, List.length_nil]; unfold lim; omega) fun d' h' o => hK d' h' (by rw [strs_app]; exact o)
end Go.V
namespace Go.V
open Go.Proofs
set_option maxRecDepth 100000
set_option linter.unusedSimpArgs false
set_option linter.unusedVariables false

/-! The references' functions on strings. -/
def idxS (l : List (List UInt8)) (s : List UInt8) : Int := match l.findIdx? (· == s) with | some i => (i : Int) | none => -1
theorem c_refIndex {l : List (List UInt8)} {d : D} (hd : IsSl 1 (strs l) d) (hl : l.length ≤ 1048576) (s : List UInt8) (h : Heap) :
    VCall Tryz.prog 35 [d, .str s] h fun r h' => h' = h ∧ r = .int .i64 (idxS l s) := by
  refine VCall.of_fn (g := cfg35) mix Tryz.func35 ok35 rfl rfl ?_
  simp only [Tryz.f35, Option.getD_some]
  repeat' first
    | (simp only [go_sem, Nat.reduceEqDiff, ↓reduceIte, Nat.reduceAdd, Nat.zero_add, Nat.reduceBEq, List.getElem?_cons_zero, List.getElem?_cons_succ, List.contains_cons, List.contains_nil, vpart_false, vextract, bne, Bool.or_false, Bool.or_true, Bool.false_or, Bool.true_or, Bool.or_self, Bool.false_and, Bool.true_and, Bool.and_false, Bool.and_true, Bool.and_self, Bool.not_true, Bool.not_false, Bool.not_not, vfieldAddr, D.notTuple, D.cells, mu35, *])
    | (refine onBH_caseN (fun hc => ?_) (fun hc => ?_))
    | (refine onBH_case (fun hc => ?_) (fun hc => ?_))
    | (refine gifH_caseNT (fun hc => ?_) (fun hc => ?_))
    | (refine gifH_caseNF (fun hc => ?_) (fun hc => ?_))
    | (refine gifH_caseT (fun hc => ?_) (fun hc => ?_))
    | (refine gifH_caseF (fun hc => ?_) (fun hc => ?_))
  refine vwp_count (fun i fr h' => fr 0 = d ∧ fr 1 = .str s ∧ fr 5 = .int .i64 (i : Int) ∧ h' = h ∧ ∀ j (hj : j < l.length), j < i → (l[j] == s) = false) l.length (by omega) ?_ ?_ ?_
  · simp [go_sem]
  · rintro i fr h' hlt e1 ew ⟨f0, f1, f5, rfl, hj⟩
    repeat' first
      | (simp only [go_sem, Nat.reduceEqDiff, ↓reduceIte, Nat.reduceAdd, Nat.zero_add, Nat.reduceBEq, List.getElem?_cons_zero, List.getElem?_cons_succ, List.contains_cons, List.contains_nil, vpart_false, vextract, bne, Bool.or_false, Bool.or_true, Bool.false_or, Bool.true_or, Bool.or_self, Bool.false_and, Bool.true_and, Bool.and_false, Bool.and_true, Bool.and_self, Bool.not_true, Bool.not_false, Bool.not_not, vfieldAddr, D.notTuple, D.cells, mu35, len_strs hd, at_strs hd hlt, *])
      | (refine onBH_caseN (fun hc => ?_) (fun hc => ?_))
      | (refine onBH_case (fun hc => ?_) (fun hc => ?_))
      | (refine gifH_caseNT (fun hc => ?_) (fun hc => ?_))
      | (refine gifH_caseNF (fun hc => ?_) (fun hc => ?_))
      | (refine gifH_caseT (fun hc => ?_) (fun hc => ?_))
      | (refine gifH_caseF (fun hc => ?_) (fun hc => ?_))
    · have : l.findIdx? (· == s) = some i := by
        rw [List.findIdx?_eq_some_iff_getElem]
        exact ⟨hlt, by assumption, fun j hji => by rw [hj j (by omega) hji]; exact Bool.false_ne_true⟩
      simp only [idxS, this]
    · exact fun j hjl hji => all_next (p := fun x => x == s) hlt hj (by assumption) j hjl hji
  · rintro fr h' e1 ⟨f0, f1, f5, rfl, hj⟩
    repeat' first
      | (simp only [go_sem, Nat.reduceEqDiff, ↓reduceIte, Nat.reduceAdd, Nat.zero_add, Nat.reduceBEq, List.getElem?_cons_zero, List.getElem?_cons_succ, List.contains_cons, List.contains_nil, vpart_false, vextract, bne, Bool.or_false, Bool.or_true, Bool.false_or, Bool.true_or, Bool.or_self, Bool.false_and, Bool.true_and, Bool.and_false, Bool.and_true, Bool.and_self, Bool.not_true, Bool.not_false, Bool.not_not, vfieldAddr, D.notTuple, D.cells, mu35, len_strs hd, *])
      | (refine onBH_caseN (fun hc => ?_) (fun hc => ?_))
      | (refine onBH_case (fun hc => ?_) (fun hc => ?_))
      | (refine gifH_caseNT (fun hc => ?_) (fun hc => ?_))
      | (refine gifH_caseNF (fun hc => ?_) (fun hc => ?_))
      | (refine gifH_caseT (fun hc => ?_) (fun hc => ?_))
      | (refine gifH_caseF (fun hc => ?_) (fun hc => ?_))
    have : l.findIdx? (· == s) = none := by
      rw [List.findIdx?_eq_none_iff]
      intro n hn
      obtain ⟨j, hjl, rfl⟩ := List.mem_iff_getElem.1 hn
      exact hj j hjl hjl
    simp only [idxS, this]

theorem split_step {c : UInt8} {s : List UInt8} {f i : Nat} (h1 : f ≤ i) (hi : i < s.length) (hc : s[i] = c) (hno : ∀ j, f ≤ j → j < i → s[j]? ≠ some c) : splitB c (s.drop f) = ((s.take i).drop f) :: splitB c (s.drop (i + 1)) := by
  rw [splitB_at (m := i - f) (by rw [List.getElem?_drop, show f + (i - f) = i by omega, List.getElem?_eq_getElem hi, hc]) fun k hk => by rw [List.getElem?_drop]; exact hno _ (by omega) (by omega)]
  rw [List.drop_drop, show f + (i - f + 1) = i + 1 by omega, List.drop_take]
theorem split_end {c : UInt8} {s : List UInt8} {f : Nat} (hno : ∀ j, f ≤ j → j < s.length → s[j]? ≠ some c) : splitB c (s.drop f) = [s.drop f] :=
  splitB_none fun hm => by
    obtain ⟨k, hk⟩ := List.mem_iff_getElem?.1 hm
    rw [List.getElem?_drop] at hk
    have := (List.getElem?_eq_some_iff.1 hk).1
    exact hno (f + k) (by omega) this hk

theorem c_lines36 {s : List UInt8} (hl : s.length ≤ 1048576) (h : Heap) :
    VCall Tryz.prog 52 [.str s] h fun r h' => h' = h ∧ Fin 1 (strs (splitB 10 s)) r := by
  refine VCall.pure (by kernel_rfl) fun hok => VCall.strip ?_
  refine VCall.of_fn (g := cfg52) mix Tryz.func52 ok52 rfl rfl ?_
  simp only [Tryz.f52, Option.getD_some]
  repeat' first
    | (simp only [go_sem, Nat.reduceEqDiff, ↓reduceIte, Nat.reduceAdd, Nat.zero_add, Nat.reduceBEq, List.getElem?_cons_zero, List.getElem?_cons_succ, List.contains_cons, List.contains_nil, vpart_false, vextract, bne, Bool.or_false, Bool.or_true, Bool.false_or, Bool.true_or, Bool.or_self, Bool.false_and, Bool.true_and, Bool.and_false, Bool.and_true, Bool.and_self, Bool.not_true, Bool.not_false, Bool.not_not, vfieldAddr, D.notTuple, D.cells, mu52, *])
    | (refine onBH_caseN (fun hc => ?_) (fun hc => ?_))
    | (refine onBH_case (fun hc => ?_) (fun hc => ?_))
    | (refine gifH_caseNT (fun hc => ?_) (fun hc => ?_))
    | (refine gifH_caseNF (fun hc => ?_) (fun hc => ?_))
    | (refine gifH_caseT (fun hc => ?_) (fun hc => ?_))
    | (refine gifH_caseF (fun hc => ?_) (fun hc => ?_))
  refine vwp_count (fun i fr h' => fr 0 = .str s ∧ fr 5 = .int .i64 (i : Int) ∧ ∃ (d : D) (ps : List (List UInt8)) (f : Nat), fr 3 = d ∧ fr 4 = .int .i64 (f : Int) ∧ f ≤ i ∧ ps.length ≤ i ∧ Own h h' 1 (strs ps) d ∧ ps ++ splitB 10 (s.drop f) = splitB 10 s ∧ ∀ j, f ≤ j → j < i → s[j]? ≠ some 10) s.length (by omega) ?_ ?_ ?_
  · simp only [go_sem, Nat.reduceEqDiff, ↓reduceIte, Nat.reduceAdd, Nat.zero_add, Nat.reduceBEq, List.getElem?_cons_zero, List.getElem?_cons_succ, List.contains_cons, List.contains_nil, vpart_false, vextract, bne, Bool.or_false, Bool.or_true, Bool.false_or, Bool.true_or, Bool.or_self, Bool.false_and, Bool.true_and, Bool.and_false, Bool.and_true, Bool.and_self, Bool.not_true, Bool.not_false, Bool.not_not, vfieldAddr, D.notTuple, D.cells, mu52, true_and, and_true, Int.ofNat_zero]
    exact ⟨.nilsl, [], 0, rfl, rfl, Nat.le_refl _, Nat.le_refl _, Own.start (Ext.refl h) 1, by simp, fun j h1 h2 => by omega⟩
  · rintro i fr h' hlt e1 ew ⟨f0, f5, d, ps, f, f3, f4, hf, hps, ho, hsp, hno⟩
    have h10 : ((s[i].toNat : Int) == 10) = (s[i] == 10) := u8_eq s[i] 10
    cases hc : (s[i] == 10) with
    | true =>
      repeat' first
        | (simp only [go_sem, Nat.reduceEqDiff, ↓reduceIte, Nat.reduceAdd, Nat.zero_add, Nat.reduceBEq, List.getElem?_cons_zero, List.getElem?_cons_succ, List.contains_cons, List.contains_nil, vpart_false, vextract, bne, Bool.or_false, Bool.or_true, Bool.false_or, Bool.true_or, Bool.or_self, Bool.false_and, Bool.true_and, Bool.and_false, Bool.and_true, Bool.and_self, Bool.not_true, Bool.not_false, Bool.not_not, vfieldAddr, D.notTuple, D.cells, mu52, at_str hlt, h10, cut_str hf (Nat.le_of_lt hlt), one_str, ew, *])
        | (refine onBH_caseN (fun hc => ?_) (fun hc => ?_))
        | (refine onBH_case (fun hc => ?_) (fun hc => ?_))
        | (refine gifH_caseNT (fun hc => ?_) (fun hc => ?_))
        | (refine gifH_caseNF (fun hc => ?_) (fun hc => ?_))
        | (refine gifH_caseT (fun hc => ?_) (fun hc => ?_))
        | (refine gifH_caseF (fun hc => ?_) (fun hc => ?_))
      refine ho.str (by omega) fun d' h' ho' => ?_
      repeat' first
        | (simp only [go_sem, Nat.reduceEqDiff, ↓reduceIte, Nat.reduceAdd, Nat.zero_add, Nat.reduceBEq, List.getElem?_cons_zero, List.getElem?_cons_succ, List.contains_cons, List.contains_nil, vpart_false, vextract, bne, Bool.or_false, Bool.or_true, Bool.false_or, Bool.true_or, Bool.or_self, Bool.false_and, Bool.true_and, Bool.and_false, Bool.and_true, Bool.and_self, Bool.not_true, Bool.not_false, Bool.not_not, vfieldAddr, D.notTuple, D.cells, mu52, ew, *])
        | (refine onBH_caseN (fun hc => ?_) (fun hc => ?_))
        | (refine onBH_case (fun hc => ?_) (fun hc => ?_))
        | (refine gifH_caseNT (fun hc => ?_) (fun hc => ?_))
        | (refine gifH_caseNF (fun hc => ?_) (fun hc => ?_))
        | (refine gifH_caseT (fun hc => ?_) (fun hc => ?_))
        | (refine gifH_caseF (fun hc => ?_) (fun hc => ?_))
      refine ⟨d', _, i + 1, rfl, rfl, Nat.le_refl _, by simp; omega, ho', ?_, fun j h1 h2 => by omega⟩
      rw [← hsp, split_step hf hlt (by simpa using hc) hno, List.append_assoc]; rfl
    | false =>
      repeat' first
        | (simp only [go_sem, Nat.reduceEqDiff, ↓reduceIte, Nat.reduceAdd, Nat.zero_add, Nat.reduceBEq, List.getElem?_cons_zero, List.getElem?_cons_succ, List.contains_cons, List.contains_nil, vpart_false, vextract, bne, Bool.or_false, Bool.or_true, Bool.false_or, Bool.true_or, Bool.or_self, Bool.false_and, Bool.true_and, Bool.and_false, Bool.and_true, Bool.and_self, Bool.not_true, Bool.not_false, Bool.not_not, vfieldAddr, D.notTuple, D.cells, mu52, at_str hlt, h10, ew, *])
        | (refine onBH_caseN (fun hc => ?_) (fun hc => ?_))
        | (refine onBH_case (fun hc => ?_) (fun hc => ?_))
        | (refine gifH_caseNT (fun hc => ?_) (fun hc => ?_))
        | (refine gifH_caseNF (fun hc => ?_) (fun hc => ?_))
        | (refine gifH_caseT (fun hc => ?_) (fun hc => ?_))
        | (refine gifH_caseF (fun hc => ?_) (fun hc => ?_))
      refine ⟨d, ps, f, rfl, rfl, by omega, by omega, ho, hsp, fun j h1 h2 => ?_⟩
      rcases Nat.lt_succ_iff_lt_or_eq.1 h2 with h2 | rfl
      · exact hno j h1 h2
      · rw [List.getElem?_eq_getElem hlt]
        intro e
        have := Option.some.inj e
        rw [this] at hc; simp at hc
  · rintro fr h' e1 ⟨f0, f5, d, ps, f, f3, f4, hf, hps, ho, hsp, hno⟩
    repeat' first
      | (simp only [go_sem, Nat.reduceEqDiff, ↓reduceIte, Nat.reduceAdd, Nat.zero_add, Nat.reduceBEq, List.getElem?_cons_zero, List.getElem?_cons_succ, List.contains_cons, List.contains_nil, vpart_false, vextract, bne, Bool.or_false, Bool.or_true, Bool.false_or, Bool.true_or, Bool.or_self, Bool.false_and, Bool.true_and, Bool.and_false, Bool.and_true, Bool.and_self, Bool.not_true, Bool.not_false, Bool.not_not, vfieldAddr, D.notTuple, D.cells, mu52, lo_str hf, one_str, *])
      | (refine onBH_caseN (fun hc => ?_) (fun hc => ?_))
      | (refine onBH_case (fun hc => ?_) (fun hc => ?_))
      | (refine gifH_caseNT (fun hc => ?_) (fun hc => ?_))
      | (refine gifH_caseNF (fun hc => ?_) (fun hc => ?_))
      | (refine gifH_caseT (fun hc => ?_) (fun hc => ?_))
      | (refine gifH_caseF (fun hc => ?_) (fun hc => ?_))
    refine ho.str (by omega) fun d' h' ho' => ?_
    repeat' first
      | (simp only [go_sem, Nat.reduceEqDiff, ↓reduceIte, Nat.reduceAdd, Nat.zero_add, Nat.reduceBEq, List.getElem?_cons_zero, List.getElem?_cons_succ, List.contains_cons, List.contains_nil, vpart_false, vextract, bne, Bool.or_false, Bool.or_true, Bool.false_or, Bool.true_or, Bool.or_self, Bool.false_and, Bool.true_and, Bool.and_false, Bool.and_true, Bool.and_self, Bool.not_true, Bool.not_false, Bool.not_not, vfieldAddr, D.notTuple, D.cells, mu52, *])
      | (refine onBH_caseN (fun hc => ?_) (fun hc => ?_))
      | (refine onBH_case (fun hc => ?_) (fun hc => ?_))
      | (refine gifH_caseNT (fun hc => ?_) (fun hc => ?_))
      | (refine gifH_caseNF (fun hc => ?_) (fun hc => ?_))
      | (refine gifH_caseT (fun hc => ?_) (fun hc => ?_))
      | (refine gifH_caseF (fun hc => ?_) (fun hc => ?_))
    rw [split_end hno] at hsp
    rw [← hsp]
    exact ho'.fin strs_plain

theorem c_split03 {s : List UInt8} (hl : s.length ≤ 1048576) (c : UInt8) (h : Heap) :
    VCall Tryz.prog 87 [.str s, .int .u8 (c.toNat : Int)] h fun r h' => h' = h ∧ Fin 1 (strs (splitB c s)) r := by
  refine VCall.pure (by kernel_rfl) fun hok => VCall.strip ?_
  refine VCall.of_fn (g := cfg87) mix Tryz.func87 ok87 rfl rfl ?_
  simp only [Tryz.f87, Option.getD_some]
  repeat' first
    | (simp only [go_sem, Nat.reduceEqDiff, ↓reduceIte, Nat.reduceAdd, Nat.zero_add, Nat.reduceBEq, List.getElem?_cons_zero, List.getElem?_cons_succ, List.contains_cons, List.contains_nil, vpart_false, vextract, bne, Bool.or_false, Bool.or_true, Bool.false_or, Bool.true_or, Bool.or_self, Bool.false_and, Bool.true_and, Bool.and_false, Bool.and_true, Bool.and_self, Bool.not_true, Bool.not_false, Bool.not_not, vfieldAddr, D.notTuple, D.cells, mu87, *])
    | (refine onBH_caseN (fun hc => ?_) (fun hc => ?_))
    | (refine onBH_case (fun hc => ?_) (fun hc => ?_))
    | (refine gifH_caseNT (fun hc => ?_) (fun hc => ?_))
    | (refine gifH_caseNF (fun hc => ?_) (fun hc => ?_))
    | (refine gifH_caseT (fun hc => ?_) (fun hc => ?_))
    | (refine gifH_caseF (fun hc => ?_) (fun hc => ?_))
  refine vwp_count (fun i fr h' => fr 0 = .str s ∧ fr 1 = .int .u8 (c.toNat : Int) ∧ fr 7 = .int .i64 (i : Int) ∧ ∃ (d : D) (ps : List (List UInt8)) (f : Nat), fr 5 = d ∧ fr 6 = .int .i64 (f : Int) ∧ f ≤ i ∧ ps.length ≤ i ∧ Own h h' 1 (strs ps) d ∧ ps ++ splitB c (s.drop f) = splitB c s ∧ ∀ j, f ≤ j → j < i → s[j]? ≠ some c) s.length (by omega) ?_ ?_ ?_
  · simp only [go_sem, Nat.reduceEqDiff, ↓reduceIte, Nat.reduceAdd, Nat.zero_add, Nat.reduceBEq, List.getElem?_cons_zero, List.getElem?_cons_succ, List.contains_cons, List.contains_nil, vpart_false, vextract, bne, Bool.or_false, Bool.or_true, Bool.false_or, Bool.true_or, Bool.or_self, Bool.false_and, Bool.true_and, Bool.and_false, Bool.and_true, Bool.and_self, Bool.not_true, Bool.not_false, Bool.not_not, vfieldAddr, D.notTuple, D.cells, mu87, true_and, and_true, Int.ofNat_zero]
    exact ⟨.nilsl, [], 0, rfl, rfl, Nat.le_refl _, Nat.le_refl _, Own.start (Ext.refl h) 1, by simp, fun j h1 h2 => by omega⟩
  · rintro i fr h' hlt e1 ew ⟨f0, f1, f7, d, ps, f, f5, f6, hf, hps, ho, hsp, hno⟩
    have h10 : ((s[i].toNat : Int) == (c.toNat : Int)) = (s[i] == c) := u8_eq s[i] c
    cases hc : (s[i] == c) with
    | true =>
      repeat' first
        | (simp only [go_sem, Nat.reduceEqDiff, ↓reduceIte, Nat.reduceAdd, Nat.zero_add, Nat.reduceBEq, List.getElem?_cons_zero, List.getElem?_cons_succ, List.contains_cons, List.contains_nil, vpart_false, vextract, bne, Bool.or_false, Bool.or_true, Bool.false_or, Bool.true_or, Bool.or_self, Bool.false_and, Bool.true_and, Bool.and_false, Bool.and_true, Bool.and_self, Bool.not_true, Bool.not_false, Bool.not_not, vfieldAddr, D.notTuple, D.cells, mu87, at_str hlt, h10, cut_str hf (Nat.le_of_lt hlt), one_str, ew, *])
        | (refine onBH_caseN (fun hc => ?_) (fun hc => ?_))
        | (refine onBH_case (fun hc => ?_) (fun hc => ?_))
        | (refine gifH_caseNT (fun hc => ?_) (fun hc => ?_))
        | (refine gifH_caseNF (fun hc => ?_) (fun hc => ?_))
        | (refine gifH_caseT (fun hc => ?_) (fun hc => ?_))
        | (refine gifH_caseF (fun hc => ?_) (fun hc => ?_))
      refine ho.str (by omega) fun d' h' ho' => ?_
      repeat' first
        | (simp only [go_sem, Nat.reduceEqDiff, ↓reduceIte, Nat.reduceAdd, Nat.zero_add, Nat.reduceBEq, List.getElem?_cons_zero, List.getElem?_cons_succ, List.contains_cons, List.contains_nil, vpart_false, vextract, bne, Bool.or_false, Bool.or_true, Bool.false_or, Bool.true_or, Bool.or_self, Bool.false_and, Bool.true_and, Bool.and_false, Bool.and_true, Bool.and_self, Bool.not_true, Bool.not_false, Bool.not_not, vfieldAddr, D.notTuple, D.cells, mu87, ew, *])
        | (refine onBH_caseN (fun hc => ?_) (fun hc => ?_))
        | (refine onBH_case (fun hc => ?_) (fun hc => ?_))
        | (refine gifH_caseNT (fun hc => ?_) (fun hc => ?_))
        | (refine gifH_caseNF (fun hc => ?_) (fun hc => ?_))
        | (refine gifH_caseT (fun hc => ?_) (fun hc => ?_))
        | (refine gifH_caseF (fun hc => ?_) (fun hc => ?_))
      refine ⟨d', _, i + 1, rfl, rfl, Nat.le_refl _, by simp; omega, ho', ?_, fun j h1 h2 => by omega⟩
      rw [← hsp, split_step hf hlt (by simpa using hc) hno, List.append_assoc]; rfl
    | false =>
      repeat' first
        | (simp only [go_sem, Nat.reduceEqDiff, ↓reduceIte, Nat.reduceAdd, Nat.zero_add, Nat.reduceBEq, List.getElem?_cons_zero, List.getElem?_cons_succ, List.contains_cons, List.contains_nil, vpart_false, vextract, bne, Bool.or_false, Bool.or_true, Bool.false_or, Bool.true_or, Bool.or_self, Bool.false_and, Bool.true_and, Bool.and_false, Bool.and_true, Bool.and_self, Bool.not_true, Bool.not_false, Bool.not_not, vfieldAddr, D.notTuple, D.cells, mu87, at_str hlt, h10, ew, *])
        | (refine onBH_caseN (fun hc => ?_) (fun hc => ?_))
        | (refine onBH_case (fun hc => ?_) (fun hc => ?_))
        | (refine gifH_caseNT (fun hc => ?_) (fun hc => ?_))
        | (refine gifH_caseNF (fun hc => ?_) (fun hc => ?_))
        | (refine gifH_caseT (fun hc => ?_) (fun hc => ?_))
        | (refine gifH_caseF (fun hc => ?_) (fun hc => ?_))
      refine ⟨d, ps, f, rfl, rfl, by omega, by omega, ho, hsp, fun j h1 h2 => ?_⟩
      rcases Nat.lt_succ_iff_lt_or_eq.1 h2 with h2 | rfl
      · exact hno j h1 h2
      · rw [List.getElem?_eq_getElem hlt]
        intro e
        have := Option.some.inj e
        rw [this] at hc; simp at hc
  · rintro fr h' e1 ⟨f0, f1, f7, d, ps, f, f5, f6, hf, hps, ho, hsp, hno⟩
    repeat' first
      | (simp only [go_sem, Nat.reduceEqDiff, ↓reduceIte, Nat.reduceAdd, Nat.zero_add, Nat.reduceBEq, List.getElem?_cons_zero, List.getElem?_cons_succ, List.contains_cons, List.contains_nil, vpart_false, vextract, bne, Bool.or_false, Bool.or_true, Bool.false_or, Bool.true_or, Bool.or_self, Bool.false_and, Bool.true_and, Bool.and_false, Bool.and_true, Bool.and_self, Bool.not_true, Bool.not_false, Bool.not_not, vfieldAddr, D.notTuple, D.cells, mu87, lo_str hf, one_str, *])
      | (refine onBH_caseN (fun hc => ?_) (fun hc => ?_))
      | (refine onBH_case (fun hc => ?_) (fun hc => ?_))
      | (refine gifH_caseNT (fun hc => ?_) (fun hc => ?_))
      | (refine gifH_caseNF (fun hc => ?_) (fun hc => ?_))
      | (refine gifH_caseT (fun hc => ?_) (fun hc => ?_))
      | (refine gifH_caseF (fun hc => ?_) (fun hc => ?_))
    refine ho.str (by omega) fun d' h' ho' => ?_
    repeat' first
      | (simp only [go_sem, Nat.reduceEqDiff, ↓reduceIte, Nat.reduceAdd, Nat.zero_add, Nat.reduceBEq, List.getElem?_cons_zero, List.getElem?_cons_succ, List.contains_cons, List.contains_nil, vpart_false, vextract, bne, Bool.or_false, Bool.or_true, Bool.false_or, Bool.true_or, Bool.or_self, Bool.false_and, Bool.true_and, Bool.and_false, Bool.and_true, Bool.and_self, Bool.not_true, Bool.not_false, Bool.not_not, vfieldAddr, D.notTuple, D.cells, mu87, *])
      | (refine onBH_caseN (fun hc => ?_) (fun hc => ?_))
      | (refine onBH_case (fun hc => ?_) (fun hc => ?_))
      | (refine gifH_caseNT (fun hc => ?_) (fun hc => ?_))
      | (refine gifH_caseNF (fun hc => ?_) (fun hc => ?_))
      | (refine gifH_caseT (fun hc => ?_) (fun hc => ?_))
      | (refine gifH_caseF (fun hc => ?_) (fun hc => ?_))
    rw [split_end hno] at hsp
    rw [← hsp]
    exact ho'.fin strs_plain
end Go.V
namespace Go.V

/-! Strings: trimmed, and their runes. Plain laws. -/
theorem dropWhile_nil {α : Type} {p : α → Bool} : ∀ {l : List α}, l.dropWhile p = [] ↔ ∀ x ∈ l, p x = true
  | [] => by simp
  | a :: l => by
    have ih := dropWhile_nil (p := p) (l := l)
    simp only [List.dropWhile]
    cases h : p a with
    | true => simp only [ih, List.mem_cons, forall_eq_or_imp, h, true_and]
    | false => simp [h]
theorem dropWhile_self {α : Type} {p : α → Bool} {l : List α} (h : ∀ x, l.head? = some x → p x = false) : l.dropWhile p = l := by
  cases l with
  | nil => rfl
  | cons a l => simp [List.dropWhile, h a rfl]
theorem dropWhile_head {α : Type} {p : α → Bool} {a : α} {l : List α} (h : (a :: l).dropWhile p = a :: l) : p a = false := by
  cases hp : p a with
  | false => rfl
  | true =>
    simp only [List.dropWhile, hp] at h
    have h1 : (l.dropWhile p).length ≤ l.length := by
      clear h hp
      induction l with
      | nil => simp
      | cons b l ih => simp only [List.dropWhile]; split <;> simp; omega
    rw [h] at h1
    simp only [List.length_cons] at h1
    omega
theorem dropWhile_le {α : Type} (p : α → Bool) : ∀ l : List α, (l.dropWhile p).length ≤ l.length
  | [] => Nat.le_refl _
  | a :: l => by
    have := dropWhile_le p l
    simp only [List.dropWhile]
    split <;> simp
    omega

/-- Nothing is left exactly if all is cut. -/
theorem trimS_nil (s c : List UInt8) : (Lib.trimS s c == []) = s.all (fun b => c.contains b) := by
  have key : Lib.trimS s c = [] ↔ ∀ x ∈ s, c.contains x = true := by
    unfold Lib.trimS Lib.trimLeftS Lib.trimRightS
    constructor
    · intro h
      rw [dropWhile_nil] at h
      cases hd : s.reverse.dropWhile (fun x => c.contains x) with
      | nil =>
        rw [dropWhile_nil] at hd
        exact fun x hx => hd x (List.mem_reverse.2 hx)
      | cons a l =>
        have h1 : c.contains a = true := h a (by rw [hd]; simp)
        have h2 : (s.reverse.dropWhile (fun x => c.contains x)).dropWhile (fun x => c.contains x) = s.reverse.dropWhile (fun x => c.contains x) := by
          generalize s.reverse = r at *
          clear hd h h1
          induction r with
          | nil => rfl
          | cons b r ih =>
            simp only [List.dropWhile]
            cases hb : c.contains b with
            | true => exact ih
            | false => simp only [List.dropWhile, hb]
        rw [hd] at h2
        have := dropWhile_head h2
        rw [h1] at this; cases this
    · intro h
      have : s.reverse.dropWhile (fun x => c.contains x) = [] := dropWhile_nil.2 fun x hx => h x (List.mem_reverse.1 hx)
      rw [this]; rfl
  by_cases e : Lib.trimS s c = []
  · rw [e, (List.all_eq_true.2 (key.1 e))]; rfl
  · rw [beq_eq_false_iff_ne.2 e]
    cases ha : s.all (fun b => c.contains b) with
    | false => rfl
    | true => exact absurd (key.2 (List.all_eq_true.1 ha)) e

/-- Nothing is cut exactly if neither end is. -/
theorem trimS_same {a : UInt8} {r c : List UInt8} : (Lib.trimS (a :: r) c == (a :: r)) = (!c.contains a && !c.contains ((a :: r).getLast (by simp))) := by
  have key : Lib.trimS (a :: r) c = a :: r ↔ c.contains a = false ∧ c.contains ((a :: r).getLast (by simp)) = false := by
    unfold Lib.trimS Lib.trimLeftS Lib.trimRightS
    have hrev : (a :: r).reverse.head? = some ((a :: r).getLast (by simp)) := by
      rw [List.head?_reverse, List.getLast?_eq_some_getLast (by simp)]
    constructor
    · intro h
      have h1 := dropWhile_le (fun x => c.contains x) ((a :: r).reverse.dropWhile (fun x => c.contains x)).reverse
      have h2 := dropWhile_le (fun x => c.contains x) (a :: r).reverse
      rw [h] at h1
      simp only [List.length_reverse] at h1 h2
      have h3 : (a :: r).reverse.dropWhile (fun x => c.contains x) = (a :: r).reverse := by
        have hs := List.dropWhile_sublist (l := (a :: r).reverse) (fun x => c.contains x)
        exact hs.eq_of_length (by simp only [List.length_reverse]; omega)
      rw [h3, List.reverse_reverse] at h
      refine ⟨dropWhile_head h, ?_⟩
      cases hr : (a :: r).reverse with
      | nil => simp at hr
      | cons b l =>
        rw [hr] at h3 hrev
        have := dropWhile_head h3
        simp only [List.head?_cons, Option.some.injEq] at hrev
        rw [← hrev]; exact this
    · rintro ⟨h1, h2⟩
      rw [dropWhile_self (l := (a :: r).reverse) fun x hx => by rw [hrev] at hx; cases hx; exact h2, List.reverse_reverse]
      exact dropWhile_self fun x hx => by cases hx; exact h1
  by_cases e : Lib.trimS (a :: r) c = a :: r
  · obtain ⟨h1, h2⟩ := key.1 e
    rw [e, h1, h2]; simp
  · rw [beq_eq_false_iff_ne.2 e]
    cases h1 : c.contains a with
    | true => rfl
    | false =>
      cases h2 : c.contains ((a :: r).getLast (by simp)) with
      | true => rfl
      | false => exact absurd (key.2 ⟨h1, h2⟩) e

theorem runeAt_low {s : List UInt8} {pos : Nat} (hp : pos < s.length) (h : s[pos].toNat < 128) : runeAt s pos = (s[pos].toNat, 1) := by
  unfold runeAt
  rw [Lib.decode_at]
  have : (ByteArray.mk s.toArray).get! pos = s[pos] := by
    show s.toArray[pos]! = _
    simp [hp]
  rw [this]
  simp [Lib.decodeN, h]
theorem decodeN_high (n b0 b1 b2 b3 : Nat) (h0 : 128 ≤ b0) : 128 ≤ (Lib.decodeN n b0 b1 b2 b3).1 := by
  unfold Lib.decodeN
  rw [if_neg (by omega)]
  repeat' split
  all_goals simp only []
  all_goals omega
theorem runeAt_high {s : List UInt8} {pos : Nat} (hp : pos < s.length) (h : ¬ s[pos].toNat < 128) : 128 ≤ (runeAt s pos).1 := by
  unfold runeAt
  rw [Lib.decode_at]
  have : (ByteArray.mk s.toArray).get! pos = s[pos] := by
    show s.toArray[pos]! = _
    simp [hp]
  rw [this]
  exact decodeN_high _ _ _ _ _ (by omega)

/-- A rune that is looked for, if all above ASCII count: a byte that is looked for. -/
theorem anyRune_bytes {p : Nat → Bool} (hp : ∀ n, 128 ≤ n → p n = true) {s : List UInt8} : ∀ {k pos : Nat}, s.length + 1 ≤ pos + k → anyRune p s k pos = (s.drop pos).any (fun b => p b.toNat)
  | 0, pos, h => by rw [anyRune_end (by omega), List.drop_of_length_le (by omega)]; rfl
  | k + 1, pos, h => by
    by_cases hlt : pos < s.length
    · rw [anyRune, if_pos hlt, List.drop_eq_getElem_cons hlt, List.any_cons]
      by_cases hb : s[pos].toNat < 128
      · rw [runeAt_low hlt hb, anyRune_bytes hp (by simp only []; omega)]
      · rw [hp _ (runeAt_high hlt hb), hp _ (by omega)]; rfl
    · rw [anyRune, if_neg hlt, List.drop_of_length_le (by omega)]; rfl
end Go.V
