/- The statement's function returns true, and notices as they are read. No condition. -/
import Derived.Test.YtnfmcjeamolljaaGreatDoorVnc
import Derived.Test.YtnfmcjeamolljaaGreatDoorVxA
import Derived.Test.YtnfmcjeamolljaaGreatDoorVhF
import Derived.Test.YtnfmcjeamolljaaGreatDoorVua
import Derived.Test.YtnfmcjeamolljaaGreatDoorVuc
import Derived.Test.YtnfmcjeamolljaaGreatDoorVhD
import Derived.Test.YtnfmcjeamolljaaGreatDoorVna
set_option linter.unusedSimpArgs false
set_option linter.unusedVariables false
set_option linter.constructorNameAsVariable false
set_option linter.deprecated false
namespace Go.V
open Go.Proofs
set_option maxRecDepth 100000
set_option linter.unusedSimpArgs false
set_option linter.unusedVariables false

/-! The law's own functions. -/
/-- licitref44.Short answers. -/
theorem c_short {l : List (List UInt8)} {d : D} (hd : IsSl 1 (strs l) d) (hs : SmL l) (h : Heap) :
    VCall Tryz.prog 26 [d] h fun r h' => h' = h ∧ ∃ b, r = .bool b := by
  have hll : ((strs l).length : Int) = l.length := by rw [strs_length]
  have hl := hs.1
  refine VCall.of_fn (g := cfg26) mix Tryz.func26 ok26 rfl rfl ?_
  simp only [Tryz.f26, Option.getD_some]
  have loop : ∀ {c : Prop}, c → c := fun hc => hc
  cases h1 : decide ((l.length : Int) > 30) with
  | true =>
    cases h2 : ((l.length : Int) != 1025) with
    | true =>
      simp only [go_sem, Nat.reduceEqDiff, ↓reduceIte, vlen_sl hd Tryz.underlying22, hll, h1, h2]
      exact ⟨false, rfl⟩
    | false =>
      simp only [go_sem, Nat.reduceEqDiff, ↓reduceIte, vlen_sl hd Tryz.underlying22, hll, h1, h2]
      refine vwp_range (fun i fr h' => fr 0 = d ∧ fr 4 = .int .i64 (i : Int) ∧ (∃ k : Nat, fr 3 = .int .i64 (k : Int) ∧ k ≤ i * 1048576) ∧ h' = h) l.length ⟨by simp [go_sem], by simp [go_sem], ⟨0, by simp [go_sem], by omega⟩, rfl⟩ ?_
      rintro i fr h' hi ⟨f0, f4, ⟨k, f3, hk⟩, rfl⟩
      simp only [go_sem, Nat.reduceEqDiff, ↓reduceIte, f0, f4, f3, vlen_sl hd Tryz.underlying22, hll]
      by_cases hlt : i < l.length
      · have hsl := hs.2 _ (List.getElem_mem hlt)
        have e1 : decide ((i : Int) < l.length) = true := decide_eq_true (by omega)
        have hi2 : i * 1048576 ≤ 1048576 * 1048576 := Nat.mul_le_mul_right _ (by omega)
        have hw : IntKind.i64.wrap ((k : Int) + (l[i].length : Nat)) = ((k + l[i].length : Nat) : Int) := by rw [wrap_i64 (by omega) (by omega)]; omega
        simp only [go_sem, Nat.reduceEqDiff, ↓reduceIte, f0, f4, f3, e1, vindexAddr_sl hd elemT_22 szT_9 (strs_get hlt), vpart_false, vlen_str Tryz.underlying9, hw, wrap_succ (show i < lim by unfold lim; omega)]
        exact ⟨hlt, by rw [wrap_succ (by unfold lim; omega)], _, rfl, by rw [Nat.succ_mul]; omega⟩
      · have e1 : decide ((i : Int) < l.length) = false := decide_eq_false (by omega)
        simp only [go_sem, Nat.reduceEqDiff, ↓reduceIte, f0, f4, f3, e1]
        exact ⟨_, rfl⟩
  | false =>
    simp only [go_sem, Nat.reduceEqDiff, ↓reduceIte, vlen_sl hd Tryz.underlying22, hll, h1]
    refine vwp_range (fun i fr h' => fr 0 = d ∧ fr 4 = .int .i64 (i : Int) ∧ (∃ k : Nat, fr 3 = .int .i64 (k : Int) ∧ k ≤ i * 1048576) ∧ h' = h) l.length ⟨by simp [go_sem], by simp [go_sem], ⟨0, by simp [go_sem], by omega⟩, rfl⟩ ?_
    rintro i fr h' hi ⟨f0, f4, ⟨k, f3, hk⟩, rfl⟩
    simp only [go_sem, Nat.reduceEqDiff, ↓reduceIte, f0, f4, f3, vlen_sl hd Tryz.underlying22, hll]
    by_cases hlt : i < l.length
    · have hsl := hs.2 _ (List.getElem_mem hlt)
      have e1 : decide ((i : Int) < l.length) = true := decide_eq_true (by omega)
      have hi2 : i * 1048576 ≤ 1048576 * 1048576 := Nat.mul_le_mul_right _ (by omega)
      have hw : IntKind.i64.wrap ((k : Int) + (l[i].length : Nat)) = ((k + l[i].length : Nat) : Int) := by rw [wrap_i64 (by omega) (by omega)]; omega
      simp only [go_sem, Nat.reduceEqDiff, ↓reduceIte, f0, f4, f3, e1, vindexAddr_sl hd elemT_22 szT_9 (strs_get hlt), vpart_false, vlen_str Tryz.underlying9, hw, wrap_succ (show i < lim by unfold lim; omega)]
      exact ⟨hlt, by rw [wrap_succ (by unfold lim; omega)], _, rfl, by rw [Nat.succ_mul]; omega⟩
    · have e1 : decide ((i : Int) < l.length) = false := decide_eq_false (by omega)
      simp only [go_sem, Nat.reduceEqDiff, ↓reduceIte, f0, f4, f3, e1]
      exact ⟨_, rfl⟩

/-- licitref44.Few answers. -/
theorem c_few {n : Note} {d : D} (hd : IsNote n d) (hs : n.Sm) (h : Heap) :
    VCall Tryz.prog 8 [d] h fun r h' => h' = h ∧ ∃ b, r = .bool b := by
  obtain ⟨a, b, c, e, rfl, ha, hb, hc, he⟩ := hd
  refine VCall.of_fn (g := cfg8) mix Tryz.func8 ok8 rfl rfl ?_
  simp only [Tryz.f8, Option.getD_some]
  simp only [go_sem, Nat.reduceEqDiff, ↓reduceIte, vfieldAddr, Nat.reduceAdd, Nat.zero_add, vpart_false, List.getElem?_cons_zero, List.getElem?_cons_succ]
  refine (c_short ha hs.ls h).mono ?_
  rintro r h ⟨rfl, b1, rfl⟩
  cases b1 with
  | false =>
    simp only [go_sem, Nat.reduceEqDiff, ↓reduceIte]
    exact ⟨_, rfl⟩
  | true =>
  simp only [go_sem, Nat.reduceEqDiff, ↓reduceIte, vfieldAddr, Nat.reduceAdd, Nat.zero_add, vpart_false, List.getElem?_cons_zero, List.getElem?_cons_succ]
  refine (c_short hb hs.ts h).mono ?_
  rintro r h ⟨rfl, b2, rfl⟩
  cases b2 with
  | false =>
    simp only [go_sem, Nat.reduceEqDiff, ↓reduceIte]
    exact ⟨_, rfl⟩
  | true =>
  simp only [go_sem, Nat.reduceEqDiff, ↓reduceIte, vfieldAddr, Nat.reduceAdd, Nat.zero_add, vpart_false, List.getElem?_cons_zero, List.getElem?_cons_succ]
  refine (c_short hc hs.hs h).mono ?_
  rintro r h ⟨rfl, b3, rfl⟩
  cases b3 with
  | false =>
    simp only [go_sem, Nat.reduceEqDiff, ↓reduceIte]
    exact ⟨_, rfl⟩
  | true =>
  simp only [go_sem, Nat.reduceEqDiff, ↓reduceIte, vfieldAddr, Nat.reduceAdd, Nat.zero_add, vpart_false, List.getElem?_cons_zero, List.getElem?_cons_succ]
  refine (c_short he hs.cs h).mono ?_
  rintro r h ⟨rfl, b4, rfl⟩
  simp only [go_sem, Nat.reduceEqDiff, ↓reduceIte]
  exact ⟨_, rfl⟩

/-- licitref31.SameTexts at the same texts. -/
theorem c_sameTexts {l : List (List UInt8)} {d e : D} (hd : IsSl 1 (strs l) d) (he : IsSl 1 (strs l) e) (hl : l.length ≤ 1048576) (h : Heap) :
    VCall Tryz.prog 49 [d, e] h fun r h' => h' = h ∧ r = .bool true := by
  have hll : ((strs l).length : Int) = l.length := by rw [strs_length]
  refine VCall.of_fn (g := cfg49) mix Tryz.func49 ok49 rfl rfl ?_
  simp only [Tryz.f49, Option.getD_some]
  have hne : ((l.length : Int) != l.length) = false := by simp
  simp only [go_sem, Nat.reduceEqDiff, ↓reduceIte, vlen_sl hd Tryz.underlying22, vlen_sl he Tryz.underlying22, hll, hne]
  refine vwp_range (fun i fr h' => fr 0 = d ∧ fr 1 = e ∧ fr 5 = .int .i64 (i : Int) ∧ h' = h) l.length (by simp [go_sem]) ?_
  rintro i fr h' hi ⟨f0, f1, f5, rfl⟩
  simp only [go_sem, Nat.reduceEqDiff, ↓reduceIte, f0, f1, f5, vlen_sl hd Tryz.underlying22, hll]
  by_cases hlt : i < l.length
  · have e1 : decide ((i : Int) < l.length) = true := decide_eq_true (by omega)
    have hsame : (l[i] == l[i]) = true := by simp
    simp only [go_sem, Nat.reduceEqDiff, ↓reduceIte, f0, f1, f5, e1]
    refine vwp_text (by kernel_rfl) ?_
    simp only [go_sem, Nat.reduceEqDiff, ↓reduceIte, f0, f1, f5, vindexAddr_sl hd elemT_22 szT_9 (strs_get hlt), vindexAddr_sl he elemT_22 szT_9 (strs_get hlt), vpart_false, hsame, Bool.not_true, wrap_succ (show i < lim by unfold lim; omega)]
    exact ⟨hlt, by rw [wrap_succ (by unfold lim; omega)]⟩
  · have e1 : decide ((i : Int) < l.length) = false := decide_eq_false (by omega)
    simp only [go_sem, Nat.reduceEqDiff, ↓reduceIte, f0, f1, f5, e1]

/-- licitref44.Same at the same notice. -/
theorem c_same {n : Note} {x y : D} (hx : IsNote n x) (hy : IsNote n y) (hs : n.Sm) (h : Heap) :
    VCall Tryz.prog 15 [x, y] h fun r h' => h' = h ∧ r = .bool true := by
  obtain ⟨a1, a2, a3, a4, rfl, ha1, ha2, ha3, ha4⟩ := hx
  obtain ⟨b1, b2, b3, b4, rfl, hb1, hb2, hb3, hb4⟩ := hy
  refine VCall.of_fn (g := cfg15) mix Tryz.func15 ok15 rfl rfl ?_
  simp only [Tryz.f15, Option.getD_some]
  simp only [go_sem, Nat.reduceEqDiff, ↓reduceIte, vfieldAddr, Nat.reduceAdd, Nat.zero_add, vpart_false, List.getElem?_cons_zero, List.getElem?_cons_succ]
  refine (c_sameTexts ha1 hb1 hs.ls.1 h).mono ?_
  rintro r h ⟨rfl, rfl⟩
  simp only [go_sem, Nat.reduceEqDiff, ↓reduceIte, vfieldAddr, Nat.reduceAdd, Nat.zero_add, vpart_false, List.getElem?_cons_zero, List.getElem?_cons_succ]
  refine (c_sameTexts ha2 hb2 hs.ts.1 h).mono ?_
  rintro r h ⟨rfl, rfl⟩
  simp only [go_sem, Nat.reduceEqDiff, ↓reduceIte, vfieldAddr, Nat.reduceAdd, Nat.zero_add, vpart_false, List.getElem?_cons_zero, List.getElem?_cons_succ]
  refine (c_sameTexts ha3 hb3 hs.hs.1 h).mono ?_
  rintro r h ⟨rfl, rfl⟩
  simp only [go_sem, Nat.reduceEqDiff, ↓reduceIte, vfieldAddr, Nat.reduceAdd, Nat.zero_add, vpart_false, List.getElem?_cons_zero, List.getElem?_cons_succ]
  refine (c_sameTexts ha4 hb4 hs.cs.1 h).mono ?_
  rintro r h ⟨rfl, rfl⟩
  simp only [go_sem, Nat.reduceEqDiff, ↓reduceIte]

theorem c_lacks {l : List (List UInt8)} {d : D} (hd : IsSl 1 (strs l) d) (hl : l.length ≤ 1048576) (s : List UInt8) (h : Heap) :
    VCall Tryz.prog 20 [.str s, .iptr [d] 0] h fun r h' => h' = h ∧ r = .bool (!l.any (· == s)) := by
  refine VCall.of_fn (g := cfg20) mix Tryz.func20 ok20 rfl rfl ?_
  simp only [Tryz.f20, Option.getD_some]
  simp only [go_sem, Nat.reduceEqDiff, ↓reduceIte, vpart_false, List.getElem?_cons_zero]
  refine (c_containsS hd hl s h).mono ?_
  rintro r h ⟨rfl, rfl⟩
  simp only [vun, go_sem, Nat.reduceEqDiff, ↓reduceIte]

/-- Each part is there. -/
theorem c_all {l part : List (List UInt8)} {d e : D} (hd : IsSl 1 (strs l) d) (he : IsSl 1 (strs part) e) (hl : l.length ≤ 1048576) (hp : part.length ≤ 1048576) (hsub : ∀ s ∈ part, s ∈ l) (h : Heap) :
    VCall Tryz.prog 18 [d, e] h fun r h' => h' = h ∧ r = .bool true := by
  have hnt := (flatSl hd).2.2
  have hcc := (flatSl hd).2.1
  refine VCall.of_fn (g := cfg18) mix Tryz.func18 ok18 rfl rfl ?_
  simp only [Tryz.f18, Option.getD_some]
  simp only [go_sem, Nat.reduceEqDiff, ↓reduceIte, mu18, hnt, hcc]
  refine (c_containsFuncS he hp (g := 20) (fst := []) (cap := [.iptr [d] 0]) (p := fun s => !l.any (· == s)) (fun s _ h => c_lacks hd hl s h) h).mono ?_
  rintro r h ⟨rfl, rfl⟩
  have hz : part.any (fun s => !l.any (· == s)) = false := by
    rw [List.any_eq_false]
    intro s hs
    have : l.any (· == s) = true := List.any_eq_true.2 ⟨s, hsub s hs, by simp⟩
    simp [this]
  simp only [vun, go_sem, Nat.reduceEqDiff, ↓reduceIte, hz, Bool.not_false]
end Go.V
namespace Go.V
open Go.Proofs
set_option maxRecDepth 100000
set_option linter.unusedSimpArgs false
set_option linter.unusedVariables false

theorem zero_sm2 : Note.zero.Sm := ⟨⟨by simp [Note.zero], by simp [Note.zero]⟩, ⟨by simp [Note.zero], by simp [Note.zero]⟩, ⟨by simp [Note.zero], by simp [Note.zero]⟩, ⟨by simp [Note.zero], by simp [Note.zero]⟩⟩
set_option maxHeartbeats 4000000 in
/-- The statement's function. -/
theorem c_NoticeTexts {a b : Note} {x y : D} (hx : IsNote a x) (hy : IsNote b y) (hsa : a.Sm) (hsb : b.Sm) (g : Heap) :
    VCall Tryz.prog 3 [x, y] g fun r _ => r = .bool true := by
  have hsm : (mergeS a b).1.Sm := by
    by_cases h : (mergeS a b).2 = 0
    · exact merge_sm hsa hsb h
    · rw [merge_err h]; exact zero_sm2
  have hf1 := c_format hx hsa
  have hf2 := c_refFormat hx hsa
  have hm1 := c_merge hx hy hsa hsb
  have hm2 := c_refMerge hx hy hsa hsb
  have hc1 := c_check hx hsa
  have hc2 := c_refCheck hx hsa
  have hw1 := c_few hx hsa
  have hw2 := c_few hy hsb
  obtain ⟨a1, a2, a3, a4, rfl, ha1, ha2, ha3, ha4⟩ := hx
  obtain ⟨b1, b2, b3, b4, rfl, hb1, hb2, hb3, hb4⟩ := hy
  have hvp : ∀ a b c e : D, vpart true 4 [a, b, c, e] 0 = some (.agg [a, b, c, e]) := fun a b c e => vpart_whole rfl (by omega)
  refine VCall.of_fn (g := cfg3) mix Tryz.func3 ok3 rfl rfl ?_
  simp only [Tryz.f3, Option.getD_some]
  repeat' first
    | (simp only [go_sem, Nat.reduceEqDiff, Int.reduceBEq, Int.reduceLT, Int.reduceLE, Int.reduceGT, Int.reduceGE, ↓reduceIte, Nat.reduceAdd, Nat.zero_add, Nat.reduceBEq, List.getElem?_cons_zero, List.getElem?_cons_succ, List.contains_cons, List.contains_nil, vpart_false, vextract, decide_true, decide_false, bne, Bool.or_false, Bool.or_true, Bool.false_or, Bool.true_or, Bool.or_self, Bool.false_and, Bool.true_and, Bool.and_false, Bool.and_true, Bool.and_self, Bool.not_true, Bool.not_false, Bool.not_not, vfieldAddr, D.notTuple, D.cells, mu3, *])
    | (refine onBH_caseN (fun hc => ?_) (fun hc => ?_))
    | (refine onBH_case (fun hc => ?_) (fun hc => ?_))
    | (refine gifH_caseNT (fun hc => ?_) (fun hc => ?_))
    | (refine gifH_caseNF (fun hc => ?_) (fun hc => ?_))
    | (refine gifH_caseT (fun hc => ?_) (fun hc => ?_))
    | (refine gifH_caseF (fun hc => ?_) (fun hc => ?_))
    | (refine VCall.mono (awake_licitlaw44 _) ?_; rintro r h ⟨rfl, rfl⟩)
  refine (hw1 _).mono ?_
  rintro r h ⟨rfl, w1, rfl⟩
  cases w1 with
  | false =>
    repeat' first
      | (simp only [go_sem, Nat.reduceEqDiff, Int.reduceBEq, Int.reduceLT, Int.reduceLE, Int.reduceGT, Int.reduceGE, ↓reduceIte, Nat.reduceAdd, Nat.zero_add, Nat.reduceBEq, List.getElem?_cons_zero, List.getElem?_cons_succ, List.contains_cons, List.contains_nil, vpart_false, vextract, decide_true, decide_false, bne, Bool.or_false, Bool.or_true, Bool.false_or, Bool.true_or, Bool.or_self, Bool.false_and, Bool.true_and, Bool.and_false, Bool.and_true, Bool.and_self, Bool.not_true, Bool.not_false, Bool.not_not, vfieldAddr, D.notTuple, D.cells, mu3, *])
      | (refine onBH_caseN (fun hc => ?_) (fun hc => ?_))
      | (refine onBH_case (fun hc => ?_) (fun hc => ?_))
      | (refine gifH_caseNT (fun hc => ?_) (fun hc => ?_))
      | (refine gifH_caseNF (fun hc => ?_) (fun hc => ?_))
      | (refine gifH_caseT (fun hc => ?_) (fun hc => ?_))
      | (refine gifH_caseF (fun hc => ?_) (fun hc => ?_))
  | true =>
  repeat' first
    | (simp only [go_sem, Nat.reduceEqDiff, Int.reduceBEq, Int.reduceLT, Int.reduceLE, Int.reduceGT, Int.reduceGE, ↓reduceIte, Nat.reduceAdd, Nat.zero_add, Nat.reduceBEq, List.getElem?_cons_zero, List.getElem?_cons_succ, List.contains_cons, List.contains_nil, vpart_false, vextract, decide_true, decide_false, bne, Bool.or_false, Bool.or_true, Bool.false_or, Bool.true_or, Bool.or_self, Bool.false_and, Bool.true_and, Bool.and_false, Bool.and_true, Bool.and_self, Bool.not_true, Bool.not_false, Bool.not_not, vfieldAddr, D.notTuple, D.cells, mu3, *])
    | (refine onBH_caseN (fun hc => ?_) (fun hc => ?_))
    | (refine onBH_case (fun hc => ?_) (fun hc => ?_))
    | (refine gifH_caseNT (fun hc => ?_) (fun hc => ?_))
    | (refine gifH_caseNF (fun hc => ?_) (fun hc => ?_))
    | (refine gifH_caseT (fun hc => ?_) (fun hc => ?_))
    | (refine gifH_caseF (fun hc => ?_) (fun hc => ?_))
  refine (hw2 _).mono ?_
  rintro r h ⟨rfl, w2, rfl⟩
  cases w2 with
  | false =>
    repeat' first
      | (simp only [go_sem, Nat.reduceEqDiff, Int.reduceBEq, Int.reduceLT, Int.reduceLE, Int.reduceGT, Int.reduceGE, ↓reduceIte, Nat.reduceAdd, Nat.zero_add, Nat.reduceBEq, List.getElem?_cons_zero, List.getElem?_cons_succ, List.contains_cons, List.contains_nil, vpart_false, vextract, decide_true, decide_false, bne, Bool.or_false, Bool.or_true, Bool.false_or, Bool.true_or, Bool.or_self, Bool.false_and, Bool.true_and, Bool.and_false, Bool.and_true, Bool.and_self, Bool.not_true, Bool.not_false, Bool.not_not, vfieldAddr, D.notTuple, D.cells, mu3, *])
      | (refine onBH_caseN (fun hc => ?_) (fun hc => ?_))
      | (refine onBH_case (fun hc => ?_) (fun hc => ?_))
      | (refine gifH_caseNT (fun hc => ?_) (fun hc => ?_))
      | (refine gifH_caseNF (fun hc => ?_) (fun hc => ?_))
      | (refine gifH_caseT (fun hc => ?_) (fun hc => ?_))
      | (refine gifH_caseF (fun hc => ?_) (fun hc => ?_))
  | true =>
  clear hw1 hw2
  repeat' first
    | (simp only [go_sem, Nat.reduceEqDiff, Int.reduceBEq, Int.reduceLT, Int.reduceLE, Int.reduceGT, Int.reduceGE, ↓reduceIte, Nat.reduceAdd, Nat.zero_add, Nat.reduceBEq, List.getElem?_cons_zero, List.getElem?_cons_succ, List.contains_cons, List.contains_nil, vpart_false, vextract, decide_true, decide_false, bne, Bool.or_false, Bool.or_true, Bool.false_or, Bool.true_or, Bool.or_self, Bool.false_and, Bool.true_and, Bool.and_false, Bool.and_true, Bool.and_self, Bool.not_true, Bool.not_false, Bool.not_not, vfieldAddr, D.notTuple, D.cells, mu3, *])
    | (refine onBH_caseN (fun hc => ?_) (fun hc => ?_))
    | (refine onBH_case (fun hc => ?_) (fun hc => ?_))
    | (refine gifH_caseNT (fun hc => ?_) (fun hc => ?_))
    | (refine gifH_caseNF (fun hc => ?_) (fun hc => ?_))
    | (refine gifH_caseT (fun hc => ?_) (fun hc => ?_))
    | (refine gifH_caseF (fun hc => ?_) (fun hc => ?_))
    | (refine VCall.mono (hf1 _) ?_; rintro r h ⟨rfl, rfl⟩)
    | (refine VCall.mono (hf2 _) ?_; rintro r h ⟨rfl, rfl⟩)
  refine (hm1 _).mono ?_
  rintro r h ⟨rfl, nd, rfl, n1, n2, n3, n4, rfl, hn1, hn2, hn3, hn4⟩
  have hnn : IsNote (mergeS a b).1 (.agg [n1, n2, n3, n4]) := ⟨n1, n2, n3, n4, rfl, hn1, hn2, hn3, hn4⟩
  have hst1 : vstore Tryz.prog 24 (.ptr h.next 0) (.agg [n1, n2, n3, n4]) (h.new h.next (.row nil4)) = some (h.new h.next (.row [n1, n2, n3, n4])) := vstore_new szT_24 (by omega) rfl rfl (flat4 (flatSl hn1).1 (flatSl hn2).1 (flatSl hn3).1 (flatSl hn4).1)
  clear hm1 hf1 hf2
  repeat' first
    | (simp only [go_sem, Nat.reduceEqDiff, Int.reduceBEq, Int.reduceLT, Int.reduceLE, Int.reduceGT, Int.reduceGE, ↓reduceIte, Nat.reduceAdd, Nat.zero_add, Nat.reduceBEq, List.getElem?_cons_zero, List.getElem?_cons_succ, List.contains_cons, List.contains_nil, vpart_false, vextract, decide_true, decide_false, bne, Bool.or_false, Bool.or_true, Bool.false_or, Bool.true_or, Bool.or_self, Bool.false_and, Bool.true_and, Bool.and_false, Bool.and_true, Bool.and_self, Bool.not_true, Bool.not_false, Bool.not_not, vfieldAddr, D.notTuple, D.cells, mu3, *])
    | (refine onBH_caseN (fun hc => ?_) (fun hc => ?_))
    | (refine onBH_case (fun hc => ?_) (fun hc => ?_))
    | (refine gifH_caseNT (fun hc => ?_) (fun hc => ?_))
    | (refine gifH_caseNF (fun hc => ?_) (fun hc => ?_))
    | (refine gifH_caseT (fun hc => ?_) (fun hc => ?_))
    | (refine gifH_caseF (fun hc => ?_) (fun hc => ?_))
  obtain ⟨H1, hH1, p1, q1⟩ : ∃ H1 : Heap, h.new h.next (.row [n1, n2, n3, n4]) = H1 ∧ H1.next = h.next + 1 ∧ H1.at' h.next = some (.row [n1, n2, n3, n4]) := ⟨_, rfl, next_new_eq _ _, new_at _ _ _⟩
  rw [hH1]
  clear hH1 hst1
  refine (hm2 _).mono ?_
  rintro r H1 ⟨rfl, md, rfl, m1, m2, m3, m4, rfl, hm1, hm2, hm3, hm4⟩
  have hmm : IsNote (mergeS a b).1 (.agg [m1, m2, m3, m4]) := ⟨m1, m2, m3, m4, rfl, hm1, hm2, hm3, hm4⟩
  have hst2 : vstore Tryz.prog 24 (.ptr (h.next + 1) 0) (.agg [m1, m2, m3, m4]) (H1.new (h.next + 1) (.row nil4)) = some (H1.new (h.next + 1) (.row [m1, m2, m3, m4])) := vstore_new szT_24 (by omega) rfl rfl (flat4 (flatSl hm1).1 (flatSl hm2).1 (flatSl hm3).1 (flatSl hm4).1)
  repeat' first
    | (simp only [go_sem, Nat.reduceEqDiff, Int.reduceBEq, Int.reduceLT, Int.reduceLE, Int.reduceGT, Int.reduceGE, ↓reduceIte, Nat.reduceAdd, Nat.zero_add, Nat.reduceBEq, List.getElem?_cons_zero, List.getElem?_cons_succ, List.contains_cons, List.contains_nil, vpart_false, vextract, decide_true, decide_false, bne, Bool.or_false, Bool.or_true, Bool.false_or, Bool.true_or, Bool.or_self, Bool.false_and, Bool.true_and, Bool.and_false, Bool.and_true, Bool.and_self, Bool.not_true, Bool.not_false, Bool.not_not, vfieldAddr, D.notTuple, D.cells, mu3, *])
    | (refine onBH_caseN (fun hc => ?_) (fun hc => ?_))
    | (refine onBH_case (fun hc => ?_) (fun hc => ?_))
    | (refine gifH_caseNT (fun hc => ?_) (fun hc => ?_))
    | (refine gifH_caseNF (fun hc => ?_) (fun hc => ?_))
    | (refine gifH_caseT (fun hc => ?_) (fun hc => ?_))
    | (refine gifH_caseF (fun hc => ?_) (fun hc => ?_))
  obtain ⟨H2, hH2, r1, r2⟩ : ∃ H2 : Heap, H1.new (h.next + 1) (.row [m1, m2, m3, m4]) = H2 ∧ H2.at' h.next = some (.row [n1, n2, n3, n4]) ∧ H2.at' (h.next + 1) = some (.row [m1, m2, m3, m4]) := ⟨_, rfl, by rw [new_keep (by omega)]; exact q1, new_at _ _ _⟩
  rw [hH2]
  have hsame := c_same hnn hmm hsm
  clear hH2 hst2 p1 q1 hm1 hm2 hm3 hm4 hn1 hn2 hn3 hn4 hnn hmm ha1 ha2 ha3 ha4 hb1 hb2 hb3 hb4 hsa hsb hsm
  have hle0 : ∀ h : Heap, HLe Heap.emp h := fun h i ob e => by cases e
  trace_state
  refine vwp_plan Heap.emp [(0, .no, true), (2, .st, true), (1, .no, true), (3, .no, true), (4, .no, true), (5, .no, true), (6, .no, true), (7, .no, true), (8, .no, true), (9, .no, true), (10, .no, true), (11, .no, true), (12, .no, true), (13, .no, true), (14, .no, true), (15, .no, true), (16, .no, true), (17, .no, true), (18, .no, true), (19, .no, true), (20, .no, true), (21, .no, true), (22, .no, true), (23, .no, true), (24, .no, true), (25, .no, true)] (by kernel_rfl) (by kernel_rfl) (fun i ob e => by cases e) ?_
  repeat' first
    | (simp only [go_sem, Nat.reduceEqDiff, Int.reduceBEq, Int.reduceLT, Int.reduceLE, Int.reduceGT, Int.reduceGE, ↓reduceIte, Nat.reduceAdd, Nat.zero_add, Nat.reduceBEq, List.getElem?_cons_zero, List.getElem?_cons_succ, List.contains_cons, List.contains_nil, vpart_false, vextract, decide_true, decide_false, bne, Bool.or_false, Bool.or_true, Bool.false_or, Bool.true_or, Bool.or_self, Bool.false_and, Bool.true_and, Bool.and_false, Bool.and_true, Bool.and_self, Bool.not_true, Bool.not_false, Bool.not_not, vfieldAddr, D.notTuple, D.cells, mu3, beq_self_eq_true, *])
    | (refine onBH_caseN (fun hc => ?_) (fun hc => ?_))
    | (refine onBH_case (fun hc => ?_) (fun hc => ?_))
    | (refine gifH_caseNT (fun hc => ?_) (fun hc => ?_))
    | (refine gifH_caseNF (fun hc => ?_) (fun hc => ?_))
    | (refine gifH_caseT (fun hc => ?_) (fun hc => ?_))
    | (refine gifH_caseF (fun hc => ?_) (fun hc => ?_))
    | (refine VCall.mono (hc1 _) ?_; rintro r h ⟨rfl, rfl⟩)
    | (refine VCall.mono (hc2 _) ?_; rintro r h ⟨rfl, rfl⟩)
    | (refine VCall.mono (hsame _) ?_; rintro r h ⟨rfl, rfl⟩)
end Go.V
namespace Go.V
open Go.Proofs

/-! Notices as they are read. -/
theorem strs_of : ∀ {ys : List (List D)}, (∀ y ∈ ys, ∃ s, y = [D.str s] ∧ s.length ≤ 1048576) → ∃ l, ys = strs l ∧ ∀ s ∈ l, s.length ≤ 1048576
  | [], _ => ⟨[], rfl, fun n hn => by cases hn⟩
  | y :: ys, h => by
    obtain ⟨n, rfl, hn⟩ := h y (by simp)
    obtain ⟨ks, rfl, hk⟩ := strs_of (ys := ys) fun z hz => h z (List.mem_cons_of_mem _ hz)
    exact ⟨n :: ks, rfl, fun m hm => by
      rcases List.mem_cons.1 hm with rfl | hm
      · exact hn
      · exact hk m hm⟩
theorem shp_strs {k : Nat} {c : List D} (h : Shp Tryz.prog k 22 c) : ∃ d l, c = [d] ∧ IsSl 1 (strs l) d ∧ SmL l := by
  obtain ⟨d, xs, j, e, hj, hs, _, hl, hx⟩ := shp_sl Tryz.underlying22 szT_9 h
  obtain ⟨l, rfl, hk⟩ := strs_of fun y hy => shp_str Tryz.underlying9 (hx y hy)
  rw [strs_length] at hl
  exact ⟨d, l, e, hs, hl, hk⟩
theorem shp_note {k : Nat} {c : List D} (h : Shp Tryz.prog k 24 c) : ∃ n : Note, IsNote n (.agg c) ∧ n.Sm := by
  obtain ⟨j, _, hf⟩ := shp_struct Tryz.underlying24 h
  obtain ⟨c1, r1, rfl, h1, hf⟩ := shpF_cons hf
  obtain ⟨c2, r2, rfl, h2, hf⟩ := shpF_cons hf
  obtain ⟨c3, r3, rfl, h3, hf⟩ := shpF_cons hf
  obtain ⟨c4, r4, rfl, h4, hf⟩ := shpF_cons hf
  obtain rfl := shpF_nil hf
  obtain ⟨d1, l1, rfl, i1, s1⟩ := shp_strs h1
  obtain ⟨d2, l2, rfl, i2, s2⟩ := shp_strs h2
  obtain ⟨d3, l3, rfl, i3, s3⟩ := shp_strs h3
  obtain ⟨d4, l4, rfl, i4, s4⟩ := shp_strs h4
  exact ⟨⟨l1, l2, l3, l4⟩, ⟨d1, d2, d3, d4, rfl, i1, i2, i3, i4⟩, s1, s2, s3, s4⟩
end Go.V
