/- The contract of the reference for the check of a notice. No condition. -/
import Derived.Test.YtnfmcjeamolljaaGreatDoorVrc
set_option linter.unusedSimpArgs false
set_option linter.unusedVariables false
set_option linter.constructorNameAsVariable false
set_option linter.deprecated false
namespace Go.V
open Go.Proofs
set_option maxRecDepth 100000
set_option linter.unusedSimpArgs false
set_option linter.unusedVariables false

set_option maxHeartbeats 4000000 in
/-- licitref44.Check. -/
theorem c_refCheck {n : Note} {d : D} (hd : IsNote n d) (hs : n.Sm) (h : Heap) :
    VCall Tryz.prog 14 [d] h fun r h' => h' = h ∧ r = .int .i64 (checkS n) := by
  obtain ⟨a, b, c, e, rfl, ha, hb, hc0, he⟩ := hd
  have sL := hs.ls.1
  have sT := hs.ts.1
  have sH := hs.hs.1
  have sC := hs.cs.1
  have la := len_strs ha
  have lb := len_strs hb
  have lc := len_strs hc0
  have le := len_strs he
  refine VCall.of_fn (g := cfg14) mix Tryz.func14 ok14 rfl rfl ?_
  simp only [Tryz.f14, Option.getD_some]
  by_cases g1 : max (max (max n.ls.length n.ts.length) n.hs.length) n.cs.length > 1024
  · have hck : checkS n = 10 := by unfold checkS; rw [if_pos g1]
    repeat' first
      | (simp only [go_sem, Nat.reduceEqDiff, Int.reduceBEq, Int.reduceLT, Int.reduceLE, Int.reduceGT, Int.reduceGE, ↓reduceIte, Nat.reduceAdd, Nat.zero_add, Nat.reduceBEq, List.getElem?_cons_zero, List.getElem?_cons_succ, List.contains_cons, List.contains_nil, vpart_false, vextract, decide_true, decide_false, bne, Bool.or_false, Bool.or_true, Bool.false_or, Bool.true_or, Bool.or_self, Bool.false_and, Bool.true_and, Bool.and_false, Bool.and_true, Bool.and_self, Bool.not_true, Bool.not_false, Bool.not_not, vfieldAddr, D.notTuple, D.cells, mu14, *])
      | (refine onBH_caseN (fun hc => ?_) (fun hc => ?_))
      | (refine onBH_case (fun hc => ?_) (fun hc => ?_))
      | (refine gifH_caseNT (fun hc => ?_) (fun hc => ?_))
      | (refine gifH_caseNF (fun hc => ?_) (fun hc => ?_))
      | (refine gifH_caseT (fun hc => ?_) (fun hc => ?_))
      | (refine gifH_caseF (fun hc => ?_) (fun hc => ?_))
    all_goals
      exfalso
      simp only [decide_eq_false_iff_not] at *
      omega
  have k1 : decide ((n.ls.length : Int) > 1024) = false := decide_eq_false (by omega)
  have k2 : decide ((n.ts.length : Int) > 1024) = false := decide_eq_false (by omega)
  have k3 : decide ((n.hs.length : Int) > 1024) = false := decide_eq_false (by omega)
  have k4 : decide ((n.cs.length : Int) > 1024) = false := decide_eq_false (by omega)
  cases g2 : ((n.ts.length : Int) == n.ls.length) with
  | false =>
    have hck : checkS n = 9 := by unfold checkS; rw [if_neg g1, if_pos (by simp at g2; omega)]
    repeat' first
      | (simp only [go_sem, Nat.reduceEqDiff, Int.reduceBEq, Int.reduceLT, Int.reduceLE, Int.reduceGT, Int.reduceGE, ↓reduceIte, Nat.reduceAdd, Nat.zero_add, Nat.reduceBEq, List.getElem?_cons_zero, List.getElem?_cons_succ, List.contains_cons, List.contains_nil, vpart_false, vextract, decide_true, decide_false, bne, Bool.or_false, Bool.or_true, Bool.false_or, Bool.true_or, Bool.or_self, Bool.false_and, Bool.true_and, Bool.and_false, Bool.and_true, Bool.and_self, Bool.not_true, Bool.not_false, Bool.not_not, vfieldAddr, D.notTuple, D.cells, mu14, *])
      | (refine onBH_caseN (fun hc => ?_) (fun hc => ?_))
      | (refine onBH_case (fun hc => ?_) (fun hc => ?_))
      | (refine gifH_caseNT (fun hc => ?_) (fun hc => ?_))
      | (refine gifH_caseNF (fun hc => ?_) (fun hc => ?_))
      | (refine gifH_caseT (fun hc => ?_) (fun hc => ?_))
      | (refine gifH_caseF (fun hc => ?_) (fun hc => ?_))
  | true =>
  have hlenT : ∀ i, i < n.ls.length → i < n.ts.length := fun i hi => by simp at g2; omega
  have hck : checkS n = if incrS (licAt n) n.ls ≠ 0 then incrS (licAt n) n.ls else if incrS (holdAt n) n.hs ≠ 0 then incrS (holdAt n) n.hs else incrS (changeAt n) n.cs := by
    unfold checkS
    rw [if_neg g1, if_neg (by simp at g2; omega)]
  have ck1 : ∀ {v : Int}, incrS (licAt n) n.ls = v → v ≠ 0 → checkS n = v := fun hv h0 => by rw [hck, if_pos (by rw [hv]; exact h0), hv]
  have ck2 : incrS (licAt n) n.ls = 0 → ∀ {v : Int}, incrS (holdAt n) n.hs = v → v ≠ 0 → checkS n = v := fun h1 v hv h0 => by rw [hck, if_neg (by simp [h1]), if_pos (by rw [hv]; exact h0), hv]
  have ck3 : incrS (licAt n) n.ls = 0 → incrS (holdAt n) n.hs = 0 → ∀ {v : Int}, incrS (changeAt n) n.cs = v → checkS n = v := fun h1 h2 v hv => by rw [hck, if_neg (by simp [h1]), if_neg (by simp [h2]), hv]
  clear hck g1
  repeat' first
    | (simp only [go_sem, Nat.reduceEqDiff, Int.reduceBEq, Int.reduceLT, Int.reduceLE, Int.reduceGT, Int.reduceGE, ↓reduceIte, Nat.reduceAdd, Nat.zero_add, Nat.reduceBEq, List.getElem?_cons_zero, List.getElem?_cons_succ, List.contains_cons, List.contains_nil, vpart_false, vextract, decide_true, decide_false, bne, Bool.or_false, Bool.or_true, Bool.false_or, Bool.true_or, Bool.or_self, Bool.false_and, Bool.true_and, Bool.and_false, Bool.and_true, Bool.and_self, Bool.not_true, Bool.not_false, Bool.not_not, vfieldAddr, D.notTuple, D.cells, mu14, *])
    | (refine onBH_caseN (fun hc => ?_) (fun hc => ?_))
    | (refine onBH_case (fun hc => ?_) (fun hc => ?_))
    | (refine gifH_caseNT (fun hc => ?_) (fun hc => ?_))
    | (refine gifH_caseNF (fun hc => ?_) (fun hc => ?_))
    | (refine gifH_caseT (fun hc => ?_) (fun hc => ?_))
    | (refine gifH_caseF (fun hc => ?_) (fun hc => ?_))
  clear k1 k2 k3 k4 g2
  refine vwp_count (fun i fr h' => fr 1 = .iptr [a, b, c, e] 0 ∧ fr 3 = .int .i64 (i : Int) ∧ h' = h ∧ ∀ j, j < i → incrAt (licAt n) n.ls j = 0) n.ls.length (by omega) ?_ ?_ ?_
  · simp [go_sem]
  · rintro i fr h' hlt e2 ew ⟨f1, f3, rfl, hj⟩
    have hltT := hlenT i hlt
    have hat1 := at_strs ha hlt
    have hat2 := at_strs hb hltT
    have s1 := hs.ls.2 _ (List.getElem_mem hlt)
    have s2 := hs.ts.2 _ (List.getElem_mem hltT)
    have gl : licAt n i = if isNameS n.ls[i] then checkTextS n.ts[i] else 2 := by unfold licAt; rw [getD_at hlt, getD_at hltT]
    cases hn : isNameS n.ls[i] with
    | false =>
      have fin : checkS n = 2 := ck1 (incrS_at hlt hj (incrAt_e (by rw [gl, hn]; rfl) (by decide)) (by decide)) (by decide)
      clear gl hj ck1 ck2 ck3
      repeat' first
        | (simp only [go_sem, Nat.reduceEqDiff, Int.reduceBEq, Int.reduceLT, Int.reduceLE, Int.reduceGT, Int.reduceGE, ↓reduceIte, Nat.reduceAdd, Nat.zero_add, Nat.reduceBEq, List.getElem?_cons_zero, List.getElem?_cons_succ, List.contains_cons, List.contains_nil, vpart_false, vextract, decide_true, decide_false, bne, Bool.or_false, Bool.or_true, Bool.false_or, Bool.true_or, Bool.or_self, Bool.false_and, Bool.true_and, Bool.and_false, Bool.and_true, Bool.and_self, Bool.not_true, Bool.not_false, Bool.not_not, vfieldAddr, D.notTuple, D.cells, mu14, *])
        | (refine onBH_caseN (fun hc => ?_) (fun hc => ?_))
        | (refine onBH_case (fun hc => ?_) (fun hc => ?_))
        | (refine gifH_caseNT (fun hc => ?_) (fun hc => ?_))
        | (refine gifH_caseNF (fun hc => ?_) (fun hc => ?_))
        | (refine gifH_caseT (fun hc => ?_) (fun hc => ?_))
        | (refine gifH_caseF (fun hc => ?_) (fun hc => ?_))
        | (refine VCall.mono (c_refName s1 _) ?_; rintro r h ⟨rfl, rfl⟩)
    | true =>
    rw [hn, if_pos rfl] at gl
    by_cases t1 : n.ts[i].length > 4096
    · have q1 : decide ((n.ts[i].length : Int) > 4096) = true := decide_eq_true (by omega)
      have fin : checkS n = 10 := ck1 (incrS_at hlt hj (incrAt_e (by rw [gl]; unfold checkTextS; rw [if_pos (.inl t1)]) (by decide)) (by decide)) (by decide)
      clear gl hj ck1 ck2 ck3
      repeat' first
        | (simp only [go_sem, Nat.reduceEqDiff, Int.reduceBEq, Int.reduceLT, Int.reduceLE, Int.reduceGT, Int.reduceGE, ↓reduceIte, Nat.reduceAdd, Nat.zero_add, Nat.reduceBEq, List.getElem?_cons_zero, List.getElem?_cons_succ, List.contains_cons, List.contains_nil, vpart_false, vextract, decide_true, decide_false, bne, Bool.or_false, Bool.or_true, Bool.false_or, Bool.true_or, Bool.or_self, Bool.false_and, Bool.true_and, Bool.and_false, Bool.and_true, Bool.and_self, Bool.not_true, Bool.not_false, Bool.not_not, vfieldAddr, D.notTuple, D.cells, mu14, *])
        | (refine onBH_caseN (fun hc => ?_) (fun hc => ?_))
        | (refine onBH_case (fun hc => ?_) (fun hc => ?_))
        | (refine gifH_caseNT (fun hc => ?_) (fun hc => ?_))
        | (refine gifH_caseNF (fun hc => ?_) (fun hc => ?_))
        | (refine gifH_caseT (fun hc => ?_) (fun hc => ?_))
        | (refine gifH_caseF (fun hc => ?_) (fun hc => ?_))
        | (refine VCall.mono (c_refName s1 _) ?_; rintro r h ⟨rfl, rfl⟩)
    have q1 : decide ((n.ts[i].length : Int) > 4096) = false := decide_eq_false (by omega)
    by_cases t2 : (linesS n.ts[i]).length > 999
    · have q2 : decide (((linesS n.ts[i]).length : Int) > 999) = true := decide_eq_true (by omega)
      have fin : checkS n = 10 := ck1 (incrS_at hlt hj (incrAt_e (by rw [gl]; unfold checkTextS; rw [if_pos (.inr t2)]) (by decide)) (by decide)) (by decide)
      clear gl hj ck1 ck2 ck3
      repeat' first
        | (simp only [go_sem, Nat.reduceEqDiff, Int.reduceBEq, Int.reduceLT, Int.reduceLE, Int.reduceGT, Int.reduceGE, ↓reduceIte, Nat.reduceAdd, Nat.zero_add, Nat.reduceBEq, List.getElem?_cons_zero, List.getElem?_cons_succ, List.contains_cons, List.contains_nil, vpart_false, vextract, decide_true, decide_false, bne, Bool.or_false, Bool.or_true, Bool.false_or, Bool.true_or, Bool.or_self, Bool.false_and, Bool.true_and, Bool.and_false, Bool.and_true, Bool.and_self, Bool.not_true, Bool.not_false, Bool.not_not, vfieldAddr, D.notTuple, D.cells, mu14, len_strs hr.isSl, *])
        | (simp only [go_sem, Nat.reduceEqDiff, Int.reduceBEq, Int.reduceLT, Int.reduceLE, Int.reduceGT, Int.reduceGE, ↓reduceIte, Nat.reduceAdd, Nat.zero_add, Nat.reduceBEq, List.getElem?_cons_zero, List.getElem?_cons_succ, List.contains_cons, List.contains_nil, vpart_false, vextract, decide_true, decide_false, bne, Bool.or_false, Bool.or_true, Bool.false_or, Bool.true_or, Bool.or_self, Bool.false_and, Bool.true_and, Bool.and_false, Bool.and_true, Bool.and_self, Bool.not_true, Bool.not_false, Bool.not_not, vfieldAddr, D.notTuple, D.cells, mu14, *])
        | (refine onBH_caseN (fun hc => ?_) (fun hc => ?_))
        | (refine onBH_case (fun hc => ?_) (fun hc => ?_))
        | (refine gifH_caseNT (fun hc => ?_) (fun hc => ?_))
        | (refine gifH_caseNF (fun hc => ?_) (fun hc => ?_))
        | (refine gifH_caseT (fun hc => ?_) (fun hc => ?_))
        | (refine gifH_caseF (fun hc => ?_) (fun hc => ?_))
        | (refine VCall.mono (c_refName s1 _) ?_; rintro r h ⟨rfl, rfl⟩)
        | (refine VCall.mono (c_refLines44 s2 _) ?_; rintro r h ⟨rfl, hr⟩)
    have q2 : decide (((linesS n.ts[i]).length : Int) > 999) = false := decide_eq_false (by omega)
    cases t3 : n.ts[i].any textBad2 with
    | true =>
      have fin : checkS n = 4 := ck1 (incrS_at hlt hj (incrAt_e (by rw [gl]; unfold checkTextS; rw [if_neg (fun q => q.elim t1 t2), if_pos t3]) (by decide)) (by decide)) (by decide)
      clear gl hj ck1 ck2 ck3
      repeat' first
        | (simp only [go_sem, Nat.reduceEqDiff, Int.reduceBEq, Int.reduceLT, Int.reduceLE, Int.reduceGT, Int.reduceGE, ↓reduceIte, Nat.reduceAdd, Nat.zero_add, Nat.reduceBEq, List.getElem?_cons_zero, List.getElem?_cons_succ, List.contains_cons, List.contains_nil, vpart_false, vextract, decide_true, decide_false, bne, Bool.or_false, Bool.or_true, Bool.false_or, Bool.true_or, Bool.or_self, Bool.false_and, Bool.true_and, Bool.and_false, Bool.and_true, Bool.and_self, Bool.not_true, Bool.not_false, Bool.not_not, vfieldAddr, D.notTuple, D.cells, mu14, len_strs hr.isSl, *])
        | (simp only [go_sem, Nat.reduceEqDiff, Int.reduceBEq, Int.reduceLT, Int.reduceLE, Int.reduceGT, Int.reduceGE, ↓reduceIte, Nat.reduceAdd, Nat.zero_add, Nat.reduceBEq, List.getElem?_cons_zero, List.getElem?_cons_succ, List.contains_cons, List.contains_nil, vpart_false, vextract, decide_true, decide_false, bne, Bool.or_false, Bool.or_true, Bool.false_or, Bool.true_or, Bool.or_self, Bool.false_and, Bool.true_and, Bool.and_false, Bool.and_true, Bool.and_self, Bool.not_true, Bool.not_false, Bool.not_not, vfieldAddr, D.notTuple, D.cells, mu14, *])
        | (refine onBH_caseN (fun hc => ?_) (fun hc => ?_))
        | (refine onBH_case (fun hc => ?_) (fun hc => ?_))
        | (refine gifH_caseNT (fun hc => ?_) (fun hc => ?_))
        | (refine gifH_caseNF (fun hc => ?_) (fun hc => ?_))
        | (refine gifH_caseT (fun hc => ?_) (fun hc => ?_))
        | (refine gifH_caseF (fun hc => ?_) (fun hc => ?_))
        | (refine VCall.mono (c_refName s1 _) ?_; rintro r h ⟨rfl, rfl⟩)
        | (refine VCall.mono (c_refLines44 s2 _) ?_; rintro r h ⟨rfl, hr⟩)
        | (refine VCall.mono (c_refPlain s2 _) ?_; rintro r h ⟨rfl, rfl⟩)
    | false =>
    have gz : licAt n i = 0 := by rw [gl]; unfold checkTextS; rw [if_neg (fun q => q.elim t1 t2), if_neg (by rw [t3]; exact Bool.false_ne_true)]
    by_cases h0 : 0 < i
    · have p0 : decide ((i : Int) > 0) = true := decide_eq_true (by omega)
      have pw : IntKind.i64.wrap ((i : Int) - 1) = ((i - 1 : Nat) : Int) := by rw [wrap_i64 (by omega) (by omega)]; omega
      have hat3 := at_strs ha (show i - 1 < n.ls.length by omega)
      have hgl := geq_le (n.ls[i - 1]'(by omega)) n.ls[i]
      cases hle : leS n.ls[i] (n.ls[i - 1]'(by omega)) with
      | true =>
        have fin : checkS n = 5 := ck1 (incrS_at hlt hj (incrAt_le gz hlt h0 hle) (by decide)) (by decide)
        clear gl gz hj ck1 ck2 ck3
        repeat' first
          | (simp only [go_sem, Nat.reduceEqDiff, Int.reduceBEq, Int.reduceLT, Int.reduceLE, Int.reduceGT, Int.reduceGE, ↓reduceIte, Nat.reduceAdd, Nat.zero_add, Nat.reduceBEq, List.getElem?_cons_zero, List.getElem?_cons_succ, List.contains_cons, List.contains_nil, vpart_false, vextract, decide_true, decide_false, bne, Bool.or_false, Bool.or_true, Bool.false_or, Bool.true_or, Bool.or_self, Bool.false_and, Bool.true_and, Bool.and_false, Bool.and_true, Bool.and_self, Bool.not_true, Bool.not_false, Bool.not_not, vfieldAddr, D.notTuple, D.cells, mu14, len_strs hr.isSl, *])
          | (simp only [go_sem, Nat.reduceEqDiff, Int.reduceBEq, Int.reduceLT, Int.reduceLE, Int.reduceGT, Int.reduceGE, ↓reduceIte, Nat.reduceAdd, Nat.zero_add, Nat.reduceBEq, List.getElem?_cons_zero, List.getElem?_cons_succ, List.contains_cons, List.contains_nil, vpart_false, vextract, decide_true, decide_false, bne, Bool.or_false, Bool.or_true, Bool.false_or, Bool.true_or, Bool.or_self, Bool.false_and, Bool.true_and, Bool.and_false, Bool.and_true, Bool.and_self, Bool.not_true, Bool.not_false, Bool.not_not, vfieldAddr, D.notTuple, D.cells, mu14, *])
          | (refine onBH_caseN (fun hc => ?_) (fun hc => ?_))
          | (refine onBH_case (fun hc => ?_) (fun hc => ?_))
          | (refine gifH_caseNT (fun hc => ?_) (fun hc => ?_))
          | (refine gifH_caseNF (fun hc => ?_) (fun hc => ?_))
          | (refine gifH_caseT (fun hc => ?_) (fun hc => ?_))
          | (refine gifH_caseF (fun hc => ?_) (fun hc => ?_))
          | (refine VCall.mono (c_refName s1 _) ?_; rintro r h ⟨rfl, rfl⟩)
          | (refine VCall.mono (c_refLines44 s2 _) ?_; rintro r h ⟨rfl, hr⟩)
          | (refine VCall.mono (c_refPlain s2 _) ?_; rintro r h ⟨rfl, rfl⟩)
        refine vwp_text (by kernel_rfl) ?_
        repeat' first
          | (simp only [go_sem, Nat.reduceEqDiff, Int.reduceBEq, Int.reduceLT, Int.reduceLE, Int.reduceGT, Int.reduceGE, ↓reduceIte, Nat.reduceAdd, Nat.zero_add, Nat.reduceBEq, List.getElem?_cons_zero, List.getElem?_cons_succ, List.contains_cons, List.contains_nil, vpart_false, vextract, decide_true, decide_false, bne, Bool.or_false, Bool.or_true, Bool.false_or, Bool.true_or, Bool.or_self, Bool.false_and, Bool.true_and, Bool.and_false, Bool.and_true, Bool.and_self, Bool.not_true, Bool.not_false, Bool.not_not, vfieldAddr, D.notTuple, D.cells, mu14, *])
          | (refine onBH_caseN (fun hc => ?_) (fun hc => ?_))
          | (refine onBH_case (fun hc => ?_) (fun hc => ?_))
          | (refine gifH_caseNT (fun hc => ?_) (fun hc => ?_))
          | (refine gifH_caseNF (fun hc => ?_) (fun hc => ?_))
          | (refine gifH_caseT (fun hc => ?_) (fun hc => ?_))
          | (refine gifH_caseF (fun hc => ?_) (fun hc => ?_))
      | false =>
        have hz := incrAt_next hj (incrAt_ok gz hlt fun _ => hle)
        clear gl gz hj ck1 ck2 ck3
        repeat' first
          | (simp only [go_sem, Nat.reduceEqDiff, Int.reduceBEq, Int.reduceLT, Int.reduceLE, Int.reduceGT, Int.reduceGE, ↓reduceIte, Nat.reduceAdd, Nat.zero_add, Nat.reduceBEq, List.getElem?_cons_zero, List.getElem?_cons_succ, List.contains_cons, List.contains_nil, vpart_false, vextract, decide_true, decide_false, bne, Bool.or_false, Bool.or_true, Bool.false_or, Bool.true_or, Bool.or_self, Bool.false_and, Bool.true_and, Bool.and_false, Bool.and_true, Bool.and_self, Bool.not_true, Bool.not_false, Bool.not_not, vfieldAddr, D.notTuple, D.cells, mu14, len_strs hr.isSl, *])
          | (simp only [go_sem, Nat.reduceEqDiff, Int.reduceBEq, Int.reduceLT, Int.reduceLE, Int.reduceGT, Int.reduceGE, ↓reduceIte, Nat.reduceAdd, Nat.zero_add, Nat.reduceBEq, List.getElem?_cons_zero, List.getElem?_cons_succ, List.contains_cons, List.contains_nil, vpart_false, vextract, decide_true, decide_false, bne, Bool.or_false, Bool.or_true, Bool.false_or, Bool.true_or, Bool.or_self, Bool.false_and, Bool.true_and, Bool.and_false, Bool.and_true, Bool.and_self, Bool.not_true, Bool.not_false, Bool.not_not, vfieldAddr, D.notTuple, D.cells, mu14, *])
          | (refine onBH_caseN (fun hc => ?_) (fun hc => ?_))
          | (refine onBH_case (fun hc => ?_) (fun hc => ?_))
          | (refine gifH_caseNT (fun hc => ?_) (fun hc => ?_))
          | (refine gifH_caseNF (fun hc => ?_) (fun hc => ?_))
          | (refine gifH_caseT (fun hc => ?_) (fun hc => ?_))
          | (refine gifH_caseF (fun hc => ?_) (fun hc => ?_))
          | (refine VCall.mono (c_refName s1 _) ?_; rintro r h ⟨rfl, rfl⟩)
          | (refine VCall.mono (c_refLines44 s2 _) ?_; rintro r h ⟨rfl, hr⟩)
          | (refine VCall.mono (c_refPlain s2 _) ?_; rintro r h ⟨rfl, rfl⟩)
        refine vwp_text (by kernel_rfl) ?_
        repeat' first
          | (simp only [go_sem, Nat.reduceEqDiff, Int.reduceBEq, Int.reduceLT, Int.reduceLE, Int.reduceGT, Int.reduceGE, ↓reduceIte, Nat.reduceAdd, Nat.zero_add, Nat.reduceBEq, List.getElem?_cons_zero, List.getElem?_cons_succ, List.contains_cons, List.contains_nil, vpart_false, vextract, decide_true, decide_false, bne, Bool.or_false, Bool.or_true, Bool.false_or, Bool.true_or, Bool.or_self, Bool.false_and, Bool.true_and, Bool.and_false, Bool.and_true, Bool.and_self, Bool.not_true, Bool.not_false, Bool.not_not, vfieldAddr, D.notTuple, D.cells, mu14, *])
          | (refine onBH_caseN (fun hc => ?_) (fun hc => ?_))
          | (refine onBH_case (fun hc => ?_) (fun hc => ?_))
          | (refine gifH_caseNT (fun hc => ?_) (fun hc => ?_))
          | (refine gifH_caseNF (fun hc => ?_) (fun hc => ?_))
          | (refine gifH_caseT (fun hc => ?_) (fun hc => ?_))
          | (refine gifH_caseF (fun hc => ?_) (fun hc => ?_))
        exact hz
    · have p0 : decide ((i : Int) > 0) = false := decide_eq_false (by omega)
      have hz := incrAt_next hj (incrAt_ok gz hlt fun q => absurd q h0)
      clear gl gz hj ck1 ck2 ck3
      repeat' first
        | (simp only [go_sem, Nat.reduceEqDiff, Int.reduceBEq, Int.reduceLT, Int.reduceLE, Int.reduceGT, Int.reduceGE, ↓reduceIte, Nat.reduceAdd, Nat.zero_add, Nat.reduceBEq, List.getElem?_cons_zero, List.getElem?_cons_succ, List.contains_cons, List.contains_nil, vpart_false, vextract, decide_true, decide_false, bne, Bool.or_false, Bool.or_true, Bool.false_or, Bool.true_or, Bool.or_self, Bool.false_and, Bool.true_and, Bool.and_false, Bool.and_true, Bool.and_self, Bool.not_true, Bool.not_false, Bool.not_not, vfieldAddr, D.notTuple, D.cells, mu14, len_strs hr.isSl, *])
        | (simp only [go_sem, Nat.reduceEqDiff, Int.reduceBEq, Int.reduceLT, Int.reduceLE, Int.reduceGT, Int.reduceGE, ↓reduceIte, Nat.reduceAdd, Nat.zero_add, Nat.reduceBEq, List.getElem?_cons_zero, List.getElem?_cons_succ, List.contains_cons, List.contains_nil, vpart_false, vextract, decide_true, decide_false, bne, Bool.or_false, Bool.or_true, Bool.false_or, Bool.true_or, Bool.or_self, Bool.false_and, Bool.true_and, Bool.and_false, Bool.and_true, Bool.and_self, Bool.not_true, Bool.not_false, Bool.not_not, vfieldAddr, D.notTuple, D.cells, mu14, *])
        | (refine onBH_caseN (fun hc => ?_) (fun hc => ?_))
        | (refine onBH_case (fun hc => ?_) (fun hc => ?_))
        | (refine gifH_caseNT (fun hc => ?_) (fun hc => ?_))
        | (refine gifH_caseNF (fun hc => ?_) (fun hc => ?_))
        | (refine gifH_caseT (fun hc => ?_) (fun hc => ?_))
        | (refine gifH_caseF (fun hc => ?_) (fun hc => ?_))
        | (refine VCall.mono (c_refName s1 _) ?_; rintro r h ⟨rfl, rfl⟩)
        | (refine VCall.mono (c_refLines44 s2 _) ?_; rintro r h ⟨rfl, hr⟩)
        | (refine VCall.mono (c_refPlain s2 _) ?_; rintro r h ⟨rfl, rfl⟩)
      refine vwp_text (by kernel_rfl) ?_
      repeat' first
        | (simp only [go_sem, Nat.reduceEqDiff, Int.reduceBEq, Int.reduceLT, Int.reduceLE, Int.reduceGT, Int.reduceGE, ↓reduceIte, Nat.reduceAdd, Nat.zero_add, Nat.reduceBEq, List.getElem?_cons_zero, List.getElem?_cons_succ, List.contains_cons, List.contains_nil, vpart_false, vextract, decide_true, decide_false, bne, Bool.or_false, Bool.or_true, Bool.false_or, Bool.true_or, Bool.or_self, Bool.false_and, Bool.true_and, Bool.and_false, Bool.and_true, Bool.and_self, Bool.not_true, Bool.not_false, Bool.not_not, vfieldAddr, D.notTuple, D.cells, mu14, *])
        | (refine onBH_caseN (fun hc => ?_) (fun hc => ?_))
        | (refine onBH_case (fun hc => ?_) (fun hc => ?_))
        | (refine gifH_caseNT (fun hc => ?_) (fun hc => ?_))
        | (refine gifH_caseNF (fun hc => ?_) (fun hc => ?_))
        | (refine gifH_caseT (fun hc => ?_) (fun hc => ?_))
        | (refine gifH_caseF (fun hc => ?_) (fun hc => ?_))
      exact hz
  rintro fr h' e2 ⟨f1, f3, rfl, hj⟩
  have z1 := incrS_no hj
  have ck2 := @ck2 z1
  have ck3 := @ck3 z1
  clear hj ck1 z1
  simp only [go_sem, Nat.reduceEqDiff, Int.reduceBEq, Int.reduceLT, Int.reduceLE, Int.reduceGT, Int.reduceGE, ↓reduceIte, Nat.reduceAdd, Nat.zero_add, Nat.reduceBEq, List.getElem?_cons_zero, List.getElem?_cons_succ, List.contains_cons, List.contains_nil, vpart_false, vextract, decide_true, decide_false, bne, Bool.or_false, Bool.or_true, Bool.false_or, Bool.true_or, Bool.or_self, Bool.false_and, Bool.true_and, Bool.and_false, Bool.and_true, Bool.and_self, Bool.not_true, Bool.not_false, Bool.not_not, vfieldAddr, D.notTuple, D.cells, mu14, f1, f3, e2, la]
  refine vwp_count (fun i fr h2 => fr 1 = .iptr [a, b, c, e] 0 ∧ fr 4 = .int .i64 (i : Int) ∧ h2 = h' ∧ ∀ j, j < i → incrAt (holdAt n) n.hs j = 0) n.hs.length (by omega) ?_ ?_ ?_
  · simp [go_sem, f1]
  · clear f1 f3 e2
    rintro i fr h' hlt e2 ew ⟨f1, f4, rfl, hj⟩
    have hat1 := at_strs hc0 hlt
    have s1 := hs.hs.2 _ (List.getElem_mem hlt)
    have gl : holdAt n i = if isTextS n.hs[i] then 0 else 4 := by unfold holdAt; rw [getD_at hlt]
    cases hn : isTextS n.hs[i] with
    | false =>
      have fin : checkS n = 4 := ck2 (incrS_at hlt hj (incrAt_e (by rw [gl, hn]; rfl) (by decide)) (by decide)) (by decide)
      clear gl hj ck2 ck3
      repeat' first
        | (simp only [go_sem, Nat.reduceEqDiff, Int.reduceBEq, Int.reduceLT, Int.reduceLE, Int.reduceGT, Int.reduceGE, ↓reduceIte, Nat.reduceAdd, Nat.zero_add, Nat.reduceBEq, List.getElem?_cons_zero, List.getElem?_cons_succ, List.contains_cons, List.contains_nil, vpart_false, vextract, decide_true, decide_false, bne, Bool.or_false, Bool.or_true, Bool.false_or, Bool.true_or, Bool.or_self, Bool.false_and, Bool.true_and, Bool.and_false, Bool.and_true, Bool.and_self, Bool.not_true, Bool.not_false, Bool.not_not, vfieldAddr, D.notTuple, D.cells, mu14, *])
        | (refine onBH_caseN (fun hc => ?_) (fun hc => ?_))
        | (refine onBH_case (fun hc => ?_) (fun hc => ?_))
        | (refine gifH_caseNT (fun hc => ?_) (fun hc => ?_))
        | (refine gifH_caseNF (fun hc => ?_) (fun hc => ?_))
        | (refine gifH_caseT (fun hc => ?_) (fun hc => ?_))
        | (refine gifH_caseF (fun hc => ?_) (fun hc => ?_))
        | (refine VCall.mono (c_refText s1 _) ?_; rintro r h ⟨rfl, rfl⟩)
    | true =>
    have gz : holdAt n i = 0 := by rw [gl, hn]; rfl
    by_cases h0 : 0 < i
    · have p0 : decide ((i : Int) > 0) = true := decide_eq_true (by omega)
      have pw : IntKind.i64.wrap ((i : Int) - 1) = ((i - 1 : Nat) : Int) := by rw [wrap_i64 (by omega) (by omega)]; omega
      have hat3 := at_strs hc0 (show i - 1 < n.hs.length by omega)
      have hgl := geq_le (n.hs[i - 1]'(by omega)) n.hs[i]
      cases hle : leS n.hs[i] (n.hs[i - 1]'(by omega)) with
      | true =>
        have fin : checkS n = 5 := ck2 (incrS_at hlt hj (incrAt_le gz hlt h0 hle) (by decide)) (by decide)
        clear gl gz hj ck2 ck3
        repeat' first
          | (simp only [go_sem, Nat.reduceEqDiff, Int.reduceBEq, Int.reduceLT, Int.reduceLE, Int.reduceGT, Int.reduceGE, ↓reduceIte, Nat.reduceAdd, Nat.zero_add, Nat.reduceBEq, List.getElem?_cons_zero, List.getElem?_cons_succ, List.contains_cons, List.contains_nil, vpart_false, vextract, decide_true, decide_false, bne, Bool.or_false, Bool.or_true, Bool.false_or, Bool.true_or, Bool.or_self, Bool.false_and, Bool.true_and, Bool.and_false, Bool.and_true, Bool.and_self, Bool.not_true, Bool.not_false, Bool.not_not, vfieldAddr, D.notTuple, D.cells, mu14, *])
          | (refine onBH_caseN (fun hc => ?_) (fun hc => ?_))
          | (refine onBH_case (fun hc => ?_) (fun hc => ?_))
          | (refine gifH_caseNT (fun hc => ?_) (fun hc => ?_))
          | (refine gifH_caseNF (fun hc => ?_) (fun hc => ?_))
          | (refine gifH_caseT (fun hc => ?_) (fun hc => ?_))
          | (refine gifH_caseF (fun hc => ?_) (fun hc => ?_))
          | (refine VCall.mono (c_refText s1 _) ?_; rintro r h ⟨rfl, rfl⟩)
        refine vwp_text (by kernel_rfl) ?_
        repeat' first
          | (simp only [go_sem, Nat.reduceEqDiff, Int.reduceBEq, Int.reduceLT, Int.reduceLE, Int.reduceGT, Int.reduceGE, ↓reduceIte, Nat.reduceAdd, Nat.zero_add, Nat.reduceBEq, List.getElem?_cons_zero, List.getElem?_cons_succ, List.contains_cons, List.contains_nil, vpart_false, vextract, decide_true, decide_false, bne, Bool.or_false, Bool.or_true, Bool.false_or, Bool.true_or, Bool.or_self, Bool.false_and, Bool.true_and, Bool.and_false, Bool.and_true, Bool.and_self, Bool.not_true, Bool.not_false, Bool.not_not, vfieldAddr, D.notTuple, D.cells, mu14, *])
          | (refine onBH_caseN (fun hc => ?_) (fun hc => ?_))
          | (refine onBH_case (fun hc => ?_) (fun hc => ?_))
          | (refine gifH_caseNT (fun hc => ?_) (fun hc => ?_))
          | (refine gifH_caseNF (fun hc => ?_) (fun hc => ?_))
          | (refine gifH_caseT (fun hc => ?_) (fun hc => ?_))
          | (refine gifH_caseF (fun hc => ?_) (fun hc => ?_))
      | false =>
        have hz := incrAt_next hj (incrAt_ok gz hlt fun _ => hle)
        clear gl gz hj ck2 ck3
        repeat' first
          | (simp only [go_sem, Nat.reduceEqDiff, Int.reduceBEq, Int.reduceLT, Int.reduceLE, Int.reduceGT, Int.reduceGE, ↓reduceIte, Nat.reduceAdd, Nat.zero_add, Nat.reduceBEq, List.getElem?_cons_zero, List.getElem?_cons_succ, List.contains_cons, List.contains_nil, vpart_false, vextract, decide_true, decide_false, bne, Bool.or_false, Bool.or_true, Bool.false_or, Bool.true_or, Bool.or_self, Bool.false_and, Bool.true_and, Bool.and_false, Bool.and_true, Bool.and_self, Bool.not_true, Bool.not_false, Bool.not_not, vfieldAddr, D.notTuple, D.cells, mu14, *])
          | (refine onBH_caseN (fun hc => ?_) (fun hc => ?_))
          | (refine onBH_case (fun hc => ?_) (fun hc => ?_))
          | (refine gifH_caseNT (fun hc => ?_) (fun hc => ?_))
          | (refine gifH_caseNF (fun hc => ?_) (fun hc => ?_))
          | (refine gifH_caseT (fun hc => ?_) (fun hc => ?_))
          | (refine gifH_caseF (fun hc => ?_) (fun hc => ?_))
          | (refine VCall.mono (c_refText s1 _) ?_; rintro r h ⟨rfl, rfl⟩)
        refine vwp_text (by kernel_rfl) ?_
        repeat' first
          | (simp only [go_sem, Nat.reduceEqDiff, Int.reduceBEq, Int.reduceLT, Int.reduceLE, Int.reduceGT, Int.reduceGE, ↓reduceIte, Nat.reduceAdd, Nat.zero_add, Nat.reduceBEq, List.getElem?_cons_zero, List.getElem?_cons_succ, List.contains_cons, List.contains_nil, vpart_false, vextract, decide_true, decide_false, bne, Bool.or_false, Bool.or_true, Bool.false_or, Bool.true_or, Bool.or_self, Bool.false_and, Bool.true_and, Bool.and_false, Bool.and_true, Bool.and_self, Bool.not_true, Bool.not_false, Bool.not_not, vfieldAddr, D.notTuple, D.cells, mu14, *])
          | (refine onBH_caseN (fun hc => ?_) (fun hc => ?_))
          | (refine onBH_case (fun hc => ?_) (fun hc => ?_))
          | (refine gifH_caseNT (fun hc => ?_) (fun hc => ?_))
          | (refine gifH_caseNF (fun hc => ?_) (fun hc => ?_))
          | (refine gifH_caseT (fun hc => ?_) (fun hc => ?_))
          | (refine gifH_caseF (fun hc => ?_) (fun hc => ?_))
        exact hz
    · have p0 : decide ((i : Int) > 0) = false := decide_eq_false (by omega)
      have hz := incrAt_next hj (incrAt_ok gz hlt fun q => absurd q h0)
      clear gl gz hj ck2 ck3
      repeat' first
        | (simp only [go_sem, Nat.reduceEqDiff, Int.reduceBEq, Int.reduceLT, Int.reduceLE, Int.reduceGT, Int.reduceGE, ↓reduceIte, Nat.reduceAdd, Nat.zero_add, Nat.reduceBEq, List.getElem?_cons_zero, List.getElem?_cons_succ, List.contains_cons, List.contains_nil, vpart_false, vextract, decide_true, decide_false, bne, Bool.or_false, Bool.or_true, Bool.false_or, Bool.true_or, Bool.or_self, Bool.false_and, Bool.true_and, Bool.and_false, Bool.and_true, Bool.and_self, Bool.not_true, Bool.not_false, Bool.not_not, vfieldAddr, D.notTuple, D.cells, mu14, *])
        | (refine onBH_caseN (fun hc => ?_) (fun hc => ?_))
        | (refine onBH_case (fun hc => ?_) (fun hc => ?_))
        | (refine gifH_caseNT (fun hc => ?_) (fun hc => ?_))
        | (refine gifH_caseNF (fun hc => ?_) (fun hc => ?_))
        | (refine gifH_caseT (fun hc => ?_) (fun hc => ?_))
        | (refine gifH_caseF (fun hc => ?_) (fun hc => ?_))
        | (refine VCall.mono (c_refText s1 _) ?_; rintro r h ⟨rfl, rfl⟩)
      refine vwp_text (by kernel_rfl) ?_
      repeat' first
        | (simp only [go_sem, Nat.reduceEqDiff, Int.reduceBEq, Int.reduceLT, Int.reduceLE, Int.reduceGT, Int.reduceGE, ↓reduceIte, Nat.reduceAdd, Nat.zero_add, Nat.reduceBEq, List.getElem?_cons_zero, List.getElem?_cons_succ, List.contains_cons, List.contains_nil, vpart_false, vextract, decide_true, decide_false, bne, Bool.or_false, Bool.or_true, Bool.false_or, Bool.true_or, Bool.or_self, Bool.false_and, Bool.true_and, Bool.and_false, Bool.and_true, Bool.and_self, Bool.not_true, Bool.not_false, Bool.not_not, vfieldAddr, D.notTuple, D.cells, mu14, *])
        | (refine onBH_caseN (fun hc => ?_) (fun hc => ?_))
        | (refine onBH_case (fun hc => ?_) (fun hc => ?_))
        | (refine gifH_caseNT (fun hc => ?_) (fun hc => ?_))
        | (refine gifH_caseNF (fun hc => ?_) (fun hc => ?_))
        | (refine gifH_caseT (fun hc => ?_) (fun hc => ?_))
        | (refine gifH_caseF (fun hc => ?_) (fun hc => ?_))
      exact hz
  clear f1 f3 e2
  rintro fr h' e2 ⟨f1, f4, rfl, hj⟩
  have z1 := incrS_no hj
  have ck3 := @ck3 z1
  clear hj ck2 z1
  simp only [go_sem, Nat.reduceEqDiff, Int.reduceBEq, Int.reduceLT, Int.reduceLE, Int.reduceGT, Int.reduceGE, ↓reduceIte, Nat.reduceAdd, Nat.zero_add, Nat.reduceBEq, List.getElem?_cons_zero, List.getElem?_cons_succ, List.contains_cons, List.contains_nil, vpart_false, vextract, decide_true, decide_false, bne, Bool.or_false, Bool.or_true, Bool.false_or, Bool.true_or, Bool.or_self, Bool.false_and, Bool.true_and, Bool.and_false, Bool.and_true, Bool.and_self, Bool.not_true, Bool.not_false, Bool.not_not, vfieldAddr, D.notTuple, D.cells, mu14, f1, f4, e2, lc]
  refine vwp_count (fun i fr h2 => fr 1 = .iptr [a, b, c, e] 0 ∧ fr 5 = .int .i64 (i : Int) ∧ h2 = h' ∧ ∀ j, j < i → incrAt (changeAt n) n.cs j = 0) n.cs.length (by omega) ?_ ?_ ?_
  · simp [go_sem, f1]
  · clear f1 f4 e2
    rintro i fr h' hlt e2 ew ⟨f1, f5, rfl, hj⟩
    have hat1 := at_strs he hlt
    have s1 := hs.cs.2 _ (List.getElem_mem hlt)
    have gl : changeAt n i = pathS n.cs[i] := by unfold changeAt; rw [getD_at hlt]
    by_cases hn : pathS n.cs[i] = 0
    · have hp : (pathS n.cs[i] == 0) = true := by rw [hn]; rfl
      have gz : changeAt n i = 0 := by rw [gl, hn]
      clear hn
      by_cases h0 : 0 < i
      · have p0 : decide ((i : Int) > 0) = true := decide_eq_true (by omega)
        have pw : IntKind.i64.wrap ((i : Int) - 1) = ((i - 1 : Nat) : Int) := by rw [wrap_i64 (by omega) (by omega)]; omega
        have hat3 := at_strs he (show i - 1 < n.cs.length by omega)
        have hgl := geq_le (n.cs[i - 1]'(by omega)) n.cs[i]
        cases hle : leS n.cs[i] (n.cs[i - 1]'(by omega)) with
        | true =>
          have fin : checkS n = 5 := ck3 (incrS_at hlt hj (incrAt_le gz hlt h0 hle) (by decide))
          clear gl gz hj ck3
          repeat' first
            | (simp only [go_sem, Nat.reduceEqDiff, Int.reduceBEq, Int.reduceLT, Int.reduceLE, Int.reduceGT, Int.reduceGE, ↓reduceIte, Nat.reduceAdd, Nat.zero_add, Nat.reduceBEq, List.getElem?_cons_zero, List.getElem?_cons_succ, List.contains_cons, List.contains_nil, vpart_false, vextract, decide_true, decide_false, bne, Bool.or_false, Bool.or_true, Bool.false_or, Bool.true_or, Bool.or_self, Bool.false_and, Bool.true_and, Bool.and_false, Bool.and_true, Bool.and_self, Bool.not_true, Bool.not_false, Bool.not_not, vfieldAddr, D.notTuple, D.cells, mu14, *])
            | (refine onBH_caseN (fun hc => ?_) (fun hc => ?_))
            | (refine onBH_case (fun hc => ?_) (fun hc => ?_))
            | (refine gifH_caseNT (fun hc => ?_) (fun hc => ?_))
            | (refine gifH_caseNF (fun hc => ?_) (fun hc => ?_))
            | (refine gifH_caseT (fun hc => ?_) (fun hc => ?_))
            | (refine gifH_caseF (fun hc => ?_) (fun hc => ?_))
            | (refine VCall.mono (c_refPath s1 _) ?_; rintro r h ⟨rfl, rfl⟩)
          refine vwp_text (by kernel_rfl) ?_
          repeat' first
            | (simp only [go_sem, Nat.reduceEqDiff, Int.reduceBEq, Int.reduceLT, Int.reduceLE, Int.reduceGT, Int.reduceGE, ↓reduceIte, Nat.reduceAdd, Nat.zero_add, Nat.reduceBEq, List.getElem?_cons_zero, List.getElem?_cons_succ, List.contains_cons, List.contains_nil, vpart_false, vextract, decide_true, decide_false, bne, Bool.or_false, Bool.or_true, Bool.false_or, Bool.true_or, Bool.or_self, Bool.false_and, Bool.true_and, Bool.and_false, Bool.and_true, Bool.and_self, Bool.not_true, Bool.not_false, Bool.not_not, vfieldAddr, D.notTuple, D.cells, mu14, *])
            | (refine onBH_caseN (fun hc => ?_) (fun hc => ?_))
            | (refine onBH_case (fun hc => ?_) (fun hc => ?_))
            | (refine gifH_caseNT (fun hc => ?_) (fun hc => ?_))
            | (refine gifH_caseNF (fun hc => ?_) (fun hc => ?_))
            | (refine gifH_caseT (fun hc => ?_) (fun hc => ?_))
            | (refine gifH_caseF (fun hc => ?_) (fun hc => ?_))
        | false =>
          have hz := incrAt_next hj (incrAt_ok gz hlt fun _ => hle)
          clear gl gz hj ck3
          repeat' first
            | (simp only [go_sem, Nat.reduceEqDiff, Int.reduceBEq, Int.reduceLT, Int.reduceLE, Int.reduceGT, Int.reduceGE, ↓reduceIte, Nat.reduceAdd, Nat.zero_add, Nat.reduceBEq, List.getElem?_cons_zero, List.getElem?_cons_succ, List.contains_cons, List.contains_nil, vpart_false, vextract, decide_true, decide_false, bne, Bool.or_false, Bool.or_true, Bool.false_or, Bool.true_or, Bool.or_self, Bool.false_and, Bool.true_and, Bool.and_false, Bool.and_true, Bool.and_self, Bool.not_true, Bool.not_false, Bool.not_not, vfieldAddr, D.notTuple, D.cells, mu14, *])
            | (refine onBH_caseN (fun hc => ?_) (fun hc => ?_))
            | (refine onBH_case (fun hc => ?_) (fun hc => ?_))
            | (refine gifH_caseNT (fun hc => ?_) (fun hc => ?_))
            | (refine gifH_caseNF (fun hc => ?_) (fun hc => ?_))
            | (refine gifH_caseT (fun hc => ?_) (fun hc => ?_))
            | (refine gifH_caseF (fun hc => ?_) (fun hc => ?_))
            | (refine VCall.mono (c_refPath s1 _) ?_; rintro r h ⟨rfl, rfl⟩)
          refine vwp_text (by kernel_rfl) ?_
          repeat' first
            | (simp only [go_sem, Nat.reduceEqDiff, Int.reduceBEq, Int.reduceLT, Int.reduceLE, Int.reduceGT, Int.reduceGE, ↓reduceIte, Nat.reduceAdd, Nat.zero_add, Nat.reduceBEq, List.getElem?_cons_zero, List.getElem?_cons_succ, List.contains_cons, List.contains_nil, vpart_false, vextract, decide_true, decide_false, bne, Bool.or_false, Bool.or_true, Bool.false_or, Bool.true_or, Bool.or_self, Bool.false_and, Bool.true_and, Bool.and_false, Bool.and_true, Bool.and_self, Bool.not_true, Bool.not_false, Bool.not_not, vfieldAddr, D.notTuple, D.cells, mu14, *])
            | (refine onBH_caseN (fun hc => ?_) (fun hc => ?_))
            | (refine onBH_case (fun hc => ?_) (fun hc => ?_))
            | (refine gifH_caseNT (fun hc => ?_) (fun hc => ?_))
            | (refine gifH_caseNF (fun hc => ?_) (fun hc => ?_))
            | (refine gifH_caseT (fun hc => ?_) (fun hc => ?_))
            | (refine gifH_caseF (fun hc => ?_) (fun hc => ?_))
          exact hz
      · have p0 : decide ((i : Int) > 0) = false := decide_eq_false (by omega)
        have hz := incrAt_next hj (incrAt_ok gz hlt fun q => absurd q h0)
        clear gl gz hj ck3
        repeat' first
          | (simp only [go_sem, Nat.reduceEqDiff, Int.reduceBEq, Int.reduceLT, Int.reduceLE, Int.reduceGT, Int.reduceGE, ↓reduceIte, Nat.reduceAdd, Nat.zero_add, Nat.reduceBEq, List.getElem?_cons_zero, List.getElem?_cons_succ, List.contains_cons, List.contains_nil, vpart_false, vextract, decide_true, decide_false, bne, Bool.or_false, Bool.or_true, Bool.false_or, Bool.true_or, Bool.or_self, Bool.false_and, Bool.true_and, Bool.and_false, Bool.and_true, Bool.and_self, Bool.not_true, Bool.not_false, Bool.not_not, vfieldAddr, D.notTuple, D.cells, mu14, *])
          | (refine onBH_caseN (fun hc => ?_) (fun hc => ?_))
          | (refine onBH_case (fun hc => ?_) (fun hc => ?_))
          | (refine gifH_caseNT (fun hc => ?_) (fun hc => ?_))
          | (refine gifH_caseNF (fun hc => ?_) (fun hc => ?_))
          | (refine gifH_caseT (fun hc => ?_) (fun hc => ?_))
          | (refine gifH_caseF (fun hc => ?_) (fun hc => ?_))
          | (refine VCall.mono (c_refPath s1 _) ?_; rintro r h ⟨rfl, rfl⟩)
        refine vwp_text (by kernel_rfl) ?_
        repeat' first
          | (simp only [go_sem, Nat.reduceEqDiff, Int.reduceBEq, Int.reduceLT, Int.reduceLE, Int.reduceGT, Int.reduceGE, ↓reduceIte, Nat.reduceAdd, Nat.zero_add, Nat.reduceBEq, List.getElem?_cons_zero, List.getElem?_cons_succ, List.contains_cons, List.contains_nil, vpart_false, vextract, decide_true, decide_false, bne, Bool.or_false, Bool.or_true, Bool.false_or, Bool.true_or, Bool.or_self, Bool.false_and, Bool.true_and, Bool.and_false, Bool.and_true, Bool.and_self, Bool.not_true, Bool.not_false, Bool.not_not, vfieldAddr, D.notTuple, D.cells, mu14, *])
          | (refine onBH_caseN (fun hc => ?_) (fun hc => ?_))
          | (refine onBH_case (fun hc => ?_) (fun hc => ?_))
          | (refine gifH_caseNT (fun hc => ?_) (fun hc => ?_))
          | (refine gifH_caseNF (fun hc => ?_) (fun hc => ?_))
          | (refine gifH_caseT (fun hc => ?_) (fun hc => ?_))
          | (refine gifH_caseF (fun hc => ?_) (fun hc => ?_))
        exact hz
    · have hp : (pathS n.cs[i] == 0) = false := beq_eq_false_iff_ne.2 hn
      have h2 : pathS n.cs[i] = 2 := by
        unfold pathS at hn ⊢
        split
        · rfl
        · rename_i q; rw [if_neg q] at hn; exact absurd rfl hn
      have fin : checkS n = 2 := ck3 (incrS_at hlt hj (incrAt_e (by rw [gl, h2]) (by decide)) (by decide))
      clear gl hj ck3 h2 hn
      repeat' first
        | (simp only [go_sem, Nat.reduceEqDiff, Int.reduceBEq, Int.reduceLT, Int.reduceLE, Int.reduceGT, Int.reduceGE, ↓reduceIte, Nat.reduceAdd, Nat.zero_add, Nat.reduceBEq, List.getElem?_cons_zero, List.getElem?_cons_succ, List.contains_cons, List.contains_nil, vpart_false, vextract, decide_true, decide_false, bne, Bool.or_false, Bool.or_true, Bool.false_or, Bool.true_or, Bool.or_self, Bool.false_and, Bool.true_and, Bool.and_false, Bool.and_true, Bool.and_self, Bool.not_true, Bool.not_false, Bool.not_not, vfieldAddr, D.notTuple, D.cells, mu14, *])
        | (refine onBH_caseN (fun hc => ?_) (fun hc => ?_))
        | (refine onBH_case (fun hc => ?_) (fun hc => ?_))
        | (refine gifH_caseNT (fun hc => ?_) (fun hc => ?_))
        | (refine gifH_caseNF (fun hc => ?_) (fun hc => ?_))
        | (refine gifH_caseT (fun hc => ?_) (fun hc => ?_))
        | (refine gifH_caseF (fun hc => ?_) (fun hc => ?_))
        | (refine VCall.mono (c_refPath s1 _) ?_; rintro r h ⟨rfl, rfl⟩)
  clear f1 f4 e2
  rintro fr h' e2 ⟨f1, f5, rfl, hj⟩
  have fin : checkS n = 0 := ck3 (incrS_no hj)
  clear hj ck3
  repeat' first
    | (simp only [go_sem, Nat.reduceEqDiff, Int.reduceBEq, Int.reduceLT, Int.reduceLE, Int.reduceGT, Int.reduceGE, ↓reduceIte, Nat.reduceAdd, Nat.zero_add, Nat.reduceBEq, List.getElem?_cons_zero, List.getElem?_cons_succ, List.contains_cons, List.contains_nil, vpart_false, vextract, decide_true, decide_false, bne, Bool.or_false, Bool.or_true, Bool.false_or, Bool.true_or, Bool.or_self, Bool.false_and, Bool.true_and, Bool.and_false, Bool.and_true, Bool.and_self, Bool.not_true, Bool.not_false, Bool.not_not, vfieldAddr, D.notTuple, D.cells, mu14, *])
    | (refine onBH_caseN (fun hc => ?_) (fun hc => ?_))
    | (refine onBH_case (fun hc => ?_) (fun hc => ?_))
    | (refine gifH_caseNT (fun hc => ?_) (fun hc => ?_))
    | (refine gifH_caseNF (fun hc => ?_) (fun hc => ?_))
    | (refine gifH_caseT (fun hc => ?_) (fun hc => ?_))
    | (refine gifH_caseF (fun hc => ?_) (fun hc => ?_))
end Go.V
