/- The statement's function returns true, and notices as they are read. No condition. -/
import Derived.Test.YtnfmcjeamolljaaGreatDoorVtb
import Derived.Test.YtnfmcjeamolljaaGreatDoorVtc
import Derived.Test.YtnfmcjeamolljaaGreatDoorVrf
import Derived.Test.YtnfmcjeamolljaaGreatDoorVhD
import Derived.Test.YtnfmcjeamolljaaGreatDoorVna
set_option linter.unusedSimpArgs false
set_option linter.unusedVariables false
set_option linter.constructorNameAsVariable false
set_option linter.deprecated false
namespace Go.V
open Go.Proofs
set_option maxRecDepth 100000
set_option linter.unusedSimpArgs false
set_option linter.unusedVariables false

set_option maxHeartbeats 4000000 in
/-- The statement's function. -/
theorem c_NoticeReturns {n : Note} {d : D} (hd : IsNote n d) (hs : n.Sm) {s : List UInt8} (hl : s.length ≤ 1048576) (h : Heap) :
    VCall Tryz.prog 5 [d, .str s] h fun r _ => r = .bool true := by
  have hsm := parseS_sm s
  have hfmt := c_format hd hs
  have hfew := c_few hd hs
  have hvp : ∀ a b c e : D, vpart true 4 [a, b, c, e] 0 = some (.agg [a, b, c, e]) := fun a b c e => vpart_whole rfl (by omega)
  have hb0 : vbuild Tryz.prog 24 [] = some (.agg nil4) := by simp [vbuild, placesT_24, zeroT_24, vfill, D.notTuple, D.cells]
  have hz : IsNote .zero (.agg nil4) := ⟨.nilsl, .nilsl, .nilsl, .nilsl, rfl, IsSl.nil, IsSl.nil, IsSl.nil, IsSl.nil⟩
  have hnn := hd
  obtain ⟨n1, n2, n3, n4, rfl, hn1, hn2, hn3, hn4⟩ := hd
  refine VCall.of_fn (g := cfg5) mix Tryz.func5 ok5 rfl rfl ?_
  simp only [Tryz.f5, Option.getD_some]
  repeat' first
    | (simp only [go_sem, Nat.reduceEqDiff, Int.reduceBEq, Int.reduceLT, Int.reduceLE, Int.reduceGT, Int.reduceGE, ↓reduceIte, Nat.reduceAdd, Nat.zero_add, Nat.reduceBEq, List.getElem?_cons_zero, List.getElem?_cons_succ, List.contains_cons, List.contains_nil, vpart_false, vextract, decide_true, decide_false, bne, Bool.or_false, Bool.or_true, Bool.false_or, Bool.true_or, Bool.or_self, Bool.false_and, Bool.true_and, Bool.and_false, Bool.and_true, Bool.and_self, Bool.not_true, Bool.not_false, Bool.not_not, vfieldAddr, D.notTuple, D.cells, mu5, *])
    | (refine onBH_caseN (fun hc => ?_) (fun hc => ?_))
    | (refine onBH_case (fun hc => ?_) (fun hc => ?_))
    | (refine gifH_caseNT (fun hc => ?_) (fun hc => ?_))
    | (refine gifH_caseNF (fun hc => ?_) (fun hc => ?_))
    | (refine gifH_caseT (fun hc => ?_) (fun hc => ?_))
    | (refine gifH_caseF (fun hc => ?_) (fun hc => ?_))
    | (refine VCall.mono (awake_licitlaw44 _) ?_; rintro r h ⟨rfl, rfl⟩)
  refine (hfew _).mono ?_
  rintro r h ⟨rfl, b, rfl⟩
  cases b with
  | false =>
    repeat' first
      | (simp only [go_sem, Nat.reduceEqDiff, Int.reduceBEq, Int.reduceLT, Int.reduceLE, Int.reduceGT, Int.reduceGE, ↓reduceIte, Nat.reduceAdd, Nat.zero_add, Nat.reduceBEq, List.getElem?_cons_zero, List.getElem?_cons_succ, List.contains_cons, List.contains_nil, vpart_false, vextract, decide_true, decide_false, bne, Bool.or_false, Bool.or_true, Bool.false_or, Bool.true_or, Bool.or_self, Bool.false_and, Bool.true_and, Bool.and_false, Bool.and_true, Bool.and_self, Bool.not_true, Bool.not_false, Bool.not_not, vfieldAddr, D.notTuple, D.cells, mu5, *])
      | (refine onBH_caseN (fun hc => ?_) (fun hc => ?_))
      | (refine onBH_case (fun hc => ?_) (fun hc => ?_))
      | (refine gifH_caseNT (fun hc => ?_) (fun hc => ?_))
      | (refine gifH_caseNF (fun hc => ?_) (fun hc => ?_))
      | (refine gifH_caseT (fun hc => ?_) (fun hc => ?_))
      | (refine gifH_caseF (fun hc => ?_) (fun hc => ?_))
  | true =>
  cases hl4 : decide ((s.length : Int) > 4000) with
  | true =>
    repeat' first
      | (simp only [go_sem, Nat.reduceEqDiff, Int.reduceBEq, Int.reduceLT, Int.reduceLE, Int.reduceGT, Int.reduceGE, ↓reduceIte, Nat.reduceAdd, Nat.zero_add, Nat.reduceBEq, List.getElem?_cons_zero, List.getElem?_cons_succ, List.contains_cons, List.contains_nil, vpart_false, vextract, decide_true, decide_false, bne, Bool.or_false, Bool.or_true, Bool.false_or, Bool.true_or, Bool.or_self, Bool.false_and, Bool.true_and, Bool.and_false, Bool.and_true, Bool.and_self, Bool.not_true, Bool.not_false, Bool.not_not, vfieldAddr, D.notTuple, D.cells, mu5, *])
      | (refine onBH_caseN (fun hc => ?_) (fun hc => ?_))
      | (refine onBH_case (fun hc => ?_) (fun hc => ?_))
      | (refine gifH_caseNT (fun hc => ?_) (fun hc => ?_))
      | (refine gifH_caseNF (fun hc => ?_) (fun hc => ?_))
      | (refine gifH_caseT (fun hc => ?_) (fun hc => ?_))
      | (refine gifH_caseF (fun hc => ?_) (fun hc => ?_))
  | false =>
  have hne : ∀ {b c : Bool}, b = true → b = false → c = true := fun h1 h2 => by rw [h1] at h2; cases h2
  repeat' first
    | (simp only [go_sem, Nat.reduceEqDiff, Int.reduceBEq, Int.reduceLT, Int.reduceLE, Int.reduceGT, Int.reduceGE, ↓reduceIte, Nat.reduceAdd, Nat.zero_add, Nat.reduceBEq, List.getElem?_cons_zero, List.getElem?_cons_succ, List.contains_cons, List.contains_nil, vpart_false, vextract, decide_true, decide_false, bne, Bool.or_false, Bool.or_true, Bool.false_or, Bool.true_or, Bool.or_self, Bool.false_and, Bool.true_and, Bool.and_false, Bool.and_true, Bool.and_self, Bool.not_true, Bool.not_false, Bool.not_not, vfieldAddr, D.notTuple, D.cells, mu5, *])
    | (refine onBH_caseN (fun hc => ?_) (fun hc => ?_))
    | (refine onBH_case (fun hc => ?_) (fun hc => ?_))
    | (refine gifH_caseNT (fun hc => ?_) (fun hc => ?_))
    | (refine gifH_caseNF (fun hc => ?_) (fun hc => ?_))
    | (refine gifH_caseT (fun hc => ?_) (fun hc => ?_))
    | (refine gifH_caseF (fun hc => ?_) (fun hc => ?_))
    | (refine VCall.mono (hfmt _) ?_; rintro r h ⟨rfl, rfl⟩)
  · rename_i g1
    have g2 := hc
    clear hc
    have g3 : checkS n = 0 := by
      apply Decidable.byContradiction
      intro q
      have : (fmtS n).2 = checkS n := by unfold fmtS; rw [if_pos q]
      rw [this] at g1
      exact q (by simpa using g1)
    have g4 : fmtS n = (nl (outL n), 0) := by unfold fmtS; rw [if_neg (by simp [g3])]
    rw [g4] at g2 ⊢
    have g5 : ((nl (outL n)).length : Int) ≤ 65536 := of_decide_eq_true g2
    have hp := parse_fmt g3 (by omega)
    have hpar := c_parse (s := nl (outL n)) (by omega)
    rw [hp] at hpar
    clear g1 g2 g3 g4 g5 hp hl4
    simp only
    refine (hpar _).mono ?_
    rintro r h ⟨rfl, _, rfl, m1, m2, m3, m4, rfl, hm1, hm2, hm3, hm4⟩
    have hmm : IsNote n (.agg [m1, m2, m3, m4]) := ⟨m1, m2, m3, m4, rfl, hm1, hm2, hm3, hm4⟩
    have hst : vstore Tryz.prog 24 (.ptr h.next 0) (.agg [m1, m2, m3, m4]) (h.new h.next (.row nil4)) = some (h.new h.next (.row [m1, m2, m3, m4])) := vstore_new szT_24 (by omega) rfl rfl (flat4 (flatSl hm1).1 (flatSl hm2).1 (flatSl hm3).1 (flatSl hm4).1)
    clear hpar
    repeat' first
      | (simp only [go_sem, Nat.reduceEqDiff, Int.reduceBEq, Int.reduceLT, Int.reduceLE, Int.reduceGT, Int.reduceGE, ↓reduceIte, Nat.reduceAdd, Nat.zero_add, Nat.reduceBEq, List.getElem?_cons_zero, List.getElem?_cons_succ, List.contains_cons, List.contains_nil, vpart_false, vextract, decide_true, decide_false, bne, Bool.or_false, Bool.or_true, Bool.false_or, Bool.true_or, Bool.or_self, Bool.false_and, Bool.true_and, Bool.and_false, Bool.and_true, Bool.and_self, Bool.not_true, Bool.not_false, Bool.not_not, vfieldAddr, D.notTuple, D.cells, mu5, new_at, *])
      | (refine onBH_caseN (fun hc => ?_) (fun hc => ?_))
      | (refine onBH_case (fun hc => ?_) (fun hc => ?_))
      | (refine gifH_caseNT (fun hc => ?_) (fun hc => ?_))
      | (refine gifH_caseNF (fun hc => ?_) (fun hc => ?_))
      | (refine gifH_caseT (fun hc => ?_) (fun hc => ?_))
      | (refine gifH_caseF (fun hc => ?_) (fun hc => ?_))
      | (refine VCall.mono (c_same hnn hmm hs _) ?_; rintro r h ⟨rfl, rfl⟩)
    clear hst hmm hm1 hm2 hm3 hm4 hnn hfew hfmt
    generalize h.new h.next (.row [m1, m2, m3, m4]) = g
    clear hn1 hn2 hn3 hn4
    refine (c_parse hl _).mono ?_
    rintro r h ⟨rfl, _, rfl, m1, m2, m3, m4, rfl, hm1, hm2, hm3, hm4⟩
    have hmm : IsNote (parseS s).1 (.agg [m1, m2, m3, m4]) := ⟨m1, m2, m3, m4, rfl, hm1, hm2, hm3, hm4⟩
    have hst : vstore Tryz.prog 24 (.ptr h.next 0) (.agg [m1, m2, m3, m4]) (h.new h.next (.row nil4)) = some (h.new h.next (.row [m1, m2, m3, m4])) := vstore_new szT_24 (by omega) rfl rfl (flat4 (flatSl hm1).1 (flatSl hm2).1 (flatSl hm3).1 (flatSl hm4).1)
    by_cases e0 : (parseS s).2.2 = 0
    · have e1 : ((parseS s).2.2 == 0) = true := by rw [e0]; rfl
      have hfm := c_format hmm hsm
      rw [fmt_parse e0] at hfm
      clear e0 hmm hsm hm1 hm2 hm3 hm4 hl
      repeat' first
        | (simp only [go_sem, Nat.reduceEqDiff, Int.reduceBEq, Int.reduceLT, Int.reduceLE, Int.reduceGT, Int.reduceGE, ↓reduceIte, Nat.reduceAdd, Nat.zero_add, Nat.reduceBEq, List.getElem?_cons_zero, List.getElem?_cons_succ, List.contains_cons, List.contains_nil, vpart_false, vextract, decide_true, decide_false, bne, Bool.or_false, Bool.or_true, Bool.false_or, Bool.true_or, Bool.or_self, Bool.false_and, Bool.true_and, Bool.and_false, Bool.and_true, Bool.and_self, Bool.not_true, Bool.not_false, Bool.not_not, vfieldAddr, D.notTuple, D.cells, mu5, new_at, beq_self_eq_true, *])
        | (refine onBH_caseN (fun hc => ?_) (fun hc => ?_))
        | (refine onBH_case (fun hc => ?_) (fun hc => ?_))
        | (refine gifH_caseNT (fun hc => ?_) (fun hc => ?_))
        | (refine gifH_caseNF (fun hc => ?_) (fun hc => ?_))
        | (refine gifH_caseT (fun hc => ?_) (fun hc => ?_))
        | (refine gifH_caseF (fun hc => ?_) (fun hc => ?_))
        | (refine VCall.mono (hfm _) ?_; rintro r h ⟨rfl, rfl⟩)
    · have e1 : ((parseS s).2.2 == 0) = false := by simpa using e0
      have hzz := parse_err e0
      rw [hzz] at hmm hsm
      have hsame := c_same hmm hz hsm
      clear e0 hmm hsm hm1 hm2 hm3 hm4 hl hzz
      repeat' first
        | (simp only [go_sem, Nat.reduceEqDiff, Int.reduceBEq, Int.reduceLT, Int.reduceLE, Int.reduceGT, Int.reduceGE, ↓reduceIte, Nat.reduceAdd, Nat.zero_add, Nat.reduceBEq, List.getElem?_cons_zero, List.getElem?_cons_succ, List.contains_cons, List.contains_nil, vpart_false, vextract, decide_true, decide_false, bne, Bool.or_false, Bool.or_true, Bool.false_or, Bool.true_or, Bool.or_self, Bool.false_and, Bool.true_and, Bool.and_false, Bool.and_true, Bool.and_self, Bool.not_true, Bool.not_false, Bool.not_not, vfieldAddr, D.notTuple, D.cells, mu5, new_at, *])
        | (refine onBH_caseN (fun hc => ?_) (fun hc => ?_))
        | (refine onBH_case (fun hc => ?_) (fun hc => ?_))
        | (refine gifH_caseNT (fun hc => ?_) (fun hc => ?_))
        | (refine gifH_caseNF (fun hc => ?_) (fun hc => ?_))
        | (refine gifH_caseT (fun hc => ?_) (fun hc => ?_))
        | (refine gifH_caseF (fun hc => ?_) (fun hc => ?_))
        | (refine VCall.mono (hsame _) ?_; rintro r h ⟨rfl, rfl⟩)
  all_goals
    clear hnn hfew hfmt hn1 hn2 hn3 hn4
    refine (c_parse hl _).mono ?_
    rintro r h ⟨rfl, _, rfl, m1, m2, m3, m4, rfl, hm1, hm2, hm3, hm4⟩
    have hmm : IsNote (parseS s).1 (.agg [m1, m2, m3, m4]) := ⟨m1, m2, m3, m4, rfl, hm1, hm2, hm3, hm4⟩
    have hst : vstore Tryz.prog 24 (.ptr h.next 0) (.agg [m1, m2, m3, m4]) (h.new h.next (.row nil4)) = some (h.new h.next (.row [m1, m2, m3, m4])) := vstore_new szT_24 (by omega) rfl rfl (flat4 (flatSl hm1).1 (flatSl hm2).1 (flatSl hm3).1 (flatSl hm4).1)
    by_cases e0 : (parseS s).2.2 = 0
    · have e1 : ((parseS s).2.2 == 0) = true := by rw [e0]; rfl
      have hfm := c_format hmm hsm
      rw [fmt_parse e0] at hfm
      clear e0 hmm hsm hm1 hm2 hm3 hm4 hl hl4
      repeat' first
        | (simp only [go_sem, Nat.reduceEqDiff, Int.reduceBEq, Int.reduceLT, Int.reduceLE, Int.reduceGT, Int.reduceGE, ↓reduceIte, Nat.reduceAdd, Nat.zero_add, Nat.reduceBEq, List.getElem?_cons_zero, List.getElem?_cons_succ, List.contains_cons, List.contains_nil, vpart_false, vextract, decide_true, decide_false, bne, Bool.or_false, Bool.or_true, Bool.false_or, Bool.true_or, Bool.or_self, Bool.false_and, Bool.true_and, Bool.and_false, Bool.and_true, Bool.and_self, Bool.not_true, Bool.not_false, Bool.not_not, vfieldAddr, D.notTuple, D.cells, mu5, new_at, beq_self_eq_true, *])
        | (refine onBH_caseN (fun hc => ?_) (fun hc => ?_))
        | (refine onBH_case (fun hc => ?_) (fun hc => ?_))
        | (refine gifH_caseNT (fun hc => ?_) (fun hc => ?_))
        | (refine gifH_caseNF (fun hc => ?_) (fun hc => ?_))
        | (refine gifH_caseT (fun hc => ?_) (fun hc => ?_))
        | (refine gifH_caseF (fun hc => ?_) (fun hc => ?_))
        | (refine VCall.mono (hfm _) ?_; rintro r h ⟨rfl, rfl⟩)
    · have e1 : ((parseS s).2.2 == 0) = false := by simpa using e0
      have hzz := parse_err e0
      rw [hzz] at hmm hsm
      have hsame := c_same hmm hz hsm
      clear e0 hmm hsm hm1 hm2 hm3 hm4 hl hl4 hzz
      repeat' first
        | (simp only [go_sem, Nat.reduceEqDiff, Int.reduceBEq, Int.reduceLT, Int.reduceLE, Int.reduceGT, Int.reduceGE, ↓reduceIte, Nat.reduceAdd, Nat.zero_add, Nat.reduceBEq, List.getElem?_cons_zero, List.getElem?_cons_succ, List.contains_cons, List.contains_nil, vpart_false, vextract, decide_true, decide_false, bne, Bool.or_false, Bool.or_true, Bool.false_or, Bool.true_or, Bool.or_self, Bool.false_and, Bool.true_and, Bool.and_false, Bool.and_true, Bool.and_self, Bool.not_true, Bool.not_false, Bool.not_not, vfieldAddr, D.notTuple, D.cells, mu5, new_at, *])
        | (refine onBH_caseN (fun hc => ?_) (fun hc => ?_))
        | (refine onBH_case (fun hc => ?_) (fun hc => ?_))
        | (refine gifH_caseNT (fun hc => ?_) (fun hc => ?_))
        | (refine gifH_caseNF (fun hc => ?_) (fun hc => ?_))
        | (refine gifH_caseT (fun hc => ?_) (fun hc => ?_))
        | (refine gifH_caseF (fun hc => ?_) (fun hc => ?_))
        | (refine VCall.mono (hsame _) ?_; rintro r h ⟨rfl, rfl⟩)
end Go.V
namespace Go.V
open Go.Proofs

/-! Notices as they are read. -/
theorem strs_of : ∀ {ys : List (List D)}, (∀ y ∈ ys, ∃ s, y = [D.str s] ∧ s.length ≤ 1048576) → ∃ l, ys = strs l ∧ ∀ s ∈ l, s.length ≤ 1048576
  | [], _ => ⟨[], rfl, fun n hn => by cases hn⟩
  | y :: ys, h => by
    obtain ⟨n, rfl, hn⟩ := h y (by simp)
    obtain ⟨ks, rfl, hk⟩ := strs_of (ys := ys) fun z hz => h z (List.mem_cons_of_mem _ hz)
    exact ⟨n :: ks, rfl, fun m hm => by
      rcases List.mem_cons.1 hm with rfl | hm
      · exact hn
      · exact hk m hm⟩
theorem shp_strs {k : Nat} {c : List D} (h : Shp Tryz.prog k 22 c) : ∃ d l, c = [d] ∧ IsSl 1 (strs l) d ∧ SmL l := by
  obtain ⟨d, xs, j, e, hj, hs, _, hl, hx⟩ := shp_sl Tryz.underlying22 szT_9 h
  obtain ⟨l, rfl, hk⟩ := strs_of fun y hy => shp_str Tryz.underlying9 (hx y hy)
  rw [strs_length] at hl
  exact ⟨d, l, e, hs, hl, hk⟩
theorem shp_note {k : Nat} {c : List D} (h : Shp Tryz.prog k 24 c) : ∃ n : Note, IsNote n (.agg c) ∧ n.Sm := by
  obtain ⟨j, _, hf⟩ := shp_struct Tryz.underlying24 h
  obtain ⟨c1, r1, rfl, h1, hf⟩ := shpF_cons hf
  obtain ⟨c2, r2, rfl, h2, hf⟩ := shpF_cons hf
  obtain ⟨c3, r3, rfl, h3, hf⟩ := shpF_cons hf
  obtain ⟨c4, r4, rfl, h4, hf⟩ := shpF_cons hf
  obtain rfl := shpF_nil hf
  obtain ⟨d1, l1, rfl, i1, s1⟩ := shp_strs h1
  obtain ⟨d2, l2, rfl, i2, s2⟩ := shp_strs h2
  obtain ⟨d3, l3, rfl, i3, s3⟩ := shp_strs h3
  obtain ⟨d4, l4, rfl, i4, s4⟩ := shp_strs h4
  exact ⟨⟨l1, l2, l3, l4⟩, ⟨d1, d2, d3, d4, rfl, i1, i2, i3, i4⟩, s1, s2, s3, s4⟩
end Go.V
