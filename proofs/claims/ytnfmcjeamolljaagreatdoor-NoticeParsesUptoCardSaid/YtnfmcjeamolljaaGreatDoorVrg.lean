/- The contract of the law NoticeParses. No condition. -/
import Derived.Test.YtnfmcjeamolljaaGreatDoorVnc
import Derived.Test.YtnfmcjeamolljaaGreatDoorVxA
import Derived.Test.YtnfmcjeamolljaaGreatDoorVhF
import Derived.Test.YtnfmcjeamolljaaGreatDoorVrf
import Derived.Test.YtnfmcjeamolljaaGreatDoorVhD
import Derived.Test.YtnfmcjeamolljaaGreatDoorVna
set_option linter.unusedSimpArgs false
set_option linter.unusedVariables false
set_option linter.constructorNameAsVariable false
set_option linter.deprecated false
namespace Go.V
open Go.Proofs
set_option maxRecDepth 100000
set_option linter.unusedSimpArgs false
set_option linter.unusedVariables false

/-! The law's own functions. -/
/-- licitref44.Short answers. -/
theorem c_short {l : List (List UInt8)} {d : D} (hd : IsSl 1 (strs l) d) (hs : SmL l) (h : Heap) :
    VCall Tryz.prog 26 [d] h fun r h' => h' = h ∧ ∃ b, r = .bool b := by
  have hll : ((strs l).length : Int) = l.length := by rw [strs_length]
  have hl := hs.1
  refine VCall.of_fn (g := cfg26) mix Tryz.func26 ok26 rfl rfl ?_
  simp only [Tryz.f26, Option.getD_some]
  have loop : ∀ {c : Prop}, c → c := fun hc => hc
  cases h1 : decide ((l.length : Int) > 30) with
  | true =>
    cases h2 : ((l.length : Int) != 1025) with
    | true =>
      simp only [go_sem, Nat.reduceEqDiff, ↓reduceIte, vlen_sl hd Tryz.underlying22, hll, h1, h2]
      exact ⟨false, rfl⟩
    | false =>
      simp only [go_sem, Nat.reduceEqDiff, ↓reduceIte, vlen_sl hd Tryz.underlying22, hll, h1, h2]
      refine vwp_range (fun i fr h' => fr 0 = d ∧ fr 4 = .int .i64 (i : Int) ∧ (∃ k : Nat, fr 3 = .int .i64 (k : Int) ∧ k ≤ i * 1048576) ∧ h' = h) l.length ⟨by simp [go_sem], by simp [go_sem], ⟨0, by simp [go_sem], by omega⟩, rfl⟩ ?_
      rintro i fr h' hi ⟨f0, f4, ⟨k, f3, hk⟩, rfl⟩
      simp only [go_sem, Nat.reduceEqDiff, ↓reduceIte, f0, f4, f3, vlen_sl hd Tryz.underlying22, hll]
      by_cases hlt : i < l.length
      · have hsl := hs.2 _ (List.getElem_mem hlt)
        have e1 : decide ((i : Int) < l.length) = true := decide_eq_true (by omega)
        have hi2 : i * 1048576 ≤ 1048576 * 1048576 := Nat.mul_le_mul_right _ (by omega)
        have hw : IntKind.i64.wrap ((k : Int) + (l[i].length : Nat)) = ((k + l[i].length : Nat) : Int) := by rw [wrap_i64 (by omega) (by omega)]; omega
        simp only [go_sem, Nat.reduceEqDiff, ↓reduceIte, f0, f4, f3, e1, vindexAddr_sl hd elemT_22 szT_9 (strs_get hlt), vpart_false, vlen_str Tryz.underlying9, hw, wrap_succ (show i < lim by unfold lim; omega)]
        exact ⟨hlt, by rw [wrap_succ (by unfold lim; omega)], _, rfl, by rw [Nat.succ_mul]; omega⟩
      · have e1 : decide ((i : Int) < l.length) = false := decide_eq_false (by omega)
        simp only [go_sem, Nat.reduceEqDiff, ↓reduceIte, f0, f4, f3, e1]
        exact ⟨_, rfl⟩
  | false =>
    simp only [go_sem, Nat.reduceEqDiff, ↓reduceIte, vlen_sl hd Tryz.underlying22, hll, h1]
    refine vwp_range (fun i fr h' => fr 0 = d ∧ fr 4 = .int .i64 (i : Int) ∧ (∃ k : Nat, fr 3 = .int .i64 (k : Int) ∧ k ≤ i * 1048576) ∧ h' = h) l.length ⟨by simp [go_sem], by simp [go_sem], ⟨0, by simp [go_sem], by omega⟩, rfl⟩ ?_
    rintro i fr h' hi ⟨f0, f4, ⟨k, f3, hk⟩, rfl⟩
    simp only [go_sem, Nat.reduceEqDiff, ↓reduceIte, f0, f4, f3, vlen_sl hd Tryz.underlying22, hll]
    by_cases hlt : i < l.length
    · have hsl := hs.2 _ (List.getElem_mem hlt)
      have e1 : decide ((i : Int) < l.length) = true := decide_eq_true (by omega)
      have hi2 : i * 1048576 ≤ 1048576 * 1048576 := Nat.mul_le_mul_right _ (by omega)
      have hw : IntKind.i64.wrap ((k : Int) + (l[i].length : Nat)) = ((k + l[i].length : Nat) : Int) := by rw [wrap_i64 (by omega) (by omega)]; omega
      simp only [go_sem, Nat.reduceEqDiff, ↓reduceIte, f0, f4, f3, e1, vindexAddr_sl hd elemT_22 szT_9 (strs_get hlt), vpart_false, vlen_str Tryz.underlying9, hw, wrap_succ (show i < lim by unfold lim; omega)]
      exact ⟨hlt, by rw [wrap_succ (by unfold lim; omega)], _, rfl, by rw [Nat.succ_mul]; omega⟩
    · have e1 : decide ((i : Int) < l.length) = false := decide_eq_false (by omega)
      simp only [go_sem, Nat.reduceEqDiff, ↓reduceIte, f0, f4, f3, e1]
      exact ⟨_, rfl⟩

/-- licitref44.Few answers. -/
theorem c_few {n : Note} {d : D} (hd : IsNote n d) (hs : n.Sm) (h : Heap) :
    VCall Tryz.prog 8 [d] h fun r h' => h' = h ∧ ∃ b, r = .bool b := by
  obtain ⟨a, b, c, e, rfl, ha, hb, hc, he⟩ := hd
  refine VCall.of_fn (g := cfg8) mix Tryz.func8 ok8 rfl rfl ?_
  simp only [Tryz.f8, Option.getD_some]
  simp only [go_sem, Nat.reduceEqDiff, ↓reduceIte, vfieldAddr, Nat.reduceAdd, Nat.zero_add, vpart_false, List.getElem?_cons_zero, List.getElem?_cons_succ]
  refine (c_short ha hs.ls h).mono ?_
  rintro r h ⟨rfl, b1, rfl⟩
  cases b1 with
  | false =>
    simp only [go_sem, Nat.reduceEqDiff, ↓reduceIte]
    exact ⟨_, rfl⟩
  | true =>
  simp only [go_sem, Nat.reduceEqDiff, ↓reduceIte, vfieldAddr, Nat.reduceAdd, Nat.zero_add, vpart_false, List.getElem?_cons_zero, List.getElem?_cons_succ]
  refine (c_short hb hs.ts h).mono ?_
  rintro r h ⟨rfl, b2, rfl⟩
  cases b2 with
  | false =>
    simp only [go_sem, Nat.reduceEqDiff, ↓reduceIte]
    exact ⟨_, rfl⟩
  | true =>
  simp only [go_sem, Nat.reduceEqDiff, ↓reduceIte, vfieldAddr, Nat.reduceAdd, Nat.zero_add, vpart_false, List.getElem?_cons_zero, List.getElem?_cons_succ]
  refine (c_short hc hs.hs h).mono ?_
  rintro r h ⟨rfl, b3, rfl⟩
  cases b3 with
  | false =>
    simp only [go_sem, Nat.reduceEqDiff, ↓reduceIte]
    exact ⟨_, rfl⟩
  | true =>
  simp only [go_sem, Nat.reduceEqDiff, ↓reduceIte, vfieldAddr, Nat.reduceAdd, Nat.zero_add, vpart_false, List.getElem?_cons_zero, List.getElem?_cons_succ]
  refine (c_short he hs.cs h).mono ?_
  rintro r h ⟨rfl, b4, rfl⟩
  simp only [go_sem, Nat.reduceEqDiff, ↓reduceIte]
  exact ⟨_, rfl⟩

/-- licitref31.SameTexts at the same texts. -/
theorem c_sameTexts {l : List (List UInt8)} {d e : D} (hd : IsSl 1 (strs l) d) (he : IsSl 1 (strs l) e) (hl : l.length ≤ 1048576) (h : Heap) :
    VCall Tryz.prog 49 [d, e] h fun r h' => h' = h ∧ r = .bool true := by
  have hll : ((strs l).length : Int) = l.length := by rw [strs_length]
  refine VCall.of_fn (g := cfg49) mix Tryz.func49 ok49 rfl rfl ?_
  simp only [Tryz.f49, Option.getD_some]
  have hne : ((l.length : Int) != l.length) = false := by simp
  simp only [go_sem, Nat.reduceEqDiff, ↓reduceIte, vlen_sl hd Tryz.underlying22, vlen_sl he Tryz.underlying22, hll, hne]
  refine vwp_range (fun i fr h' => fr 0 = d ∧ fr 1 = e ∧ fr 5 = .int .i64 (i : Int) ∧ h' = h) l.length (by simp [go_sem]) ?_
  rintro i fr h' hi ⟨f0, f1, f5, rfl⟩
  simp only [go_sem, Nat.reduceEqDiff, ↓reduceIte, f0, f1, f5, vlen_sl hd Tryz.underlying22, hll]
  by_cases hlt : i < l.length
  · have e1 : decide ((i : Int) < l.length) = true := decide_eq_true (by omega)
    have hsame : (l[i] == l[i]) = true := by simp
    simp only [go_sem, Nat.reduceEqDiff, ↓reduceIte, f0, f1, f5, e1]
    refine vwp_text (by kernel_rfl) ?_
    simp only [go_sem, Nat.reduceEqDiff, ↓reduceIte, f0, f1, f5, vindexAddr_sl hd elemT_22 szT_9 (strs_get hlt), vindexAddr_sl he elemT_22 szT_9 (strs_get hlt), vpart_false, hsame, Bool.not_true, wrap_succ (show i < lim by unfold lim; omega)]
    exact ⟨hlt, by rw [wrap_succ (by unfold lim; omega)]⟩
  · have e1 : decide ((i : Int) < l.length) = false := decide_eq_false (by omega)
    simp only [go_sem, Nat.reduceEqDiff, ↓reduceIte, f0, f1, f5, e1]

/-- licitref44.Same at the same notice. -/
theorem c_same {n : Note} {x y : D} (hx : IsNote n x) (hy : IsNote n y) (hs : n.Sm) (h : Heap) :
    VCall Tryz.prog 15 [x, y] h fun r h' => h' = h ∧ r = .bool true := by
  obtain ⟨a1, a2, a3, a4, rfl, ha1, ha2, ha3, ha4⟩ := hx
  obtain ⟨b1, b2, b3, b4, rfl, hb1, hb2, hb3, hb4⟩ := hy
  refine VCall.of_fn (g := cfg15) mix Tryz.func15 ok15 rfl rfl ?_
  simp only [Tryz.f15, Option.getD_some]
  simp only [go_sem, Nat.reduceEqDiff, ↓reduceIte, vfieldAddr, Nat.reduceAdd, Nat.zero_add, vpart_false, List.getElem?_cons_zero, List.getElem?_cons_succ]
  refine (c_sameTexts ha1 hb1 hs.ls.1 h).mono ?_
  rintro r h ⟨rfl, rfl⟩
  simp only [go_sem, Nat.reduceEqDiff, ↓reduceIte, vfieldAddr, Nat.reduceAdd, Nat.zero_add, vpart_false, List.getElem?_cons_zero, List.getElem?_cons_succ]
  refine (c_sameTexts ha2 hb2 hs.ts.1 h).mono ?_
  rintro r h ⟨rfl, rfl⟩
  simp only [go_sem, Nat.reduceEqDiff, ↓reduceIte, vfieldAddr, Nat.reduceAdd, Nat.zero_add, vpart_false, List.getElem?_cons_zero, List.getElem?_cons_succ]
  refine (c_sameTexts ha3 hb3 hs.hs.1 h).mono ?_
  rintro r h ⟨rfl, rfl⟩
  simp only [go_sem, Nat.reduceEqDiff, ↓reduceIte, vfieldAddr, Nat.reduceAdd, Nat.zero_add, vpart_false, List.getElem?_cons_zero, List.getElem?_cons_succ]
  refine (c_sameTexts ha4 hb4 hs.cs.1 h).mono ?_
  rintro r h ⟨rfl, rfl⟩
  simp only [go_sem, Nat.reduceEqDiff, ↓reduceIte]

theorem c_lacks {l : List (List UInt8)} {d : D} (hd : IsSl 1 (strs l) d) (hl : l.length ≤ 1048576) (s : List UInt8) (h : Heap) :
    VCall Tryz.prog 20 [.str s, .iptr [d] 0] h fun r h' => h' = h ∧ r = .bool (!l.any (· == s)) := by
  refine VCall.of_fn (g := cfg20) mix Tryz.func20 ok20 rfl rfl ?_
  simp only [Tryz.f20, Option.getD_some]
  simp only [go_sem, Nat.reduceEqDiff, ↓reduceIte, vpart_false, List.getElem?_cons_zero]
  refine (c_containsS hd hl s h).mono ?_
  rintro r h ⟨rfl, rfl⟩
  simp only [vun, go_sem, Nat.reduceEqDiff, ↓reduceIte]

/-- Each part is there. -/
theorem c_all {l part : List (List UInt8)} {d e : D} (hd : IsSl 1 (strs l) d) (he : IsSl 1 (strs part) e) (hl : l.length ≤ 1048576) (hp : part.length ≤ 1048576) (hsub : ∀ s ∈ part, s ∈ l) (h : Heap) :
    VCall Tryz.prog 18 [d, e] h fun r h' => h' = h ∧ r = .bool true := by
  have hnt := (flatSl hd).2.2
  have hcc := (flatSl hd).2.1
  refine VCall.of_fn (g := cfg18) mix Tryz.func18 ok18 rfl rfl ?_
  simp only [Tryz.f18, Option.getD_some]
  simp only [go_sem, Nat.reduceEqDiff, ↓reduceIte, mu18, hnt, hcc]
  refine (c_containsFuncS he hp (g := 20) (fst := []) (cap := [.iptr [d] 0]) (p := fun s => !l.any (· == s)) (fun s _ h => c_lacks hd hl s h) h).mono ?_
  rintro r h ⟨rfl, rfl⟩
  have hz : part.any (fun s => !l.any (· == s)) = false := by
    rw [List.any_eq_false]
    intro s hs
    have : l.any (· == s) = true := List.any_eq_true.2 ⟨s, hsub s hs, by simp⟩
    simp [this]
  simp only [vun, go_sem, Nat.reduceEqDiff, ↓reduceIte, hz, Bool.not_false]
end Go.V
namespace Go.V
open Go.Proofs
set_option maxRecDepth 100000
set_option linter.unusedSimpArgs false
set_option linter.unusedVariables false

theorem zero_sm : Note.zero.Sm := ⟨⟨by simp [Note.zero], by simp [Note.zero]⟩, ⟨by simp [Note.zero], by simp [Note.zero]⟩, ⟨by simp [Note.zero], by simp [Note.zero]⟩, ⟨by simp [Note.zero], by simp [Note.zero]⟩⟩
theorem parseL_sm {s : List UInt8} (hs : s.length ≤ 65536) : ∀ {f i : Nat} {n : Note}, NB s.length i n → i < (splitB 10 s).length → (parseL (splitB 10 s) f i n).1.Sm
  | 0, _, _, _, _ => zero_sm
  | f + 1, i, n, hn, hi => by
    have hlen := splitB_len_le 10 s
    simp only [parseL]
    by_cases hlt : i + 1 < (splitB 10 s).length
    · rw [if_pos hlt]
      have hl := line_step (n := n) hlt
      cases hst : stepS (splitB 10 s) i n with
      | inl e => exact zero_sm
      | inr p =>
        obtain ⟨n', i'⟩ := p
        rw [hst] at hl
        exact parseL_sm hs (step_nb hn hst).2 hl.2.2
    · rw [if_neg hlt]
      split
      · exact zero_sm
      · split
        · exact zero_sm
        · exact nb_sm hn hs (by omega)
theorem parseS_sm (s : List UInt8) : (parseS s).1.Sm := by
  unfold parseS
  split
  · exact zero_sm
  · exact parseL_sm (by omega) (nb_zero _) (List.length_pos_iff.2 (splitB_ne 10 s))

/-- The statement's function. -/
theorem c_NoticeParses {s : List UInt8} (hl : s.length ≤ 1048576) (h : Heap) :
    VCall Tryz.prog 4 [.str s] h fun r _ => r = .bool true := by
  have hsm := parseS_sm s
  have hvp : ∀ a b c e : D, vpart true 4 [a, b, c, e] 0 = some (.agg [a, b, c, e]) := fun a b c e => vpart_whole rfl (by omega)
  have hv6 : ∀ (a b c e : D) (x y : Int), vpart true 4 [a, b, c, e, .int .i64 x, .int .i64 y] 0 = some (.agg [a, b, c, e]) := fun a b c e x y => by simp [vpart]
  refine VCall.of_fn (g := cfg4) mix Tryz.func4 ok4 rfl rfl ?_
  simp only [Tryz.f4, Option.getD_some]
  repeat' first
    | (simp only [go_sem, Nat.reduceEqDiff, Int.reduceBEq, Int.reduceLT, Int.reduceLE, Int.reduceGT, Int.reduceGE, ↓reduceIte, Nat.reduceAdd, Nat.zero_add, Nat.reduceBEq, List.getElem?_cons_zero, List.getElem?_cons_succ, List.contains_cons, List.contains_nil, vpart_false, vextract, decide_true, decide_false, bne, Bool.or_false, Bool.or_true, Bool.false_or, Bool.true_or, Bool.or_self, Bool.false_and, Bool.true_and, Bool.and_false, Bool.and_true, Bool.and_self, Bool.not_true, Bool.not_false, Bool.not_not, vfieldAddr, D.notTuple, D.cells, mu4, *])
    | (refine onBH_caseN (fun hc => ?_) (fun hc => ?_))
    | (refine onBH_case (fun hc => ?_) (fun hc => ?_))
    | (refine gifH_caseNT (fun hc => ?_) (fun hc => ?_))
    | (refine gifH_caseNF (fun hc => ?_) (fun hc => ?_))
    | (refine gifH_caseT (fun hc => ?_) (fun hc => ?_))
    | (refine gifH_caseF (fun hc => ?_) (fun hc => ?_))
    | (refine VCall.mono (awake_licitlaw44 _) ?_; rintro r h ⟨rfl, rfl⟩)
  all_goals
    refine (c_parse hl _).mono ?_
    rintro r h ⟨rfl, _, rfl, n1, n2, n3, n4, rfl, hn1, hn2, hn3, hn4⟩
    have hnn : IsNote (parseS s).1 (.agg [n1, n2, n3, n4]) := ⟨n1, n2, n3, n4, rfl, hn1, hn2, hn3, hn4⟩
    have hst : vstore Tryz.prog 24 (.ptr h.next 0) (.agg [n1, n2, n3, n4]) (h.new h.next (.row nil4)) = some (h.new h.next (.row [n1, n2, n3, n4])) := vstore_new szT_24 (by omega) rfl rfl (flat4 (flatSl hn1).1 (flatSl hn2).1 (flatSl hn3).1 (flatSl hn4).1)
    repeat' first
      | (simp only [go_sem, Nat.reduceEqDiff, Int.reduceBEq, Int.reduceLT, Int.reduceLE, Int.reduceGT, Int.reduceGE, ↓reduceIte, Nat.reduceAdd, Nat.zero_add, Nat.reduceBEq, List.getElem?_cons_zero, List.getElem?_cons_succ, List.contains_cons, List.contains_nil, vpart_false, vextract, decide_true, decide_false, bne, Bool.or_false, Bool.or_true, Bool.false_or, Bool.true_or, Bool.or_self, Bool.false_and, Bool.true_and, Bool.and_false, Bool.and_true, Bool.and_self, Bool.not_true, Bool.not_false, Bool.not_not, vfieldAddr, D.notTuple, D.cells, mu4, *])
      | (refine onBH_caseN (fun hc => ?_) (fun hc => ?_))
      | (refine onBH_case (fun hc => ?_) (fun hc => ?_))
      | (refine gifH_caseNT (fun hc => ?_) (fun hc => ?_))
      | (refine gifH_caseNF (fun hc => ?_) (fun hc => ?_))
      | (refine gifH_caseT (fun hc => ?_) (fun hc => ?_))
      | (refine gifH_caseF (fun hc => ?_) (fun hc => ?_))
    obtain ⟨H1, hH1, p1, q1⟩ : ∃ H1 : Heap, h.new h.next (.row [n1, n2, n3, n4]) = H1 ∧ H1.next = h.next + 1 ∧ H1.at' h.next = some (.row [n1, n2, n3, n4]) := ⟨_, rfl, next_new_eq _ _, new_at _ _ _⟩
    rw [hH1]
    clear hH1 hst
    refine (c_refParse hl _).mono ?_
    rintro r H1 ⟨rfl, m1, m2, m3, m4, rfl, hmm⟩
    have hmm0 := hmm
    obtain ⟨a1, a2, a3, a4, ea, hm1, hm2, hm3, hm4⟩ := hmm0
    cases ea
    have hst6 : vstore Tryz.prog 37 (.ptr (h.next + 1) 0) (.agg [m1, m2, m3, m4, .int .i64 (parseS s).2.1, .int .i64 (parseS s).2.2]) (H1.new (h.next + 1) (.row nil6)) = some (H1.new (h.next + 1) (.row [m1, m2, m3, m4, .int .i64 (parseS s).2.1, .int .i64 (parseS s).2.2])) :=
      vstore_new szT_37 (by omega) rfl rfl (flat6 (flatSl hm1).1 (flatSl hm2).1 (flatSl hm3).1 (flatSl hm4).1)
    have q2 : (H1.new (h.next + 1) (.row [m1, m2, m3, m4, .int .i64 (parseS s).2.1, .int .i64 (parseS s).2.2])).at' h.next = some (.row [n1, n2, n3, n4]) := by rw [new_keep (by omega)]; exact q1
    repeat' first
      | (simp only [go_sem, Nat.reduceEqDiff, Int.reduceBEq, Int.reduceLT, Int.reduceLE, Int.reduceGT, Int.reduceGE, ↓reduceIte, Nat.reduceAdd, Nat.zero_add, Nat.reduceBEq, List.getElem?_cons_zero, List.getElem?_cons_succ, List.contains_cons, List.contains_nil, vpart_false, vextract, decide_true, decide_false, bne, Bool.or_false, Bool.or_true, Bool.false_or, Bool.true_or, Bool.or_self, Bool.false_and, Bool.true_and, Bool.and_false, Bool.and_true, Bool.and_self, Bool.not_true, Bool.not_false, Bool.not_not, vfieldAddr, D.notTuple, D.cells, mu4, new_at, *])
      | (refine onBH_caseN (fun hc => ?_) (fun hc => ?_))
      | (refine onBH_case (fun hc => ?_) (fun hc => ?_))
      | (refine gifH_caseNT (fun hc => ?_) (fun hc => ?_))
      | (refine gifH_caseNF (fun hc => ?_) (fun hc => ?_))
      | (refine gifH_caseT (fun hc => ?_) (fun hc => ?_))
      | (refine gifH_caseF (fun hc => ?_) (fun hc => ?_))
      | (refine VCall.mono (c_same hnn hmm hsm _) ?_; rintro r h ⟨rfl, rfl⟩)
    all_goals simp_all
end Go.V
namespace Go.V
open Go.Proofs

/-! Notices as they are read. -/
theorem strs_of : ∀ {ys : List (List D)}, (∀ y ∈ ys, ∃ s, y = [D.str s] ∧ s.length ≤ 1048576) → ∃ l, ys = strs l ∧ ∀ s ∈ l, s.length ≤ 1048576
  | [], _ => ⟨[], rfl, fun n hn => by cases hn⟩
  | y :: ys, h => by
    obtain ⟨n, rfl, hn⟩ := h y (by simp)
    obtain ⟨ks, rfl, hk⟩ := strs_of (ys := ys) fun z hz => h z (List.mem_cons_of_mem _ hz)
    exact ⟨n :: ks, rfl, fun m hm => by
      rcases List.mem_cons.1 hm with rfl | hm
      · exact hn
      · exact hk m hm⟩
theorem shp_strs {k : Nat} {c : List D} (h : Shp Tryz.prog k 22 c) : ∃ d l, c = [d] ∧ IsSl 1 (strs l) d ∧ SmL l := by
  obtain ⟨d, xs, j, e, hj, hs, _, hl, hx⟩ := shp_sl Tryz.underlying22 szT_9 h
  obtain ⟨l, rfl, hk⟩ := strs_of fun y hy => shp_str Tryz.underlying9 (hx y hy)
  rw [strs_length] at hl
  exact ⟨d, l, e, hs, hl, hk⟩
theorem shp_note {k : Nat} {c : List D} (h : Shp Tryz.prog k 24 c) : ∃ n : Note, IsNote n (.agg c) ∧ n.Sm := by
  obtain ⟨j, _, hf⟩ := shp_struct Tryz.underlying24 h
  obtain ⟨c1, r1, rfl, h1, hf⟩ := shpF_cons hf
  obtain ⟨c2, r2, rfl, h2, hf⟩ := shpF_cons hf
  obtain ⟨c3, r3, rfl, h3, hf⟩ := shpF_cons hf
  obtain ⟨c4, r4, rfl, h4, hf⟩ := shpF_cons hf
  obtain rfl := shpF_nil hf
  obtain ⟨d1, l1, rfl, i1, s1⟩ := shp_strs h1
  obtain ⟨d2, l2, rfl, i2, s2⟩ := shp_strs h2
  obtain ⟨d3, l3, rfl, i3, s3⟩ := shp_strs h3
  obtain ⟨d4, l4, rfl, i4, s4⟩ := shp_strs h4
  exact ⟨⟨l1, l2, l3, l4⟩, ⟨d1, d2, d3, d4, rfl, i1, i2, i3, i4⟩, s1, s2, s3, s4⟩
end Go.V
