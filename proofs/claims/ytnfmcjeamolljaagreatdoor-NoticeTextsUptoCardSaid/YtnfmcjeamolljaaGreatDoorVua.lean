/- The contract of the reference for the text of a notice. No condition. -/
import Derived.Test.YtnfmcjeamolljaaGreatDoorVta
import Derived.Test.YtnfmcjeamolljaaGreatDoorVra
import Derived.Test.YtnfmcjeamolljaaGreatDoorVtb
import Derived.Test.YtnfmcjeamolljaaGreatDoorVrd
set_option linter.unusedSimpArgs false
set_option linter.unusedVariables false
set_option linter.constructorNameAsVariable false
set_option linter.deprecated false
namespace Go.V
open Go.Proofs
set_option maxRecDepth 100000
set_option linter.unusedSimpArgs false
set_option linter.unusedVariables false

/-! The reference's numbers in digits. -/
theorem vints_quo {k : IntKind} {a b : Int} (h : b ≠ 0) : vints .quo k k a b = some (.int k (k.wrap (a.tdiv b))) := by simp [vints, vint, h]
theorem vints_rem {k : IntKind} {a b : Int} (h : b ≠ 0) : vints .rem k k a b = some (.int k (a.tmod b)) := by simp [vints, vint, h]
theorem bytesOf_one (b : UInt8) : bytesOf [.int .u8 (b.toNat : Int)] = some [b] := by
  have hb := UInt8.toNat_lt b
  simp [bytesOf]
theorem dec_step {n : Nat} (h : ¬ n < 10) : Lib.decDigits n = Lib.decDigits (n / 10) ++ Lib.decDigits (n % 10) := by
  rw [Lib.decDigits, dif_neg h, Lib.decDigits_one (i := n % 10) (by omega)]
theorem c_refDecimal : ∀ {n : Nat} (_ : n ≤ 1048576) (g : Heap), VCall Tryz.prog 32 [.int .i64 (n : Int)] g fun r h' => h' = g ∧ r = .str (Lib.decDigits n) := by
  intro n
  induction n using Nat.strongRecOn with
  | ind n ih =>
  intro hn g
  refine VCall.of_fn (g := cfg32) mix Tryz.func32 ok32 rfl rfl ?_
  simp only [Tryz.f32, Option.getD_some]
  by_cases h10 : n < 10
  · have e1 : decide ((n : Int) < 10) = true := decide_eq_true (by omega)
    have hw0 : IntKind.u8.wrap (n : Int) = (n : Int) := by
      unfold IntKind.wrap
      simp [IntKind.signed, IntKind.bits]
      omega
    have hw : IntKind.u8.wrap (48 + (n : Int)) = ((48 + n : Nat) : Int) := by
      unfold IntKind.wrap
      simp [IntKind.signed, IntKind.bits]
      omega
    have hc : vconvert Tryz.prog 3 5 (.int .i64 (n : Int)) = some (.int .u8 (n : Int)) := by
      simp only [vconvert, Tryz.underlying3, Tryz.underlying5, hw0]
    have hx : (UInt8.ofNat (48 + n)).toNat = 48 + n := by simp; omega
    have hb := fun h => vbuildSlice_one (P := Tryz.prog) (nid := g.next) (h := h) (t := 74) (x := .int .u8 ((48 + n : Nat) : Int)) elemT_74 zeroT_5 szT_5 rfl rfl (by omega) (by omega) rfl rfl
    have hs : vconvert Tryz.prog 74 9 (.sl 1 [[.int .u8 ((48 + n : Nat) : Int)]] .full) = some (.str (Lib.decDigits n)) := by
      rw [Lib.decDigits_one h10]
      simp only [vconvert, Tryz.underlying74, Tryz.underlying5, Tryz.underlying9, if_true, List.flatten_cons, List.flatten_nil, List.append_nil]
      have := bytesOf_one (UInt8.ofNat (48 + n))
      rw [hx] at this
      rw [this]
    clear ih
    repeat' first
      | (simp only [go_sem, Nat.reduceEqDiff, Int.reduceBEq, Int.reduceLT, Int.reduceLE, Int.reduceGT, Int.reduceGE, ↓reduceIte, Nat.reduceAdd, Nat.zero_add, Nat.reduceBEq, List.getElem?_cons_zero, List.getElem?_cons_succ, List.contains_cons, List.contains_nil, vpart_false, vextract, decide_true, decide_false, bne, Bool.or_false, Bool.or_true, Bool.false_or, Bool.true_or, Bool.or_self, Bool.false_and, Bool.true_and, Bool.and_false, Bool.and_true, Bool.and_self, Bool.not_true, Bool.not_false, Bool.not_not, vfieldAddr, D.notTuple, D.cells, mu32, *])
      | (refine onBH_caseN (fun hc => ?_) (fun hc => ?_))
      | (refine onBH_case (fun hc => ?_) (fun hc => ?_))
      | (refine gifH_caseNT (fun hc => ?_) (fun hc => ?_))
      | (refine gifH_caseNF (fun hc => ?_) (fun hc => ?_))
      | (refine gifH_caseT (fun hc => ?_) (fun hc => ?_))
      | (refine gifH_caseF (fun hc => ?_) (fun hc => ?_))
  · have e1 : decide ((n : Int) < 10) = false := decide_eq_false (by omega)
    have eq : vints .quo .i64 .i64 (n : Int) 10 = some (.int .i64 ((n / 10 : Nat) : Int)) := by
      rw [vints_quo (by decide)]
      have : (n : Int).tdiv 10 = ((n / 10 : Nat) : Int) := rfl
      rw [this, wrap_i64 (by omega) (by omega)]
    have er : vints .rem .i64 .i64 (n : Int) 10 = some (.int .i64 ((n % 10 : Nat) : Int)) := by
      rw [vints_rem (by decide)]; rfl
    have i1 := ih (n / 10) (by omega) (by omega)
    have i2 := ih (n % 10) (by omega) (by omega)
    have ea : vstr .add (Lib.decDigits (n / 10)) (Lib.decDigits (n % 10)) = some (.str (Lib.decDigits n)) := by
      rw [dec_step h10]
      have l1 := itoa_nat_len (k := n / 10) (by omega)
      have l2 := itoa_nat_len (k := n % 10) (by omega)
      rw [Lib.itoa_nonneg] at l1 l2
      exact vstr_add (by omega)
    clear ih h10
    repeat' first
      | (simp only [go_sem, Nat.reduceEqDiff, Int.reduceBEq, Int.reduceLT, Int.reduceLE, Int.reduceGT, Int.reduceGE, ↓reduceIte, Nat.reduceAdd, Nat.zero_add, Nat.reduceBEq, List.getElem?_cons_zero, List.getElem?_cons_succ, List.contains_cons, List.contains_nil, vpart_false, vextract, decide_true, decide_false, bne, Bool.or_false, Bool.or_true, Bool.false_or, Bool.true_or, Bool.or_self, Bool.false_and, Bool.true_and, Bool.and_false, Bool.and_true, Bool.and_self, Bool.not_true, Bool.not_false, Bool.not_not, vfieldAddr, D.notTuple, D.cells, mu32, *])
      | (refine onBH_caseN (fun hc => ?_) (fun hc => ?_))
      | (refine onBH_case (fun hc => ?_) (fun hc => ?_))
      | (refine gifH_caseNT (fun hc => ?_) (fun hc => ?_))
      | (refine gifH_caseNF (fun hc => ?_) (fun hc => ?_))
      | (refine gifH_caseT (fun hc => ?_) (fun hc => ?_))
      | (refine gifH_caseF (fun hc => ?_) (fun hc => ?_))
      | (refine VCall.mono (i1 _) ?_; rintro r h ⟨rfl, rfl⟩)
      | (refine VCall.mono (i2 _) ?_; rintro r h ⟨rfl, rfl⟩)
end Go.V
namespace Go.V
open Go.Proofs
set_option maxRecDepth 100000
set_option linter.unusedSimpArgs false
set_option linter.unusedVariables false

/-! licitref44.Format. -/
set_option maxHeartbeats 4000000 in
theorem c_refFormat {n : Note} {d : D} (hd : IsNote n d) (hs : n.Sm) (g : Heap) :
    VCall Tryz.prog 10 [d] g fun r h' => h' = g ∧ r = .tuple [.str (fmtS n).1, .int .i64 (fmtS n).2] := by
  have hcheck := c_refCheck hd hs
  obtain ⟨a, b, c, e, rfl, ha, hb, hc0, he⟩ := hd
  have hle0 : ∀ h : Heap, HLe Heap.emp h := fun h i ob e => by cases e
  have la := len_strs ha
  have lb := len_strs hb
  have lc := len_strs hc0
  have le := len_strs he
  have hvp : vpart true 4 [a, b, c, e] 0 = some (.agg [a, b, c, e]) := vpart_whole rfl (by omega)
  refine VCall.of_fn (g := cfg10) mix Tryz.func10 ok10 rfl rfl ?_
  simp only [Tryz.f10, Option.getD_some]
  by_cases h0 : checkS n = 0
  case neg =>
    have e0 : (checkS n == 0) = false := by simpa using h0
    have eF : fmtS n = ([], checkS n) := if_pos h0
    clear h0
    repeat' first
      | (simp only [go_sem, Nat.reduceEqDiff, Int.reduceBEq, Int.reduceLT, Int.reduceLE, Int.reduceGT, Int.reduceGE, ↓reduceIte, Nat.reduceAdd, Nat.zero_add, Nat.reduceBEq, List.getElem?_cons_zero, List.getElem?_cons_succ, List.contains_cons, List.contains_nil, vpart_false, vextract, decide_true, decide_false, bne, Bool.or_false, Bool.or_true, Bool.false_or, Bool.true_or, Bool.or_self, Bool.false_and, Bool.true_and, Bool.and_false, Bool.and_true, Bool.and_self, Bool.not_true, Bool.not_false, Bool.not_not, vfieldAddr, D.notTuple, D.cells, mu10, *])
      | (refine onBH_caseN (fun hc => ?_) (fun hc => ?_))
      | (refine onBH_case (fun hc => ?_) (fun hc => ?_))
      | (refine gifH_caseNT (fun hc => ?_) (fun hc => ?_))
      | (refine gifH_caseNF (fun hc => ?_) (fun hc => ?_))
      | (refine gifH_caseT (fun hc => ?_) (fun hc => ?_))
      | (refine gifH_caseF (fun hc => ?_) (fun hc => ?_))
      | (refine VCall.mono (hcheck _) ?_; rintro r h ⟨rfl, rfl⟩)
  have e0 : (checkS n == 0) = true := by simpa using h0
  have eF : fmtS n = (nl (outL n), 0) := if_neg (by simp [h0])
  rw [eF]
  have hchk := check_ok h0
  have hlic := check_lic h0
  have hout := out_len h0
  have hlz : (n.ls.zip n.ts).length = n.ls.length := by rw [List.length_zip]; omega
  clear eF
  repeat' first
    | (simp only [go_sem, Nat.reduceEqDiff, Int.reduceBEq, Int.reduceLT, Int.reduceLE, Int.reduceGT, Int.reduceGE, ↓reduceIte, Nat.reduceAdd, Nat.zero_add, Nat.reduceBEq, List.getElem?_cons_zero, List.getElem?_cons_succ, List.contains_cons, List.contains_nil, vpart_false, vextract, decide_true, decide_false, bne, Bool.or_false, Bool.or_true, Bool.false_or, Bool.true_or, Bool.or_self, Bool.false_and, Bool.true_and, Bool.and_false, Bool.and_true, Bool.and_self, Bool.not_true, Bool.not_false, Bool.not_not, vfieldAddr, D.notTuple, D.cells, mu10, *])
    | (refine onBH_caseN (fun hc => ?_) (fun hc => ?_))
    | (refine onBH_case (fun hc => ?_) (fun hc => ?_))
    | (refine gifH_caseNT (fun hc => ?_) (fun hc => ?_))
    | (refine gifH_caseNF (fun hc => ?_) (fun hc => ?_))
    | (refine gifH_caseT (fun hc => ?_) (fun hc => ?_))
    | (refine gifH_caseF (fun hc => ?_) (fun hc => ?_))
    | (refine VCall.mono (hcheck _) ?_; rintro r h ⟨rfl, rfl⟩)
  rename Heap => g
  clear hcheck hvp e0 h0
  refine vwp_count (fun i fr h' => fr 1 = .iptr [a, b, c, e] 0 ∧ fr 5 = .str (nl (licsO ((n.ls.zip n.ts).take i))) ∧ fr 6 = .int .i64 (i : Int) ∧ h' = g) n.ls.length (by omega) ?_ ?_ ?_
  · simp only [go_sem, Nat.reduceEqDiff, Int.reduceBEq, Int.reduceLT, Int.reduceLE, Int.reduceGT, Int.reduceGE, ↓reduceIte, Nat.reduceAdd, Nat.zero_add, Nat.reduceBEq, List.getElem?_cons_zero, List.getElem?_cons_succ, List.contains_cons, List.contains_nil, vpart_false, vextract, decide_true, decide_false, bne, Bool.or_false, Bool.or_true, Bool.false_or, Bool.true_or, Bool.or_self, Bool.false_and, Bool.true_and, Bool.and_false, Bool.and_true, Bool.and_self, Bool.not_true, Bool.not_false, Bool.not_not, vfieldAddr, D.notTuple, D.cells, mu10, true_and, and_true, Int.ofNat_zero]
    rfl
  · rintro i fr k hlt e2 ew ⟨f1, f5, f6, rfl⟩
    have hltz : i < (n.ls.zip n.ts).length := by omega
    have hltT : i < n.ts.length := by omega
    have hat1 := at_strs ha hlt
    have hat2 := at_strs hb hltT
    have s2 := hs.ts.2 _ (List.getElem_mem hltT)
    have gz : (n.ls.zip n.ts)[i] = (n.ls[i], n.ts[i]) := List.getElem_zip
    have hq := hlic _ (List.getElem_mem hltz)
    have hroom := nl_room (lic_head hltz)
    have hpart := fun j => lic_part (j := j) hltz
    have hsucc := licsO_succ hltz
    rw [gz] at hq hroom hpart hsucc
    have hq2 := text_len hq.2
    have hq3 := name_len hq.1
    simp only at hq2 hq3 hpart
    have hit := itoa_nat_len (k := (linesS n.ts[i]).length) (by have := hq2.2.1; omega)
    have hdec := fun h => c_refDecimal (n := (linesS n.ts[i]).length) (by have := hq2.2.1; omega) h
    rw [← Lib.itoa_nonneg] at hdec
    generalize hX : licsO ((n.ls.zip n.ts).take i) = X at *
    have a1 : vstr .add (nl X) licW = some (.str (nl X ++ licW)) := vstr_add (by simp only [licW, List.length_append, List.length_cons, List.length_nil]; omega)
    have a2 : vstr .add (nl X ++ licW) n.ls[i] = some (.str (nl X ++ licW ++ n.ls[i])) := vstr_add (by simp only [licW, List.length_append, List.length_cons, List.length_nil]; omega)
    have a3 : vstr .add (nl X ++ licW ++ n.ls[i]) [32] = some (.str (nl X ++ licW ++ n.ls[i] ++ [32])) := vstr_add (by simp only [licW, List.length_append, List.length_cons, List.length_nil]; omega)
    have a4 : vstr .add (nl X ++ licW ++ n.ls[i] ++ [32]) (Lib.itoa ((linesS n.ts[i]).length : Int)) = some (.str (nl X ++ licH (n.ls[i], n.ts[i]))) := by
      rw [vstr_add (by simp only [licW, List.length_append, List.length_cons, List.length_nil]; omega)]
      simp only [licH, List.append_assoc]
    have a5 : vstr .add (nl X ++ licH (n.ls[i], n.ts[i])) [10] = some (.str (nl (X ++ [licH (n.ls[i], n.ts[i])]))) := by
      rw [vstr_add (by simp only [List.length_append, List.length_cons, List.length_nil] at hroom ⊢; omega), nl_snoc, List.append_assoc]
    have a1 : vstr .add (nl X) [108, 105, 99, 101, 110, 115, 101, 32] = some (.str (nl X ++ licW)) := a1
    clear gz hlic hq hltz hlz hX hroom
    repeat' first
      | (simp only [go_sem, Nat.reduceEqDiff, Int.reduceBEq, Int.reduceLT, Int.reduceLE, Int.reduceGT, Int.reduceGE, ↓reduceIte, Nat.reduceAdd, Nat.zero_add, Nat.reduceBEq, List.getElem?_cons_zero, List.getElem?_cons_succ, List.contains_cons, List.contains_nil, vpart_false, vextract, decide_true, decide_false, bne, Bool.or_false, Bool.or_true, Bool.false_or, Bool.true_or, Bool.or_self, Bool.false_and, Bool.true_and, Bool.and_false, Bool.and_true, Bool.and_self, Bool.not_true, Bool.not_false, Bool.not_not, vfieldAddr, D.notTuple, D.cells, mu10, len_strs hr.isSl, *])
      | (simp only [go_sem, Nat.reduceEqDiff, Int.reduceBEq, Int.reduceLT, Int.reduceLE, Int.reduceGT, Int.reduceGE, ↓reduceIte, Nat.reduceAdd, Nat.zero_add, Nat.reduceBEq, List.getElem?_cons_zero, List.getElem?_cons_succ, List.contains_cons, List.contains_nil, vpart_false, vextract, decide_true, decide_false, bne, Bool.or_false, Bool.or_true, Bool.false_or, Bool.true_or, Bool.or_self, Bool.false_and, Bool.true_and, Bool.and_false, Bool.and_true, Bool.and_self, Bool.not_true, Bool.not_false, Bool.not_not, vfieldAddr, D.notTuple, D.cells, mu10, *])
      | (refine onBH_caseN (fun hc => ?_) (fun hc => ?_))
      | (refine onBH_case (fun hc => ?_) (fun hc => ?_))
      | (refine gifH_caseNT (fun hc => ?_) (fun hc => ?_))
      | (refine gifH_caseNF (fun hc => ?_) (fun hc => ?_))
      | (refine gifH_caseT (fun hc => ?_) (fun hc => ?_))
      | (refine gifH_caseF (fun hc => ?_) (fun hc => ?_))
      | (refine VCall.mono (c_refLines44 s2 _) ?_; rintro r h ⟨rfl, hr⟩)
      | (refine VCall.mono (hdec _) ?_; rintro r h ⟨rfl, rfl⟩)
    refine vwp_plan Heap.emp [(0, .no, true), (1, .no, true), (2, .no, true), (3, .st, true), (4, .no, true), (5, .no, true), (6, .st, true), (7, .no, true), (8, .no, true), (9, .no, true), (10, .no, true), (11, .no, true), (12, .no, true), (13, .no, true), (14, .no, true)] (by kernel_rfl) (by kernel_rfl) (fun i ob e => by cases e) ?_
    repeat' first
      | (simp only [go_sem, Nat.reduceEqDiff, Int.reduceBEq, Int.reduceLT, Int.reduceLE, Int.reduceGT, Int.reduceGE, ↓reduceIte, Nat.reduceAdd, Nat.zero_add, Nat.reduceBEq, List.getElem?_cons_zero, List.getElem?_cons_succ, List.contains_cons, List.contains_nil, vpart_false, vextract, decide_true, decide_false, bne, Bool.or_false, Bool.or_true, Bool.false_or, Bool.true_or, Bool.or_self, Bool.false_and, Bool.true_and, Bool.and_false, Bool.and_true, Bool.and_self, Bool.not_true, Bool.not_false, Bool.not_not, vfieldAddr, D.notTuple, D.cells, mu10, len_strs hr.isSl, *])
      | (refine onBH_caseN (fun hc => ?_) (fun hc => ?_))
      | (refine onBH_case (fun hc => ?_) (fun hc => ?_))
      | (refine gifH_caseNT (fun hc => ?_) (fun hc => ?_))
      | (refine gifH_caseNF (fun hc => ?_) (fun hc => ?_))
      | (refine gifH_caseT (fun hc => ?_) (fun hc => ?_))
      | (refine gifH_caseF (fun hc => ?_) (fun hc => ?_))
      | (refine VCall.mono (hdec _) ?_; rintro r h ⟨rfl, rfl⟩)
    clear hdec a1 a2 a3 a4 a5 hit hq3
    have lr := len_strs hr.isSl
    refine vwp_count (fun j fr k => fr 1 = .iptr [a, b, c, e] 0 ∧ fr 5 = .str (nl (X ++ licH (n.ls[i], n.ts[i]) :: (linesS n.ts[i]).take j)) ∧ fr 6 = .int .i64 (i : Int) ∧ fr 7 = r ∧ fr 8 = .int .i64 (j : Int) ∧ k = h) (linesS n.ts[i]).length (by omega) ?_ ?_ ?_
    · simp only [go_sem, Nat.reduceEqDiff, Int.reduceBEq, Int.reduceLT, Int.reduceLE, Int.reduceGT, Int.reduceGE, ↓reduceIte, Nat.reduceAdd, Nat.zero_add, Nat.reduceBEq, List.getElem?_cons_zero, List.getElem?_cons_succ, List.contains_cons, List.contains_nil, vpart_false, vextract, decide_true, decide_false, bne, Bool.or_false, Bool.or_true, Bool.false_or, Bool.true_or, Bool.or_self, Bool.false_and, Bool.true_and, Bool.and_false, Bool.and_true, Bool.and_self, Bool.not_true, Bool.not_false, Bool.not_not, vfieldAddr, D.notTuple, D.cells, mu10, true_and, and_true, Int.ofNat_zero]
      exact ⟨f1, rfl, f6⟩
    · clear hsucc e2 ew f1 f5 f6 hat1 hat2
      rintro j fr k hlj e2 ew ⟨f1, f5, f6, f7, f8, rfl⟩
      have hat1 := at_strs hr.isSl hlj
      have hroom := nl_room (hpart j hlj)
      rw [List.length_append] at hroom
      have hsj : nl (X ++ licH (n.ls[i], n.ts[i]) :: (linesS n.ts[i]).take (j + 1)) = nl (X ++ licH (n.ls[i], n.ts[i]) :: (linesS n.ts[i]).take j) ++ (linesS n.ts[i])[j] ++ [10] := by
        have e : X ++ licH (n.ls[i], n.ts[i]) :: (linesS n.ts[i]).take (j + 1) = X ++ licH (n.ls[i], n.ts[i]) :: (linesS n.ts[i]).take j ++ [(linesS n.ts[i])[j]] := by
          rw [List.take_succ_eq_append_getElem hlj]
          simp only [List.append_assoc, List.cons_append]
        rw [e, nl_snoc, List.append_assoc]
      generalize nl (X ++ licH (n.ls[i], n.ts[i]) :: (linesS n.ts[i]).take j) = Y at *
      generalize nl (X ++ licH (n.ls[i], n.ts[i]) :: (linesS n.ts[i]).take (j + 1)) = Z at *
      have a1 : vstr .add Y (linesS n.ts[i])[j] = some (.str (Y ++ (linesS n.ts[i])[j])) := vstr_add (by omega)
      have a4 : vstr .add (Y ++ (linesS n.ts[i])[j]) [10] = some (.str Z) := by
        rw [vstr_add (by simp only [List.length_append, List.length_cons, List.length_nil] at hroom ⊢; omega), hsj]
      clear hpart hsj
      repeat' first
        | (simp only [go_sem, Nat.reduceEqDiff, Int.reduceBEq, Int.reduceLT, Int.reduceLE, Int.reduceGT, Int.reduceGE, ↓reduceIte, Nat.reduceAdd, Nat.zero_add, Nat.reduceBEq, List.getElem?_cons_zero, List.getElem?_cons_succ, List.contains_cons, List.contains_nil, vpart_false, vextract, decide_true, decide_false, bne, Bool.or_false, Bool.or_true, Bool.false_or, Bool.true_or, Bool.or_self, Bool.false_and, Bool.true_and, Bool.and_false, Bool.and_true, Bool.and_self, Bool.not_true, Bool.not_false, Bool.not_not, vfieldAddr, D.notTuple, D.cells, mu10, *])
        | (refine onBH_caseN (fun hc => ?_) (fun hc => ?_))
        | (refine onBH_case (fun hc => ?_) (fun hc => ?_))
        | (refine gifH_caseNT (fun hc => ?_) (fun hc => ?_))
        | (refine gifH_caseNF (fun hc => ?_) (fun hc => ?_))
        | (refine gifH_caseT (fun hc => ?_) (fun hc => ?_))
        | (refine gifH_caseF (fun hc => ?_) (fun hc => ?_))
    · clear hpart e2 f1 f5 f6 hat1 hat2
      rintro fr k e2 ⟨f1, f5, f6, f7, f8, rfl⟩
      rw [List.take_length] at f5
      have f5 : fr 5 = .str (nl (X ++ licO (n.ls[i], n.ts[i]))) := f5
      repeat' first
        | (simp only [go_sem, Nat.reduceEqDiff, Int.reduceBEq, Int.reduceLT, Int.reduceLE, Int.reduceGT, Int.reduceGE, ↓reduceIte, Nat.reduceAdd, Nat.zero_add, Nat.reduceBEq, List.getElem?_cons_zero, List.getElem?_cons_succ, List.contains_cons, List.contains_nil, vpart_false, vextract, decide_true, decide_false, bne, Bool.or_false, Bool.or_true, Bool.false_or, Bool.true_or, Bool.or_self, Bool.false_and, Bool.true_and, Bool.and_false, Bool.and_true, Bool.and_self, Bool.not_true, Bool.not_false, Bool.not_not, vfieldAddr, D.notTuple, D.cells, mu10, *])
        | (refine onBH_caseN (fun hc => ?_) (fun hc => ?_))
        | (refine onBH_case (fun hc => ?_) (fun hc => ?_))
        | (refine gifH_caseNT (fun hc => ?_) (fun hc => ?_))
        | (refine gifH_caseNF (fun hc => ?_) (fun hc => ?_))
        | (refine gifH_caseT (fun hc => ?_) (fun hc => ?_))
        | (refine gifH_caseF (fun hc => ?_) (fun hc => ?_))
      rfl
  · rintro fr k e2 ⟨f1, f5, f6, rfl⟩
    have f5 : fr 5 = .str (nl (licsO (n.ls.zip n.ts) ++ (n.hs.take 0).map holdO)) := by
      rw [← hlz, List.take_length] at f5
      simpa using f5
    clear hlz hlic
    simp only [go_sem, Nat.reduceEqDiff, Int.reduceBEq, Int.reduceLT, Int.reduceLE, Int.reduceGT, Int.reduceGE, ↓reduceIte, Nat.reduceAdd, Nat.zero_add, Nat.reduceBEq, List.getElem?_cons_zero, List.getElem?_cons_succ, List.contains_cons, List.contains_nil, vpart_false, vextract, decide_true, decide_false, bne, Bool.or_false, Bool.or_true, Bool.false_or, Bool.true_or, Bool.or_self, Bool.false_and, Bool.true_and, Bool.and_false, Bool.and_true, Bool.and_self, Bool.not_true, Bool.not_false, Bool.not_not, vfieldAddr, D.notTuple, D.cells, mu10, f1, f5, f6, e2, la]
    refine vwp_count (fun i fr h' => fr 1 = .iptr [a, b, c, e] 0 ∧ fr 5 = .str (nl (licsO (n.ls.zip n.ts) ++ (n.hs.take i).map holdO)) ∧ fr 9 = .int .i64 (i : Int) ∧ h' = k) n.hs.length (by omega) ?_ ?_ ?_
    · simp only [go_sem, Nat.reduceEqDiff, Int.reduceBEq, Int.reduceLT, Int.reduceLE, Int.reduceGT, Int.reduceGE, ↓reduceIte, Nat.reduceAdd, Nat.zero_add, Nat.reduceBEq, List.getElem?_cons_zero, List.getElem?_cons_succ, List.contains_cons, List.contains_nil, vpart_false, vextract, decide_true, decide_false, bne, Bool.or_false, Bool.or_true, Bool.false_or, Bool.true_or, Bool.or_self, Bool.false_and, Bool.true_and, Bool.and_false, Bool.and_true, Bool.and_self, Bool.not_true, Bool.not_false, Bool.not_not, vfieldAddr, D.notTuple, D.cells, mu10, true_and, and_true, Int.ofNat_zero]
      exact ⟨f1, f5⟩
    · clear e2 f1 f5 f6
      rintro i fr k hlt e2 ew ⟨f1, f5, f9, rfl⟩
      have hat1 := at_strs hc0 hlt
      have hroom := nl_room (hold_split hlt)
      rw [List.length_append, holdO, List.length_append, List.length_append] at hroom
      simp only [holdW, List.length_cons, List.length_nil] at hroom
      have hsj : nl (licsO (n.ls.zip n.ts) ++ (n.hs.take (i + 1)).map holdO) = nl (licsO (n.ls.zip n.ts) ++ (n.hs.take i).map holdO) ++ (holdO n.hs[i] ++ [10]) := by
        rw [List.take_succ_eq_append_getElem hlt, List.map_append, ← List.append_assoc]; exact nl_snoc _ _
      generalize nl (licsO (n.ls.zip n.ts) ++ (n.hs.take i).map holdO) = Y at *
      generalize nl (licsO (n.ls.zip n.ts) ++ (n.hs.take (i + 1)).map holdO) = Z at *
      have a1 : vstr .add Y [104, 111, 108, 100, 101, 114, 32] = some (.str (Y ++ [104, 111, 108, 100, 101, 114, 32])) := vstr_add (by simp only [List.length_cons, List.length_nil]; omega)
      have a2 : vstr .add (Y ++ [104, 111, 108, 100, 101, 114, 32]) n.hs[i] = some (.str (Y ++ holdO n.hs[i])) := by
        rw [vstr_add (by simp only [List.length_append, List.length_cons, List.length_nil]; omega), List.append_assoc]; rfl
      have a4 : vstr .add (Y ++ holdO n.hs[i]) [10] = some (.str Z) := by
        rw [vstr_add (by simp only [holdO, holdW, List.length_append, List.length_cons, List.length_nil]; omega), hsj, List.append_assoc]
      clear hsj hroom
      repeat' first
        | (simp only [go_sem, Nat.reduceEqDiff, Int.reduceBEq, Int.reduceLT, Int.reduceLE, Int.reduceGT, Int.reduceGE, ↓reduceIte, Nat.reduceAdd, Nat.zero_add, Nat.reduceBEq, List.getElem?_cons_zero, List.getElem?_cons_succ, List.contains_cons, List.contains_nil, vpart_false, vextract, decide_true, decide_false, bne, Bool.or_false, Bool.or_true, Bool.false_or, Bool.true_or, Bool.or_self, Bool.false_and, Bool.true_and, Bool.and_false, Bool.and_true, Bool.and_self, Bool.not_true, Bool.not_false, Bool.not_not, vfieldAddr, D.notTuple, D.cells, mu10, *])
        | (refine onBH_caseN (fun hc => ?_) (fun hc => ?_))
        | (refine onBH_case (fun hc => ?_) (fun hc => ?_))
        | (refine gifH_caseNT (fun hc => ?_) (fun hc => ?_))
        | (refine gifH_caseNF (fun hc => ?_) (fun hc => ?_))
        | (refine gifH_caseT (fun hc => ?_) (fun hc => ?_))
        | (refine gifH_caseF (fun hc => ?_) (fun hc => ?_))
      all_goals
        refine vwp_text (by kernel_rfl) ?_
        repeat' first
          | (simp only [go_sem, Nat.reduceEqDiff, Int.reduceBEq, Int.reduceLT, Int.reduceLE, Int.reduceGT, Int.reduceGE, ↓reduceIte, Nat.reduceAdd, Nat.zero_add, Nat.reduceBEq, List.getElem?_cons_zero, List.getElem?_cons_succ, List.contains_cons, List.contains_nil, vpart_false, vextract, decide_true, decide_false, bne, Bool.or_false, Bool.or_true, Bool.false_or, Bool.true_or, Bool.or_self, Bool.false_and, Bool.true_and, Bool.and_false, Bool.and_true, Bool.and_self, Bool.not_true, Bool.not_false, Bool.not_not, vfieldAddr, D.notTuple, D.cells, mu10, *])
          | (refine onBH_caseN (fun hc => ?_) (fun hc => ?_))
          | (refine onBH_case (fun hc => ?_) (fun hc => ?_))
          | (refine gifH_caseNT (fun hc => ?_) (fun hc => ?_))
          | (refine gifH_caseNF (fun hc => ?_) (fun hc => ?_))
          | (refine gifH_caseT (fun hc => ?_) (fun hc => ?_))
          | (refine gifH_caseF (fun hc => ?_) (fun hc => ?_))
    clear e2 f1 f5 f6
    rintro fr k e2 ⟨f1, f5, f9, rfl⟩
    have f5 : fr 5 = .str (nl (licsO (n.ls.zip n.ts) ++ n.hs.map holdO ++ (n.cs.take 0).map chgO)) := by
      rw [List.take_length] at f5
      simpa using f5
    simp only [go_sem, Nat.reduceEqDiff, Int.reduceBEq, Int.reduceLT, Int.reduceLE, Int.reduceGT, Int.reduceGE, ↓reduceIte, Nat.reduceAdd, Nat.zero_add, Nat.reduceBEq, List.getElem?_cons_zero, List.getElem?_cons_succ, List.contains_cons, List.contains_nil, vpart_false, vextract, decide_true, decide_false, bne, Bool.or_false, Bool.or_true, Bool.false_or, Bool.true_or, Bool.or_self, Bool.false_and, Bool.true_and, Bool.and_false, Bool.and_true, Bool.and_self, Bool.not_true, Bool.not_false, Bool.not_not, vfieldAddr, D.notTuple, D.cells, mu10, f1, f5, f9, e2, lc]
    refine vwp_count (fun i fr h' => fr 1 = .iptr [a, b, c, e] 0 ∧ fr 5 = .str (nl (licsO (n.ls.zip n.ts) ++ n.hs.map holdO ++ (n.cs.take i).map chgO)) ∧ fr 10 = .int .i64 (i : Int) ∧ h' = k) n.cs.length (by omega) ?_ ?_ ?_
    · simp only [go_sem, Nat.reduceEqDiff, Int.reduceBEq, Int.reduceLT, Int.reduceLE, Int.reduceGT, Int.reduceGE, ↓reduceIte, Nat.reduceAdd, Nat.zero_add, Nat.reduceBEq, List.getElem?_cons_zero, List.getElem?_cons_succ, List.contains_cons, List.contains_nil, vpart_false, vextract, decide_true, decide_false, bne, Bool.or_false, Bool.or_true, Bool.false_or, Bool.true_or, Bool.or_self, Bool.false_and, Bool.true_and, Bool.and_false, Bool.and_true, Bool.and_self, Bool.not_true, Bool.not_false, Bool.not_not, vfieldAddr, D.notTuple, D.cells, mu10, true_and, and_true, Int.ofNat_zero]
      exact ⟨f1, f5⟩
    · clear e2 f1 f5 f9
      rintro i fr k hlt e2 ew ⟨f1, f5, f10, rfl⟩
      have hat1 := at_strs he hlt
      have hroom := nl_room (chg_split hlt)
      rw [List.length_append, chgO, List.length_append, List.length_append] at hroom
      simp only [chgW, List.length_cons, List.length_nil] at hroom
      have hsj : nl (licsO (n.ls.zip n.ts) ++ n.hs.map holdO ++ (n.cs.take (i + 1)).map chgO) = nl (licsO (n.ls.zip n.ts) ++ n.hs.map holdO ++ (n.cs.take i).map chgO) ++ (chgO n.cs[i] ++ [10]) := by
        rw [List.take_succ_eq_append_getElem hlt, List.map_append, ← List.append_assoc]; exact nl_snoc _ _
      generalize nl (licsO (n.ls.zip n.ts) ++ n.hs.map holdO ++ (n.cs.take i).map chgO) = Y at *
      generalize nl (licsO (n.ls.zip n.ts) ++ n.hs.map holdO ++ (n.cs.take (i + 1)).map chgO) = Z at *
      have a1 : vstr .add Y [99, 104, 97, 110, 103, 101, 32] = some (.str (Y ++ [99, 104, 97, 110, 103, 101, 32])) := vstr_add (by simp only [List.length_cons, List.length_nil]; omega)
      have a2 : vstr .add (Y ++ [99, 104, 97, 110, 103, 101, 32]) n.cs[i] = some (.str (Y ++ chgO n.cs[i])) := by
        rw [vstr_add (by simp only [List.length_append, List.length_cons, List.length_nil]; omega), List.append_assoc]; rfl
      have a4 : vstr .add (Y ++ chgO n.cs[i]) [10] = some (.str Z) := by
        rw [vstr_add (by simp only [chgO, chgW, List.length_append, List.length_cons, List.length_nil]; omega), hsj, List.append_assoc]
      clear hsj hroom
      repeat' first
        | (simp only [go_sem, Nat.reduceEqDiff, Int.reduceBEq, Int.reduceLT, Int.reduceLE, Int.reduceGT, Int.reduceGE, ↓reduceIte, Nat.reduceAdd, Nat.zero_add, Nat.reduceBEq, List.getElem?_cons_zero, List.getElem?_cons_succ, List.contains_cons, List.contains_nil, vpart_false, vextract, decide_true, decide_false, bne, Bool.or_false, Bool.or_true, Bool.false_or, Bool.true_or, Bool.or_self, Bool.false_and, Bool.true_and, Bool.and_false, Bool.and_true, Bool.and_self, Bool.not_true, Bool.not_false, Bool.not_not, vfieldAddr, D.notTuple, D.cells, mu10, *])
        | (refine onBH_caseN (fun hc => ?_) (fun hc => ?_))
        | (refine onBH_case (fun hc => ?_) (fun hc => ?_))
        | (refine gifH_caseNT (fun hc => ?_) (fun hc => ?_))
        | (refine gifH_caseNF (fun hc => ?_) (fun hc => ?_))
        | (refine gifH_caseT (fun hc => ?_) (fun hc => ?_))
        | (refine gifH_caseF (fun hc => ?_) (fun hc => ?_))
      all_goals
        refine vwp_text (by kernel_rfl) ?_
        repeat' first
          | (simp only [go_sem, Nat.reduceEqDiff, Int.reduceBEq, Int.reduceLT, Int.reduceLE, Int.reduceGT, Int.reduceGE, ↓reduceIte, Nat.reduceAdd, Nat.zero_add, Nat.reduceBEq, List.getElem?_cons_zero, List.getElem?_cons_succ, List.contains_cons, List.contains_nil, vpart_false, vextract, decide_true, decide_false, bne, Bool.or_false, Bool.or_true, Bool.false_or, Bool.true_or, Bool.or_self, Bool.false_and, Bool.true_and, Bool.and_false, Bool.and_true, Bool.and_self, Bool.not_true, Bool.not_false, Bool.not_not, vfieldAddr, D.notTuple, D.cells, mu10, *])
          | (refine onBH_caseN (fun hc => ?_) (fun hc => ?_))
          | (refine onBH_case (fun hc => ?_) (fun hc => ?_))
          | (refine gifH_caseNT (fun hc => ?_) (fun hc => ?_))
          | (refine gifH_caseNF (fun hc => ?_) (fun hc => ?_))
          | (refine gifH_caseT (fun hc => ?_) (fun hc => ?_))
          | (refine gifH_caseF (fun hc => ?_) (fun hc => ?_))
    clear e2 f1 f5 f9
    rintro fr k e2 ⟨f1, f5, f10, rfl⟩
    have f5 : fr 5 = .str (nl (outL n)) := by
      rw [List.take_length] at f5
      exact f5
    simp only [go_sem, Nat.reduceEqDiff, Int.reduceBEq, Int.reduceLT, Int.reduceLE, Int.reduceGT, Int.reduceGE, ↓reduceIte, Nat.reduceAdd, Nat.zero_add, Nat.reduceBEq, List.getElem?_cons_zero, List.getElem?_cons_succ, List.contains_cons, List.contains_nil, vpart_false, vextract, decide_true, decide_false, bne, Bool.or_false, Bool.or_true, Bool.false_or, Bool.true_or, Bool.or_self, Bool.false_and, Bool.true_and, Bool.and_false, Bool.and_true, Bool.and_self, Bool.not_true, Bool.not_false, Bool.not_not, vfieldAddr, D.notTuple, D.cells, mu10, f1, f5, f10, e2, le]
end Go.V
