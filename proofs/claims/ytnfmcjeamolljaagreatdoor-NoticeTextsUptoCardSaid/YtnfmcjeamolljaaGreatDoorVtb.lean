/- The contract of notice.Format. No condition. -/
import Derived.Test.YtnfmcjeamolljaaGreatDoorVta
import Derived.Test.YtnfmcjeamolljaaGreatDoorVna
import Derived.Test.YtnfmcjeamolljaaGreatDoorVrc
import Derived.Test.YtnfmcjeamolljaaGreatDoorVhF
set_option linter.unusedSimpArgs false
set_option linter.unusedVariables false
set_option linter.constructorNameAsVariable false
set_option linter.deprecated false
namespace Go.V
open Go.Proofs
set_option maxRecDepth 100000
set_option linter.unusedSimpArgs false
set_option linter.unusedVariables false

/-! notice.Format. -/
theorem take_drop {α : Type} {l : List α} {i : Nat} (hi : i < l.length) : l.take i ++ l[i] :: l.drop (i + 1) = l := by
  rw [← List.drop_eq_getElem_cons hi, List.take_append_drop]
theorem licsO_succ {l : List (List UInt8 × List UInt8)} {i : Nat} (hi : i < l.length) : licsO (l.take (i + 1)) = licsO (l.take i) ++ licO l[i] := by
  rw [licsO, List.take_succ_eq_append_getElem hi, List.flatMap_append]
  simp only [licsO, List.flatMap_cons, List.flatMap_nil, List.append_nil]
theorem lic_split {n : Note} {i : Nat} (hi : i < (n.ls.zip n.ts).length) : ∃ R, outL n = licsO ((n.ls.zip n.ts).take i) ++ (licO (n.ls.zip n.ts)[i] ++ R) := by
  unfold outL
  generalize n.ls.zip n.ts = l at *
  refine ⟨licsO (l.drop (i + 1)) ++ n.hs.map holdO ++ n.cs.map chgO, ?_⟩
  have h1 := congrArg licsO (take_drop hi)
  simp only [licsO, List.flatMap_append, List.flatMap_cons] at h1 ⊢
  rw [← h1]
  simp only [List.append_assoc]
theorem lic_part {n : Note} {i : Nat} (hi : i < (n.ls.zip n.ts).length) {j : Nat} (hj : j < (linesS (n.ls.zip n.ts)[i].2).length) : licsO ((n.ls.zip n.ts).take i) ++ licH (n.ls.zip n.ts)[i] :: (linesS (n.ls.zip n.ts)[i].2).take j ++ [(linesS (n.ls.zip n.ts)[i].2)[j]] <+: outL n := by
  obtain ⟨R, hR⟩ := lic_split hi
  rw [hR, licO]
  generalize (n.ls.zip n.ts)[i] = p at *
  refine ⟨(linesS p.2).drop (j + 1) ++ R, ?_⟩
  have h1 := take_drop hj
  conv => rhs; rw [← h1]
  simp only [List.append_assoc, List.cons_append, List.nil_append]
theorem lic_head {n : Note} {i : Nat} (hi : i < (n.ls.zip n.ts).length) : licsO ((n.ls.zip n.ts).take i) ++ [licH (n.ls.zip n.ts)[i]] <+: outL n := by
  obtain ⟨R, hR⟩ := lic_split hi
  refine ⟨linesS (n.ls.zip n.ts)[i].2 ++ R, ?_⟩
  rw [hR, licO]
  simp only [List.append_assoc, List.cons_append, List.nil_append]
theorem hold_split {n : Note} {i : Nat} (hi : i < n.hs.length) : licsO (n.ls.zip n.ts) ++ (n.hs.take i).map holdO ++ [holdO n.hs[i]] <+: outL n := by
  refine ⟨(n.hs.drop (i + 1)).map holdO ++ n.cs.map chgO, ?_⟩
  have h1 := congrArg (List.map holdO) (take_drop hi)
  rw [List.map_append, List.map_cons] at h1
  unfold outL
  rw [← h1]
  simp only [List.append_assoc, List.cons_append, List.nil_append]
theorem chg_split {n : Note} {i : Nat} (hi : i < n.cs.length) : licsO (n.ls.zip n.ts) ++ n.hs.map holdO ++ (n.cs.take i).map chgO ++ [chgO n.cs[i]] <+: outL n := by
  refine ⟨(n.cs.drop (i + 1)).map chgO, ?_⟩
  have h1 := congrArg (List.map chgO) (take_drop hi)
  rw [List.map_append, List.map_cons] at h1
  unfold outL
  rw [← h1]
  simp only [List.append_assoc, List.cons_append, List.nil_append]
theorem bld_new (h : Heap) : Bld h (h.new h.next (.trow 76 true [.nilptr, .nilsl])) h.next (nl []) :=
  ⟨Nat.le_refl _, by rw [next_new_eq]; omega, (Ext.refl h).new (Nat.le_refl _) _, .nilptr, .nilsl, new_at _ _ _, .inl rfl, .inl ⟨rfl, rfl⟩⟩

set_option maxHeartbeats 4000000 in
theorem c_format {n : Note} {d : D} (hd : IsNote n d) (hs : n.Sm) (g : Heap) :
    VCall Tryz.prog 9 [d] g fun r h' => h' = g ∧ r = .tuple [.str (fmtS n).1, .int .i64 (fmtS n).2] := by
  refine VCall.pure (by kernel_rfl) fun hok => ?_
  have hcheck := c_check hd hs
  obtain ⟨a, b, c, e, rfl, ha, hb, hc0, he⟩ := hd
  have la := len_strs ha
  have lb := len_strs hb
  have lc := len_strs hc0
  have le := len_strs he
  have hvp : vpart true 4 [a, b, c, e] 0 = some (.agg [a, b, c, e]) := vpart_whole rfl (by omega)
  have hbel : ∀ (s : List UInt8) (k : Int), below g.next (.tuple [.str s, .int .i64 k]) := fun s k => by simp [below, belowL]
  have hE0 : Ext g g := Ext.refl g
  refine VCall.of_fn (g := cfg9) mix Tryz.func9 ok9 rfl rfl ?_
  simp only [Tryz.f9, Option.getD_some]
  by_cases h0 : checkS n = 0
  case neg =>
    have e0 : (checkS n == 0) = false := by simpa using h0
    have eF : fmtS n = ([], checkS n) := if_pos h0
    clear h0
    repeat' first
      | (simp only [go_sem, Nat.reduceEqDiff, Int.reduceBEq, Int.reduceLT, Int.reduceLE, Int.reduceGT, Int.reduceGE, ↓reduceIte, Nat.reduceAdd, Nat.zero_add, Nat.reduceBEq, List.getElem?_cons_zero, List.getElem?_cons_succ, List.contains_cons, List.contains_nil, vpart_false, vextract, decide_true, decide_false, bne, Bool.or_false, Bool.or_true, Bool.false_or, Bool.true_or, Bool.or_self, Bool.false_and, Bool.true_and, Bool.and_false, Bool.and_true, Bool.and_self, Bool.not_true, Bool.not_false, Bool.not_not, vfieldAddr, D.notTuple, D.cells, mu9, hbel, *])
      | (refine onBH_caseN (fun hc => ?_) (fun hc => ?_))
      | (refine onBH_case (fun hc => ?_) (fun hc => ?_))
      | (refine gifH_caseNT (fun hc => ?_) (fun hc => ?_))
      | (refine gifH_caseNF (fun hc => ?_) (fun hc => ?_))
      | (refine gifH_caseT (fun hc => ?_) (fun hc => ?_))
      | (refine gifH_caseF (fun hc => ?_) (fun hc => ?_))
      | (refine VCall.mono (hcheck _) ?_; rintro r h ⟨rfl, rfl⟩)
  have e0 : (checkS n == 0) = true := by simpa using h0
  have eF : fmtS n = (nl (outL n), 0) := if_neg (by simp [h0])
  rw [eF]
  have hchk := check_ok h0
  have hlic := check_lic h0
  have hout := out_len h0
  have hlz : (n.ls.zip n.ts).length = n.ls.length := by rw [List.length_zip]; omega
  have hB0 := bld_new g
  have eL0 : nl (licsO ((n.ls.zip n.ts).take 0)) = nl [] := rfl
  have hob := objOf_bld
  clear eF
  repeat' first
    | (simp only [go_sem, Nat.reduceEqDiff, Int.reduceBEq, Int.reduceLT, Int.reduceLE, Int.reduceGT, Int.reduceGE, ↓reduceIte, Nat.reduceAdd, Nat.zero_add, Nat.reduceBEq, List.getElem?_cons_zero, List.getElem?_cons_succ, List.contains_cons, List.contains_nil, vpart_false, vextract, decide_true, decide_false, bne, Bool.or_false, Bool.or_true, Bool.false_or, Bool.true_or, Bool.or_self, Bool.false_and, Bool.true_and, Bool.and_false, Bool.and_true, Bool.and_self, Bool.not_true, Bool.not_false, Bool.not_not, vfieldAddr, D.notTuple, D.cells, mu9, hbel, *])
    | (refine onBH_caseN (fun hc => ?_) (fun hc => ?_))
    | (refine onBH_case (fun hc => ?_) (fun hc => ?_))
    | (refine gifH_caseNT (fun hc => ?_) (fun hc => ?_))
    | (refine gifH_caseNF (fun hc => ?_) (fun hc => ?_))
    | (refine gifH_caseT (fun hc => ?_) (fun hc => ?_))
    | (refine gifH_caseF (fun hc => ?_) (fun hc => ?_))
    | (refine VCall.mono (hcheck _) ?_; rintro r h ⟨rfl, rfl⟩)
  rename Heap => g
  clear hcheck hok hob hvp eL0 e0 h0
  obtain ⟨H, hH⟩ : ∃ H, g.new g.next (.trow 76 true [.nilptr, .nilsl]) = H := ⟨_, rfl⟩
  rw [hH] at hB0 ⊢
  clear hH
  refine vwp_count (fun i fr h' => fr 1 = .iptr [a, b, c, e] 0 ∧ fr 5 = .ptr g.next 0 ∧ fr 21 = a ∧ fr 22 = .int .i64 (n.ls.length : Int) ∧ fr 23 = .int .i64 (i : Int) ∧ Bld g h' g.next (nl (licsO ((n.ls.zip n.ts).take i)))) n.ls.length (by omega) ?_ ?_ ?_
  · simp only [go_sem, Nat.reduceEqDiff, Int.reduceBEq, Int.reduceLT, Int.reduceLE, Int.reduceGT, Int.reduceGE, ↓reduceIte, Nat.reduceAdd, Nat.zero_add, Nat.reduceBEq, List.getElem?_cons_zero, List.getElem?_cons_succ, List.contains_cons, List.contains_nil, vpart_false, vextract, decide_true, decide_false, bne, Bool.or_false, Bool.or_true, Bool.false_or, Bool.true_or, Bool.or_self, Bool.false_and, Bool.true_and, Bool.and_false, Bool.and_true, Bool.and_self, Bool.not_true, Bool.not_false, Bool.not_not, vfieldAddr, D.notTuple, D.cells, mu9, true_and, and_true, Int.ofNat_zero]
    exact hB0
  · clear hB0
    rintro i fr k hlt e2 ew ⟨f1, f5, f21, f22, f23, hB⟩
    have hltz : i < (n.ls.zip n.ts).length := by omega
    have hltT : i < n.ts.length := by omega
    have hat1 := at_strs ha hlt
    have hat2 := at_strs hb hltT
    have s2 := hs.ts.2 _ (List.getElem_mem hltT)
    have gz : (n.ls.zip n.ts)[i] = (n.ls[i], n.ts[i]) := List.getElem_zip
    have hq := hlic _ (List.getElem_mem hltz)
    have hroom := nl_room (lic_head hltz)
    have hpart := fun j => lic_part (j := j) hltz
    have hsucc := licsO_succ hltz
    rw [gz] at hq hroom hpart hsucc
    have hq2 := text_len hq.2
    have hq3 := name_len hq.1
    simp only at hq2 hq3 hpart
    have hit := itoa_nat_len (k := (linesS n.ts[i]).length) (by have := hq2.2.1; omega)
    have hws := c_ws hB (s := licH (n.ls[i], n.ts[i]) ++ [10]) (by omega)
    have hitoa := fun h => l_itoa (n := ((linesS n.ts[i]).length : Int)) (by omega) (by have := hq2.2.1; omega) (by omega) h
    have a1 : vstr .add licW n.ls[i] = some (.str (licW ++ n.ls[i])) := vstr_add (by simp only [licW, List.length_cons, List.length_nil]; omega)
    have a2 : vstr .add (licW ++ n.ls[i]) [32] = some (.str (licW ++ n.ls[i] ++ [32])) := vstr_add (by simp only [licW, List.length_append, List.length_cons, List.length_nil]; omega)
    have a3 : vstr .add (licW ++ n.ls[i] ++ [32]) (Lib.itoa ((linesS n.ts[i]).length : Int)) = some (.str (licH (n.ls[i], n.ts[i]))) := vstr_add (by simp only [licW, List.length_append, List.length_cons, List.length_nil]; omega)
    have a4 : vstr .add (licH (n.ls[i], n.ts[i])) [10] = some (.str (licH (n.ls[i], n.ts[i]) ++ [10])) := vstr_add (by simp only [List.length_append, List.length_cons, List.length_nil] at hroom ⊢; omega)
    have a1 : vstr .add [108, 105, 99, 101, 110, 115, 101, 32] n.ls[i] = some (.str (licW ++ n.ls[i])) := a1
    clear gz hlic hq hB hltz hlz
    repeat' first
      | (simp only [go_sem, Nat.reduceEqDiff, Int.reduceBEq, Int.reduceLT, Int.reduceLE, Int.reduceGT, Int.reduceGE, ↓reduceIte, Nat.reduceAdd, Nat.zero_add, Nat.reduceBEq, List.getElem?_cons_zero, List.getElem?_cons_succ, List.contains_cons, List.contains_nil, vpart_false, vextract, decide_true, decide_false, bne, Bool.or_false, Bool.or_true, Bool.false_or, Bool.true_or, Bool.or_self, Bool.false_and, Bool.true_and, Bool.and_false, Bool.and_true, Bool.and_self, Bool.not_true, Bool.not_false, Bool.not_not, vfieldAddr, D.notTuple, D.cells, mu9, len_strs hr.isSl, *])
      | (simp only [go_sem, Nat.reduceEqDiff, Int.reduceBEq, Int.reduceLT, Int.reduceLE, Int.reduceGT, Int.reduceGE, ↓reduceIte, Nat.reduceAdd, Nat.zero_add, Nat.reduceBEq, List.getElem?_cons_zero, List.getElem?_cons_succ, List.contains_cons, List.contains_nil, vpart_false, vextract, decide_true, decide_false, bne, Bool.or_false, Bool.or_true, Bool.false_or, Bool.true_or, Bool.or_self, Bool.false_and, Bool.true_and, Bool.and_false, Bool.and_true, Bool.and_self, Bool.not_true, Bool.not_false, Bool.not_not, vfieldAddr, D.notTuple, D.cells, mu9, *])
      | (refine onBH_caseN (fun hc => ?_) (fun hc => ?_))
      | (refine onBH_case (fun hc => ?_) (fun hc => ?_))
      | (refine gifH_caseNT (fun hc => ?_) (fun hc => ?_))
      | (refine gifH_caseNF (fun hc => ?_) (fun hc => ?_))
      | (refine gifH_caseT (fun hc => ?_) (fun hc => ?_))
      | (refine gifH_caseF (fun hc => ?_) (fun hc => ?_))
      | (refine VCall.mono (c_lines s2 _) ?_; rintro r h ⟨rfl, hr⟩)
      | (refine VCall.mono (hitoa _) ?_; rintro r h ⟨rfl, rfl⟩)
    refine hws.mono ?_
    rintro x k hB
    rw [← nl_snoc] at hB
    rename D => y
    rename Fin 1 (strs (linesS n.ts[i])) r => hr
    clear hws hitoa a1 a2 a3 a4 hit hq3 hroom
    have lr := len_strs hr.isSl
    refine vwp_count (fun j fr k => fr 1 = .iptr [a, b, c, e] 0 ∧ fr 5 = .ptr g.next 0 ∧ fr 21 = a ∧ fr 22 = .int .i64 (n.ls.length : Int) ∧ fr 23 = .int .i64 (i : Int) ∧ fr 43 = r ∧ fr 44 = .int .i64 ((linesS n.ts[i]).length : Int) ∧ fr 45 = .int .i64 (j : Int) ∧ Bld g k g.next (nl (licsO ((n.ls.zip n.ts).take i) ++ licH (n.ls[i], n.ts[i]) :: (linesS n.ts[i]).take j))) (linesS n.ts[i]).length (by omega) ?_ ?_ ?_
    · simp only [go_sem, Nat.reduceEqDiff, Int.reduceBEq, Int.reduceLT, Int.reduceLE, Int.reduceGT, Int.reduceGE, ↓reduceIte, Nat.reduceAdd, Nat.zero_add, Nat.reduceBEq, List.getElem?_cons_zero, List.getElem?_cons_succ, List.contains_cons, List.contains_nil, vpart_false, vextract, decide_true, decide_false, bne, Bool.or_false, Bool.or_true, Bool.false_or, Bool.true_or, Bool.or_self, Bool.false_and, Bool.true_and, Bool.and_false, Bool.and_true, Bool.and_self, Bool.not_true, Bool.not_false, Bool.not_not, vfieldAddr, D.notTuple, D.cells, mu9, true_and, and_true, Int.ofNat_zero]
      exact ⟨f1, f5, f21, f22, f23, hB⟩
    · clear hB hsucc e2 ew f1 f5 f21 f22 f23 hat1 hat2
      rintro j fr k hlj e2 ew ⟨f1, f5, f21, f22, f23, f43, f44, f45, hB⟩
      have hat1 := at_strs hr.isSl hlj
      have hroom := nl_room (hpart j hlj)
      have hr2 := hroom
      rw [List.length_append] at hr2
      have hsj : licsO ((n.ls.zip n.ts).take i) ++ licH (n.ls[i], n.ts[i]) :: (linesS n.ts[i]).take (j + 1) = licsO ((n.ls.zip n.ts).take i) ++ licH (n.ls[i], n.ts[i]) :: (linesS n.ts[i]).take j ++ [(linesS n.ts[i])[j]] := by
        rw [List.take_succ_eq_append_getElem hlj]
        simp only [List.append_assoc, List.cons_append]
      have a4 : vstr .add (linesS n.ts[i])[j] [10] = some (.str ((linesS n.ts[i])[j] ++ [10])) := vstr_add (by omega)
      have hws := c_ws hB (s := (linesS n.ts[i])[j] ++ [10]) (by omega)
      clear hB hpart
      repeat' first
        | (simp only [go_sem, Nat.reduceEqDiff, Int.reduceBEq, Int.reduceLT, Int.reduceLE, Int.reduceGT, Int.reduceGE, ↓reduceIte, Nat.reduceAdd, Nat.zero_add, Nat.reduceBEq, List.getElem?_cons_zero, List.getElem?_cons_succ, List.contains_cons, List.contains_nil, vpart_false, vextract, decide_true, decide_false, bne, Bool.or_false, Bool.or_true, Bool.false_or, Bool.true_or, Bool.or_self, Bool.false_and, Bool.true_and, Bool.and_false, Bool.and_true, Bool.and_self, Bool.not_true, Bool.not_false, Bool.not_not, vfieldAddr, D.notTuple, D.cells, mu9, *])
        | (refine onBH_caseN (fun hc => ?_) (fun hc => ?_))
        | (refine onBH_case (fun hc => ?_) (fun hc => ?_))
        | (refine gifH_caseNT (fun hc => ?_) (fun hc => ?_))
        | (refine gifH_caseNF (fun hc => ?_) (fun hc => ?_))
        | (refine gifH_caseT (fun hc => ?_) (fun hc => ?_))
        | (refine gifH_caseF (fun hc => ?_) (fun hc => ?_))
      refine hws.mono ?_
      rintro x k hB
      rw [← nl_snoc] at hB
      repeat' first
        | (simp only [go_sem, Nat.reduceEqDiff, Int.reduceBEq, Int.reduceLT, Int.reduceLE, Int.reduceGT, Int.reduceGE, ↓reduceIte, Nat.reduceAdd, Nat.zero_add, Nat.reduceBEq, List.getElem?_cons_zero, List.getElem?_cons_succ, List.contains_cons, List.contains_nil, vpart_false, vextract, decide_true, decide_false, bne, Bool.or_false, Bool.or_true, Bool.false_or, Bool.true_or, Bool.or_self, Bool.false_and, Bool.true_and, Bool.and_false, Bool.and_true, Bool.and_self, Bool.not_true, Bool.not_false, Bool.not_not, vfieldAddr, D.notTuple, D.cells, mu9, *])
        | (refine onBH_caseN (fun hc => ?_) (fun hc => ?_))
        | (refine onBH_case (fun hc => ?_) (fun hc => ?_))
        | (refine gifH_caseNT (fun hc => ?_) (fun hc => ?_))
        | (refine gifH_caseNF (fun hc => ?_) (fun hc => ?_))
        | (refine gifH_caseT (fun hc => ?_) (fun hc => ?_))
        | (refine gifH_caseF (fun hc => ?_) (fun hc => ?_))
    · clear hB hpart e2 f1 f5 f21 f22 f23 hat1 hat2
      rintro fr k e2 ⟨f1, f5, f21, f22, f23, f43, f44, f45, hB⟩
      rw [List.take_length] at hB
      have hB2 : Bld g k g.next (nl (licsO ((n.ls.zip n.ts).take i) ++ licO (n.ls[i], n.ts[i]))) := hB
      clear hB f43
      repeat' first
        | (simp only [go_sem, Nat.reduceEqDiff, Int.reduceBEq, Int.reduceLT, Int.reduceLE, Int.reduceGT, Int.reduceGE, ↓reduceIte, Nat.reduceAdd, Nat.zero_add, Nat.reduceBEq, List.getElem?_cons_zero, List.getElem?_cons_succ, List.contains_cons, List.contains_nil, vpart_false, vextract, decide_true, decide_false, bne, Bool.or_false, Bool.or_true, Bool.false_or, Bool.true_or, Bool.or_self, Bool.false_and, Bool.true_and, Bool.and_false, Bool.and_true, Bool.and_self, Bool.not_true, Bool.not_false, Bool.not_not, vfieldAddr, D.notTuple, D.cells, mu9, *])
        | (refine onBH_caseN (fun hc => ?_) (fun hc => ?_))
        | (refine onBH_case (fun hc => ?_) (fun hc => ?_))
        | (refine gifH_caseNT (fun hc => ?_) (fun hc => ?_))
        | (refine gifH_caseNF (fun hc => ?_) (fun hc => ?_))
        | (refine gifH_caseT (fun hc => ?_) (fun hc => ?_))
        | (refine gifH_caseF (fun hc => ?_) (fun hc => ?_))
  · rintro fr k e2 ⟨f1, f5, f21, f22, f23, hB⟩
    have hB : Bld g k g.next (nl (licsO (n.ls.zip n.ts) ++ (n.hs.take 0).map holdO)) := by
      rw [← hlz, List.take_length] at hB
      simpa using hB
    clear hB0 hlz hlic
    simp only [go_sem, Nat.reduceEqDiff, Int.reduceBEq, Int.reduceLT, Int.reduceLE, Int.reduceGT, Int.reduceGE, ↓reduceIte, Nat.reduceAdd, Nat.zero_add, Nat.reduceBEq, List.getElem?_cons_zero, List.getElem?_cons_succ, List.contains_cons, List.contains_nil, vpart_false, vextract, decide_true, decide_false, bne, Bool.or_false, Bool.or_true, Bool.false_or, Bool.true_or, Bool.or_self, Bool.false_and, Bool.true_and, Bool.and_false, Bool.and_true, Bool.and_self, Bool.not_true, Bool.not_false, Bool.not_not, vfieldAddr, D.notTuple, D.cells, mu9, f1, f5, f21, f22, f23, e2, lc]
    refine vwp_count (fun i fr h' => fr 1 = .iptr [a, b, c, e] 0 ∧ fr 5 = .ptr g.next 0 ∧ fr 55 = c ∧ fr 56 = .int .i64 (n.hs.length : Int) ∧ fr 57 = .int .i64 (i : Int) ∧ Bld g h' g.next (nl (licsO (n.ls.zip n.ts) ++ (n.hs.take i).map holdO))) n.hs.length (by omega) ?_ ?_ ?_
    · simp only [go_sem, Nat.reduceEqDiff, Int.reduceBEq, Int.reduceLT, Int.reduceLE, Int.reduceGT, Int.reduceGE, ↓reduceIte, Nat.reduceAdd, Nat.zero_add, Nat.reduceBEq, List.getElem?_cons_zero, List.getElem?_cons_succ, List.contains_cons, List.contains_nil, vpart_false, vextract, decide_true, decide_false, bne, Bool.or_false, Bool.or_true, Bool.false_or, Bool.true_or, Bool.or_self, Bool.false_and, Bool.true_and, Bool.and_false, Bool.and_true, Bool.and_self, Bool.not_true, Bool.not_false, Bool.not_not, vfieldAddr, D.notTuple, D.cells, mu9, true_and, and_true, Int.ofNat_zero]
      exact ⟨f1, f5, hB⟩
    · clear hB e2 f1 f5 f21 f22 f23
      rintro i fr k hlt e2 ew ⟨f1, f5, f55, f56, f57, hB⟩
      have hat1 := at_strs hc0 hlt
      have hroom := nl_room (hold_split hlt)
      have hr2 := hroom
      rw [List.length_append, holdO, List.length_append, List.length_append] at hr2
      simp only [holdW, List.length_cons, List.length_nil] at hr2
      have hsj : licsO (n.ls.zip n.ts) ++ (n.hs.take (i + 1)).map holdO = licsO (n.ls.zip n.ts) ++ (n.hs.take i).map holdO ++ [holdO n.hs[i]] := by
        rw [List.take_succ_eq_append_getElem hlt, List.map_append, List.append_assoc]; rfl
      have a1 : vstr .add [104, 111, 108, 100, 101, 114, 32] n.hs[i] = some (.str (holdO n.hs[i])) := vstr_add (by simp only [List.length_cons, List.length_nil]; omega)
      have a4 : vstr .add (holdO n.hs[i]) [10] = some (.str (holdO n.hs[i] ++ [10])) := vstr_add (by rw [List.length_append] at hroom; omega)
      have hws := c_ws hB (s := holdO n.hs[i] ++ [10]) (by omega)
      clear hB
      repeat' first
        | (simp only [go_sem, Nat.reduceEqDiff, Int.reduceBEq, Int.reduceLT, Int.reduceLE, Int.reduceGT, Int.reduceGE, ↓reduceIte, Nat.reduceAdd, Nat.zero_add, Nat.reduceBEq, List.getElem?_cons_zero, List.getElem?_cons_succ, List.contains_cons, List.contains_nil, vpart_false, vextract, decide_true, decide_false, bne, Bool.or_false, Bool.or_true, Bool.false_or, Bool.true_or, Bool.or_self, Bool.false_and, Bool.true_and, Bool.and_false, Bool.and_true, Bool.and_self, Bool.not_true, Bool.not_false, Bool.not_not, vfieldAddr, D.notTuple, D.cells, mu9, *])
        | (refine onBH_caseN (fun hc => ?_) (fun hc => ?_))
        | (refine onBH_case (fun hc => ?_) (fun hc => ?_))
        | (refine gifH_caseNT (fun hc => ?_) (fun hc => ?_))
        | (refine gifH_caseNF (fun hc => ?_) (fun hc => ?_))
        | (refine gifH_caseT (fun hc => ?_) (fun hc => ?_))
        | (refine gifH_caseF (fun hc => ?_) (fun hc => ?_))
      refine hws.mono ?_
      rintro x k hB
      rw [← nl_snoc] at hB
      repeat' first
        | (simp only [go_sem, Nat.reduceEqDiff, Int.reduceBEq, Int.reduceLT, Int.reduceLE, Int.reduceGT, Int.reduceGE, ↓reduceIte, Nat.reduceAdd, Nat.zero_add, Nat.reduceBEq, List.getElem?_cons_zero, List.getElem?_cons_succ, List.contains_cons, List.contains_nil, vpart_false, vextract, decide_true, decide_false, bne, Bool.or_false, Bool.or_true, Bool.false_or, Bool.true_or, Bool.or_self, Bool.false_and, Bool.true_and, Bool.and_false, Bool.and_true, Bool.and_self, Bool.not_true, Bool.not_false, Bool.not_not, vfieldAddr, D.notTuple, D.cells, mu9, *])
        | (refine onBH_caseN (fun hc => ?_) (fun hc => ?_))
        | (refine onBH_case (fun hc => ?_) (fun hc => ?_))
        | (refine gifH_caseNT (fun hc => ?_) (fun hc => ?_))
        | (refine gifH_caseNF (fun hc => ?_) (fun hc => ?_))
        | (refine gifH_caseT (fun hc => ?_) (fun hc => ?_))
        | (refine gifH_caseF (fun hc => ?_) (fun hc => ?_))
    clear hB e2 f1 f5 f21 f22 f23
    rintro fr k e2 ⟨f1, f5, f55, f56, f57, hB⟩
    have hB : Bld g k g.next (nl (licsO (n.ls.zip n.ts) ++ n.hs.map holdO ++ (n.cs.take 0).map chgO)) := by
      rw [List.take_length] at hB
      simpa using hB
    simp only [go_sem, Nat.reduceEqDiff, Int.reduceBEq, Int.reduceLT, Int.reduceLE, Int.reduceGT, Int.reduceGE, ↓reduceIte, Nat.reduceAdd, Nat.zero_add, Nat.reduceBEq, List.getElem?_cons_zero, List.getElem?_cons_succ, List.contains_cons, List.contains_nil, vpart_false, vextract, decide_true, decide_false, bne, Bool.or_false, Bool.or_true, Bool.false_or, Bool.true_or, Bool.or_self, Bool.false_and, Bool.true_and, Bool.and_false, Bool.and_true, Bool.and_self, Bool.not_true, Bool.not_false, Bool.not_not, vfieldAddr, D.notTuple, D.cells, mu9, f1, f5, f55, f56, f57, e2, le]
    refine vwp_count (fun i fr h' => fr 5 = .ptr g.next 0 ∧ fr 67 = e ∧ fr 68 = .int .i64 (n.cs.length : Int) ∧ fr 69 = .int .i64 (i : Int) ∧ Bld g h' g.next (nl (licsO (n.ls.zip n.ts) ++ n.hs.map holdO ++ (n.cs.take i).map chgO))) n.cs.length (by omega) ?_ ?_ ?_
    · simp only [go_sem, Nat.reduceEqDiff, Int.reduceBEq, Int.reduceLT, Int.reduceLE, Int.reduceGT, Int.reduceGE, ↓reduceIte, Nat.reduceAdd, Nat.zero_add, Nat.reduceBEq, List.getElem?_cons_zero, List.getElem?_cons_succ, List.contains_cons, List.contains_nil, vpart_false, vextract, decide_true, decide_false, bne, Bool.or_false, Bool.or_true, Bool.false_or, Bool.true_or, Bool.or_self, Bool.false_and, Bool.true_and, Bool.and_false, Bool.and_true, Bool.and_self, Bool.not_true, Bool.not_false, Bool.not_not, vfieldAddr, D.notTuple, D.cells, mu9, true_and, and_true, Int.ofNat_zero]
      exact ⟨f5, hB⟩
    · clear hB e2 f1 f5 f55 f56 f57
      rintro i fr k hlt e2 ew ⟨f5, f67, f68, f69, hB⟩
      have hat1 := at_strs he hlt
      have hroom := nl_room (chg_split hlt)
      have hr2 := hroom
      rw [List.length_append, chgO, List.length_append, List.length_append] at hr2
      simp only [chgW, List.length_cons, List.length_nil] at hr2
      have hsj : licsO (n.ls.zip n.ts) ++ n.hs.map holdO ++ (n.cs.take (i + 1)).map chgO = licsO (n.ls.zip n.ts) ++ n.hs.map holdO ++ (n.cs.take i).map chgO ++ [chgO n.cs[i]] := by
        rw [List.take_succ_eq_append_getElem hlt, List.map_append, ← List.append_assoc]; rfl
      have a1 : vstr .add [99, 104, 97, 110, 103, 101, 32] n.cs[i] = some (.str (chgO n.cs[i])) := vstr_add (by simp only [List.length_cons, List.length_nil]; omega)
      have a4 : vstr .add (chgO n.cs[i]) [10] = some (.str (chgO n.cs[i] ++ [10])) := vstr_add (by rw [List.length_append] at hroom; omega)
      have hws := c_ws hB (s := chgO n.cs[i] ++ [10]) (by omega)
      clear hB
      repeat' first
        | (simp only [go_sem, Nat.reduceEqDiff, Int.reduceBEq, Int.reduceLT, Int.reduceLE, Int.reduceGT, Int.reduceGE, ↓reduceIte, Nat.reduceAdd, Nat.zero_add, Nat.reduceBEq, List.getElem?_cons_zero, List.getElem?_cons_succ, List.contains_cons, List.contains_nil, vpart_false, vextract, decide_true, decide_false, bne, Bool.or_false, Bool.or_true, Bool.false_or, Bool.true_or, Bool.or_self, Bool.false_and, Bool.true_and, Bool.and_false, Bool.and_true, Bool.and_self, Bool.not_true, Bool.not_false, Bool.not_not, vfieldAddr, D.notTuple, D.cells, mu9, *])
        | (refine onBH_caseN (fun hc => ?_) (fun hc => ?_))
        | (refine onBH_case (fun hc => ?_) (fun hc => ?_))
        | (refine gifH_caseNT (fun hc => ?_) (fun hc => ?_))
        | (refine gifH_caseNF (fun hc => ?_) (fun hc => ?_))
        | (refine gifH_caseT (fun hc => ?_) (fun hc => ?_))
        | (refine gifH_caseF (fun hc => ?_) (fun hc => ?_))
      refine hws.mono ?_
      rintro x k hB
      rw [← nl_snoc] at hB
      repeat' first
        | (simp only [go_sem, Nat.reduceEqDiff, Int.reduceBEq, Int.reduceLT, Int.reduceLE, Int.reduceGT, Int.reduceGE, ↓reduceIte, Nat.reduceAdd, Nat.zero_add, Nat.reduceBEq, List.getElem?_cons_zero, List.getElem?_cons_succ, List.contains_cons, List.contains_nil, vpart_false, vextract, decide_true, decide_false, bne, Bool.or_false, Bool.or_true, Bool.false_or, Bool.true_or, Bool.or_self, Bool.false_and, Bool.true_and, Bool.and_false, Bool.and_true, Bool.and_self, Bool.not_true, Bool.not_false, Bool.not_not, vfieldAddr, D.notTuple, D.cells, mu9, *])
        | (refine onBH_caseN (fun hc => ?_) (fun hc => ?_))
        | (refine onBH_case (fun hc => ?_) (fun hc => ?_))
        | (refine gifH_caseNT (fun hc => ?_) (fun hc => ?_))
        | (refine gifH_caseNF (fun hc => ?_) (fun hc => ?_))
        | (refine gifH_caseT (fun hc => ?_) (fun hc => ?_))
        | (refine gifH_caseF (fun hc => ?_) (fun hc => ?_))
    clear hB e2 f1 f5 f55 f56 f57
    rintro fr k e2 ⟨f5, f67, f68, f69, hB⟩
    have hB : Bld g k g.next (nl (outL n)) := by
      rw [List.take_length] at hB
      exact hB
    have hst := c_string hB (by omega)
    simp only [go_sem, Nat.reduceEqDiff, Int.reduceBEq, Int.reduceLT, Int.reduceLE, Int.reduceGT, Int.reduceGE, ↓reduceIte, Nat.reduceAdd, Nat.zero_add, Nat.reduceBEq, List.getElem?_cons_zero, List.getElem?_cons_succ, List.contains_cons, List.contains_nil, vpart_false, vextract, decide_true, decide_false, bne, Bool.or_false, Bool.or_true, Bool.false_or, Bool.true_or, Bool.or_self, Bool.false_and, Bool.true_and, Bool.and_false, Bool.and_true, Bool.and_self, Bool.not_true, Bool.not_false, Bool.not_not, vfieldAddr, D.notTuple, D.cells, mu9, f5, f67, f68, f69, e2]
    refine hst.mono ?_
    rintro r k ⟨hE, rfl⟩
    simp only [go_sem, Nat.reduceEqDiff, Int.reduceBEq, Int.reduceLT, Int.reduceLE, Int.reduceGT, Int.reduceGE, ↓reduceIte, Nat.reduceAdd, Nat.zero_add, Nat.reduceBEq, List.getElem?_cons_zero, List.getElem?_cons_succ, List.contains_cons, List.contains_nil, vpart_false, vextract, decide_true, decide_false, bne, Bool.or_false, Bool.or_true, Bool.false_or, Bool.true_or, Bool.or_self, Bool.false_and, Bool.true_and, Bool.and_false, Bool.and_true, Bool.and_self, Bool.not_true, Bool.not_false, Bool.not_not, vfieldAddr, D.notTuple, D.cells, mu9, hbel]
    exact hE
end Go.V
