/- Texts that are put in order one by one. No condition. -/
import Derived.Test.YtnfmcjeamolljaaGreatDoorVra
import Derived.Test.YtnfmcjeamolljaaGreatDoorVhF
import Derived.Test.YtnfmcjeamolljaaGreatDoorVnb
set_option linter.unusedSimpArgs false
set_option linter.unusedVariables false
set_option linter.constructorNameAsVariable false
set_option linter.deprecated false
namespace Go.V
open Go.Proofs
set_option maxRecDepth 100000
set_option linter.unusedSimpArgs false
set_option linter.unusedVariables false

/-! A text that is put into texts in order. -/
def addT : List (List UInt8) → List UInt8 → List (List UInt8)
  | [], s => [s]
  | x :: l, s => if (x == s) = true then x :: l else if lstr s x = true then s :: x :: l else x :: addT l s

set_option maxHeartbeats 2000000 in
theorem c_refAddText {l : List (List UInt8)} {d : D} (hd : IsSl 1 (strs l) d) (hl : l.length ≤ 1048576) (s : List UInt8) (g : Heap) :
    VCall Tryz.prog 36 [d, .str s] g fun r h' => h' = g ∧ Fin 1 (strs (addT l s)) r := by
  refine VCall.pure (by kernel_rfl) fun hok => VCall.strip ?_
  have hlen := len_strs hd
  refine VCall.of_fn (g := cfg36) mix Tryz.func36 ok36 rfl rfl ?_
  simp only [Tryz.f36, Option.getD_some]
  repeat' first
    | (simp only [go_sem, Nat.reduceEqDiff, Int.reduceBEq, Int.reduceLT, Int.reduceLE, Int.reduceGT, Int.reduceGE, ↓reduceIte, Nat.reduceAdd, Nat.zero_add, Nat.reduceBEq, List.getElem?_cons_zero, List.getElem?_cons_succ, List.contains_cons, List.contains_nil, vpart_false, vextract, decide_true, decide_false, bne, Bool.or_false, Bool.or_true, Bool.false_or, Bool.true_or, Bool.or_self, Bool.false_and, Bool.true_and, Bool.and_false, Bool.and_true, Bool.and_self, Bool.not_true, Bool.not_false, Bool.not_not, vfieldAddr, D.notTuple, D.cells, mu36, *])
    | (refine onBH_caseN (fun hc => ?_) (fun hc => ?_))
    | (refine onBH_case (fun hc => ?_) (fun hc => ?_))
    | (refine gifH_caseNT (fun hc => ?_) (fun hc => ?_))
    | (refine gifH_caseNF (fun hc => ?_) (fun hc => ?_))
    | (refine gifH_caseT (fun hc => ?_) (fun hc => ?_))
    | (refine gifH_caseF (fun hc => ?_) (fun hc => ?_))
  refine vwp_count (fun i fr k => fr 0 = d ∧ fr 1 = .str s ∧ fr 7 = .int .i64 (i : Int) ∧ ∃ D out b, fr 5 = D ∧ fr 6 = .bool b ∧ Own g k 1 (strs out) D ∧ out.length ≤ i + (if b = true then 1 else 0) ∧ out ++ (if b = true then l.drop i else addT (l.drop i) s) = addT l s) l.length (by omega) ?_ ?_ ?_
  · simp only [go_sem, Nat.reduceEqDiff, Int.reduceBEq, Int.reduceLT, Int.reduceLE, Int.reduceGT, Int.reduceGE, ↓reduceIte, Nat.reduceAdd, Nat.zero_add, Nat.reduceBEq, List.getElem?_cons_zero, List.getElem?_cons_succ, List.contains_cons, List.contains_nil, vpart_false, vextract, decide_true, decide_false, bne, Bool.or_false, Bool.or_true, Bool.false_or, Bool.true_or, Bool.or_self, Bool.false_and, Bool.true_and, Bool.and_false, Bool.and_true, Bool.and_self, Bool.not_true, Bool.not_false, Bool.not_not, vfieldAddr, D.notTuple, D.cells, mu36, true_and, and_true, Int.ofNat_zero]
    exact ⟨_, [], false, rfl, rfl, Own.start (Ext.refl g) 1, by simp, by simp⟩
  · rintro i fr k hlt e1 ew ⟨f0, f1, f7, x, out, b, f5, f6, hO, hn, he⟩
    have hat := at_strs hd hlt
    rw [List.drop_eq_getElem_cons hlt] at he
    have hfl := hO.flat
    cases b with
    | true =>
      have hj : (out ++ [l[i]]).length ≤ (i + 1) + 1 ∧ (out ++ [l[i]]) ++ l.drop (i + 1) = addT l s := ⟨by simp at hn ⊢; omega, by rw [← he]; simp⟩
      simp only [if_true] at hn
      clear he
      repeat' first
        | (simp only [go_sem, Nat.reduceEqDiff, Int.reduceBEq, Int.reduceLT, Int.reduceLE, Int.reduceGT, Int.reduceGE, ↓reduceIte, Nat.reduceAdd, Nat.zero_add, Nat.reduceBEq, List.getElem?_cons_zero, List.getElem?_cons_succ, List.contains_cons, List.contains_nil, vpart_false, vextract, decide_true, decide_false, bne, Bool.or_false, Bool.or_true, Bool.false_or, Bool.true_or, Bool.or_self, Bool.false_and, Bool.true_and, Bool.and_false, Bool.and_true, Bool.and_self, Bool.not_true, Bool.not_false, Bool.not_not, vfieldAddr, D.notTuple, D.cells, mu36, one_str, *])
        | (refine onBH_caseN (fun hc => ?_) (fun hc => ?_))
        | (refine onBH_case (fun hc => ?_) (fun hc => ?_))
        | (refine gifH_caseNT (fun hc => ?_) (fun hc => ?_))
        | (refine gifH_caseNF (fun hc => ?_) (fun hc => ?_))
        | (refine gifH_caseT (fun hc => ?_) (fun hc => ?_))
        | (refine gifH_caseF (fun hc => ?_) (fun hc => ?_))
      all_goals
        refine hO.str (by omega) fun d' h' hO' => ?_
        clear hO hfl
        repeat' first
          | (simp only [go_sem, Nat.reduceEqDiff, Int.reduceBEq, Int.reduceLT, Int.reduceLE, Int.reduceGT, Int.reduceGE, ↓reduceIte, Nat.reduceAdd, Nat.zero_add, Nat.reduceBEq, List.getElem?_cons_zero, List.getElem?_cons_succ, List.contains_cons, List.contains_nil, vpart_false, vextract, decide_true, decide_false, bne, Bool.or_false, Bool.or_true, Bool.false_or, Bool.true_or, Bool.or_self, Bool.false_and, Bool.true_and, Bool.and_false, Bool.and_true, Bool.and_self, Bool.not_true, Bool.not_false, Bool.not_not, vfieldAddr, D.notTuple, D.cells, mu36, *])
          | (refine onBH_caseN (fun hc => ?_) (fun hc => ?_))
          | (refine onBH_case (fun hc => ?_) (fun hc => ?_))
          | (refine gifH_caseNT (fun hc => ?_) (fun hc => ?_))
          | (refine gifH_caseNF (fun hc => ?_) (fun hc => ?_))
          | (refine gifH_caseT (fun hc => ?_) (fun hc => ?_))
          | (refine gifH_caseF (fun hc => ?_) (fun hc => ?_))
        exact ⟨_, out ++ [l[i]], true, rfl, rfl, hO', hj⟩
    | false =>
      simp only [Bool.false_eq_true, if_false, Nat.add_zero, addT] at he hn
      cases h1 : (l[i] == s) with
      | true =>
        rw [if_pos h1] at he
        have hj : (out ++ [l[i]]).length ≤ (i + 1) + 1 ∧ (out ++ [l[i]]) ++ l.drop (i + 1) = addT l s := ⟨by simp at hn ⊢; omega, by rw [← he]; simp⟩
        clear he
        repeat' first
          | (simp only [go_sem, Nat.reduceEqDiff, Int.reduceBEq, Int.reduceLT, Int.reduceLE, Int.reduceGT, Int.reduceGE, ↓reduceIte, Nat.reduceAdd, Nat.zero_add, Nat.reduceBEq, List.getElem?_cons_zero, List.getElem?_cons_succ, List.contains_cons, List.contains_nil, vpart_false, vextract, decide_true, decide_false, bne, Bool.or_false, Bool.or_true, Bool.false_or, Bool.true_or, Bool.or_self, Bool.false_and, Bool.true_and, Bool.and_false, Bool.and_true, Bool.and_self, Bool.not_true, Bool.not_false, Bool.not_not, vfieldAddr, D.notTuple, D.cells, mu36, one_str, *])
          | (refine onBH_caseN (fun hc => ?_) (fun hc => ?_))
          | (refine onBH_case (fun hc => ?_) (fun hc => ?_))
          | (refine gifH_caseNT (fun hc => ?_) (fun hc => ?_))
          | (refine gifH_caseNF (fun hc => ?_) (fun hc => ?_))
          | (refine gifH_caseT (fun hc => ?_) (fun hc => ?_))
          | (refine gifH_caseF (fun hc => ?_) (fun hc => ?_))
        refine hO.str (by omega) fun d' h' hO' => ?_
        clear hO hfl
        repeat' first
          | (simp only [go_sem, Nat.reduceEqDiff, Int.reduceBEq, Int.reduceLT, Int.reduceLE, Int.reduceGT, Int.reduceGE, ↓reduceIte, Nat.reduceAdd, Nat.zero_add, Nat.reduceBEq, List.getElem?_cons_zero, List.getElem?_cons_succ, List.contains_cons, List.contains_nil, vpart_false, vextract, decide_true, decide_false, bne, Bool.or_false, Bool.or_true, Bool.false_or, Bool.true_or, Bool.or_self, Bool.false_and, Bool.true_and, Bool.and_false, Bool.and_true, Bool.and_self, Bool.not_true, Bool.not_false, Bool.not_not, vfieldAddr, D.notTuple, D.cells, mu36, *])
          | (refine onBH_caseN (fun hc => ?_) (fun hc => ?_))
          | (refine onBH_case (fun hc => ?_) (fun hc => ?_))
          | (refine gifH_caseNT (fun hc => ?_) (fun hc => ?_))
          | (refine gifH_caseNF (fun hc => ?_) (fun hc => ?_))
          | (refine gifH_caseT (fun hc => ?_) (fun hc => ?_))
          | (refine gifH_caseF (fun hc => ?_) (fun hc => ?_))
        exact ⟨_, out ++ [l[i]], true, rfl, rfl, hO', hj⟩
      | false =>
        rw [if_neg (by rw [h1]; exact Bool.false_ne_true)] at he
        cases h2 : lstr s l[i] with
        | true =>
          rw [if_pos h2] at he
          have hj : (out ++ [s] ++ [l[i]]).length ≤ (i + 1) + 1 ∧ (out ++ [s] ++ [l[i]]) ++ l.drop (i + 1) = addT l s := ⟨by simp at hn ⊢; omega, by rw [← he]; simp⟩
          clear he
          repeat' first
            | (simp only [go_sem, Nat.reduceEqDiff, Int.reduceBEq, Int.reduceLT, Int.reduceLE, Int.reduceGT, Int.reduceGE, ↓reduceIte, Nat.reduceAdd, Nat.zero_add, Nat.reduceBEq, List.getElem?_cons_zero, List.getElem?_cons_succ, List.contains_cons, List.contains_nil, vpart_false, vextract, decide_true, decide_false, bne, Bool.or_false, Bool.or_true, Bool.false_or, Bool.true_or, Bool.or_self, Bool.false_and, Bool.true_and, Bool.and_false, Bool.and_true, Bool.and_self, Bool.not_true, Bool.not_false, Bool.not_not, vfieldAddr, D.notTuple, D.cells, mu36, one_str, *])
            | (refine onBH_caseN (fun hc => ?_) (fun hc => ?_))
            | (refine onBH_case (fun hc => ?_) (fun hc => ?_))
            | (refine gifH_caseNT (fun hc => ?_) (fun hc => ?_))
            | (refine gifH_caseNF (fun hc => ?_) (fun hc => ?_))
            | (refine gifH_caseT (fun hc => ?_) (fun hc => ?_))
            | (refine gifH_caseF (fun hc => ?_) (fun hc => ?_))
          refine hO.str (by omega) fun d' h' hO' => ?_
          clear hO hfl
          repeat' first
            | (simp only [go_sem, Nat.reduceEqDiff, Int.reduceBEq, Int.reduceLT, Int.reduceLE, Int.reduceGT, Int.reduceGE, ↓reduceIte, Nat.reduceAdd, Nat.zero_add, Nat.reduceBEq, List.getElem?_cons_zero, List.getElem?_cons_succ, List.contains_cons, List.contains_nil, vpart_false, vextract, decide_true, decide_false, bne, Bool.or_false, Bool.or_true, Bool.false_or, Bool.true_or, Bool.or_self, Bool.false_and, Bool.true_and, Bool.and_false, Bool.and_true, Bool.and_self, Bool.not_true, Bool.not_false, Bool.not_not, vfieldAddr, D.notTuple, D.cells, mu36, one_str, *])
            | (refine onBH_caseN (fun hc => ?_) (fun hc => ?_))
            | (refine onBH_case (fun hc => ?_) (fun hc => ?_))
            | (refine gifH_caseNT (fun hc => ?_) (fun hc => ?_))
            | (refine gifH_caseNF (fun hc => ?_) (fun hc => ?_))
            | (refine gifH_caseT (fun hc => ?_) (fun hc => ?_))
            | (refine gifH_caseF (fun hc => ?_) (fun hc => ?_))
          refine hO'.str (by simp; omega) fun d2 h2 hO2 => ?_
          clear hO'
          repeat' first
            | (simp only [go_sem, Nat.reduceEqDiff, Int.reduceBEq, Int.reduceLT, Int.reduceLE, Int.reduceGT, Int.reduceGE, ↓reduceIte, Nat.reduceAdd, Nat.zero_add, Nat.reduceBEq, List.getElem?_cons_zero, List.getElem?_cons_succ, List.contains_cons, List.contains_nil, vpart_false, vextract, decide_true, decide_false, bne, Bool.or_false, Bool.or_true, Bool.false_or, Bool.true_or, Bool.or_self, Bool.false_and, Bool.true_and, Bool.and_false, Bool.and_true, Bool.and_self, Bool.not_true, Bool.not_false, Bool.not_not, vfieldAddr, D.notTuple, D.cells, mu36, *])
            | (refine onBH_caseN (fun hc => ?_) (fun hc => ?_))
            | (refine onBH_case (fun hc => ?_) (fun hc => ?_))
            | (refine gifH_caseNT (fun hc => ?_) (fun hc => ?_))
            | (refine gifH_caseNF (fun hc => ?_) (fun hc => ?_))
            | (refine gifH_caseT (fun hc => ?_) (fun hc => ?_))
            | (refine gifH_caseF (fun hc => ?_) (fun hc => ?_))
          exact ⟨_, out ++ [s] ++ [l[i]], true, rfl, rfl, hO2, hj⟩
        | false =>
          rw [if_neg (by rw [h2]; exact Bool.false_ne_true)] at he
          have hj : (out ++ [l[i]]).length ≤ (i + 1) + 0 ∧ (out ++ [l[i]]) ++ addT (l.drop (i + 1)) s = addT l s := ⟨by simp at hn ⊢; omega, by rw [← he]; simp⟩
          clear he
          repeat' first
            | (simp only [go_sem, Nat.reduceEqDiff, Int.reduceBEq, Int.reduceLT, Int.reduceLE, Int.reduceGT, Int.reduceGE, ↓reduceIte, Nat.reduceAdd, Nat.zero_add, Nat.reduceBEq, List.getElem?_cons_zero, List.getElem?_cons_succ, List.contains_cons, List.contains_nil, vpart_false, vextract, decide_true, decide_false, bne, Bool.or_false, Bool.or_true, Bool.false_or, Bool.true_or, Bool.or_self, Bool.false_and, Bool.true_and, Bool.and_false, Bool.and_true, Bool.and_self, Bool.not_true, Bool.not_false, Bool.not_not, vfieldAddr, D.notTuple, D.cells, mu36, one_str, *])
            | (refine onBH_caseN (fun hc => ?_) (fun hc => ?_))
            | (refine onBH_case (fun hc => ?_) (fun hc => ?_))
            | (refine gifH_caseNT (fun hc => ?_) (fun hc => ?_))
            | (refine gifH_caseNF (fun hc => ?_) (fun hc => ?_))
            | (refine gifH_caseT (fun hc => ?_) (fun hc => ?_))
            | (refine gifH_caseF (fun hc => ?_) (fun hc => ?_))
          refine hO.str (by omega) fun d' h' hO' => ?_
          clear hO hfl
          repeat' first
            | (simp only [go_sem, Nat.reduceEqDiff, Int.reduceBEq, Int.reduceLT, Int.reduceLE, Int.reduceGT, Int.reduceGE, ↓reduceIte, Nat.reduceAdd, Nat.zero_add, Nat.reduceBEq, List.getElem?_cons_zero, List.getElem?_cons_succ, List.contains_cons, List.contains_nil, vpart_false, vextract, decide_true, decide_false, bne, Bool.or_false, Bool.or_true, Bool.false_or, Bool.true_or, Bool.or_self, Bool.false_and, Bool.true_and, Bool.and_false, Bool.and_true, Bool.and_self, Bool.not_true, Bool.not_false, Bool.not_not, vfieldAddr, D.notTuple, D.cells, mu36, *])
            | (refine onBH_caseN (fun hc => ?_) (fun hc => ?_))
            | (refine onBH_case (fun hc => ?_) (fun hc => ?_))
            | (refine gifH_caseNT (fun hc => ?_) (fun hc => ?_))
            | (refine gifH_caseNF (fun hc => ?_) (fun hc => ?_))
            | (refine gifH_caseT (fun hc => ?_) (fun hc => ?_))
            | (refine gifH_caseF (fun hc => ?_) (fun hc => ?_))
          exact ⟨_, out ++ [l[i]], false, rfl, rfl, hO', hj⟩
  · rintro fr k e1 ⟨f0, f1, f7, x, out, b, f5, f6, hO, hn, he⟩
    rw [List.drop_length] at he
    have hfl := hO.flat
    cases b with
    | true =>
      simp only [if_true, List.append_nil] at he
      subst he
      have hfin := hO.fin strs_plain
      clear hO hn hl hd
      repeat' first
        | (simp only [go_sem, Nat.reduceEqDiff, Int.reduceBEq, Int.reduceLT, Int.reduceLE, Int.reduceGT, Int.reduceGE, ↓reduceIte, Nat.reduceAdd, Nat.zero_add, Nat.reduceBEq, List.getElem?_cons_zero, List.getElem?_cons_succ, List.contains_cons, List.contains_nil, vpart_false, vextract, decide_true, decide_false, bne, Bool.or_false, Bool.or_true, Bool.false_or, Bool.true_or, Bool.or_self, Bool.false_and, Bool.true_and, Bool.and_false, Bool.and_true, Bool.and_self, Bool.not_true, Bool.not_false, Bool.not_not, vfieldAddr, D.notTuple, D.cells, mu36, *])
        | (refine onBH_caseN (fun hc => ?_) (fun hc => ?_))
        | (refine onBH_case (fun hc => ?_) (fun hc => ?_))
        | (refine gifH_caseNT (fun hc => ?_) (fun hc => ?_))
        | (refine gifH_caseNF (fun hc => ?_) (fun hc => ?_))
        | (refine gifH_caseT (fun hc => ?_) (fun hc => ?_))
        | (refine gifH_caseF (fun hc => ?_) (fun hc => ?_))
    | false =>
      simp only [Bool.false_eq_true, if_false, addT] at he hn
      repeat' first
        | (simp only [go_sem, Nat.reduceEqDiff, Int.reduceBEq, Int.reduceLT, Int.reduceLE, Int.reduceGT, Int.reduceGE, ↓reduceIte, Nat.reduceAdd, Nat.zero_add, Nat.reduceBEq, List.getElem?_cons_zero, List.getElem?_cons_succ, List.contains_cons, List.contains_nil, vpart_false, vextract, decide_true, decide_false, bne, Bool.or_false, Bool.or_true, Bool.false_or, Bool.true_or, Bool.or_self, Bool.false_and, Bool.true_and, Bool.and_false, Bool.and_true, Bool.and_self, Bool.not_true, Bool.not_false, Bool.not_not, vfieldAddr, D.notTuple, D.cells, mu36, one_str, *])
        | (refine onBH_caseN (fun hc => ?_) (fun hc => ?_))
        | (refine onBH_case (fun hc => ?_) (fun hc => ?_))
        | (refine gifH_caseNT (fun hc => ?_) (fun hc => ?_))
        | (refine gifH_caseNF (fun hc => ?_) (fun hc => ?_))
        | (refine gifH_caseT (fun hc => ?_) (fun hc => ?_))
        | (refine gifH_caseF (fun hc => ?_) (fun hc => ?_))
      refine hO.str (by omega) fun d' h' hO' => ?_
      rw [he] at hO'
      have hfin := hO'.fin strs_plain
      clear hO hn hlen hl hd hO' he hfl
      repeat' first
        | (simp only [go_sem, Nat.reduceEqDiff, Int.reduceBEq, Int.reduceLT, Int.reduceLE, Int.reduceGT, Int.reduceGE, ↓reduceIte, Nat.reduceAdd, Nat.zero_add, Nat.reduceBEq, List.getElem?_cons_zero, List.getElem?_cons_succ, List.contains_cons, List.contains_nil, vpart_false, vextract, decide_true, decide_false, bne, Bool.or_false, Bool.or_true, Bool.false_or, Bool.true_or, Bool.or_self, Bool.false_and, Bool.true_and, Bool.and_false, Bool.and_true, Bool.and_self, Bool.not_true, Bool.not_false, Bool.not_not, vfieldAddr, D.notTuple, D.cells, mu36, *])
        | (refine onBH_caseN (fun hc => ?_) (fun hc => ?_))
        | (refine onBH_case (fun hc => ?_) (fun hc => ?_))
        | (refine gifH_caseNT (fun hc => ?_) (fun hc => ?_))
        | (refine gifH_caseNF (fun hc => ?_) (fun hc => ?_))
        | (refine gifH_caseT (fun hc => ?_) (fun hc => ?_))
        | (refine gifH_caseF (fun hc => ?_) (fun hc => ?_))
end Go.V
namespace Go.V
open Go.Proofs
set_option maxRecDepth 100000
set_option linter.unusedSimpArgs false
set_option linter.unusedVariables false

/-! What the reference's merge computes: plain laws. -/
def addsT (l m : List (List UInt8)) : List (List UInt8) := m.foldl addT l
theorem addsT_succ {m : List (List UInt8)} {i : Nat} (l : List (List UInt8)) (hi : i < m.length) : addsT l (m.take (i + 1)) = addT (addsT l (m.take i)) m[i] := by
  rw [addsT, List.take_succ_eq_append_getElem hi, List.foldl_append]; rfl
theorem addsT_app (l m k : List (List UInt8)) : addsT l (m ++ k) = addsT (addsT l m) k := by rw [addsT, List.foldl_append]; rfl
theorem addT_len : ∀ (l : List (List UInt8)) (s : List UInt8), (addT l s).length ≤ l.length + 1
  | [], s => by simp [addT]
  | x :: l, s => by
    have := addT_len l s
    simp only [addT]
    split
    · simp
    split
    · simp
    · simp only [List.length_cons]; omega
theorem addsT_len (l : List (List UInt8)) : ∀ m : List (List UInt8), (addsT l m).length ≤ l.length + m.length := fun m => by
  induction m generalizing l with
  | nil => simp [addsT]
  | cons x m ih =>
    have := ih (addT l x)
    have h2 := addT_len l x
    simp only [addsT, List.foldl_cons, List.length_cons] at this ⊢
    omega
theorem addT_both : ∀ {l : List (List UInt8)} {s : List UInt8}, Inc l → Inc (addT l s) ∧ ∀ x, x ∈ addT l s ↔ x ∈ l ∨ x = s
  | [], s, _ => by simp [addT, Inc]
  | y :: l, s, h => by
    have hy := List.pairwise_cons.1 h
    simp only [addT]
    split
    · rename_i e
      have e : y = s := by simpa using e
      subst e
      exact ⟨h, fun x => by simp only [List.mem_cons]; constructor <;> intro q <;> (try exact .inl q) ; rcases q with q | q; exact q; exact .inl q⟩
    rename_i e
    have e : y ≠ s := by simpa using e
    split
    · rename_i g
      rw [lstr_lt, decide_eq_true_eq] at g
      refine ⟨List.pairwise_cons.2 ⟨fun z hz => ?_, h⟩, fun x => by simp only [List.mem_cons]; constructor <;> intro q <;> rcases q with q | q | q <;> simp_all⟩
      rcases List.mem_cons.1 hz with rfl | hz
      · exact g
      · exact str_lt_trans g (hy.1 z hz)
    · rename_i g
      rw [lstr_lt, decide_eq_true_eq] at g
      obtain ⟨i1, i2⟩ := addT_both (s := s) hy.2
      have hys : y < s := str_lt_of_le (List.not_lt.1 g) e
      refine ⟨List.pairwise_cons.2 ⟨fun z hz => ?_, i1⟩, fun x => by simp only [List.mem_cons, i2, or_assoc]⟩
      rcases (i2 z).1 hz with hz | rfl
      · exact hy.1 z hz
      · exact hys
theorem addsT_both : ∀ {m l : List (List UInt8)}, Inc l → Inc (addsT l m) ∧ ∀ x, x ∈ addsT l m ↔ x ∈ l ∨ x ∈ m
  | [], l, h => ⟨h, fun x => by simp [addsT]⟩
  | y :: m, l, h => by
    obtain ⟨i1, i2⟩ := addT_both (s := y) h
    obtain ⟨j1, j2⟩ := addsT_both (m := m) i1
    refine ⟨j1, fun x => ?_⟩
    have := j2 x
    rw [i2] at this
    simp only [addsT, List.foldl_cons, List.mem_cons] at this ⊢
    rw [this, or_assoc]
theorem addsT_sorted (l : List (List UInt8)) : addsT [] l = sortedS l := by
  obtain ⟨h1, h2⟩ := addsT_both (m := l) (l := []) List.Pairwise.nil
  exact inc_unique h1 (sortedS_inc l) fun x => by rw [h2, sortedS_mem]; simp

theorem idxS_cases (l : List (List UInt8)) (s : List UInt8) : (idxS l s = -1 ∧ s ∉ l) ∨ ∃ j : Nat, idxS l s = (j : Int) ∧ ∃ h : j < l.length, l[j] = s := by
  unfold idxS
  cases hf : l.findIdx? (· == s) with
  | none =>
    refine .inl ⟨rfl, fun hm => ?_⟩
    rw [List.findIdx?_eq_none_iff] at hf
    have := hf s hm
    simp at this
  | some j =>
    rw [List.findIdx?_eq_some_iff_getElem] at hf
    obtain ⟨h1, h2, _⟩ := hf
    exact .inr ⟨j, rfl, h1, by simpa using h2⟩
theorem zip_at {a b : List (List UInt8)} {i : Nat} (h1 : i < a.length) (h2 : i < b.length) : (a[i], b[i]) ∈ a.zip b := by
  have h : i < (a.zip b).length := by rw [List.length_zip]; omega
  have := List.getElem_mem h
  rwa [List.getElem_zip] at this
theorem merge_conf {a b : Note} (h1 : checkS a = 0) (h2 : checkS b = 0) {i j : Nat} (hi : i < a.ls.length) (hj : j < b.ls.length) (hi2 : i < a.ts.length) (hj2 : j < b.ts.length) (he : b.ls[j] = a.ls[i]) (hn : b.ts[j] ≠ a.ts[i]) : mergeS a b = (.zero, 9) := by
  unfold mergeS
  rw [if_neg (by simp [h1]), if_neg (by simp [h2])]
  cases hm : addAll (zipN a ++ zipN b) [] with
  | none => rfl
  | some m =>
    exfalso
    refine hn (addAll_con hm a.ls[i] b.ts[j] a.ts[i] ?_ ?_)
    · rw [← he]; exact List.mem_append_right _ (zip_at hj hj2)
    · exact List.mem_append_left _ (zip_at hi hi2)
theorem merge_con {a b : Note} (h1 : checkS a = 0) (h2 : checkS b = 0) (hc : ∀ i (hi : i < a.ls.length) (hi2 : i < a.ts.length) j (hj : j < b.ls.length) (hj2 : j < b.ts.length), b.ls[j] = a.ls[i] → b.ts[j] = a.ts[i]) : ∃ m, addAll (zipN a ++ zipN b) [] = some m := by
  have c1 := check_ok h1
  have c2 := check_ok h2
  refine con_addAll fun k v w hv hw => ?_
  have at' : ∀ {n : Note} {k v : List UInt8}, (k, v) ∈ zipN n → ∃ i, ∃ (x : i < n.ls.length) (y : i < n.ts.length), n.ls[i] = k ∧ n.ts[i] = v := fun {n k v} h => by
    obtain ⟨i, hi, e⟩ := List.mem_iff_getElem.1 (show (k, v) ∈ n.ls.zip n.ts from h)
    have hi' := hi
    rw [List.length_zip] at hi'
    rw [List.getElem_zip, Prod.mk.injEq] at e
    exact ⟨i, by omega, by omega, e.1, e.2⟩
  rcases List.mem_append.1 hv with hv | hv <;> rcases List.mem_append.1 hw with hw | hw
  · exact zip_con c1.2.2.2.2.1 k v w hv hw
  · obtain ⟨i, x1, x2, e1, e2⟩ := at' hv
    obtain ⟨j, y1, y2, g1, g2⟩ := at' hw
    rw [← e2, ← g2]
    exact (hc i x1 x2 j y1 y2 (by rw [g1, e1])).symm
  · obtain ⟨i, x1, x2, e1, e2⟩ := at' hw
    obtain ⟨j, y1, y2, g1, g2⟩ := at' hv
    rw [← e2, ← g2]
    exact hc i x1 x2 j y1 y2 (by rw [g1, e1])
  · exact zip_con c2.2.2.2.2.1 k v w hv hw
/-- The text of a merged notice's license. -/
def textM (m : KV) (s : List UInt8) : List UInt8 := (kvGet s m).getD []
theorem textM_a {a b : Note} {m : KV} (hm : addAll (zipN a ++ zipN b) [] = some m) {s : List UInt8} {j : Nat} (h1 : j < a.ls.length) (h2 : j < a.ts.length) (hs : a.ls[j] = s) : a.ts[j] = textM m s := by
  unfold textM
  rw [← hs, (addAll_some hm).1 _ _ (List.mem_append_left _ (zip_at h1 h2))]; rfl
theorem textM_b {a b : Note} {m : KV} (hm : addAll (zipN a ++ zipN b) [] = some m) {s : List UInt8} {j : Nat} (h1 : j < b.ls.length) (h2 : j < b.ts.length) (hs : b.ls[j] = s) : b.ts[j] = textM m s := by
  unfold textM
  rw [← hs, (addAll_some hm).1 _ _ (List.mem_append_right _ (zip_at h1 h2))]; rfl
end Go.V
