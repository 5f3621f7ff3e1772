/- The contracts of notice.Parse and of the reference for it. No condition. -/
import Derived.Test.YtnfmcjeamolljaaGreatDoorVre
set_option linter.unusedSimpArgs false
set_option linter.unusedVariables false
set_option linter.constructorNameAsVariable false
set_option linter.deprecated false
namespace Go.V
open Go.Proofs
set_option maxRecDepth 100000
set_option linter.unusedSimpArgs false
set_option linter.unusedVariables false

theorem parseL_step {l : List (List UInt8)} {f i : Nat} {n : Note} (hlt : i + 1 < l.length) : parseL l (f + 1) i n = match stepS l i n with
    | .inl e => (.zero, (i : Int), e)
    | .inr (n', i') => parseL l f i' n' := by
  simp only [parseL]; rw [if_pos hlt]
  cases stepS l i n <;> rfl

/-! notice.Parse. -/
def ParseQ (p : Note × Int × Int) (r : D) : Prop := ∃ d, r = .tuple [d, .int .i64 p.2.1, .int .i64 p.2.2] ∧ IsNote p.1 d
theorem parse_zero {p : Note × Int × Int} {k e : Int} (h : p = (.zero, k, e)) : below 0 (strip (.tuple [.agg nil4, .int .i64 k, .int .i64 e])) ∧ ParseQ p (strip (.tuple [.agg nil4, .int .i64 k, .int .i64 e])) := by
  subst h
  have e : strip (.tuple [.agg nil4, .int .i64 k, .int .i64 e]) = .tuple [.agg nil4, .int .i64 k, .int .i64 e] := by simp [strip, stripL]
  rw [e]
  exact ⟨by simp [below, belowL], .agg nil4, rfl, .nilsl, .nilsl, .nilsl, .nilsl, rfl, IsSl.nil, IsSl.nil, IsSl.nil, IsSl.nil⟩
theorem parse_note {n : Note} {a b c e : D} {h0 h : Heap} (hF : Four h0 h n a b c e) : below 0 (strip (.tuple [.agg [a, b, c, e], .int .i64 0, .int .i64 0])) ∧ ParseQ (n, 0, 0) (strip (.tuple [.agg [a, b, c, e], .int .i64 0, .int .i64 0])) := by
  have e : strip (.tuple [.agg [a, b, c, e], .int .i64 0, .int .i64 0]) = .tuple [.agg [strip a, strip b, strip c, strip e], .int .i64 0, .int .i64 0] := by simp [strip, stripL]
  rw [e]
  have q1 := (hF.sl (xs := strs n.ls) (d := a) (by simp)).fin strs_plain
  have q2 := (hF.sl (xs := strs n.ts) (d := b) (by simp)).fin strs_plain
  have q3 := (hF.sl (xs := strs n.hs) (d := c) (by simp)).fin strs_plain
  have q4 := (hF.sl (xs := strs n.cs) (d := ‹D›) (by simp)).fin strs_plain
  refine ⟨?_, _, rfl, _, _, _, _, rfl, q1.2.isSl, q2.2.isSl, q3.2.isSl, q4.2.isSl⟩
  simp [below, belowL, q1.1, q2.1, q3.1, q4.1]
theorem four_note {n : Note} {a b c e : D} {h0 h : Heap} (hF : Four h0 h n a b c e) : IsNote n (.agg [a, b, c, e]) :=
  ⟨a, b, c, e, rfl, (hF.sl (xs := strs n.ls) (d := a) (by simp)).isSl, (hF.sl (xs := strs n.ts) (d := b) (by simp)).isSl, (hF.sl (xs := strs n.hs) (d := c) (by simp)).isSl, (hF.sl (xs := strs n.cs) (d := e) (by simp)).isSl⟩

set_option maxHeartbeats 2000000 in
theorem c_parse {s : List UInt8} (hl : s.length ≤ 1048576) (h : Heap) :
    VCall Tryz.prog 16 [.str s] h fun r h' => h' = h ∧ ParseQ (parseS s) r := by
  refine VCall.pure (by kernel_rfl) fun hok => VCall.strip ?_
  refine VCall.of_fn (g := cfg16) mix Tryz.func16 ok16 rfl rfl ?_
  simp only [Tryz.f16, Option.getD_some]
  have hvp : ∀ a b c e : D, vpart true 4 [a, b, c, e] 0 = some (.agg [a, b, c, e]) := fun a b c e => vpart_whole rfl (by omega)
  have hb0 : vbuild Tryz.prog 24 [] = some (.agg nil4) := by simp [vbuild, placesT_24, zeroT_24, vfill, D.notTuple, D.cells]
  have hst0 : ∀ H : Heap, vstore Tryz.prog 24 (.ptr H.next 0) (.agg nil4) (H.new H.next (.row nil4)) = some (H.new H.next (.row nil4)) := fun H => vstore_new szT_24 (by omega) rfl rfl rfl
  have hE0 : Ext h (h.new h.next (.row nil4)) := (Ext.refl h).new (Nat.le_refl _) _
  have zero : ∀ {k e : Int} {h' : Heap}, Ext h h' → parseS s = (.zero, k, e) → Ext h h' ∧ below h.next (strip (.tuple [.agg nil4, .int .i64 k, .int .i64 e])) ∧ ParseQ (parseS s) (strip (.tuple [.agg nil4, .int .i64 k, .int .i64 e])) := fun hE hm => by
    have := parse_zero hm
    exact ⟨hE, below_mono (Nat.zero_le _) _ this.1, this.2⟩
  by_cases hbig : s.length > 65536
  · have e1 : decide ((s.length : Int) > 65536) = true := decide_eq_true (by omega)
    repeat' first
      | (simp only [go_sem, Nat.reduceEqDiff, Int.reduceBEq, Int.reduceLT, Int.reduceLE, Int.reduceGT, Int.reduceGE, ↓reduceIte, Nat.reduceAdd, Nat.zero_add, Nat.reduceBEq, List.getElem?_cons_zero, List.getElem?_cons_succ, List.contains_cons, List.contains_nil, vpart_false, vextract, decide_true, decide_false, bne, Bool.or_false, Bool.or_true, Bool.false_or, Bool.true_or, Bool.or_self, Bool.false_and, Bool.true_and, Bool.and_false, Bool.and_true, Bool.and_self, Bool.not_true, Bool.not_false, Bool.not_not, vfieldAddr, D.notTuple, D.cells, mu16, new_at, *])
      | (refine onBH_caseN (fun hc => ?_) (fun hc => ?_))
      | (refine onBH_case (fun hc => ?_) (fun hc => ?_))
      | (refine gifH_caseNT (fun hc => ?_) (fun hc => ?_))
      | (refine gifH_caseNF (fun hc => ?_) (fun hc => ?_))
      | (refine gifH_caseT (fun hc => ?_) (fun hc => ?_))
      | (refine gifH_caseF (fun hc => ?_) (fun hc => ?_))
    first | exact zero hE0 (by unfold parseS; rw [if_pos hbig]) | exact (zero hE0 (by unfold parseS; rw [if_pos hbig])).2
  have e1 : decide ((s.length : Int) > 65536) = false := decide_eq_false (by omega)
  have hps : parseL (splitB 10 s) ((splitB 10 s).length - 0) 0 .zero = parseS s := by unfold parseS; rw [if_neg hbig, Nat.sub_zero]
  have hpl := splitB_part_le 10 s
  have hpn := splitB_len_le 10 s
  have hne := splitB_ne 10 s
  have htx := textL_len2 s
  have hstep := fun i i' n n' => step_nb (s := s) (i := i) (i' := i') (n := n) (n' := n')
  have hsplit := c_split hl 10
  generalize splitB 10 s = ps at *
  have hpos : 0 < ps.length := List.length_pos_iff.2 hne
  have ew : IntKind.i64.wrap ((ps.length : Int) - 1) = ((ps.length - 1 : Nat) : Int) := by rw [wrap_i64 (by omega) (by omega)]; omega
  have hlen := len_strs (IsSl.mk (sz := 1) (xs := strs ps) .no)
  have hhi : ∀ h, vsliceA Tryz.prog 22 (.sl 1 (strs ps) .no) none (some (.int .i64 ((ps.length - 1 : Nat) : Int))) none h = some (.sl 1 (strs ps.dropLast) .no) := fun h => by
    simp [vsliceA, arrT_22, vslice, elemT_22, szT_9, vbounds, hiOf, loOf, strs_length, cutTk, List.dropLast_eq_take, strs, List.map_take]
  have hbr : vbuild Tryz.prog 98 [(0, .sl 1 (strs ps.dropLast) .no)] = some (.agg [.sl 1 (strs ps.dropLast) .no, .int .i64 0, .int .i64 0, .nilsl, .nilsl, .nilsl, .nilsl]) := by
    simp [vbuild, placesT_98, zeroT_98, vfill, D.notTuple, D.cells, putAt]
  have hnx : (h.new h.next (.row nil4)).next = h.next + 1 := next_new_eq _ _
  repeat' first
    | (simp only [go_sem, Nat.reduceEqDiff, Int.reduceBEq, Int.reduceLT, Int.reduceLE, Int.reduceGT, Int.reduceGE, ↓reduceIte, Nat.reduceAdd, Nat.zero_add, Nat.reduceBEq, List.getElem?_cons_zero, List.getElem?_cons_succ, List.contains_cons, List.contains_nil, vpart_false, vextract, decide_true, decide_false, bne, Bool.or_false, Bool.or_true, Bool.false_or, Bool.true_or, Bool.or_self, Bool.false_and, Bool.true_and, Bool.and_false, Bool.and_true, Bool.and_self, Bool.not_true, Bool.not_false, Bool.not_not, vfieldAddr, D.notTuple, D.cells, mu16, new_at, Option.map_some, Option.map_none, *])
    | (refine onBH_caseN (fun hc => ?_) (fun hc => ?_))
    | (refine onBH_case (fun hc => ?_) (fun hc => ?_))
    | (refine gifH_caseNT (fun hc => ?_) (fun hc => ?_))
    | (refine gifH_caseNF (fun hc => ?_) (fun hc => ?_))
    | (refine gifH_caseT (fun hc => ?_) (fun hc => ?_))
    | (refine gifH_caseF (fun hc => ?_) (fun hc => ?_))
    | (refine VCall.mono (hsplit _) ?_; rintro r h ⟨rfl, rfl⟩)
  obtain ⟨H, hH, hRH⟩ : ∃ H, (h.new h.next (.row nil4)).new (h.next + 1) (.row [.sl 1 (strs ps.dropLast) .no, .int .i64 0, .int .i64 0, .nilsl, .nilsl, .nilsl, .nilsl]) = H ∧ RH h (h.next + 1) h.next ⟨ps.dropLast, 0, 0, .zero⟩ H := by
    refine ⟨_, rfl, hE0.new (by omega) _, Nat.le_refl _, by omega, ?_, ?_, _, .nilsl, .nilsl, .nilsl, .nilsl, new_at _ _ _, IsSl.mk _, ?_⟩
    · rw [next_new_ge _ (by rw [hnx]; exact Nat.le_refl _)]; omega
    · rw [new_keep (by omega)]; exact new_at _ _ _
    · refine ⟨fun p hp => ?_, ?_⟩
      · simp [Note.zero, strs] at hp
        subst hp
        exact ⟨.inl ⟨rfl, rfl⟩, fun i hi => hi.elim⟩
      · simp [tokOf]
  rw [hH]
  clear hH hE0 hnx hbr hhi
  refine vwp_loop (fun k fr h' => ∃ (i : Nat) (n : Note), k = ps.length - i ∧ i < ps.length ∧ fr 2 = .ptr h.next 0 ∧ fr 5 = .sl 1 (strs ps) .no ∧ fr 6 = .int .i64 ((ps.length - 1 : Nat) : Int) ∧ fr 7 = .ptr (h.next + 1) 0 ∧
    RH h (h.next + 1) h.next ⟨ps.dropLast, i, partOf n, n⟩ h' ∧ NB s.length i n ∧ parseL ps (ps.length - i) i n = parseS s) ps.length ?_ ?_
  · refine ⟨0, .zero, rfl, hpos, ?_⟩
    simp only [go_sem, Nat.reduceEqDiff, Int.reduceBEq, Int.reduceLT, Int.reduceLE, Int.reduceGT, Int.reduceGE, ↓reduceIte, Nat.reduceAdd, Nat.zero_add, Nat.reduceBEq, List.getElem?_cons_zero, List.getElem?_cons_succ, List.contains_cons, List.contains_nil, vpart_false, vextract, decide_true, decide_false, bne, Bool.or_false, Bool.or_true, Bool.false_or, Bool.true_or, Bool.or_self, Bool.false_and, Bool.true_and, Bool.and_false, Bool.and_true, Bool.and_self, Bool.not_true, Bool.not_false, Bool.not_not, vfieldAddr, D.notTuple, D.cells, mu16, true_and, and_true, Int.ofNat_zero]
    exact ⟨hRH, nb_zero _, hps⟩
  clear hRH hps
  rintro k fr h' ⟨i, n, rfl, hi, f2, f5, f6, f7, hR, hnb, htgt⟩
  have hR0 := hR
  obtain ⟨hE, hq0, hqr, hr, hq, dL, a, b, c, e, hrow, hL, hF⟩ := hR
  simp only at hrow hL hF
  by_cases hlt : i + 1 < ps.length
  · have e2 : decide ((i : Int) < ((ps.length - 1 : Nat) : Int)) = true := decide_eq_true (by omega)
    have ew1 : IntKind.i64.wrap ((i : Int) + 1) = ((i + 1 : Nat) : Int) := wrap_succ (by unfold lim; omega)
    have hst : vstore Tryz.prog 3 (.ptr (h.next + 1) 1) (.int .i64 ((i + 1 : Nat) : Int)) h' = some (h'.set (h.next + 1) (.row [dL, .int .i64 ((i + 1 : Nat) : Int), .int .i64 (partOf n), a, b, c, e])) := by
      rw [vstore_cell hrow szT_3 (by simp) rfl rfl]; rfl
    have hat := at_strs (IsSl.mk (sz := 1) (xs := strs ps) .no) hi
    have hR1 : RH h (h.next + 1) h.next ⟨ps.dropLast, i + 1, partOf n, n⟩ (h'.set (h.next + 1) (.row [dL, .int .i64 ((i + 1 : Nat) : Int), .int .i64 (partOf n), a, b, c, e])) :=
      ⟨hE.set (by omega) _, hq0, hqr, hr, by rw [set_keep (by omega)]; exact hq, dL, a, b, c, e, set_at_same _ _ _, hL, hF.set hrow (by simp)⟩
    have hdl : ps.dropLast.length = ps.length - 1 := List.length_dropLast ..
    have hpt : partOf n ≤ 2 := by unfold partOf; split <;> (try split) <;> omega
    have hz : RSz ⟨ps.dropLast, i + 1, partOf n, n⟩ := ⟨by simp only [hdl]; omega, by simp only [hdl]; omega, hpt, by have := hnb.ls.1; simp only; omega, by have := hnb.ts.1; simp only; omega, by have := hnb.hs.1; simp only; omega, by have := hnb.cs.1; simp only; omega, fun i k => by have := htx i k; simp only; omega⟩
    have hln := c_readLine hR1 hz (s := ps[i]) (by have := hpl _ (List.getElem_mem hi); omega)
    have hls := line_step (n := n) hlt
    have hgd : ps.getD i [] = ps[i] := by simp [hi]
    rw [hgd] at hls
    obtain ⟨f, hf⟩ : ∃ f, ps.length - i = f + 1 := ⟨ps.length - i - 1, by omega⟩
    rw [hf, parseL_step hlt] at htgt
    have hst' := hstep i
    clear hgd hR0 hstep hz hR1 htx hpl hF hL hq hE hdl hpt
    cases hs : stepS ps i n with
    | inl er =>
      rw [hs] at hls htgt
      obtain ⟨hne0, hls⟩ := hls
      have hb : (er == 0) = false := beq_eq_false_iff_ne.2 hne0
      rw [hls] at hln
      clear hls hst'
      repeat' first
        | (simp only [go_sem, Nat.reduceEqDiff, Int.reduceBEq, Int.reduceLT, Int.reduceLE, Int.reduceGT, Int.reduceGE, ↓reduceIte, Nat.reduceAdd, Nat.zero_add, Nat.reduceBEq, List.getElem?_cons_zero, List.getElem?_cons_succ, List.contains_cons, List.contains_nil, vpart_false, vextract, decide_true, decide_false, bne, Bool.or_false, Bool.or_true, Bool.false_or, Bool.true_or, Bool.or_self, Bool.false_and, Bool.true_and, Bool.and_false, Bool.and_true, Bool.and_self, Bool.not_true, Bool.not_false, Bool.not_not, vfieldAddr, D.notTuple, D.cells, mu16, vnilCheck, *])
        | (refine onBH_caseN (fun hc => ?_) (fun hc => ?_))
        | (refine onBH_case (fun hc => ?_) (fun hc => ?_))
        | (refine gifH_caseNT (fun hc => ?_) (fun hc => ?_))
        | (refine gifH_caseNF (fun hc => ?_) (fun hc => ?_))
        | (refine gifH_caseT (fun hc => ?_) (fun hc => ?_))
        | (refine gifH_caseF (fun hc => ?_) (fun hc => ?_))
      refine hln.mono ?_
      rintro v h2 ⟨rfl, hE, hq0, hqr, hr, hq, _⟩
      have hst4 : vstore Tryz.prog 24 (.ptr h.next 0) (.agg nil4) h2 = some (h2.set h.next (.row nil4)) := vstore_whole hq szT_24 rfl (by simp) rfl
      clear hln
      repeat' first
        | (simp only [go_sem, Nat.reduceEqDiff, Int.reduceBEq, Int.reduceLT, Int.reduceLE, Int.reduceGT, Int.reduceGE, ↓reduceIte, Nat.reduceAdd, Nat.zero_add, Nat.reduceBEq, List.getElem?_cons_zero, List.getElem?_cons_succ, List.contains_cons, List.contains_nil, vpart_false, vextract, decide_true, decide_false, bne, Bool.or_false, Bool.or_true, Bool.false_or, Bool.true_or, Bool.or_self, Bool.false_and, Bool.true_and, Bool.and_false, Bool.and_true, Bool.and_self, Bool.not_true, Bool.not_false, Bool.not_not, vfieldAddr, D.notTuple, D.cells, mu16, vnilCheck, *])
        | (refine onBH_caseN (fun hc => ?_) (fun hc => ?_))
        | (refine onBH_case (fun hc => ?_) (fun hc => ?_))
        | (refine gifH_caseNT (fun hc => ?_) (fun hc => ?_))
        | (refine gifH_caseNF (fun hc => ?_) (fun hc => ?_))
        | (refine gifH_caseT (fun hc => ?_) (fun hc => ?_))
        | (refine gifH_caseF (fun hc => ?_) (fun hc => ?_))
      first | exact zero (hE.set (Nat.le_refl _) _) htgt.symm | exact (zero (hE.set (Nat.le_refl _) _) htgt.symm).2
    | inr p =>
      obtain ⟨n', i'⟩ := p
      rw [hs] at hls htgt
      obtain ⟨hls, hi1, hi2⟩ := hls
      have hnb' := (hst' i' n n' hnb hs).2
      rw [hls] at hln
      simp only at htgt
      rw [parseL_fuel (f' := ps.length - i') hi2 (by omega) (by omega)] at htgt
      have hb : ((0 : Int) == 0) = true := rfl
      clear hls hst' hs hnb
      repeat' first
        | (simp only [go_sem, Nat.reduceEqDiff, Int.reduceBEq, Int.reduceLT, Int.reduceLE, Int.reduceGT, Int.reduceGE, ↓reduceIte, Nat.reduceAdd, Nat.zero_add, Nat.reduceBEq, List.getElem?_cons_zero, List.getElem?_cons_succ, List.contains_cons, List.contains_nil, vpart_false, vextract, decide_true, decide_false, bne, Bool.or_false, Bool.or_true, Bool.false_or, Bool.true_or, Bool.or_self, Bool.false_and, Bool.true_and, Bool.and_false, Bool.and_true, Bool.and_self, Bool.not_true, Bool.not_false, Bool.not_not, vfieldAddr, D.notTuple, D.cells, mu16, vnilCheck, *])
        | (refine onBH_caseN (fun hc => ?_) (fun hc => ?_))
        | (refine onBH_case (fun hc => ?_) (fun hc => ?_))
        | (refine gifH_caseNT (fun hc => ?_) (fun hc => ?_))
        | (refine gifH_caseNF (fun hc => ?_) (fun hc => ?_))
        | (refine gifH_caseT (fun hc => ?_) (fun hc => ?_))
        | (refine gifH_caseF (fun hc => ?_) (fun hc => ?_))
      refine hln.mono ?_
      rintro v h2 ⟨rfl, hR2⟩
      clear hln
      repeat' first
        | (simp only [go_sem, Nat.reduceEqDiff, Int.reduceBEq, Int.reduceLT, Int.reduceLE, Int.reduceGT, Int.reduceGE, ↓reduceIte, Nat.reduceAdd, Nat.zero_add, Nat.reduceBEq, List.getElem?_cons_zero, List.getElem?_cons_succ, List.contains_cons, List.contains_nil, vpart_false, vextract, decide_true, decide_false, bne, Bool.or_false, Bool.or_true, Bool.false_or, Bool.true_or, Bool.or_self, Bool.false_and, Bool.true_and, Bool.and_false, Bool.and_true, Bool.and_self, Bool.not_true, Bool.not_false, Bool.not_not, vfieldAddr, D.notTuple, D.cells, mu16, vnilCheck, *])
        | (refine onBH_caseN (fun hc => ?_) (fun hc => ?_))
        | (refine onBH_case (fun hc => ?_) (fun hc => ?_))
        | (refine gifH_caseNT (fun hc => ?_) (fun hc => ?_))
        | (refine gifH_caseNF (fun hc => ?_) (fun hc => ?_))
        | (refine gifH_caseT (fun hc => ?_) (fun hc => ?_))
        | (refine gifH_caseF (fun hc => ?_) (fun hc => ?_))
      exact ⟨ps.length - i', by omega, i', n', rfl, hi2, hR2, hnb', htgt⟩
  · have hie : i = ps.length - 1 := by omega
    have e2 : decide ((i : Int) < ((ps.length - 1 : Nat) : Int)) = false := decide_eq_false (by omega)
    have hlp : ps.length - 1 < ps.length := Nat.sub_lt hpos Nat.one_pos
    have hat := at_strs (IsSl.mk (sz := 1) (xs := strs ps) .no) hlp
    have hgd : ps.getD i [] = ps[ps.length - 1]'hlp := by rw [List.getD_eq_getElem?_getD, hie, List.getElem?_eq_getElem hlp]; rfl
    rw [show ps.length - i = 0 + 1 by omega] at htgt
    simp only [parseL] at htgt
    rw [if_neg hlt, hgd] at htgt
    cases hem : (ps[ps.length - 1]'hlp == []) with
    | false =>
      have hst4 : vstore Tryz.prog 24 (.ptr h.next 0) (.agg nil4) h' = some (h'.set h.next (.row nil4)) := vstore_whole hq szT_24 rfl (by simp) rfl
      rw [if_pos (by simpa using hem)] at htgt
      have hlast : (i : Int) = ((ps.length - 1 : Nat) : Int) := by omega
      rw [hlast] at htgt
      clear hie hlast hgd hR0 htx hpl hstep hF hL
      repeat' first
        | (simp only [go_sem, Nat.reduceEqDiff, Int.reduceBEq, Int.reduceLT, Int.reduceLE, Int.reduceGT, Int.reduceGE, ↓reduceIte, Nat.reduceAdd, Nat.zero_add, Nat.reduceBEq, List.getElem?_cons_zero, List.getElem?_cons_succ, List.contains_cons, List.contains_nil, vpart_false, vextract, decide_true, decide_false, bne, Bool.or_false, Bool.or_true, Bool.false_or, Bool.true_or, Bool.or_self, Bool.false_and, Bool.true_and, Bool.and_false, Bool.and_true, Bool.and_self, Bool.not_true, Bool.not_false, Bool.not_not, vfieldAddr, D.notTuple, D.cells, mu16, vnilCheck, *])
        | (refine onBH_caseN (fun hc => ?_) (fun hc => ?_))
        | (refine onBH_case (fun hc => ?_) (fun hc => ?_))
        | (refine gifH_caseNT (fun hc => ?_) (fun hc => ?_))
        | (refine gifH_caseNF (fun hc => ?_) (fun hc => ?_))
        | (refine gifH_caseT (fun hc => ?_) (fun hc => ?_))
        | (refine gifH_caseF (fun hc => ?_) (fun hc => ?_))
      first | exact zero (hE.set (Nat.le_refl _) _) htgt.symm | exact (zero (hE.set (Nat.le_refl _) _) htgt.symm).2
    | true =>
      rw [if_neg (by simpa using hem)] at htgt
      have hnote := four_note hF
      have hsm := nb_sm hnb (by omega) (by omega)
      have hld : vload Tryz.prog 24 (.ptr (h.next + 1) 3) h' = some (.agg [a, b, c, e]) := vload_cells (m := 4) (pre := [dL, .int .i64 (i : Int), .int .i64 (partOf n : Int)]) (mid := [a, b, c, e]) (post := []) hrow rfl rfl agT_24 szT_24 (by decide)
      cases hck : (checkS n == 0) with
      | false =>
        have hst4 : vstore Tryz.prog 24 (.ptr h.next 0) (.agg nil4) h' = some (h'.set h.next (.row nil4)) := vstore_whole hq szT_24 rfl (by simp) rfl
        rw [if_pos (by simpa using hck)] at htgt
        clear hie hgd hR0 htx hpl hstep hF hL
        repeat' first
          | (simp only [go_sem, Nat.reduceEqDiff, Int.reduceBEq, Int.reduceLT, Int.reduceLE, Int.reduceGT, Int.reduceGE, ↓reduceIte, Nat.reduceAdd, Nat.zero_add, Nat.reduceBEq, List.getElem?_cons_zero, List.getElem?_cons_succ, List.contains_cons, List.contains_nil, vpart_false, vextract, decide_true, decide_false, bne, Bool.or_false, Bool.or_true, Bool.false_or, Bool.true_or, Bool.or_self, Bool.false_and, Bool.true_and, Bool.and_false, Bool.and_true, Bool.and_self, Bool.not_true, Bool.not_false, Bool.not_not, vfieldAddr, D.notTuple, D.cells, mu16, vnilCheck, *])
          | (refine onBH_caseN (fun hc => ?_) (fun hc => ?_))
          | (refine onBH_case (fun hc => ?_) (fun hc => ?_))
          | (refine gifH_caseNT (fun hc => ?_) (fun hc => ?_))
          | (refine gifH_caseNF (fun hc => ?_) (fun hc => ?_))
          | (refine gifH_caseT (fun hc => ?_) (fun hc => ?_))
          | (refine gifH_caseF (fun hc => ?_) (fun hc => ?_))
          | (refine VCall.mono (c_check hnote hsm _) ?_; rintro r h ⟨rfl, rfl⟩)
        first | exact zero (hE.set (Nat.le_refl _) _) htgt.symm | exact (zero (hE.set (Nat.le_refl _) _) htgt.symm).2
      | true =>
        have hst4 : vstore Tryz.prog 24 (.ptr h.next 0) (.agg [a, b, c, e]) h' = some (h'.set h.next (.row [a, b, c, e])) := vstore_whole hq szT_24 rfl (by simp) (flat4 (hF.flat (xs := strs n.ls) (d := a) (by simp)).1 (hF.flat (xs := strs n.ts) (d := b) (by simp)).1 (hF.flat (xs := strs n.hs) (d := c) (by simp)).1 (hF.flat (xs := strs n.cs) (d := e) (by simp)).1)
        rw [if_neg (by simpa using hck)] at htgt
        have hfin := parse_note hF
        rw [htgt] at hfin
        clear hie hgd hR0 htx hpl hstep hF hL
        repeat' first
          | (simp only [go_sem, Nat.reduceEqDiff, Int.reduceBEq, Int.reduceLT, Int.reduceLE, Int.reduceGT, Int.reduceGE, ↓reduceIte, Nat.reduceAdd, Nat.zero_add, Nat.reduceBEq, List.getElem?_cons_zero, List.getElem?_cons_succ, List.contains_cons, List.contains_nil, vpart_false, vextract, decide_true, decide_false, bne, Bool.or_false, Bool.or_true, Bool.false_or, Bool.true_or, Bool.or_self, Bool.false_and, Bool.true_and, Bool.and_false, Bool.and_true, Bool.and_self, Bool.not_true, Bool.not_false, Bool.not_not, vfieldAddr, D.notTuple, D.cells, mu16, vnilCheck, *])
          | (refine onBH_caseN (fun hc => ?_) (fun hc => ?_))
          | (refine onBH_case (fun hc => ?_) (fun hc => ?_))
          | (refine gifH_caseNT (fun hc => ?_) (fun hc => ?_))
          | (refine gifH_caseNF (fun hc => ?_) (fun hc => ?_))
          | (refine gifH_caseT (fun hc => ?_) (fun hc => ?_))
          | (refine gifH_caseF (fun hc => ?_) (fun hc => ?_))
          | (refine VCall.mono (c_check hnote hsm _) ?_; rintro r h ⟨rfl, rfl⟩)
        exact ⟨hE.set (Nat.le_refl _) _, below_mono (Nat.zero_le _) _ hfin.1⟩
end Go.V
namespace Go.V
open Go.Proofs
set_option maxRecDepth 100000
set_option linter.unusedSimpArgs false
set_option linter.unusedVariables false

/-! licitref44.Parse. -/
abbrev nil6 : List D := [.nilsl, .nilsl, .nilsl, .nilsl, .int .i64 0, .int .i64 0]
/-- The row r of the notice, and the row q of the result. -/
def RN (h0 : Heap) (r q : Nat) (n : Note) (h : Heap) : Prop :=
  Ext h0 h ∧ h0.next ≤ q ∧ q < r ∧ r < h.next ∧ h.at' q = some (.row nil6) ∧ ∃ a b c e, h.at' r = some (.row [a, b, c, e]) ∧ Four h0 h n a b c e
def RefQ (p : Note × Int × Int) (r : D) : Prop := ∃ a b c e, r = .agg [a, b, c, e, .int .i64 p.2.1, .int .i64 p.2.2] ∧ IsNote p.1 (.agg [a, b, c, e])
theorem ref_zero {p : Note × Int × Int} {k e : Int} (h : p = (.zero, k, e)) : below 0 (strip (.agg [.nilsl, .nilsl, .nilsl, .nilsl, .int .i64 k, .int .i64 e])) ∧ RefQ p (strip (.agg [.nilsl, .nilsl, .nilsl, .nilsl, .int .i64 k, .int .i64 e])) := by
  subst h
  have e : strip (.agg [.nilsl, .nilsl, .nilsl, .nilsl, .int .i64 k, .int .i64 e]) = .agg [.nilsl, .nilsl, .nilsl, .nilsl, .int .i64 k, .int .i64 e] := by simp [strip, stripL]
  rw [e]
  exact ⟨by simp [below, belowL], .nilsl, .nilsl, .nilsl, .nilsl, rfl, .nilsl, .nilsl, .nilsl, .nilsl, rfl, IsSl.nil, IsSl.nil, IsSl.nil, IsSl.nil⟩
theorem ref_note {n : Note} {a b c e : D} {h0 h : Heap} (hF : Four h0 h n a b c e) : below 0 (strip (.agg [a, b, c, e, .int .i64 0, .int .i64 0])) ∧ RefQ (n, 0, 0) (strip (.agg [a, b, c, e, .int .i64 0, .int .i64 0])) := by
  have e : strip (.agg [a, b, c, e, .int .i64 0, .int .i64 0]) = .agg [strip a, strip b, strip c, strip e, .int .i64 0, .int .i64 0] := by simp [strip, stripL]
  rw [e]
  have q1 := (hF.sl (xs := strs n.ls) (d := a) (by simp)).fin strs_plain
  have q2 := (hF.sl (xs := strs n.ts) (d := b) (by simp)).fin strs_plain
  have q3 := (hF.sl (xs := strs n.hs) (d := c) (by simp)).fin strs_plain
  have q4 := (hF.sl (xs := strs n.cs) (d := ‹D›) (by simp)).fin strs_plain
  refine ⟨?_, _, _, _, _, rfl, _, _, _, _, rfl, q1.2.isSl, q2.2.isSl, q3.2.isSl, q4.2.isSl⟩
  simp [below, belowL, q1.1, q2.1, q3.1, q4.1]

theorem flat6 {a b c e : D} {x y : Int} (h1 : a.flat = true) (h2 : b.flat = true) (h3 : c.flat = true) (h4 : e.flat = true) : [a, b, c, e, .int .i64 x, .int .i64 y].all D.flat = true := by simp [h1, h2, h3, h4, flat_int]
theorem join_snoc (sep x : List UInt8) : ∀ xs : List (List UInt8), Lib.join (xs ++ [x]) sep = if xs = [] then x else Lib.join xs sep ++ sep ++ x
  | [] => by simp [Lib.join_one]
  | [y] => by simp [join_cons2, Lib.join_one]
  | y :: z :: r => by
    have ih := join_snoc sep x (z :: r)
    rw [if_neg (by simp)] at ih ⊢
    rw [List.cons_append, List.cons_append, join_cons2, join_cons2, ← List.cons_append, ih]
    simp [List.append_assoc]
theorem textL_zero (l : List (List UInt8)) (i : Nat) : textL l i 0 = [] := by simp [textL, Lib.join_nil]
theorem textL_succ {l : List (List UInt8)} {i m : Nat} (h : i + m < l.length) : textL l i (m + 1) = if m = 0 then l[i + m] else textL l i m ++ [10] ++ l[i + m] := by
  unfold textL
  have h1 : m < (l.drop i).length := by rw [List.length_drop]; omega
  rw [List.take_succ_eq_append_getElem h1, join_snoc]
  have h2 : (l.drop i)[m] = l[i + m] := List.getElem_drop ..
  rw [h2]
  by_cases hm : m = 0
  · rw [if_pos hm, if_pos (by rw [hm]; rfl)]
  · rw [if_neg hm, if_neg ?_]
    intro e
    have := congrArg List.length e
    simp only [List.length_take, List.length_nil] at this
    omega

theorem licS_lt (s : List UInt8) : (licS s).2 < 1000 := by
  unfold licS licT
  split
  · split
    · split
      · decide
      · exact (numS_lt _).2
    · decide
  · decide

set_option maxHeartbeats 4000000 in
theorem c_refParse {s : List UInt8} (hl : s.length ≤ 1048576) (g : Heap) :
    VCall Tryz.prog 17 [.str s] g fun r h' => h' = g ∧ RefQ (parseS s) r := by
  refine VCall.pure (by kernel_rfl) fun hok => VCall.strip ?_
  refine VCall.of_fn (g := cfg17) mix Tryz.func17 ok17 rfl rfl ?_
  simp only [Tryz.f17, Option.getD_some]
  have hv6 : ∀ a b c e f k0 : D, vpart true 6 [a, b, c, e, f, k0] 0 = some (.agg [a, b, c, e, f, k0]) := fun a b c e f k0 => vpart_whole rfl (by omega)
  have hv4 : ∀ a b c e : D, vpart true 4 [a, b, c, e] 0 = some (.agg [a, b, c, e]) := fun a b c e => vpart_whole rfl (by omega)
  have hbE : ∀ k e : Int, vbuild Tryz.prog 37 [(1, .int .i64 k), (2, .int .i64 e)] = some (.agg [.nilsl, .nilsl, .nilsl, .nilsl, .int .i64 k, .int .i64 e]) := fun k e => by simp [vbuild, placesT_37, zeroT_37, vfill, D.notTuple, D.cells, putAt]
  have hbE1 : ∀ e : Int, vbuild Tryz.prog 37 [(2, .int .i64 e)] = some (.agg [.nilsl, .nilsl, .nilsl, .nilsl, .int .i64 0, .int .i64 e]) := fun e => by simp [vbuild, placesT_37, zeroT_37, vfill, D.notTuple, D.cells, putAt]
  have hbN : ∀ a b c e : D, vbuild Tryz.prog 37 [(0, .agg [a, b, c, e])] = some (.agg [a, b, c, e, .int .i64 0, .int .i64 0]) := fun a b c e => by simp [vbuild, placesT_37, zeroT_37, vfill, D.notTuple, D.cells, putAt]
  have hb0 : vbuild Tryz.prog 24 [] = some (.agg nil4) := by simp [vbuild, placesT_24, zeroT_24, vfill, D.notTuple, D.cells]
  have hst0 : ∀ (H : Heap) (a b c e f k0 : D), [a, b, c, e, f, k0].all D.flat = true → vstore Tryz.prog 37 (.ptr g.next 0) (.agg [a, b, c, e, f, k0]) (H.new g.next (.row nil6)) = some (H.new g.next (.row [a, b, c, e, f, k0])) := fun H a b c e f k0 hf => vstore_new szT_37 (by omega) rfl rfl hf
  have hst4 : ∀ (H : Heap) (i : Nat), vstore Tryz.prog 24 (.ptr i 0) (.agg nil4) (H.new i (.row nil4)) = some (H.new i (.row nil4)) := fun H i => vstore_new szT_24 (by omega) rfl rfl rfl
  have hstq : ∀ {H : Heap} {a b c e f k0 : D}, H.at' g.next = some (.row nil6) → [a, b, c, e, f, k0].all D.flat = true → vstore Tryz.prog 37 (.ptr g.next 0) (.agg [a, b, c, e, f, k0]) H = some (H.set g.next (.row [a, b, c, e, f, k0])) := fun hq hf => vstore_whole hq szT_37 rfl (by simp) hf
  have hE0 : Ext g (g.new g.next (.row nil6)) := (Ext.refl g).new (Nat.le_refl _) _
  have zero : ∀ {k e : Int} {h' : Heap}, Ext g h' → parseS s = (.zero, k, e) → Ext g h' ∧ below g.next (strip (.agg [.nilsl, .nilsl, .nilsl, .nilsl, .int .i64 k, .int .i64 e])) ∧ RefQ (parseS s) (strip (.agg [.nilsl, .nilsl, .nilsl, .nilsl, .int .i64 k, .int .i64 e])) := fun hE hm => by
    have := ref_zero hm
    exact ⟨hE, below_mono (Nat.zero_le _) _ this.1, this.2⟩
  by_cases hbig : s.length > 65536
  · have e1 : decide ((s.length : Int) > 65536) = true := decide_eq_true (by omega)
    have hs := hst0 g .nilsl .nilsl .nilsl .nilsl (.int .i64 0) (.int .i64 10) rfl
    repeat' first
      | (simp only [go_sem, Nat.reduceEqDiff, Int.reduceBEq, Int.reduceLT, Int.reduceLE, Int.reduceGT, Int.reduceGE, ↓reduceIte, Nat.reduceAdd, Nat.zero_add, Nat.reduceBEq, List.getElem?_cons_zero, List.getElem?_cons_succ, List.contains_cons, List.contains_nil, vpart_false, vextract, decide_true, decide_false, bne, Bool.or_false, Bool.or_true, Bool.false_or, Bool.true_or, Bool.or_self, Bool.false_and, Bool.true_and, Bool.and_false, Bool.and_true, Bool.and_self, Bool.not_true, Bool.not_false, Bool.not_not, vfieldAddr, D.notTuple, D.cells, mu17, new_at, *])
      | (refine onBH_caseN (fun hc => ?_) (fun hc => ?_))
      | (refine onBH_case (fun hc => ?_) (fun hc => ?_))
      | (refine gifH_caseNT (fun hc => ?_) (fun hc => ?_))
      | (refine gifH_caseNF (fun hc => ?_) (fun hc => ?_))
      | (refine gifH_caseT (fun hc => ?_) (fun hc => ?_))
      | (refine gifH_caseF (fun hc => ?_) (fun hc => ?_))
    first | exact zero ((Ext.refl g).new (Nat.le_refl _) _) (by unfold parseS; rw [if_pos hbig]) | exact (zero (h' := g) (Ext.refl g) (by unfold parseS; rw [if_pos hbig])).2
  have e1 : decide ((s.length : Int) > 65536) = false := decide_eq_false (by omega)
  have hps : parseL (splitB 10 s) ((splitB 10 s).length - 0) 0 .zero = parseS s := by unfold parseS; rw [if_neg hbig, Nat.sub_zero]
  have hpl := splitB_part_le 10 s
  have hpn := splitB_len_le 10 s
  have hne := splitB_ne 10 s
  have htx := textL_len s
  have hstep := fun i i' n n' => step_nb (s := s) (i := i) (i' := i') (n := n) (n' := n')
  have hsplit := c_lines36 hl
  generalize splitB 10 s = ps at *
  have hpos : 0 < ps.length := List.length_pos_iff.2 hne
  have ew : IntKind.i64.wrap ((ps.length : Int) - 1) = ((ps.length - 1 : Nat) : Int) := by rw [wrap_i64 (by omega) (by omega)]; omega
  have hnx : (g.new g.next (.row nil6)).next = g.next + 1 := next_new_eq _ _
  repeat' first
    | (simp only [go_sem, Nat.reduceEqDiff, Int.reduceBEq, Int.reduceLT, Int.reduceLE, Int.reduceGT, Int.reduceGE, ↓reduceIte, Nat.reduceAdd, Nat.zero_add, Nat.reduceBEq, List.getElem?_cons_zero, List.getElem?_cons_succ, List.contains_cons, List.contains_nil, vpart_false, vextract, decide_true, decide_false, bne, Bool.or_false, Bool.or_true, Bool.false_or, Bool.true_or, Bool.or_self, Bool.false_and, Bool.true_and, Bool.and_false, Bool.and_true, Bool.and_self, Bool.not_true, Bool.not_false, Bool.not_not, vfieldAddr, D.notTuple, D.cells, mu17, new_at, *])
    | (refine onBH_caseN (fun hc => ?_) (fun hc => ?_))
    | (refine onBH_case (fun hc => ?_) (fun hc => ?_))
    | (refine gifH_caseNT (fun hc => ?_) (fun hc => ?_))
    | (refine gifH_caseNF (fun hc => ?_) (fun hc => ?_))
    | (refine gifH_caseT (fun hc => ?_) (fun hc => ?_))
    | (refine gifH_caseF (fun hc => ?_) (fun hc => ?_))
  refine (hsplit _).mono ?_
  rintro dl _ ⟨rfl, hdl⟩
  have hlen := len_strs hdl.isSl
  repeat' first
    | (simp only [go_sem, Nat.reduceEqDiff, Int.reduceBEq, Int.reduceLT, Int.reduceLE, Int.reduceGT, Int.reduceGE, ↓reduceIte, Nat.reduceAdd, Nat.zero_add, Nat.reduceBEq, List.getElem?_cons_zero, List.getElem?_cons_succ, List.contains_cons, List.contains_nil, vpart_false, vextract, decide_true, decide_false, bne, Bool.or_false, Bool.or_true, Bool.false_or, Bool.true_or, Bool.or_self, Bool.false_and, Bool.true_and, Bool.and_false, Bool.and_true, Bool.and_self, Bool.not_true, Bool.not_false, Bool.not_not, vfieldAddr, D.notTuple, D.cells, mu17, new_at, *])
    | (refine onBH_caseN (fun hc => ?_) (fun hc => ?_))
    | (refine onBH_case (fun hc => ?_) (fun hc => ?_))
    | (refine gifH_caseNT (fun hc => ?_) (fun hc => ?_))
    | (refine gifH_caseNF (fun hc => ?_) (fun hc => ?_))
    | (refine gifH_caseT (fun hc => ?_) (fun hc => ?_))
    | (refine gifH_caseF (fun hc => ?_) (fun hc => ?_))
  obtain ⟨H, hH, hRH⟩ : ∃ H, (g.new g.next (.row nil6)).new (g.next + 1) (.row nil4) = H ∧ RN g (g.next + 1) g.next .zero H := by
    refine ⟨_, rfl, hE0.new (by omega) _, Nat.le_refl _, by omega, ?_, ?_, .nilsl, .nilsl, .nilsl, .nilsl, new_at _ _ _, ?_⟩
    · rw [next_new_ge _ (by rw [hnx]; exact Nat.le_refl _)]; omega
    · rw [new_keep (by omega)]; exact new_at _ _ _
    · refine ⟨fun p hp => ?_, ?_⟩
      · simp [Note.zero, strs] at hp
        subst hp
        exact ⟨.inl ⟨rfl, rfl⟩, fun i hi => hi.elim⟩
      · simp [tokOf]
  rw [hH]
  clear hH hE0 hnx
  refine vwp_loop (fun k fr h' => ∃ (i : Nat) (n : Note), k = ps.length - i ∧ i < ps.length ∧ fr 2 = .ptr g.next 0 ∧ fr 3 = dl ∧ fr 4 = .ptr (g.next + 1) 0 ∧ fr 5 = .int .i64 (i : Int) ∧
    RN g (g.next + 1) g.next n h' ∧ NB s.length i n ∧ parseL ps (ps.length - i) i n = parseS s) ps.length ?_ ?_
  · refine ⟨0, .zero, rfl, hpos, ?_⟩
    simp only [go_sem, Nat.reduceEqDiff, Int.reduceBEq, Int.reduceLT, Int.reduceLE, Int.reduceGT, Int.reduceGE, ↓reduceIte, Nat.reduceAdd, Nat.zero_add, Nat.reduceBEq, List.getElem?_cons_zero, List.getElem?_cons_succ, List.contains_cons, List.contains_nil, vpart_false, vextract, decide_true, decide_false, bne, Bool.or_false, Bool.or_true, Bool.false_or, Bool.true_or, Bool.or_self, Bool.false_and, Bool.true_and, Bool.and_false, Bool.and_true, Bool.and_self, Bool.not_true, Bool.not_false, Bool.not_not, vfieldAddr, D.notTuple, D.cells, mu17, true_and, and_true, Int.ofNat_zero]
    exact ⟨hRH, nb_zero _, hps⟩
  clear hRH hps
  rintro k fr h' ⟨i, n, rfl, hi, f2, f3, f4, f5, hR, hnb, htgt⟩
  obtain ⟨hE, hq0, hqr, hr, hq, a, b, c, e, hrow, hF⟩ := hR
  have e0 : decide ((i : Int) < (ps.length : Int)) = true := decide_eq_true (by omega)
  have hat := at_strs hdl.isSl hi
  have hgd : ps.getD i [] = ps[i] := getD_at hi
  by_cases hlt : i + 1 < ps.length
  · have e2 : ((i : Int) == ((ps.length - 1 : Nat) : Int)) = false := beq_eq_false_iff_ne.2 (by omega)
    obtain ⟨f, hf⟩ : ∃ f, ps.length - i = f + 1 := ⟨ps.length - i - 1, by omega⟩
    rw [hf, parseL_step hlt] at htgt
    have hls := line_step (n := n) hlt
    have hst' := hstep i
    have hxl : (ps[i]).length ≤ 1048576 := by have := hpl _ (List.getElem_mem hi); omega
    have c1 := c_refLicense hxl
    have c2 := c_begins (w := holdW ++ [32]) hxl
    have c3 := c_begins (w := chgW ++ [32]) hxl
    have ewi : IntKind.i64.wrap ((i : Int) + 1) = ((i + 1 : Nat) : Int) := wrap_succ (by unfold lim; omega)
    -- a round that goes on
    have next : ∀ {n' : Note} {i' : Nat}, stepS ps i n = .inr (n', i') → ps.length - i' < ps.length - i ∧ i' < ps.length ∧ NB s.length i' n' ∧ parseL ps (ps.length - i') i' n' = parseS s := fun {n' i'} hs => by
      rw [hs] at hls htgt
      refine ⟨by omega, hls.2.2, (hst' i' n n' hnb hs).2, ?_⟩
      rw [← htgt]
      exact parseL_fuel hls.2.2 (by omega) (by omega)
    have stop : ∀ {er : Int}, stepS ps i n = .inl er → parseS s = (.zero, (i : Int), er) := fun {er} hs => by
      rw [hs] at htgt; exact htgt.symm
    have hSt : stepS ps i n = (if (licS ps[i]).2 < 0 ∧ begS ps[i] (holdW ++ [32]) = false ∧ begS ps[i] (chgW ++ [32]) = false then .inl 4
      else if begS ps[i] (holdW ++ [32]) = true then (if n.cs ≠ [] then .inl 5 else .inr ({ n with hs := n.hs ++ [ps[i].drop 7] }, i + 1))
      else if begS ps[i] (chgW ++ [32]) = true then .inr ({ n with cs := n.cs ++ [ps[i].drop 7] }, i + 1)
      else if n.hs ≠ [] ∨ n.cs ≠ [] then .inl 5
      else if (i : Int) + (licS ps[i]).2 ≥ (ps.length : Int) - 1 then .inl 13
      else if (licS ps[i]).2 = 1 ∧ textL ps (i + 1) (licS ps[i]).2.toNat = [] then .inl 4
      else .inr ({ n with ls := n.ls ++ [(licS ps[i]).1], ts := n.ts ++ [textL ps (i + 1) (licS ps[i]).2.toNat] }, i + 1 + (licS ps[i]).2.toNat)) := by
      unfold stepS; simp only [hgd]
    clear hls hst' hstep hgd htgt hf
    have la := len_strs (hF.sl (xs := strs n.ls) (d := a) (by simp)).isSl
    have lc := len_strs (hF.sl (xs := strs n.hs) (d := c) (by simp)).isSl
    have le := len_strs (hF.sl (xs := strs n.cs) (d := e) (by simp)).isSl
    have hb7 : begS ps[i] (holdW ++ [32]) = true → begD ps[i] (holdW ++ [32]) = .tuple [.str (ps[i].drop 7), .bool true] := fun q => by unfold begD; rw [if_pos q]; rfl
    have hb8 : begS ps[i] (holdW ++ [32]) = false → begD ps[i] (holdW ++ [32]) = .tuple [.str [], .bool false] := fun q => by unfold begD; rw [if_neg (by rw [q]; exact Bool.false_ne_true)]
    have cb7 : begS ps[i] (chgW ++ [32]) = true → begD ps[i] (chgW ++ [32]) = .tuple [.str (ps[i].drop 7), .bool true] := fun q => by unfold begD; rw [if_pos q]; rfl
    have cb8 : begS ps[i] (chgW ++ [32]) = false → begD ps[i] (chgW ++ [32]) = .tuple [.str [], .bool false] := fun q => by unfold begD; rw [if_neg (by rw [q]; exact Bool.false_ne_true)]
    have stopQ : ∀ {er : Int}, stepS ps i n = .inl er → Ext g (h'.set g.next (.row [.nilsl, .nilsl, .nilsl, .nilsl, .int .i64 (i : Int), .int .i64 er])) ∧ below g.next (strip (.agg [.nilsl, .nilsl, .nilsl, .nilsl, .int .i64 (i : Int), .int .i64 er])) ∧ RefQ (parseS s) (strip (.agg [.nilsl, .nilsl, .nilsl, .nilsl, .int .i64 (i : Int), .int .i64 er])) := fun hs => zero (hE.set (Nat.le_refl _) _) (stop hs)
    have hsq : ∀ er : Int, vstore Tryz.prog 37 (.ptr g.next 0) (.agg [.nilsl, .nilsl, .nilsl, .nilsl, .int .i64 (i : Int), .int .i64 er]) h' = some (h'.set g.next (.row [.nilsl, .nilsl, .nilsl, .nilsl, .int .i64 (i : Int), .int .i64 er])) := fun er => hstq hq rfl
    obtain ⟨kl, hkl⟩ : ∃ kl, (licS ps[i]).2 = kl := ⟨_, rfl⟩
    rw [hkl] at hSt
    clear stop zero
    cases hb : begS ps[i] (holdW ++ [32]) with
    | true =>
      have hb9 := hb7 hb
      have hx : ∃ x y, begD ps[i] (chgW ++ [32]) = .tuple [.str x, .bool y] := by
        cases cb : begS ps[i] (chgW ++ [32]) with
        | true => exact ⟨_, _, cb7 cb⟩
        | false => exact ⟨_, _, cb8 cb⟩
      obtain ⟨x, y, hx⟩ := hx
      rw [if_neg (fun q => by rw [hb] at q; exact absurd q.2.1 (by decide)), if_pos hb] at hSt
      clear hb7 hb8 cb7 cb8 hb
      by_cases hcs : n.cs ≠ []
      · have e3 : decide ((n.cs.length : Int) > 0) = true := decide_eq_true (by have := List.length_pos_iff.2 hcs; omega)
        rw [if_pos hcs] at hSt
        have fin := stopQ hSt
        clear hSt next stopQ hcs
        repeat' first
          | (simp only [go_sem, Nat.reduceEqDiff, Int.reduceBEq, Int.reduceLT, Int.reduceLE, Int.reduceGT, Int.reduceGE, ↓reduceIte, Nat.reduceAdd, Nat.zero_add, Nat.reduceBEq, List.getElem?_cons_zero, List.getElem?_cons_succ, List.contains_cons, List.contains_nil, vpart_false, vextract, decide_true, decide_false, bne, Bool.or_false, Bool.or_true, Bool.false_or, Bool.true_or, Bool.or_self, Bool.false_and, Bool.true_and, Bool.and_false, Bool.and_true, Bool.and_self, Bool.not_true, Bool.not_false, Bool.not_not, vfieldAddr, D.notTuple, D.cells, mu17, *])
          | (refine onBH_caseN (fun hc => ?_) (fun hc => ?_))
          | (refine onBH_case (fun hc => ?_) (fun hc => ?_))
          | (refine gifH_caseNT (fun hc => ?_) (fun hc => ?_))
          | (refine gifH_caseNF (fun hc => ?_) (fun hc => ?_))
          | (refine gifH_caseT (fun hc => ?_) (fun hc => ?_))
          | (refine gifH_caseF (fun hc => ?_) (fun hc => ?_))
          | (refine VCall.mono (c1 _) ?_; rintro r h ⟨rfl, rfl⟩)
          | (refine VCall.mono (c2 _) ?_; rintro r h ⟨rfl, rfl⟩)
          | (refine VCall.mono (c3 _) ?_; rintro r h ⟨rfl, rfl⟩)
      · have e3 : decide ((n.cs.length : Int) > 0) = false := decide_eq_false (by have : n.cs = [] := Decidable.not_not.1 hcs; rw [this]; simp)
        rw [if_neg hcs] at hSt
        obtain ⟨t1, t2, t3, t4⟩ := next hSt
        clear hSt next stopQ hcs
        repeat' first
          | (simp only [go_sem, Nat.reduceEqDiff, Int.reduceBEq, Int.reduceLT, Int.reduceLE, Int.reduceGT, Int.reduceGE, ↓reduceIte, Nat.reduceAdd, Nat.zero_add, Nat.reduceBEq, List.getElem?_cons_zero, List.getElem?_cons_succ, List.contains_cons, List.contains_nil, vpart_false, vextract, decide_true, decide_false, bne, Bool.or_false, Bool.or_true, Bool.false_or, Bool.true_or, Bool.or_self, Bool.false_and, Bool.true_and, Bool.and_false, Bool.and_true, Bool.and_self, Bool.not_true, Bool.not_false, Bool.not_not, vfieldAddr, D.notTuple, D.cells, mu17, one_str, *])
          | (refine onBH_caseN (fun hc => ?_) (fun hc => ?_))
          | (refine onBH_case (fun hc => ?_) (fun hc => ?_))
          | (refine gifH_caseNT (fun hc => ?_) (fun hc => ?_))
          | (refine gifH_caseNF (fun hc => ?_) (fun hc => ?_))
          | (refine gifH_caseT (fun hc => ?_) (fun hc => ?_))
          | (refine gifH_caseF (fun hc => ?_) (fun hc => ?_))
          | (refine VCall.mono (c1 _) ?_; rintro r h ⟨rfl, rfl⟩)
          | (refine VCall.mono (c2 _) ?_; rintro r h ⟨rfl, rfl⟩)
          | (refine VCall.mono (c3 _) ?_; rintro r h ⟨rfl, rfl⟩)
        all_goals
          refine hF.str (pre := [(_, a), (_, b)]) hE.1 (by have := hnb.hs.1; omega) fun d1 H2 F2 n2 k2 c2 f2 => ?_
          have r2 : H2.at' (g.next + 1) = some (.row [a, b, c, e]) := by rw [k2 _ hr (.inr (by rw [hrow]; simp))]; exact hrow
          have q2 : H2.at' g.next = some (.row nil6) := by rw [k2 _ (by omega) (.inr (by rw [hq]; simp))]; exact hq
          have e2' : Ext g H2 := ⟨Nat.le_trans hE.1 n2, fun i hi => by rw [k2 i (by have := hE.1; omega) (.inl hi)]; exact hE.2 i hi⟩
          have s1 : vstore Tryz.prog 22 (.ptr (g.next + 1) 2) d1 H2 = some (H2.set (g.next + 1) (.row [a, b, d1, e])) := by
            rw [vstore_cell r2 szT_22 (by simp) c2 f2]; rfl
          have hR2 : RN g (g.next + 1) g.next { n with hs := n.hs ++ [ps[i].drop 7] } (H2.set (g.next + 1) (.row [a, b, d1, e])) :=
            ⟨e2'.set (by omega) _, hq0, hqr, by show g.next + 1 < H2.next; omega, by rw [set_keep (by omega)]; exact q2, a, b, d1, e, set_at_same _ _ _, F2.set r2 (by simp)⟩
          clear k2 r2 F2 q2 e2' hrow hF hE hq hsq
          repeat' first
            | (simp only [go_sem, Nat.reduceEqDiff, Int.reduceBEq, Int.reduceLT, Int.reduceLE, Int.reduceGT, Int.reduceGE, ↓reduceIte, Nat.reduceAdd, Nat.zero_add, Nat.reduceBEq, List.getElem?_cons_zero, List.getElem?_cons_succ, List.contains_cons, List.contains_nil, vpart_false, vextract, decide_true, decide_false, bne, Bool.or_false, Bool.or_true, Bool.false_or, Bool.true_or, Bool.or_self, Bool.false_and, Bool.true_and, Bool.and_false, Bool.and_true, Bool.and_self, Bool.not_true, Bool.not_false, Bool.not_not, vfieldAddr, D.notTuple, D.cells, mu17, *])
            | (refine onBH_caseN (fun hc => ?_) (fun hc => ?_))
            | (refine onBH_case (fun hc => ?_) (fun hc => ?_))
            | (refine gifH_caseNT (fun hc => ?_) (fun hc => ?_))
            | (refine gifH_caseNF (fun hc => ?_) (fun hc => ?_))
            | (refine gifH_caseT (fun hc => ?_) (fun hc => ?_))
            | (refine gifH_caseF (fun hc => ?_) (fun hc => ?_))
          exact ⟨_, t1, i + 1, _, rfl, t2, rfl, hR2, t3, t4⟩
    | false =>
      have hb9 := hb8 hb
      clear hb7 hb8
      cases cb : begS ps[i] (chgW ++ [32]) with
      | true =>
        have cb9 := cb7 cb
        rw [if_neg (fun q => by rw [cb] at q; exact absurd q.2.2 (by decide)), if_neg (by rw [hb]; exact Bool.false_ne_true), if_pos cb] at hSt
        clear cb7 cb8 hb cb
        obtain ⟨t1, t2, t3, t4⟩ := next hSt
        clear hSt next stopQ
        repeat' first
          | (simp only [go_sem, Nat.reduceEqDiff, Int.reduceBEq, Int.reduceLT, Int.reduceLE, Int.reduceGT, Int.reduceGE, ↓reduceIte, Nat.reduceAdd, Nat.zero_add, Nat.reduceBEq, List.getElem?_cons_zero, List.getElem?_cons_succ, List.contains_cons, List.contains_nil, vpart_false, vextract, decide_true, decide_false, bne, Bool.or_false, Bool.or_true, Bool.false_or, Bool.true_or, Bool.or_self, Bool.false_and, Bool.true_and, Bool.and_false, Bool.and_true, Bool.and_self, Bool.not_true, Bool.not_false, Bool.not_not, vfieldAddr, D.notTuple, D.cells, mu17, one_str, *])
          | (refine onBH_caseN (fun hc => ?_) (fun hc => ?_))
          | (refine onBH_case (fun hc => ?_) (fun hc => ?_))
          | (refine gifH_caseNT (fun hc => ?_) (fun hc => ?_))
          | (refine gifH_caseNF (fun hc => ?_) (fun hc => ?_))
          | (refine gifH_caseT (fun hc => ?_) (fun hc => ?_))
          | (refine gifH_caseF (fun hc => ?_) (fun hc => ?_))
          | (refine VCall.mono (c1 _) ?_; rintro r h ⟨rfl, rfl⟩)
          | (refine VCall.mono (c2 _) ?_; rintro r h ⟨rfl, rfl⟩)
          | (refine VCall.mono (c3 _) ?_; rintro r h ⟨rfl, rfl⟩)
        all_goals
          refine hF.str (pre := [(_, a), (_, b), (_, c)]) hE.1 (by have := hnb.cs.1; omega) fun d1 H2 F2 n2 k2 c2 f2 => ?_
          have r2 : H2.at' (g.next + 1) = some (.row [a, b, c, e]) := by rw [k2 _ hr (.inr (by rw [hrow]; simp))]; exact hrow
          have q2 : H2.at' g.next = some (.row nil6) := by rw [k2 _ (by omega) (.inr (by rw [hq]; simp))]; exact hq
          have e2' : Ext g H2 := ⟨Nat.le_trans hE.1 n2, fun i hi => by rw [k2 i (by have := hE.1; omega) (.inl hi)]; exact hE.2 i hi⟩
          have s1 : vstore Tryz.prog 22 (.ptr (g.next + 1) 3) d1 H2 = some (H2.set (g.next + 1) (.row [a, b, c, d1])) := by
            rw [vstore_cell r2 szT_22 (by simp) c2 f2]; rfl
          have hR2 : RN g (g.next + 1) g.next { n with cs := n.cs ++ [ps[i].drop 7] } (H2.set (g.next + 1) (.row [a, b, c, d1])) :=
            ⟨e2'.set (by omega) _, hq0, hqr, by show g.next + 1 < H2.next; omega, by rw [set_keep (by omega)]; exact q2, a, b, c, d1, set_at_same _ _ _, F2.set r2 (by simp)⟩
          clear k2 r2 F2 q2 e2' hrow hF hE hq hsq
          repeat' first
            | (simp only [go_sem, Nat.reduceEqDiff, Int.reduceBEq, Int.reduceLT, Int.reduceLE, Int.reduceGT, Int.reduceGE, ↓reduceIte, Nat.reduceAdd, Nat.zero_add, Nat.reduceBEq, List.getElem?_cons_zero, List.getElem?_cons_succ, List.contains_cons, List.contains_nil, vpart_false, vextract, decide_true, decide_false, bne, Bool.or_false, Bool.or_true, Bool.false_or, Bool.true_or, Bool.or_self, Bool.false_and, Bool.true_and, Bool.and_false, Bool.and_true, Bool.and_self, Bool.not_true, Bool.not_false, Bool.not_not, vfieldAddr, D.notTuple, D.cells, mu17, *])
            | (refine onBH_caseN (fun hc => ?_) (fun hc => ?_))
            | (refine onBH_case (fun hc => ?_) (fun hc => ?_))
            | (refine gifH_caseNT (fun hc => ?_) (fun hc => ?_))
            | (refine gifH_caseNF (fun hc => ?_) (fun hc => ?_))
            | (refine gifH_caseT (fun hc => ?_) (fun hc => ?_))
            | (refine gifH_caseF (fun hc => ?_) (fun hc => ?_))
          exact ⟨_, t1, i + 1, _, rfl, t2, rfl, hR2, t3, t4⟩
      | false =>
        have cb9 := cb8 cb
        clear cb7 cb8
        by_cases hk0 : kl < 0
        · have e3 : decide (kl < 0) = true := decide_eq_true hk0
          rw [if_pos ⟨hk0, hb, cb⟩] at hSt
          have fin := stopQ hSt
          clear hSt next stopQ hb cb hk0
          repeat' first
            | (simp only [go_sem, Nat.reduceEqDiff, Int.reduceBEq, Int.reduceLT, Int.reduceLE, Int.reduceGT, Int.reduceGE, ↓reduceIte, Nat.reduceAdd, Nat.zero_add, Nat.reduceBEq, List.getElem?_cons_zero, List.getElem?_cons_succ, List.contains_cons, List.contains_nil, vpart_false, vextract, decide_true, decide_false, bne, Bool.or_false, Bool.or_true, Bool.false_or, Bool.true_or, Bool.or_self, Bool.false_and, Bool.true_and, Bool.and_false, Bool.and_true, Bool.and_self, Bool.not_true, Bool.not_false, Bool.not_not, vfieldAddr, D.notTuple, D.cells, mu17, *])
            | (refine onBH_caseN (fun hc => ?_) (fun hc => ?_))
            | (refine onBH_case (fun hc => ?_) (fun hc => ?_))
            | (refine gifH_caseNT (fun hc => ?_) (fun hc => ?_))
            | (refine gifH_caseNF (fun hc => ?_) (fun hc => ?_))
            | (refine gifH_caseT (fun hc => ?_) (fun hc => ?_))
            | (refine gifH_caseF (fun hc => ?_) (fun hc => ?_))
            | (refine VCall.mono (c1 _) ?_; rintro r h ⟨rfl, rfl⟩)
            | (refine VCall.mono (c2 _) ?_; rintro r h ⟨rfl, rfl⟩)
            | (refine VCall.mono (c3 _) ?_; rintro r h ⟨rfl, rfl⟩)
        have e3 : decide (kl < 0) = false := decide_eq_false hk0
        rw [if_neg (fun q => hk0 q.1), if_neg (by rw [hb]; exact Bool.false_ne_true), if_neg (by rw [cb]; exact Bool.false_ne_true)] at hSt
        obtain ⟨k, rfl⟩ := Int.eq_ofNat_of_zero_le (show 0 ≤ kl by omega)
        have wl : IntKind.i64.wrap ((n.hs.length : Int) + (n.cs.length : Int)) = (n.hs.length : Int) + n.cs.length := wrap_i64 (by omega) (by have := hnb.hs.1; have := hnb.cs.1; omega)
        by_cases hp : n.hs ≠ [] ∨ n.cs ≠ []
        · have e4 : decide ((n.hs.length : Int) + (n.cs.length : Int) > 0) = true := decide_eq_true (by rcases hp with hp | hp <;> have := List.length_pos_iff.2 hp <;> omega)
          rw [if_pos hp] at hSt
          have fin := stopQ hSt
          clear hSt next stopQ hb cb hk0 hp
          repeat' first
            | (simp only [go_sem, Nat.reduceEqDiff, Int.reduceBEq, Int.reduceLT, Int.reduceLE, Int.reduceGT, Int.reduceGE, ↓reduceIte, Nat.reduceAdd, Nat.zero_add, Nat.reduceBEq, List.getElem?_cons_zero, List.getElem?_cons_succ, List.contains_cons, List.contains_nil, vpart_false, vextract, decide_true, decide_false, bne, Bool.or_false, Bool.or_true, Bool.false_or, Bool.true_or, Bool.or_self, Bool.false_and, Bool.true_and, Bool.and_false, Bool.and_true, Bool.and_self, Bool.not_true, Bool.not_false, Bool.not_not, vfieldAddr, D.notTuple, D.cells, mu17, *])
            | (refine onBH_caseN (fun hc => ?_) (fun hc => ?_))
            | (refine onBH_case (fun hc => ?_) (fun hc => ?_))
            | (refine gifH_caseNT (fun hc => ?_) (fun hc => ?_))
            | (refine gifH_caseNF (fun hc => ?_) (fun hc => ?_))
            | (refine gifH_caseT (fun hc => ?_) (fun hc => ?_))
            | (refine gifH_caseF (fun hc => ?_) (fun hc => ?_))
            | (refine VCall.mono (c1 _) ?_; rintro r h ⟨rfl, rfl⟩)
            | (refine VCall.mono (c2 _) ?_; rintro r h ⟨rfl, rfl⟩)
            | (refine VCall.mono (c3 _) ?_; rintro r h ⟨rfl, rfl⟩)
        have e4 : decide ((n.hs.length : Int) + (n.cs.length : Int) > 0) = false := by
          have h1 : n.hs = [] := Decidable.not_not.1 fun q => hp (.inl q)
          have h2 : n.cs = [] := Decidable.not_not.1 fun q => hp (.inr q)
          rw [h1, h2]; rfl
        rw [if_neg hp] at hSt
        clear hp
        have wk : IntKind.i64.wrap ((i : Int) + (k : Int)) = ((i + k : Nat) : Int) := by
          have := (licS_lt ps[i]); rw [hkl] at this
          rw [wrap_i64 (by omega) (by omega)]; omega
        by_cases h13 : (i : Int) + (k : Int) ≥ (ps.length : Int) - 1
        · have e5 : decide (((i + k : Nat) : Int) ≥ ((ps.length - 1 : Nat) : Int)) = true := decide_eq_true (by omega)
          rw [if_pos h13] at hSt
          have fin := stopQ hSt
          clear hSt next stopQ hb cb hk0 h13
          repeat' first
            | (simp only [go_sem, Nat.reduceEqDiff, Int.reduceBEq, Int.reduceLT, Int.reduceLE, Int.reduceGT, Int.reduceGE, ↓reduceIte, Nat.reduceAdd, Nat.zero_add, Nat.reduceBEq, List.getElem?_cons_zero, List.getElem?_cons_succ, List.contains_cons, List.contains_nil, vpart_false, vextract, decide_true, decide_false, bne, Bool.or_false, Bool.or_true, Bool.false_or, Bool.true_or, Bool.or_self, Bool.false_and, Bool.true_and, Bool.and_false, Bool.and_true, Bool.and_self, Bool.not_true, Bool.not_false, Bool.not_not, vfieldAddr, D.notTuple, D.cells, mu17, *])
            | (refine onBH_caseN (fun hc => ?_) (fun hc => ?_))
            | (refine onBH_case (fun hc => ?_) (fun hc => ?_))
            | (refine gifH_caseNT (fun hc => ?_) (fun hc => ?_))
            | (refine gifH_caseNF (fun hc => ?_) (fun hc => ?_))
            | (refine gifH_caseT (fun hc => ?_) (fun hc => ?_))
            | (refine gifH_caseF (fun hc => ?_) (fun hc => ?_))
            | (refine VCall.mono (c1 _) ?_; rintro r h ⟨rfl, rfl⟩)
            | (refine VCall.mono (c2 _) ?_; rintro r h ⟨rfl, rfl⟩)
            | (refine VCall.mono (c3 _) ?_; rintro r h ⟨rfl, rfl⟩)
        have e5 : decide (((i + k : Nat) : Int) ≥ ((ps.length - 1 : Nat) : Int)) = false := decide_eq_false (by omega)
        rw [if_neg h13, Int.toNat_natCast] at hSt
        have hik : i + 1 + k < ps.length := by omega
        generalize hnm : (licS ps[i]).1 = nm at *
        clear hb cb hk0 h13
        repeat' first
          | (simp only [go_sem, Nat.reduceEqDiff, Int.reduceBEq, Int.reduceLT, Int.reduceLE, Int.reduceGT, Int.reduceGE, ↓reduceIte, Nat.reduceAdd, Nat.zero_add, Nat.reduceBEq, List.getElem?_cons_zero, List.getElem?_cons_succ, List.contains_cons, List.contains_nil, vpart_false, vextract, decide_true, decide_false, bne, Bool.or_false, Bool.or_true, Bool.false_or, Bool.true_or, Bool.or_self, Bool.false_and, Bool.true_and, Bool.and_false, Bool.and_true, Bool.and_self, Bool.not_true, Bool.not_false, Bool.not_not, vfieldAddr, D.notTuple, D.cells, mu17, *])
          | (refine onBH_caseN (fun hc => ?_) (fun hc => ?_))
          | (refine onBH_case (fun hc => ?_) (fun hc => ?_))
          | (refine gifH_caseNT (fun hc => ?_) (fun hc => ?_))
          | (refine gifH_caseNF (fun hc => ?_) (fun hc => ?_))
          | (refine gifH_caseT (fun hc => ?_) (fun hc => ?_))
          | (refine gifH_caseF (fun hc => ?_) (fun hc => ?_))
          | (refine VCall.mono (c1 _) ?_; rintro r h ⟨rfl, rfl⟩)
          | (refine VCall.mono (c2 _) ?_; rintro r h ⟨rfl, rfl⟩)
          | (refine VCall.mono (c3 _) ?_; rintro r h ⟨rfl, rfl⟩)
        refine vwp_range (fun m fr2 h2 => fr2 2 = .ptr g.next 0 ∧ fr2 3 = dl ∧ fr2 4 = .ptr (g.next + 1) 0 ∧ fr2 5 = .int .i64 (i : Int) ∧ fr2 7 = .str nm ∧ fr2 8 = .int .i64 (k : Int) ∧ fr2 13 = .str (textL ps (i + 1) m) ∧ fr2 14 = .int .i64 ((m + 1 : Nat) : Int) ∧ h2 = h) k ?_ ?_
        · simp only [go_sem, Nat.reduceEqDiff, Int.reduceBEq, Int.reduceLT, Int.reduceLE, Int.reduceGT, Int.reduceGE, ↓reduceIte, Nat.reduceAdd, Nat.zero_add, Nat.reduceBEq, List.getElem?_cons_zero, List.getElem?_cons_succ, List.contains_cons, List.contains_nil, vpart_false, vextract, decide_true, decide_false, bne, Bool.or_false, Bool.or_true, Bool.false_or, Bool.true_or, Bool.or_self, Bool.false_and, Bool.true_and, Bool.and_false, Bool.and_true, Bool.and_self, Bool.not_true, Bool.not_false, Bool.not_not, vfieldAddr, D.notTuple, D.cells, mu17, true_and, and_true, Int.ofNat_zero, f2, f3, f4, f5, textL_zero]
          rfl
        rintro m fr2 h2 hm ⟨f2, f3, f4, f5, f7, f8, f13, f14, rfl⟩
        by_cases hmk : m < k
        · have q1 : decide (((m + 1 : Nat) : Int) ≤ (k : Int)) = true := decide_eq_true (by omega)
          have q2 : IntKind.i64.wrap ((i : Int) + ((m + 1 : Nat) : Int)) = ((i + 1 + m : Nat) : Int) := by rw [wrap_i64 (by omega) (by omega)]; omega
          have q3 : IntKind.i64.wrap (((m + 1 : Nat) : Int) + 1) = ((m + 1 + 1 : Nat) : Int) := wrap_succ (by unfold lim; omega)
          have hlt3 : i + 1 + m < ps.length := by omega
          have q4 := at_strs hdl.isSl hlt3
          have hts := textL_succ (l := ps) (i := i + 1) (m := m) hlt3
          have hxl2 := hpl _ (List.getElem_mem hlt3)
          have hxm := htx (i + 1) m
          cases hm0 : decide (((m + 1 : Nat) : Int) > 1) with
          | true =>
            have hm1 : m ≠ 0 := by simp at hm0; omega
            rw [if_neg hm1] at hts
            have a1 : vstr .add (textL ps (i + 1) m) [10] = some (.str (textL ps (i + 1) m ++ [10])) := vstr_add (by simp; omega)
            have a2 : vstr .add (textL ps (i + 1) m ++ [10]) ps[i + 1 + m] = some (.str (textL ps (i + 1) m ++ [10] ++ ps[i + 1 + m])) := vstr_add (by simp; omega)
            clear hSt next stopQ hm1 htx hxm
            repeat' first
              | (simp only [go_sem, Nat.reduceEqDiff, Int.reduceBEq, Int.reduceLT, Int.reduceLE, Int.reduceGT, Int.reduceGE, ↓reduceIte, Nat.reduceAdd, Nat.zero_add, Nat.reduceBEq, List.getElem?_cons_zero, List.getElem?_cons_succ, List.contains_cons, List.contains_nil, vpart_false, vextract, decide_true, decide_false, bne, Bool.or_false, Bool.or_true, Bool.false_or, Bool.true_or, Bool.or_self, Bool.false_and, Bool.true_and, Bool.and_false, Bool.and_true, Bool.and_self, Bool.not_true, Bool.not_false, Bool.not_not, vfieldAddr, D.notTuple, D.cells, mu17, *])
              | (refine onBH_caseN (fun hc => ?_) (fun hc => ?_))
              | (refine onBH_case (fun hc => ?_) (fun hc => ?_))
              | (refine gifH_caseNT (fun hc => ?_) (fun hc => ?_))
              | (refine gifH_caseNF (fun hc => ?_) (fun hc => ?_))
              | (refine gifH_caseT (fun hc => ?_) (fun hc => ?_))
              | (refine gifH_caseF (fun hc => ?_) (fun hc => ?_))
          | false =>
            have hm1 : m = 0 := by simp at hm0; omega
            rw [if_pos hm1] at hts
            have ht0 : textL ps (i + 1) m = [] := by rw [hm1, textL_zero]
            have a2 : vstr .add [] ps[i + 1 + m] = some (.str ps[i + 1 + m]) := vstr_add (by simp; omega)
            clear hSt next stopQ hm1 htx hxm
            repeat' first
              | (simp only [go_sem, Nat.reduceEqDiff, Int.reduceBEq, Int.reduceLT, Int.reduceLE, Int.reduceGT, Int.reduceGE, ↓reduceIte, Nat.reduceAdd, Nat.zero_add, Nat.reduceBEq, List.getElem?_cons_zero, List.getElem?_cons_succ, List.contains_cons, List.contains_nil, vpart_false, vextract, decide_true, decide_false, bne, Bool.or_false, Bool.or_true, Bool.false_or, Bool.true_or, Bool.or_self, Bool.false_and, Bool.true_and, Bool.and_false, Bool.and_true, Bool.and_self, Bool.not_true, Bool.not_false, Bool.not_not, vfieldAddr, D.notTuple, D.cells, mu17, *])
              | (refine onBH_caseN (fun hc => ?_) (fun hc => ?_))
              | (refine onBH_case (fun hc => ?_) (fun hc => ?_))
              | (refine gifH_caseNT (fun hc => ?_) (fun hc => ?_))
              | (refine gifH_caseNF (fun hc => ?_) (fun hc => ?_))
              | (refine gifH_caseT (fun hc => ?_) (fun hc => ?_))
              | (refine gifH_caseF (fun hc => ?_) (fun hc => ?_))
        have hmk2 : m = k := by omega
        subst hmk2
        have q1 : decide (((m + 1 : Nat) : Int) ≤ (m : Int)) = false := decide_eq_false (by omega)
        have hxm := htx (i + 1) m
        by_cases hbad : (m : Int) = 1 ∧ textL ps (i + 1) m = []
        · have b1 : ((m : Int) == 1) = true := by rw [hbad.1]; rfl
          have b2 : (textL ps (i + 1) m == []) = true := by rw [hbad.2]; rfl
          rw [if_pos hbad] at hSt
          have fin := stopQ hSt
          clear hSt next stopQ hbad
          repeat' first
            | (simp only [go_sem, Nat.reduceEqDiff, Int.reduceBEq, Int.reduceLT, Int.reduceLE, Int.reduceGT, Int.reduceGE, ↓reduceIte, Nat.reduceAdd, Nat.zero_add, Nat.reduceBEq, List.getElem?_cons_zero, List.getElem?_cons_succ, List.contains_cons, List.contains_nil, vpart_false, vextract, decide_true, decide_false, bne, Bool.or_false, Bool.or_true, Bool.false_or, Bool.true_or, Bool.or_self, Bool.false_and, Bool.true_and, Bool.and_false, Bool.and_true, Bool.and_self, Bool.not_true, Bool.not_false, Bool.not_not, vfieldAddr, D.notTuple, D.cells, mu17, *])
            | (refine onBH_caseN (fun hc => ?_) (fun hc => ?_))
            | (refine onBH_case (fun hc => ?_) (fun hc => ?_))
            | (refine gifH_caseNT (fun hc => ?_) (fun hc => ?_))
            | (refine gifH_caseNF (fun hc => ?_) (fun hc => ?_))
            | (refine gifH_caseT (fun hc => ?_) (fun hc => ?_))
            | (refine gifH_caseF (fun hc => ?_) (fun hc => ?_))
        rw [if_neg hbad] at hSt
        obtain ⟨t1, t2, t3, t4⟩ := next hSt
        have w9 : IntKind.i64.wrap (((i + m : Nat) : Int) + 1) = ((i + 1 + m : Nat) : Int) := by rw [wrap_i64 (by omega) (by omega)]; omega
        have hbad2 : ((m : Int) == 1) = true → (textL ps (i + 1) m == []) = true → False := fun x y => hbad ⟨by simpa using x, by simpa using y⟩
        clear hSt next stopQ hbad
        repeat' first
          | (simp only [go_sem, Nat.reduceEqDiff, Int.reduceBEq, Int.reduceLT, Int.reduceLE, Int.reduceGT, Int.reduceGE, ↓reduceIte, Nat.reduceAdd, Nat.zero_add, Nat.reduceBEq, List.getElem?_cons_zero, List.getElem?_cons_succ, List.contains_cons, List.contains_nil, vpart_false, vextract, decide_true, decide_false, bne, Bool.or_false, Bool.or_true, Bool.false_or, Bool.true_or, Bool.or_self, Bool.false_and, Bool.true_and, Bool.and_false, Bool.and_true, Bool.and_self, Bool.not_true, Bool.not_false, Bool.not_not, vfieldAddr, D.notTuple, D.cells, mu17, one_str, *])
          | (refine onBH_caseN (fun hc => ?_) (fun hc => ?_))
          | (refine onBH_case (fun hc => ?_) (fun hc => ?_))
          | (refine gifH_caseNT (fun hc => ?_) (fun hc => ?_))
          | (refine gifH_caseNF (fun hc => ?_) (fun hc => ?_))
          | (refine gifH_caseT (fun hc => ?_) (fun hc => ?_))
          | (refine gifH_caseF (fun hc => ?_) (fun hc => ?_))
        · exact (hbad2 (by assumption) (by assumption)).elim
        all_goals
          refine hF.str (pre := []) hE.1 (by have := hnb.ls.1; omega) fun d1 H2 F2 n2 k2 c2 f2' => ?_
          have r2 : H2.at' (g.next + 1) = some (.row [a, b, c, e]) := by rw [k2 _ hr (.inr (by rw [hrow]; simp))]; exact hrow
          have q2 : H2.at' g.next = some (.row nil6) := by rw [k2 _ (by omega) (.inr (by rw [hq]; simp))]; exact hq
          have e2' : Ext g H2 := ⟨Nat.le_trans hE.1 n2, fun i hi => by rw [k2 i (by have := hE.1; omega) (.inl hi)]; exact hE.2 i hi⟩
          have s1 : vstore Tryz.prog 22 (.ptr (g.next + 1) 0) d1 H2 = some (H2.set (g.next + 1) (.row [d1, b, c, e])) := by
            rw [vstore_cell r2 szT_22 (by simp) c2 f2']; rfl
          obtain ⟨H3, hH3, n3, r3, q3, e3', F3⟩ : ∃ H3, H2.set (g.next + 1) (.row [d1, b, c, e]) = H3 ∧ g.next + 1 < H3.next ∧ H3.at' (g.next + 1) = some (.row [d1, b, c, e]) ∧ H3.at' g.next = some (.row nil6) ∧ Ext g H3 ∧ Owns g H3 1 ([(strs (n.ls ++ [nm]), d1)] ++ (strs n.ts, b) :: [(strs n.hs, c), (strs n.cs, e)]) :=
            ⟨_, rfl, by show g.next + 1 < H2.next; omega, set_at_same _ _ _, by rw [set_keep (by omega)]; exact q2, e2'.set (by omega) _, F2.set r2 (by simp)⟩
          rw [hH3] at s1
          clear k2 r2 F2 q2 e2' hrow hF hE hq hsq hH3
          repeat' first
            | (simp only [go_sem, Nat.reduceEqDiff, Int.reduceBEq, Int.reduceLT, Int.reduceLE, Int.reduceGT, Int.reduceGE, ↓reduceIte, Nat.reduceAdd, Nat.zero_add, Nat.reduceBEq, List.getElem?_cons_zero, List.getElem?_cons_succ, List.contains_cons, List.contains_nil, vpart_false, vextract, decide_true, decide_false, bne, Bool.or_false, Bool.or_true, Bool.false_or, Bool.true_or, Bool.or_self, Bool.false_and, Bool.true_and, Bool.and_false, Bool.and_true, Bool.and_self, Bool.not_true, Bool.not_false, Bool.not_not, vfieldAddr, D.notTuple, D.cells, mu17, one_str, *])
            | (refine onBH_caseN (fun hc => ?_) (fun hc => ?_))
            | (refine onBH_case (fun hc => ?_) (fun hc => ?_))
            | (refine gifH_caseNT (fun hc => ?_) (fun hc => ?_))
            | (refine gifH_caseNF (fun hc => ?_) (fun hc => ?_))
            | (refine gifH_caseT (fun hc => ?_) (fun hc => ?_))
            | (refine gifH_caseF (fun hc => ?_) (fun hc => ?_))
          refine F3.str e3'.1 (by have := hnb.ts.1; omega) fun d2 H4 F4 n4 k4 c4 f4' => ?_
          have r4 : H4.at' (g.next + 1) = some (.row [d1, b, c, e]) := by rw [k4 _ n3 (.inr (by rw [r3]; simp))]; exact r3
          have q4 : H4.at' g.next = some (.row nil6) := by rw [k4 _ (by omega) (.inr (by rw [q3]; simp))]; exact q3
          have e4' : Ext g H4 := ⟨Nat.le_trans e3'.1 n4, fun i hi => by rw [k4 i (by have := e3'.1; omega) (.inl hi)]; exact e3'.2 i hi⟩
          have s2 : vstore Tryz.prog 22 (.ptr (g.next + 1) 1) d2 H4 = some (H4.set (g.next + 1) (.row [d1, d2, c, e])) := by
            rw [vstore_cell r4 szT_22 (by simp) c4 f4']; rfl
          have hR2 : RN g (g.next + 1) g.next { n with ls := n.ls ++ [nm], ts := n.ts ++ [textL ps (i + 1) m] } (H4.set (g.next + 1) (.row [d1, d2, c, e])) :=
            ⟨e4'.set (by omega) _, hq0, hqr, by show g.next + 1 < H4.next; omega, by rw [set_keep (by omega)]; exact q4, d1, d2, c, e, set_at_same _ _ _, F4.set r4 (by simp)⟩
          clear k4 r4 F4 q4 e4' r3 q3 e3' F3
          repeat' first
            | (simp only [go_sem, Nat.reduceEqDiff, Int.reduceBEq, Int.reduceLT, Int.reduceLE, Int.reduceGT, Int.reduceGE, ↓reduceIte, Nat.reduceAdd, Nat.zero_add, Nat.reduceBEq, List.getElem?_cons_zero, List.getElem?_cons_succ, List.contains_cons, List.contains_nil, vpart_false, vextract, decide_true, decide_false, bne, Bool.or_false, Bool.or_true, Bool.false_or, Bool.true_or, Bool.or_self, Bool.false_and, Bool.true_and, Bool.and_false, Bool.and_true, Bool.and_self, Bool.not_true, Bool.not_false, Bool.not_not, vfieldAddr, D.notTuple, D.cells, mu17, *])
            | (refine onBH_caseN (fun hc => ?_) (fun hc => ?_))
            | (refine onBH_case (fun hc => ?_) (fun hc => ?_))
            | (refine gifH_caseNT (fun hc => ?_) (fun hc => ?_))
            | (refine gifH_caseNF (fun hc => ?_) (fun hc => ?_))
            | (refine gifH_caseT (fun hc => ?_) (fun hc => ?_))
            | (refine gifH_caseF (fun hc => ?_) (fun hc => ?_))
          exact ⟨_, t1, i + 1 + m, _, rfl, t2, rfl, hR2, t3, t4⟩
  · have hie : i = ps.length - 1 := by omega
    have e2 : ((i : Int) == ((ps.length - 1 : Nat) : Int)) = true := by rw [hie]; simp
    rw [show ps.length - i = 0 + 1 by omega] at htgt
    simp only [parseL] at htgt
    rw [if_neg hlt, hgd] at htgt
    cases hem : (ps[i] == []) with
    | false =>
      have hsq : vstore Tryz.prog 37 (.ptr g.next 0) (.agg [.nilsl, .nilsl, .nilsl, .nilsl, .int .i64 (i : Int), .int .i64 13]) h' = some (h'.set g.next (.row [.nilsl, .nilsl, .nilsl, .nilsl, .int .i64 (i : Int), .int .i64 13])) := hstq hq rfl
      rw [if_pos (by simpa using hem)] at htgt
      have fin := zero (hE.set (Nat.le_refl _) (.row [.nilsl, .nilsl, .nilsl, .nilsl, .int .i64 (i : Int), .int .i64 13])) htgt.symm
      clear hie hgd htx hpl hstep hF zero htgt
      repeat' first
        | (simp only [go_sem, Nat.reduceEqDiff, Int.reduceBEq, Int.reduceLT, Int.reduceLE, Int.reduceGT, Int.reduceGE, ↓reduceIte, Nat.reduceAdd, Nat.zero_add, Nat.reduceBEq, List.getElem?_cons_zero, List.getElem?_cons_succ, List.contains_cons, List.contains_nil, vpart_false, vextract, decide_true, decide_false, bne, Bool.or_false, Bool.or_true, Bool.false_or, Bool.true_or, Bool.or_self, Bool.false_and, Bool.true_and, Bool.and_false, Bool.and_true, Bool.and_self, Bool.not_true, Bool.not_false, Bool.not_not, vfieldAddr, D.notTuple, D.cells, mu17, *])
        | (refine onBH_caseN (fun hc => ?_) (fun hc => ?_))
        | (refine onBH_case (fun hc => ?_) (fun hc => ?_))
        | (refine gifH_caseNT (fun hc => ?_) (fun hc => ?_))
        | (refine gifH_caseNF (fun hc => ?_) (fun hc => ?_))
        | (refine gifH_caseT (fun hc => ?_) (fun hc => ?_))
        | (refine gifH_caseF (fun hc => ?_) (fun hc => ?_))
    | true =>
      rw [if_neg (by simpa using hem)] at htgt
      have hnote := four_note hF
      have hsm := nb_sm hnb (by omega) (by omega)
      cases hck : (checkS n == 0) with
      | false =>
        have hsq : vstore Tryz.prog 37 (.ptr g.next 0) (.agg [.nilsl, .nilsl, .nilsl, .nilsl, .int .i64 (-1), .int .i64 (checkS n)]) h' = some (h'.set g.next (.row [.nilsl, .nilsl, .nilsl, .nilsl, .int .i64 (-1), .int .i64 (checkS n)])) := hstq hq rfl
        rw [if_pos (by simpa using hck)] at htgt
        have fin := zero (hE.set (Nat.le_refl _) (.row [.nilsl, .nilsl, .nilsl, .nilsl, .int .i64 (-1), .int .i64 (checkS n)])) htgt.symm
        clear hie hgd htx hpl hstep hF zero htgt
        repeat' first
          | (simp only [go_sem, Nat.reduceEqDiff, Int.reduceBEq, Int.reduceLT, Int.reduceLE, Int.reduceGT, Int.reduceGE, ↓reduceIte, Nat.reduceAdd, Nat.zero_add, Nat.reduceBEq, List.getElem?_cons_zero, List.getElem?_cons_succ, List.contains_cons, List.contains_nil, vpart_false, vextract, decide_true, decide_false, bne, Bool.or_false, Bool.or_true, Bool.false_or, Bool.true_or, Bool.or_self, Bool.false_and, Bool.true_and, Bool.and_false, Bool.and_true, Bool.and_self, Bool.not_true, Bool.not_false, Bool.not_not, vfieldAddr, D.notTuple, D.cells, mu17, *])
          | (refine onBH_caseN (fun hc => ?_) (fun hc => ?_))
          | (refine onBH_case (fun hc => ?_) (fun hc => ?_))
          | (refine gifH_caseNT (fun hc => ?_) (fun hc => ?_))
          | (refine gifH_caseNF (fun hc => ?_) (fun hc => ?_))
          | (refine gifH_caseT (fun hc => ?_) (fun hc => ?_))
          | (refine gifH_caseF (fun hc => ?_) (fun hc => ?_))
          | (refine VCall.mono (c_refCheck hnote hsm _) ?_; rintro r h ⟨rfl, rfl⟩)
      | true =>
        have hsq : vstore Tryz.prog 37 (.ptr g.next 0) (.agg [a, b, c, e, .int .i64 0, .int .i64 0]) h' = some (h'.set g.next (.row [a, b, c, e, .int .i64 0, .int .i64 0])) := hstq hq (flat6 (hF.flat (xs := strs n.ls) (d := a) (by simp)).1 (hF.flat (xs := strs n.ts) (d := b) (by simp)).1 (hF.flat (xs := strs n.hs) (d := c) (by simp)).1 (hF.flat (xs := strs n.cs) (d := e) (by simp)).1)
        rw [if_neg (by simpa using hck)] at htgt
        have hfin := ref_note hF
        rw [htgt] at hfin
        have fin2 := hE.set (Nat.le_refl _) (.row [a, b, c, e, .int .i64 0, .int .i64 0])
        have fin3 := below_mono (Nat.zero_le g.next) _ hfin.1
        clear hie hgd htx hpl hstep hF zero htgt
        repeat' first
          | (simp only [go_sem, Nat.reduceEqDiff, Int.reduceBEq, Int.reduceLT, Int.reduceLE, Int.reduceGT, Int.reduceGE, ↓reduceIte, Nat.reduceAdd, Nat.zero_add, Nat.reduceBEq, List.getElem?_cons_zero, List.getElem?_cons_succ, List.contains_cons, List.contains_nil, vpart_false, vextract, decide_true, decide_false, bne, Bool.or_false, Bool.or_true, Bool.false_or, Bool.true_or, Bool.or_self, Bool.false_and, Bool.true_and, Bool.and_false, Bool.and_true, Bool.and_self, Bool.not_true, Bool.not_false, Bool.not_not, vfieldAddr, D.notTuple, D.cells, mu17, *])
          | (refine onBH_caseN (fun hc => ?_) (fun hc => ?_))
          | (refine onBH_case (fun hc => ?_) (fun hc => ?_))
          | (refine gifH_caseNT (fun hc => ?_) (fun hc => ?_))
          | (refine gifH_caseNF (fun hc => ?_) (fun hc => ?_))
          | (refine gifH_caseT (fun hc => ?_) (fun hc => ?_))
          | (refine gifH_caseF (fun hc => ?_) (fun hc => ?_))
          | (refine VCall.mono (c_refCheck hnote hsm _) ?_; rintro r h ⟨rfl, rfl⟩)
end Go.V
