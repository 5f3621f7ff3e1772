/- Contracts of the law's own functions, and of notice.Parse. No condition. -/
import Derived.Test.YtnfmcjeamolljaaGreatDoorVnc
import Derived.Test.YtnfmcjeamolljaaGreatDoorVxA
import Derived.Test.YtnfmcjeamolljaaGreatDoorVhF
import Derived.Test.YtnfmcjeamolljaaGreatDoorVre
set_option linter.unusedSimpArgs false
set_option linter.unusedVariables false
set_option linter.constructorNameAsVariable false
set_option linter.deprecated false
namespace Go.V
open Go.Proofs
set_option maxRecDepth 100000
set_option linter.unusedSimpArgs false
set_option linter.unusedVariables false

/-! The law's own functions. -/
/-- licitref44.Short answers. -/
theorem c_short {l : List (List UInt8)} {d : D} (hd : IsSl 1 (strs l) d) (hs : SmL l) (h : Heap) :
    VCall Tryz.prog 26 [d] h fun r h' => h' = h ∧ ∃ b, r = .bool b := by
  have hll : ((strs l).length : Int) = l.length := by rw [strs_length]
  have hl := hs.1
  refine VCall.of_fn (g := cfg26) mix Tryz.func26 ok26 rfl rfl ?_
  simp only [Tryz.f26, Option.getD_some]
  have loop : ∀ {c : Prop}, c → c := fun hc => hc
  cases h1 : decide ((l.length : Int) > 30) with
  | true =>
    cases h2 : ((l.length : Int) != 1025) with
    | true =>
      simp only [go_sem, Nat.reduceEqDiff, ↓reduceIte, vlen_sl hd Tryz.underlying22, hll, h1, h2]
      exact ⟨false, rfl⟩
    | false =>
      simp only [go_sem, Nat.reduceEqDiff, ↓reduceIte, vlen_sl hd Tryz.underlying22, hll, h1, h2]
      refine vwp_range (fun i fr h' => fr 0 = d ∧ fr 4 = .int .i64 (i : Int) ∧ (∃ k : Nat, fr 3 = .int .i64 (k : Int) ∧ k ≤ i * 1048576) ∧ h' = h) l.length ⟨by simp [go_sem], by simp [go_sem], ⟨0, by simp [go_sem], by omega⟩, rfl⟩ ?_
      rintro i fr h' hi ⟨f0, f4, ⟨k, f3, hk⟩, rfl⟩
      simp only [go_sem, Nat.reduceEqDiff, ↓reduceIte, f0, f4, f3, vlen_sl hd Tryz.underlying22, hll]
      by_cases hlt : i < l.length
      · have hsl := hs.2 _ (List.getElem_mem hlt)
        have e1 : decide ((i : Int) < l.length) = true := decide_eq_true (by omega)
        have hi2 : i * 1048576 ≤ 1048576 * 1048576 := Nat.mul_le_mul_right _ (by omega)
        have hw : IntKind.i64.wrap ((k : Int) + (l[i].length : Nat)) = ((k + l[i].length : Nat) : Int) := by rw [wrap_i64 (by omega) (by omega)]; omega
        simp only [go_sem, Nat.reduceEqDiff, ↓reduceIte, f0, f4, f3, e1, vindexAddr_sl hd elemT_22 szT_9 (strs_get hlt), vpart_false, vlen_str Tryz.underlying9, hw, wrap_succ (show i < lim by unfold lim; omega)]
        exact ⟨hlt, by rw [wrap_succ (by unfold lim; omega)], _, rfl, by rw [Nat.succ_mul]; omega⟩
      · have e1 : decide ((i : Int) < l.length) = false := decide_eq_false (by omega)
        simp only [go_sem, Nat.reduceEqDiff, ↓reduceIte, f0, f4, f3, e1]
        exact ⟨_, rfl⟩
  | false =>
    simp only [go_sem, Nat.reduceEqDiff, ↓reduceIte, vlen_sl hd Tryz.underlying22, hll, h1]
    refine vwp_range (fun i fr h' => fr 0 = d ∧ fr 4 = .int .i64 (i : Int) ∧ (∃ k : Nat, fr 3 = .int .i64 (k : Int) ∧ k ≤ i * 1048576) ∧ h' = h) l.length ⟨by simp [go_sem], by simp [go_sem], ⟨0, by simp [go_sem], by omega⟩, rfl⟩ ?_
    rintro i fr h' hi ⟨f0, f4, ⟨k, f3, hk⟩, rfl⟩
    simp only [go_sem, Nat.reduceEqDiff, ↓reduceIte, f0, f4, f3, vlen_sl hd Tryz.underlying22, hll]
    by_cases hlt : i < l.length
    · have hsl := hs.2 _ (List.getElem_mem hlt)
      have e1 : decide ((i : Int) < l.length) = true := decide_eq_true (by omega)
      have hi2 : i * 1048576 ≤ 1048576 * 1048576 := Nat.mul_le_mul_right _ (by omega)
      have hw : IntKind.i64.wrap ((k : Int) + (l[i].length : Nat)) = ((k + l[i].length : Nat) : Int) := by rw [wrap_i64 (by omega) (by omega)]; omega
      simp only [go_sem, Nat.reduceEqDiff, ↓reduceIte, f0, f4, f3, e1, vindexAddr_sl hd elemT_22 szT_9 (strs_get hlt), vpart_false, vlen_str Tryz.underlying9, hw, wrap_succ (show i < lim by unfold lim; omega)]
      exact ⟨hlt, by rw [wrap_succ (by unfold lim; omega)], _, rfl, by rw [Nat.succ_mul]; omega⟩
    · have e1 : decide ((i : Int) < l.length) = false := decide_eq_false (by omega)
      simp only [go_sem, Nat.reduceEqDiff, ↓reduceIte, f0, f4, f3, e1]
      exact ⟨_, rfl⟩

/-- licitref44.Few answers. -/
theorem c_few {n : Note} {d : D} (hd : IsNote n d) (hs : n.Sm) (h : Heap) :
    VCall Tryz.prog 8 [d] h fun r h' => h' = h ∧ ∃ b, r = .bool b := by
  obtain ⟨a, b, c, e, rfl, ha, hb, hc, he⟩ := hd
  refine VCall.of_fn (g := cfg8) mix Tryz.func8 ok8 rfl rfl ?_
  simp only [Tryz.f8, Option.getD_some]
  simp only [go_sem, Nat.reduceEqDiff, ↓reduceIte, vfieldAddr, Nat.reduceAdd, Nat.zero_add, vpart_false, List.getElem?_cons_zero, List.getElem?_cons_succ]
  refine (c_short ha hs.ls h).mono ?_
  rintro r h ⟨rfl, b1, rfl⟩
  cases b1 with
  | false =>
    simp only [go_sem, Nat.reduceEqDiff, ↓reduceIte]
    exact ⟨_, rfl⟩
  | true =>
  simp only [go_sem, Nat.reduceEqDiff, ↓reduceIte, vfieldAddr, Nat.reduceAdd, Nat.zero_add, vpart_false, List.getElem?_cons_zero, List.getElem?_cons_succ]
  refine (c_short hb hs.ts h).mono ?_
  rintro r h ⟨rfl, b2, rfl⟩
  cases b2 with
  | false =>
    simp only [go_sem, Nat.reduceEqDiff, ↓reduceIte]
    exact ⟨_, rfl⟩
  | true =>
  simp only [go_sem, Nat.reduceEqDiff, ↓reduceIte, vfieldAddr, Nat.reduceAdd, Nat.zero_add, vpart_false, List.getElem?_cons_zero, List.getElem?_cons_succ]
  refine (c_short hc hs.hs h).mono ?_
  rintro r h ⟨rfl, b3, rfl⟩
  cases b3 with
  | false =>
    simp only [go_sem, Nat.reduceEqDiff, ↓reduceIte]
    exact ⟨_, rfl⟩
  | true =>
  simp only [go_sem, Nat.reduceEqDiff, ↓reduceIte, vfieldAddr, Nat.reduceAdd, Nat.zero_add, vpart_false, List.getElem?_cons_zero, List.getElem?_cons_succ]
  refine (c_short he hs.cs h).mono ?_
  rintro r h ⟨rfl, b4, rfl⟩
  simp only [go_sem, Nat.reduceEqDiff, ↓reduceIte]
  exact ⟨_, rfl⟩

/-- licitref31.SameTexts at the same texts. -/
theorem c_sameTexts {l : List (List UInt8)} {d e : D} (hd : IsSl 1 (strs l) d) (he : IsSl 1 (strs l) e) (hl : l.length ≤ 1048576) (h : Heap) :
    VCall Tryz.prog 49 [d, e] h fun r h' => h' = h ∧ r = .bool true := by
  have hll : ((strs l).length : Int) = l.length := by rw [strs_length]
  refine VCall.of_fn (g := cfg49) mix Tryz.func49 ok49 rfl rfl ?_
  simp only [Tryz.f49, Option.getD_some]
  have hne : ((l.length : Int) != l.length) = false := by simp
  simp only [go_sem, Nat.reduceEqDiff, ↓reduceIte, vlen_sl hd Tryz.underlying22, vlen_sl he Tryz.underlying22, hll, hne]
  refine vwp_range (fun i fr h' => fr 0 = d ∧ fr 1 = e ∧ fr 5 = .int .i64 (i : Int) ∧ h' = h) l.length (by simp [go_sem]) ?_
  rintro i fr h' hi ⟨f0, f1, f5, rfl⟩
  simp only [go_sem, Nat.reduceEqDiff, ↓reduceIte, f0, f1, f5, vlen_sl hd Tryz.underlying22, hll]
  by_cases hlt : i < l.length
  · have e1 : decide ((i : Int) < l.length) = true := decide_eq_true (by omega)
    have hsame : (l[i] == l[i]) = true := by simp
    simp only [go_sem, Nat.reduceEqDiff, ↓reduceIte, f0, f1, f5, e1]
    refine vwp_text (by kernel_rfl) ?_
    simp only [go_sem, Nat.reduceEqDiff, ↓reduceIte, f0, f1, f5, vindexAddr_sl hd elemT_22 szT_9 (strs_get hlt), vindexAddr_sl he elemT_22 szT_9 (strs_get hlt), vpart_false, hsame, Bool.not_true, wrap_succ (show i < lim by unfold lim; omega)]
    exact ⟨hlt, by rw [wrap_succ (by unfold lim; omega)]⟩
  · have e1 : decide ((i : Int) < l.length) = false := decide_eq_false (by omega)
    simp only [go_sem, Nat.reduceEqDiff, ↓reduceIte, f0, f1, f5, e1]

/-- licitref44.Same at the same notice. -/
theorem c_same {n : Note} {x y : D} (hx : IsNote n x) (hy : IsNote n y) (hs : n.Sm) (h : Heap) :
    VCall Tryz.prog 15 [x, y] h fun r h' => h' = h ∧ r = .bool true := by
  obtain ⟨a1, a2, a3, a4, rfl, ha1, ha2, ha3, ha4⟩ := hx
  obtain ⟨b1, b2, b3, b4, rfl, hb1, hb2, hb3, hb4⟩ := hy
  refine VCall.of_fn (g := cfg15) mix Tryz.func15 ok15 rfl rfl ?_
  simp only [Tryz.f15, Option.getD_some]
  simp only [go_sem, Nat.reduceEqDiff, ↓reduceIte, vfieldAddr, Nat.reduceAdd, Nat.zero_add, vpart_false, List.getElem?_cons_zero, List.getElem?_cons_succ]
  refine (c_sameTexts ha1 hb1 hs.ls.1 h).mono ?_
  rintro r h ⟨rfl, rfl⟩
  simp only [go_sem, Nat.reduceEqDiff, ↓reduceIte, vfieldAddr, Nat.reduceAdd, Nat.zero_add, vpart_false, List.getElem?_cons_zero, List.getElem?_cons_succ]
  refine (c_sameTexts ha2 hb2 hs.ts.1 h).mono ?_
  rintro r h ⟨rfl, rfl⟩
  simp only [go_sem, Nat.reduceEqDiff, ↓reduceIte, vfieldAddr, Nat.reduceAdd, Nat.zero_add, vpart_false, List.getElem?_cons_zero, List.getElem?_cons_succ]
  refine (c_sameTexts ha3 hb3 hs.hs.1 h).mono ?_
  rintro r h ⟨rfl, rfl⟩
  simp only [go_sem, Nat.reduceEqDiff, ↓reduceIte, vfieldAddr, Nat.reduceAdd, Nat.zero_add, vpart_false, List.getElem?_cons_zero, List.getElem?_cons_succ]
  refine (c_sameTexts ha4 hb4 hs.cs.1 h).mono ?_
  rintro r h ⟨rfl, rfl⟩
  simp only [go_sem, Nat.reduceEqDiff, ↓reduceIte]

theorem c_lacks {l : List (List UInt8)} {d : D} (hd : IsSl 1 (strs l) d) (hl : l.length ≤ 1048576) (s : List UInt8) (h : Heap) :
    VCall Tryz.prog 20 [.str s, .iptr [d] 0] h fun r h' => h' = h ∧ r = .bool (!l.any (· == s)) := by
  refine VCall.of_fn (g := cfg20) mix Tryz.func20 ok20 rfl rfl ?_
  simp only [Tryz.f20, Option.getD_some]
  simp only [go_sem, Nat.reduceEqDiff, ↓reduceIte, vpart_false, List.getElem?_cons_zero]
  refine (c_containsS hd hl s h).mono ?_
  rintro r h ⟨rfl, rfl⟩
  simp only [vun, go_sem, Nat.reduceEqDiff, ↓reduceIte]

/-- Each part is there. -/
theorem c_all {l part : List (List UInt8)} {d e : D} (hd : IsSl 1 (strs l) d) (he : IsSl 1 (strs part) e) (hl : l.length ≤ 1048576) (hp : part.length ≤ 1048576) (hsub : ∀ s ∈ part, s ∈ l) (h : Heap) :
    VCall Tryz.prog 18 [d, e] h fun r h' => h' = h ∧ r = .bool true := by
  have hnt := (flatSl hd).2.2
  have hcc := (flatSl hd).2.1
  refine VCall.of_fn (g := cfg18) mix Tryz.func18 ok18 rfl rfl ?_
  simp only [Tryz.f18, Option.getD_some]
  simp only [go_sem, Nat.reduceEqDiff, ↓reduceIte, mu18, hnt, hcc]
  refine (c_containsFuncS he hp (g := 20) (fst := []) (cap := [.iptr [d] 0]) (p := fun s => !l.any (· == s)) (fun s _ h => c_lacks hd hl s h) h).mono ?_
  rintro r h ⟨rfl, rfl⟩
  have hz : part.any (fun s => !l.any (· == s)) = false := by
    rw [List.any_eq_false]
    intro s hs
    have : l.any (· == s) = true := List.any_eq_true.2 ⟨s, hsub s hs, by simp⟩
    simp [this]
  simp only [vun, go_sem, Nat.reduceEqDiff, ↓reduceIte, hz, Bool.not_false]
end Go.V
namespace Go.V
open Go.Proofs
set_option maxRecDepth 100000
set_option linter.unusedSimpArgs false
set_option linter.unusedVariables false

theorem parseL_step {l : List (List UInt8)} {f i : Nat} {n : Note} (hlt : i + 1 < l.length) : parseL l (f + 1) i n = match stepS l i n with
    | .inl e => (.zero, (i : Int), e)
    | .inr (n', i') => parseL l f i' n' := by
  simp only [parseL]; rw [if_pos hlt]
  cases stepS l i n <;> rfl

/-! notice.Parse. -/
def ParseQ (p : Note × Int × Int) (r : D) : Prop := ∃ d, r = .tuple [d, .int .i64 p.2.1, .int .i64 p.2.2] ∧ IsNote p.1 d
theorem parse_zero {p : Note × Int × Int} {k e : Int} (h : p = (.zero, k, e)) : below 0 (strip (.tuple [.agg nil4, .int .i64 k, .int .i64 e])) ∧ ParseQ p (strip (.tuple [.agg nil4, .int .i64 k, .int .i64 e])) := by
  subst h
  have e : strip (.tuple [.agg nil4, .int .i64 k, .int .i64 e]) = .tuple [.agg nil4, .int .i64 k, .int .i64 e] := by simp [strip, stripL]
  rw [e]
  exact ⟨by simp [below, belowL], .agg nil4, rfl, .nilsl, .nilsl, .nilsl, .nilsl, rfl, IsSl.nil, IsSl.nil, IsSl.nil, IsSl.nil⟩
theorem parse_note {n : Note} {a b c e : D} {h0 h : Heap} (hF : Four h0 h n a b c e) : below 0 (strip (.tuple [.agg [a, b, c, e], .int .i64 0, .int .i64 0])) ∧ ParseQ (n, 0, 0) (strip (.tuple [.agg [a, b, c, e], .int .i64 0, .int .i64 0])) := by
  have e : strip (.tuple [.agg [a, b, c, e], .int .i64 0, .int .i64 0]) = .tuple [.agg [strip a, strip b, strip c, strip e], .int .i64 0, .int .i64 0] := by simp [strip, stripL]
  rw [e]
  have q1 := (hF.sl (xs := strs n.ls) (d := a) (by simp)).fin strs_plain
  have q2 := (hF.sl (xs := strs n.ts) (d := b) (by simp)).fin strs_plain
  have q3 := (hF.sl (xs := strs n.hs) (d := c) (by simp)).fin strs_plain
  have q4 := (hF.sl (xs := strs n.cs) (d := ‹D›) (by simp)).fin strs_plain
  refine ⟨?_, _, rfl, _, _, _, _, rfl, q1.2.isSl, q2.2.isSl, q3.2.isSl, q4.2.isSl⟩
  simp [below, belowL, q1.1, q2.1, q3.1, q4.1]
theorem four_note {n : Note} {a b c e : D} {h0 h : Heap} (hF : Four h0 h n a b c e) : IsNote n (.agg [a, b, c, e]) :=
  ⟨a, b, c, e, rfl, (hF.sl (xs := strs n.ls) (d := a) (by simp)).isSl, (hF.sl (xs := strs n.ts) (d := b) (by simp)).isSl, (hF.sl (xs := strs n.hs) (d := c) (by simp)).isSl, (hF.sl (xs := strs n.cs) (d := e) (by simp)).isSl⟩

set_option maxHeartbeats 2000000 in
theorem c_parse {s : List UInt8} (hl : s.length ≤ 1048576) (h : Heap) :
    VCall Tryz.prog 16 [.str s] h fun r h' => h' = h ∧ ParseQ (parseS s) r := by
  refine VCall.pure (by kernel_rfl) fun hok => VCall.strip ?_
  refine VCall.of_fn (g := cfg16) mix Tryz.func16 ok16 rfl rfl ?_
  simp only [Tryz.f16, Option.getD_some]
  have hvp : ∀ a b c e : D, vpart true 4 [a, b, c, e] 0 = some (.agg [a, b, c, e]) := fun a b c e => vpart_whole rfl (by omega)
  have hb0 : vbuild Tryz.prog 24 [] = some (.agg nil4) := by simp [vbuild, placesT_24, zeroT_24, vfill, D.notTuple, D.cells]
  have hst0 : ∀ H : Heap, vstore Tryz.prog 24 (.ptr H.next 0) (.agg nil4) (H.new H.next (.row nil4)) = some (H.new H.next (.row nil4)) := fun H => vstore_new szT_24 (by omega) rfl rfl rfl
  have hE0 : Ext h (h.new h.next (.row nil4)) := (Ext.refl h).new (Nat.le_refl _) _
  have zero : ∀ {k e : Int} {h' : Heap}, Ext h h' → parseS s = (.zero, k, e) → Ext h h' ∧ below h.next (strip (.tuple [.agg nil4, .int .i64 k, .int .i64 e])) ∧ ParseQ (parseS s) (strip (.tuple [.agg nil4, .int .i64 k, .int .i64 e])) := fun hE hm => by
    have := parse_zero hm
    exact ⟨hE, below_mono (Nat.zero_le _) _ this.1, this.2⟩
  by_cases hbig : s.length > 65536
  · have e1 : decide ((s.length : Int) > 65536) = true := decide_eq_true (by omega)
    repeat' first
      | (simp only [go_sem, Nat.reduceEqDiff, Int.reduceBEq, Int.reduceLT, Int.reduceLE, Int.reduceGT, Int.reduceGE, ↓reduceIte, Nat.reduceAdd, Nat.zero_add, Nat.reduceBEq, List.getElem?_cons_zero, List.getElem?_cons_succ, List.contains_cons, List.contains_nil, vpart_false, vextract, decide_true, decide_false, bne, Bool.or_false, Bool.or_true, Bool.false_or, Bool.true_or, Bool.or_self, Bool.false_and, Bool.true_and, Bool.and_false, Bool.and_true, Bool.and_self, Bool.not_true, Bool.not_false, Bool.not_not, vfieldAddr, D.notTuple, D.cells, mu16, new_at, *])
      | (refine onBH_caseN (fun hc => ?_) (fun hc => ?_))
      | (refine onBH_case (fun hc => ?_) (fun hc => ?_))
      | (refine gifH_caseNT (fun hc => ?_) (fun hc => ?_))
      | (refine gifH_caseNF (fun hc => ?_) (fun hc => ?_))
      | (refine gifH_caseT (fun hc => ?_) (fun hc => ?_))
      | (refine gifH_caseF (fun hc => ?_) (fun hc => ?_))
    first | exact zero hE0 (by unfold parseS; rw [if_pos hbig]) | exact (zero hE0 (by unfold parseS; rw [if_pos hbig])).2
  have e1 : decide ((s.length : Int) > 65536) = false := decide_eq_false (by omega)
  have hps : parseL (splitB 10 s) ((splitB 10 s).length - 0) 0 .zero = parseS s := by unfold parseS; rw [if_neg hbig, Nat.sub_zero]
  have hpl := splitB_part_le 10 s
  have hpn := splitB_len_le 10 s
  have hne := splitB_ne 10 s
  have htx := textL_len2 s
  have hstep := fun i i' n n' => step_nb (s := s) (i := i) (i' := i') (n := n) (n' := n')
  have hsplit := c_split hl 10
  generalize splitB 10 s = ps at *
  have hpos : 0 < ps.length := List.length_pos_iff.2 hne
  have ew : IntKind.i64.wrap ((ps.length : Int) - 1) = ((ps.length - 1 : Nat) : Int) := by rw [wrap_i64 (by omega) (by omega)]; omega
  have hlen := len_strs (IsSl.mk (sz := 1) (xs := strs ps) .no)
  have hhi : ∀ h, vsliceA Tryz.prog 22 (.sl 1 (strs ps) .no) none (some (.int .i64 ((ps.length - 1 : Nat) : Int))) none h = some (.sl 1 (strs ps.dropLast) .no) := fun h => by
    simp [vsliceA, arrT_22, vslice, elemT_22, szT_9, vbounds, hiOf, loOf, strs_length, cutTk, List.dropLast_eq_take, strs, List.map_take]
  have hbr : vbuild Tryz.prog 98 [(0, .sl 1 (strs ps.dropLast) .no)] = some (.agg [.sl 1 (strs ps.dropLast) .no, .int .i64 0, .int .i64 0, .nilsl, .nilsl, .nilsl, .nilsl]) := by
    simp [vbuild, placesT_98, zeroT_98, vfill, D.notTuple, D.cells, putAt]
  have hnx : (h.new h.next (.row nil4)).next = h.next + 1 := next_new_eq _ _
  repeat' first
    | (simp only [go_sem, Nat.reduceEqDiff, Int.reduceBEq, Int.reduceLT, Int.reduceLE, Int.reduceGT, Int.reduceGE, ↓reduceIte, Nat.reduceAdd, Nat.zero_add, Nat.reduceBEq, List.getElem?_cons_zero, List.getElem?_cons_succ, List.contains_cons, List.contains_nil, vpart_false, vextract, decide_true, decide_false, bne, Bool.or_false, Bool.or_true, Bool.false_or, Bool.true_or, Bool.or_self, Bool.false_and, Bool.true_and, Bool.and_false, Bool.and_true, Bool.and_self, Bool.not_true, Bool.not_false, Bool.not_not, vfieldAddr, D.notTuple, D.cells, mu16, new_at, Option.map_some, Option.map_none, *])
    | (refine onBH_caseN (fun hc => ?_) (fun hc => ?_))
    | (refine onBH_case (fun hc => ?_) (fun hc => ?_))
    | (refine gifH_caseNT (fun hc => ?_) (fun hc => ?_))
    | (refine gifH_caseNF (fun hc => ?_) (fun hc => ?_))
    | (refine gifH_caseT (fun hc => ?_) (fun hc => ?_))
    | (refine gifH_caseF (fun hc => ?_) (fun hc => ?_))
    | (refine VCall.mono (hsplit _) ?_; rintro r h ⟨rfl, rfl⟩)
  obtain ⟨H, hH, hRH⟩ : ∃ H, (h.new h.next (.row nil4)).new (h.next + 1) (.row [.sl 1 (strs ps.dropLast) .no, .int .i64 0, .int .i64 0, .nilsl, .nilsl, .nilsl, .nilsl]) = H ∧ RH h (h.next + 1) h.next ⟨ps.dropLast, 0, 0, .zero⟩ H := by
    refine ⟨_, rfl, hE0.new (by omega) _, Nat.le_refl _, by omega, ?_, ?_, _, .nilsl, .nilsl, .nilsl, .nilsl, new_at _ _ _, IsSl.mk _, ?_⟩
    · rw [next_new_ge _ (by rw [hnx]; exact Nat.le_refl _)]; omega
    · rw [new_keep (by omega)]; exact new_at _ _ _
    · refine ⟨fun p hp => ?_, ?_⟩
      · simp [Note.zero, strs] at hp
        subst hp
        exact ⟨.inl ⟨rfl, rfl⟩, fun i hi => hi.elim⟩
      · simp [tokOf]
  rw [hH]
  clear hH hE0 hnx hbr hhi
  refine vwp_loop (fun k fr h' => ∃ (i : Nat) (n : Note), k = ps.length - i ∧ i < ps.length ∧ fr 2 = .ptr h.next 0 ∧ fr 5 = .sl 1 (strs ps) .no ∧ fr 6 = .int .i64 ((ps.length - 1 : Nat) : Int) ∧ fr 7 = .ptr (h.next + 1) 0 ∧
    RH h (h.next + 1) h.next ⟨ps.dropLast, i, partOf n, n⟩ h' ∧ NB s.length i n ∧ parseL ps (ps.length - i) i n = parseS s) ps.length ?_ ?_
  · refine ⟨0, .zero, rfl, hpos, ?_⟩
    simp only [go_sem, Nat.reduceEqDiff, Int.reduceBEq, Int.reduceLT, Int.reduceLE, Int.reduceGT, Int.reduceGE, ↓reduceIte, Nat.reduceAdd, Nat.zero_add, Nat.reduceBEq, List.getElem?_cons_zero, List.getElem?_cons_succ, List.contains_cons, List.contains_nil, vpart_false, vextract, decide_true, decide_false, bne, Bool.or_false, Bool.or_true, Bool.false_or, Bool.true_or, Bool.or_self, Bool.false_and, Bool.true_and, Bool.and_false, Bool.and_true, Bool.and_self, Bool.not_true, Bool.not_false, Bool.not_not, vfieldAddr, D.notTuple, D.cells, mu16, true_and, and_true, Int.ofNat_zero]
    exact ⟨hRH, nb_zero _, hps⟩
  clear hRH hps
  rintro k fr h' ⟨i, n, rfl, hi, f2, f5, f6, f7, hR, hnb, htgt⟩
  have hR0 := hR
  obtain ⟨hE, hq0, hqr, hr, hq, dL, a, b, c, e, hrow, hL, hF⟩ := hR
  simp only at hrow hL hF
  by_cases hlt : i + 1 < ps.length
  · have e2 : decide ((i : Int) < ((ps.length - 1 : Nat) : Int)) = true := decide_eq_true (by omega)
    have ew1 : IntKind.i64.wrap ((i : Int) + 1) = ((i + 1 : Nat) : Int) := wrap_succ (by unfold lim; omega)
    have hst : vstore Tryz.prog 3 (.ptr (h.next + 1) 1) (.int .i64 ((i + 1 : Nat) : Int)) h' = some (h'.set (h.next + 1) (.row [dL, .int .i64 ((i + 1 : Nat) : Int), .int .i64 (partOf n), a, b, c, e])) := by
      rw [vstore_cell hrow szT_3 (by simp) rfl rfl]; rfl
    have hat := at_strs (IsSl.mk (sz := 1) (xs := strs ps) .no) hi
    have hR1 : RH h (h.next + 1) h.next ⟨ps.dropLast, i + 1, partOf n, n⟩ (h'.set (h.next + 1) (.row [dL, .int .i64 ((i + 1 : Nat) : Int), .int .i64 (partOf n), a, b, c, e])) :=
      ⟨hE.set (by omega) _, hq0, hqr, hr, by rw [set_keep (by omega)]; exact hq, dL, a, b, c, e, set_at_same _ _ _, hL, hF.set hrow (by simp)⟩
    have hdl : ps.dropLast.length = ps.length - 1 := List.length_dropLast ..
    have hpt : partOf n ≤ 2 := by unfold partOf; split <;> (try split) <;> omega
    have hz : RSz ⟨ps.dropLast, i + 1, partOf n, n⟩ := ⟨by simp only [hdl]; omega, by simp only [hdl]; omega, hpt, by have := hnb.ls.1; simp only; omega, by have := hnb.ts.1; simp only; omega, by have := hnb.hs.1; simp only; omega, by have := hnb.cs.1; simp only; omega, fun i k => by have := htx i k; simp only; omega⟩
    have hln := c_readLine hR1 hz (s := ps[i]) (by have := hpl _ (List.getElem_mem hi); omega)
    have hls := line_step (n := n) hlt
    have hgd : ps.getD i [] = ps[i] := by simp [hi]
    rw [hgd] at hls
    obtain ⟨f, hf⟩ : ∃ f, ps.length - i = f + 1 := ⟨ps.length - i - 1, by omega⟩
    rw [hf, parseL_step hlt] at htgt
    have hst' := hstep i
    clear hgd hR0 hstep hz hR1 htx hpl hF hL hq hE hdl hpt
    cases hs : stepS ps i n with
    | inl er =>
      rw [hs] at hls htgt
      obtain ⟨hne0, hls⟩ := hls
      have hb : (er == 0) = false := beq_eq_false_iff_ne.2 hne0
      rw [hls] at hln
      clear hls hst'
      repeat' first
        | (simp only [go_sem, Nat.reduceEqDiff, Int.reduceBEq, Int.reduceLT, Int.reduceLE, Int.reduceGT, Int.reduceGE, ↓reduceIte, Nat.reduceAdd, Nat.zero_add, Nat.reduceBEq, List.getElem?_cons_zero, List.getElem?_cons_succ, List.contains_cons, List.contains_nil, vpart_false, vextract, decide_true, decide_false, bne, Bool.or_false, Bool.or_true, Bool.false_or, Bool.true_or, Bool.or_self, Bool.false_and, Bool.true_and, Bool.and_false, Bool.and_true, Bool.and_self, Bool.not_true, Bool.not_false, Bool.not_not, vfieldAddr, D.notTuple, D.cells, mu16, vnilCheck, *])
        | (refine onBH_caseN (fun hc => ?_) (fun hc => ?_))
        | (refine onBH_case (fun hc => ?_) (fun hc => ?_))
        | (refine gifH_caseNT (fun hc => ?_) (fun hc => ?_))
        | (refine gifH_caseNF (fun hc => ?_) (fun hc => ?_))
        | (refine gifH_caseT (fun hc => ?_) (fun hc => ?_))
        | (refine gifH_caseF (fun hc => ?_) (fun hc => ?_))
      refine hln.mono ?_
      rintro v h2 ⟨rfl, hE, hq0, hqr, hr, hq, _⟩
      have hst4 : vstore Tryz.prog 24 (.ptr h.next 0) (.agg nil4) h2 = some (h2.set h.next (.row nil4)) := vstore_whole hq szT_24 rfl (by simp) rfl
      clear hln
      repeat' first
        | (simp only [go_sem, Nat.reduceEqDiff, Int.reduceBEq, Int.reduceLT, Int.reduceLE, Int.reduceGT, Int.reduceGE, ↓reduceIte, Nat.reduceAdd, Nat.zero_add, Nat.reduceBEq, List.getElem?_cons_zero, List.getElem?_cons_succ, List.contains_cons, List.contains_nil, vpart_false, vextract, decide_true, decide_false, bne, Bool.or_false, Bool.or_true, Bool.false_or, Bool.true_or, Bool.or_self, Bool.false_and, Bool.true_and, Bool.and_false, Bool.and_true, Bool.and_self, Bool.not_true, Bool.not_false, Bool.not_not, vfieldAddr, D.notTuple, D.cells, mu16, vnilCheck, *])
        | (refine onBH_caseN (fun hc => ?_) (fun hc => ?_))
        | (refine onBH_case (fun hc => ?_) (fun hc => ?_))
        | (refine gifH_caseNT (fun hc => ?_) (fun hc => ?_))
        | (refine gifH_caseNF (fun hc => ?_) (fun hc => ?_))
        | (refine gifH_caseT (fun hc => ?_) (fun hc => ?_))
        | (refine gifH_caseF (fun hc => ?_) (fun hc => ?_))
      first | exact zero (hE.set (Nat.le_refl _) _) htgt.symm | exact (zero (hE.set (Nat.le_refl _) _) htgt.symm).2
    | inr p =>
      obtain ⟨n', i'⟩ := p
      rw [hs] at hls htgt
      obtain ⟨hls, hi1, hi2⟩ := hls
      have hnb' := (hst' i' n n' hnb hs).2
      rw [hls] at hln
      simp only at htgt
      rw [parseL_fuel (f' := ps.length - i') hi2 (by omega) (by omega)] at htgt
      have hb : ((0 : Int) == 0) = true := rfl
      clear hls hst' hs hnb
      repeat' first
        | (simp only [go_sem, Nat.reduceEqDiff, Int.reduceBEq, Int.reduceLT, Int.reduceLE, Int.reduceGT, Int.reduceGE, ↓reduceIte, Nat.reduceAdd, Nat.zero_add, Nat.reduceBEq, List.getElem?_cons_zero, List.getElem?_cons_succ, List.contains_cons, List.contains_nil, vpart_false, vextract, decide_true, decide_false, bne, Bool.or_false, Bool.or_true, Bool.false_or, Bool.true_or, Bool.or_self, Bool.false_and, Bool.true_and, Bool.and_false, Bool.and_true, Bool.and_self, Bool.not_true, Bool.not_false, Bool.not_not, vfieldAddr, D.notTuple, D.cells, mu16, vnilCheck, *])
        | (refine onBH_caseN (fun hc => ?_) (fun hc => ?_))
        | (refine onBH_case (fun hc => ?_) (fun hc => ?_))
        | (refine gifH_caseNT (fun hc => ?_) (fun hc => ?_))
        | (refine gifH_caseNF (fun hc => ?_) (fun hc => ?_))
        | (refine gifH_caseT (fun hc => ?_) (fun hc => ?_))
        | (refine gifH_caseF (fun hc => ?_) (fun hc => ?_))
      refine hln.mono ?_
      rintro v h2 ⟨rfl, hR2⟩
      clear hln
      repeat' first
        | (simp only [go_sem, Nat.reduceEqDiff, Int.reduceBEq, Int.reduceLT, Int.reduceLE, Int.reduceGT, Int.reduceGE, ↓reduceIte, Nat.reduceAdd, Nat.zero_add, Nat.reduceBEq, List.getElem?_cons_zero, List.getElem?_cons_succ, List.contains_cons, List.contains_nil, vpart_false, vextract, decide_true, decide_false, bne, Bool.or_false, Bool.or_true, Bool.false_or, Bool.true_or, Bool.or_self, Bool.false_and, Bool.true_and, Bool.and_false, Bool.and_true, Bool.and_self, Bool.not_true, Bool.not_false, Bool.not_not, vfieldAddr, D.notTuple, D.cells, mu16, vnilCheck, *])
        | (refine onBH_caseN (fun hc => ?_) (fun hc => ?_))
        | (refine onBH_case (fun hc => ?_) (fun hc => ?_))
        | (refine gifH_caseNT (fun hc => ?_) (fun hc => ?_))
        | (refine gifH_caseNF (fun hc => ?_) (fun hc => ?_))
        | (refine gifH_caseT (fun hc => ?_) (fun hc => ?_))
        | (refine gifH_caseF (fun hc => ?_) (fun hc => ?_))
      exact ⟨ps.length - i', by omega, i', n', rfl, hi2, hR2, hnb', htgt⟩
  · have hie : i = ps.length - 1 := by omega
    have e2 : decide ((i : Int) < ((ps.length - 1 : Nat) : Int)) = false := decide_eq_false (by omega)
    have hlp : ps.length - 1 < ps.length := Nat.sub_lt hpos Nat.one_pos
    have hat := at_strs (IsSl.mk (sz := 1) (xs := strs ps) .no) hlp
    have hgd : ps.getD i [] = ps[ps.length - 1]'hlp := by rw [List.getD_eq_getElem?_getD, hie, List.getElem?_eq_getElem hlp]; rfl
    rw [show ps.length - i = 0 + 1 by omega] at htgt
    simp only [parseL] at htgt
    rw [if_neg hlt, hgd] at htgt
    cases hem : (ps[ps.length - 1]'hlp == []) with
    | false =>
      have hst4 : vstore Tryz.prog 24 (.ptr h.next 0) (.agg nil4) h' = some (h'.set h.next (.row nil4)) := vstore_whole hq szT_24 rfl (by simp) rfl
      rw [if_pos (by simpa using hem)] at htgt
      have hlast : (i : Int) = ((ps.length - 1 : Nat) : Int) := by omega
      rw [hlast] at htgt
      clear hie hlast hgd hR0 htx hpl hstep hF hL
      repeat' first
        | (simp only [go_sem, Nat.reduceEqDiff, Int.reduceBEq, Int.reduceLT, Int.reduceLE, Int.reduceGT, Int.reduceGE, ↓reduceIte, Nat.reduceAdd, Nat.zero_add, Nat.reduceBEq, List.getElem?_cons_zero, List.getElem?_cons_succ, List.contains_cons, List.contains_nil, vpart_false, vextract, decide_true, decide_false, bne, Bool.or_false, Bool.or_true, Bool.false_or, Bool.true_or, Bool.or_self, Bool.false_and, Bool.true_and, Bool.and_false, Bool.and_true, Bool.and_self, Bool.not_true, Bool.not_false, Bool.not_not, vfieldAddr, D.notTuple, D.cells, mu16, vnilCheck, *])
        | (refine onBH_caseN (fun hc => ?_) (fun hc => ?_))
        | (refine onBH_case (fun hc => ?_) (fun hc => ?_))
        | (refine gifH_caseNT (fun hc => ?_) (fun hc => ?_))
        | (refine gifH_caseNF (fun hc => ?_) (fun hc => ?_))
        | (refine gifH_caseT (fun hc => ?_) (fun hc => ?_))
        | (refine gifH_caseF (fun hc => ?_) (fun hc => ?_))
      first | exact zero (hE.set (Nat.le_refl _) _) htgt.symm | exact (zero (hE.set (Nat.le_refl _) _) htgt.symm).2
    | true =>
      rw [if_neg (by simpa using hem)] at htgt
      have hnote := four_note hF
      have hsm := nb_sm hnb (by omega) (by omega)
      have hld : vload Tryz.prog 24 (.ptr (h.next + 1) 3) h' = some (.agg [a, b, c, e]) := vload_cells (m := 4) (pre := [dL, .int .i64 (i : Int), .int .i64 (partOf n : Int)]) (mid := [a, b, c, e]) (post := []) hrow rfl rfl agT_24 szT_24 (by decide)
      cases hck : (checkS n == 0) with
      | false =>
        have hst4 : vstore Tryz.prog 24 (.ptr h.next 0) (.agg nil4) h' = some (h'.set h.next (.row nil4)) := vstore_whole hq szT_24 rfl (by simp) rfl
        rw [if_pos (by simpa using hck)] at htgt
        clear hie hgd hR0 htx hpl hstep hF hL
        repeat' first
          | (simp only [go_sem, Nat.reduceEqDiff, Int.reduceBEq, Int.reduceLT, Int.reduceLE, Int.reduceGT, Int.reduceGE, ↓reduceIte, Nat.reduceAdd, Nat.zero_add, Nat.reduceBEq, List.getElem?_cons_zero, List.getElem?_cons_succ, List.contains_cons, List.contains_nil, vpart_false, vextract, decide_true, decide_false, bne, Bool.or_false, Bool.or_true, Bool.false_or, Bool.true_or, Bool.or_self, Bool.false_and, Bool.true_and, Bool.and_false, Bool.and_true, Bool.and_self, Bool.not_true, Bool.not_false, Bool.not_not, vfieldAddr, D.notTuple, D.cells, mu16, vnilCheck, *])
          | (refine onBH_caseN (fun hc => ?_) (fun hc => ?_))
          | (refine onBH_case (fun hc => ?_) (fun hc => ?_))
          | (refine gifH_caseNT (fun hc => ?_) (fun hc => ?_))
          | (refine gifH_caseNF (fun hc => ?_) (fun hc => ?_))
          | (refine gifH_caseT (fun hc => ?_) (fun hc => ?_))
          | (refine gifH_caseF (fun hc => ?_) (fun hc => ?_))
          | (refine VCall.mono (c_check hnote hsm _) ?_; rintro r h ⟨rfl, rfl⟩)
        first | exact zero (hE.set (Nat.le_refl _) _) htgt.symm | exact (zero (hE.set (Nat.le_refl _) _) htgt.symm).2
      | true =>
        have hst4 : vstore Tryz.prog 24 (.ptr h.next 0) (.agg [a, b, c, e]) h' = some (h'.set h.next (.row [a, b, c, e])) := vstore_whole hq szT_24 rfl (by simp) (flat4 (hF.flat (xs := strs n.ls) (d := a) (by simp)).1 (hF.flat (xs := strs n.ts) (d := b) (by simp)).1 (hF.flat (xs := strs n.hs) (d := c) (by simp)).1 (hF.flat (xs := strs n.cs) (d := e) (by simp)).1)
        rw [if_neg (by simpa using hck)] at htgt
        have hfin := parse_note hF
        rw [htgt] at hfin
        clear hie hgd hR0 htx hpl hstep hF hL
        repeat' first
          | (simp only [go_sem, Nat.reduceEqDiff, Int.reduceBEq, Int.reduceLT, Int.reduceLE, Int.reduceGT, Int.reduceGE, ↓reduceIte, Nat.reduceAdd, Nat.zero_add, Nat.reduceBEq, List.getElem?_cons_zero, List.getElem?_cons_succ, List.contains_cons, List.contains_nil, vpart_false, vextract, decide_true, decide_false, bne, Bool.or_false, Bool.or_true, Bool.false_or, Bool.true_or, Bool.or_self, Bool.false_and, Bool.true_and, Bool.and_false, Bool.and_true, Bool.and_self, Bool.not_true, Bool.not_false, Bool.not_not, vfieldAddr, D.notTuple, D.cells, mu16, vnilCheck, *])
          | (refine onBH_caseN (fun hc => ?_) (fun hc => ?_))
          | (refine onBH_case (fun hc => ?_) (fun hc => ?_))
          | (refine gifH_caseNT (fun hc => ?_) (fun hc => ?_))
          | (refine gifH_caseNF (fun hc => ?_) (fun hc => ?_))
          | (refine gifH_caseT (fun hc => ?_) (fun hc => ?_))
          | (refine gifH_caseF (fun hc => ?_) (fun hc => ?_))
          | (refine VCall.mono (c_check hnote hsm _) ?_; rintro r h ⟨rfl, rfl⟩)
        exact ⟨hE.set (Nat.le_refl _) _, below_mono (Nat.zero_le _) _ hfin.1⟩
end Go.V
namespace Go.V
open Go.Proofs
set_option maxRecDepth 100000
set_option linter.unusedSimpArgs false
set_option linter.unusedVariables false

theorem zero_sm : Note.zero.Sm := ⟨⟨by simp [Note.zero], by simp [Note.zero]⟩, ⟨by simp [Note.zero], by simp [Note.zero]⟩, ⟨by simp [Note.zero], by simp [Note.zero]⟩, ⟨by simp [Note.zero], by simp [Note.zero]⟩⟩
theorem parseL_sm {s : List UInt8} (hs : s.length ≤ 65536) : ∀ {f i : Nat} {n : Note}, NB s.length i n → i < (splitB 10 s).length → (parseL (splitB 10 s) f i n).1.Sm
  | 0, _, _, _, _ => zero_sm
  | f + 1, i, n, hn, hi => by
    have hlen := splitB_len_le 10 s
    simp only [parseL]
    by_cases hlt : i + 1 < (splitB 10 s).length
    · rw [if_pos hlt]
      have hl := line_step (n := n) hlt
      cases hst : stepS (splitB 10 s) i n with
      | inl e => exact zero_sm
      | inr p =>
        obtain ⟨n', i'⟩ := p
        rw [hst] at hl
        exact parseL_sm hs (step_nb hn hst).2 hl.2.2
    · rw [if_neg hlt]
      split
      · exact zero_sm
      · split
        · exact zero_sm
        · exact nb_sm hn hs (by omega)
theorem parseS_sm (s : List UInt8) : (parseS s).1.Sm := by
  unfold parseS
  split
  · exact zero_sm
  · exact parseL_sm (by omega) (nb_zero _) (List.length_pos_iff.2 (splitB_ne 10 s))

end Go.V
