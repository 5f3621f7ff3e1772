/- The contracts of the reader of a notice. No condition. -/
import Derived.Test.YtnfmcjeamolljaaGreatDoorVrc
import Derived.Test.YtnfmcjeamolljaaGreatDoorVhF
import Derived.Test.YtnfmcjeamolljaaGreatDoorVnc
set_option linter.unusedSimpArgs false
set_option linter.unusedVariables false
set_option linter.constructorNameAsVariable false
set_option linter.deprecated false
namespace Go.V
open Go.Proofs
set_option linter.unusedSimpArgs false
set_option linter.unusedVariables false

/-! Texts of notices that are read: plain laws. -/
def holdW : List UInt8 := [104, 111, 108, 100, 101, 114]
def chgW : List UInt8 := [99, 104, 97, 110, 103, 101]
def licW0 : List UInt8 := [108, 105, 99, 101, 110, 115, 101]

/-- A word ahead of the first blank. -/
theorem beg_cut {w s : List UInt8} (hw : (32 : UInt8) ∉ w) : begS s (w ++ [32]) = true ↔ cutB 32 s = some (w, s.drop (w.length + 1)) := by
  have hl : (w ++ [32]).length = w.length + 1 := by simp
  constructor
  · intro h
    unfold begS at h
    rw [hl, Bool.and_eq_true, decide_eq_true_eq, beq_iff_eq] at h
    obtain ⟨h1, h2⟩ := h
    have hs : s = (w ++ [32]) ++ s.drop (w.length + 1) := by rw [← h2, List.take_append_drop]
    have g1 : s[w.length]? = some 32 := by rw [hs]; simp
    have g2 : s.take w.length = w := by rw [hs]; simp
    rw [cutB_at g1 fun k hk e => ?_, g2]
    have : w[k]? = some 32 := by rw [← g2, List.getElem?_take_of_lt hk]; exact e
    exact hw (List.mem_of_getElem? this)
  · intro h
    rcases cutB_cases 32 s with ⟨_, h2⟩ | ⟨m, hm, hml, h2⟩
    · rw [h2] at h; cases h
    · rw [h2, Option.some.injEq, Prod.mk.injEq] at h
      obtain ⟨g1, _⟩ := h
      have gl : m = w.length := by
        have := congrArg List.length g1
        simp only [List.length_take] at this
        omega
      subst gl
      have hg := (Lib.indexByte_some hm).1
      unfold begS
      rw [hl, Bool.and_eq_true, decide_eq_true_eq, beq_iff_eq]
      refine ⟨by omega, ?_⟩
      rw [List.take_succ_eq_append_getElem hml, g1]
      rw [List.getElem?_eq_getElem hml, Option.some.injEq] at hg
      rw [hg]
theorem beg_lic {s : List UInt8} : begS s licW = true ↔ cutB 32 s = some (licW0, s.drop 8) := beg_cut (w := licW0) (by decide)
theorem beg_hold {s : List UInt8} : begS s (holdW ++ [32]) = true ↔ cutB 32 s = some (holdW, s.drop 7) := beg_cut (w := holdW) (by decide)
theorem beg_chg {s : List UInt8} : begS s (chgW ++ [32]) = true ↔ cutB 32 s = some (chgW, s.drop 7) := beg_cut (w := chgW) (by decide)

/-- What the reader of a notice knows: the lines but the last one, the next line, the part, the notice so far. -/
structure RSt where
  l : List (List UInt8)
  nx : Nat
  pt : Nat
  n : Note
def textL (l : List (List UInt8)) (i k : Nat) : List UInt8 := Lib.join ((l.drop i).take k) [10]
/-- A line of a license. -/
def licP (R : RSt) (rest : List UInt8) : Int × RSt :=
  match cutB 32 rest with
  | none => (4, R)
  | some (name, digits) =>
    if numS digits < 0 ∨ name = [] then (4, R)
    else if 0 < R.pt then (5, R)
    else if numS digits > (R.l.length : Int) - R.nx then (13, { R with pt := 0 })
    else if numS digits = 1 ∧ textL R.l R.nx (numS digits).toNat = [] then (4, { R with pt := 0, nx := R.nx + (numS digits).toNat })
    else (0, { R with pt := 0, nx := R.nx + (numS digits).toNat, n := { R.n with ls := R.n.ls ++ [name], ts := R.n.ts ++ [textL R.l R.nx (numS digits).toNat] } })
/-- A line. -/
def lineP (R : RSt) (s : List UInt8) : Int × RSt :=
  match cutB 32 s with
  | none => (4, R)
  | some (w, rest) =>
    if w = licW0 then licP R rest
    else if w = holdW then (if 1 < R.pt then (5, { R with n := { R.n with hs := R.n.hs ++ [rest] } }) else (0, { R with pt := 1, n := { R.n with hs := R.n.hs ++ [rest] } }))
    else if w = chgW then (if 2 < R.pt then (5, { R with n := { R.n with cs := R.n.cs ++ [rest] } }) else (0, { R with pt := 2, n := { R.n with cs := R.n.cs ++ [rest] } }))
    else (4, R)

/-- A line, as the reference reads it. -/
def stepS (l : List (List UInt8)) (i : Nat) (n : Note) : Int ⊕ (Note × Nat) :=
  let s := l.getD i []
  if (licS s).2 < 0 ∧ begS s (holdW ++ [32]) = false ∧ begS s (chgW ++ [32]) = false then .inl 4
  else if begS s (holdW ++ [32]) = true then (if n.cs ≠ [] then .inl 5 else .inr ({ n with hs := n.hs ++ [s.drop 7] }, i + 1))
  else if begS s (chgW ++ [32]) = true then .inr ({ n with cs := n.cs ++ [s.drop 7] }, i + 1)
  else if n.hs ≠ [] ∨ n.cs ≠ [] then .inl 5
  else if (i : Int) + (licS s).2 ≥ (l.length : Int) - 1 then .inl 13
  else if (licS s).2 = 1 ∧ textL l (i + 1) (licS s).2.toNat = [] then .inl 4
  else .inr ({ n with ls := n.ls ++ [(licS s).1], ts := n.ts ++ [textL l (i + 1) (licS s).2.toNat] }, i + 1 + (licS s).2.toNat)

def partOf (n : Note) : Nat := if n.cs ≠ [] then 2 else if n.hs ≠ [] then 1 else 0

theorem textL_drop {l : List (List UInt8)} {i k : Nat} (h : i + k < l.length) : textL l.dropLast i k = textL l i k := by
  unfold textL
  congr 1
  rw [List.dropLast_eq_take, List.drop_take, List.take_take, Nat.min_eq_left (by omega)]

/-- The two ways to read a line agree. -/
theorem line_step {l : List (List UInt8)} {i : Nat} {n : Note} (hi : i + 1 < l.length) :
    match stepS l i n with
    | .inl e => e ≠ 0 ∧ (lineP ⟨l.dropLast, i + 1, partOf n, n⟩ (l.getD i [])).1 = e
    | .inr (n', i') => lineP ⟨l.dropLast, i + 1, partOf n, n⟩ (l.getD i []) = (0, ⟨l.dropLast, i', partOf n', n'⟩) ∧ i < i' ∧ i' < l.length := by
  generalize hs : l.getD i [] = s
  have hdl : l.dropLast.length = l.length - 1 := List.length_dropLast ..
  unfold stepS lineP
  simp only [hs]
  cases hc : cutB 32 s with
  | none =>
    have h1 : begS s licW = false := Bool.eq_false_iff.2 fun e => by rw [beg_lic.1 e] at hc; cases hc
    have h2 : begS s (holdW ++ [32]) = false := Bool.eq_false_iff.2 fun e => by rw [beg_hold.1 e] at hc; cases hc
    have h3 : begS s (chgW ++ [32]) = false := Bool.eq_false_iff.2 fun e => by rw [beg_chg.1 e] at hc; cases hc
    have h4 : licS s = ([], -1) := by unfold licS; rw [if_neg (by rw [h1]; exact Bool.false_ne_true)]
    rw [if_pos ⟨by rw [h4]; decide, h2, h3⟩]
    exact ⟨by decide, rfl⟩
  | some p =>
    obtain ⟨w, rest⟩ := p
    simp only []
    by_cases w1 : w = licW0
    · subst w1
      have hb : begS s licW = true := by
        rw [beg_lic]
        rcases cutB_cases 32 s with ⟨_, h2⟩ | ⟨m, hm, hml, h2⟩
        · rw [h2] at hc; cases hc
        · rw [h2, Option.some.injEq, Prod.mk.injEq] at hc
          have : m = 7 := by
            have := congrArg List.length hc.1
            simp only [List.length_take, licW0, List.length_cons, List.length_nil] at this
            omega
          subst this
          rw [h2, hc.1]
      have hr : rest = s.drop 8 := by
        have := beg_lic.1 hb
        rw [hc] at this
        exact (Prod.mk.inj (Option.some.inj this)).2
      have h2 : begS s (holdW ++ [32]) = false := Bool.eq_false_iff.2 fun e => by
        have := beg_hold.1 e
        rw [hc] at this
        exact absurd (Prod.mk.inj (Option.some.inj this)).1 (by decide)
      have h3 : begS s (chgW ++ [32]) = false := Bool.eq_false_iff.2 fun e => by
        have := beg_chg.1 e
        rw [hc] at this
        exact absurd (Prod.mk.inj (Option.some.inj this)).1 (by decide)
      have hL : licS s = licT rest := by unfold licS; rw [if_pos hb, hr]
      rw [if_pos rfl, hL, h2, h3]
      unfold licP licT
      cases hc2 : cutB 32 rest with
      | none =>
        simp only []
        simp
      | some q =>
        obtain ⟨name, digits⟩ := q
        simp only []
        by_cases hn : name = []
        · simp [hn]
        rw [if_neg hn]
        simp only []
        by_cases hk : numS digits < 0
        · simp [hk]
        rw [if_neg (show ¬ (numS digits < 0 ∧ True ∧ True) from fun q => hk q.1), if_neg (show ¬ false = true from Bool.false_ne_true), if_neg (show ¬ false = true from Bool.false_ne_true), if_neg (show ¬ (numS digits < 0 ∨ name = []) from fun q => q.elim hk hn)]
        obtain ⟨k, hk2⟩ := Int.eq_ofNat_of_zero_le (show 0 ≤ numS digits by omega)
        simp only [hk2, Int.toNat_natCast]
        by_cases hp : n.hs ≠ [] ∨ n.cs ≠ []
        · rw [if_pos hp, if_pos (show 0 < partOf n by
            unfold partOf
            by_cases h5 : n.cs ≠ []
            · rw [if_pos h5]; omega
            · rw [if_neg h5, if_pos (hp.resolve_right h5)]; omega)]
          exact ⟨by decide, rfl⟩
        have hp0 : partOf n = 0 := by
          unfold partOf
          rw [if_neg fun q => hp (.inr q), if_neg fun q => hp (.inl q)]
        rw [if_neg hp, if_neg (show ¬ 0 < partOf n by omega), hdl]
        by_cases hlen : (i : Int) + (k : Int) ≥ (l.length : Int) - 1
        · rw [if_pos hlen, if_pos (show (k : Int) > ((l.length - 1 : Nat) : Int) - ((i + 1 : Nat) : Int) by omega)]
          exact ⟨by decide, rfl⟩
        rw [if_neg hlen, if_neg (show ¬ (k : Int) > ((l.length - 1 : Nat) : Int) - ((i + 1 : Nat) : Int) by omega), textL_drop (show i + 1 + k < l.length by omega)]
        by_cases ht : (k : Int) = 1 ∧ textL l (i + 1) k = []
        · rw [if_pos ht, if_pos ht]
          exact ⟨by decide, rfl⟩
        rw [if_neg ht, if_neg ht]
        refine ⟨?_, by omega, by omega⟩
        have : partOf { n with ls := n.ls ++ [name], ts := n.ts ++ [textL l (i + 1) k] } = 0 := hp0
        simp only [this]
    · have h1 : begS s licW = false := Bool.eq_false_iff.2 fun e => by
        have := beg_lic.1 e
        rw [hc] at this
        exact w1 (Prod.mk.inj (Option.some.inj this)).1
      have h4 : licS s = ([], -1) := by unfold licS; rw [if_neg (by rw [h1]; exact Bool.false_ne_true)]
      rw [if_neg w1, h4]
      have hrest : rest = s.drop (w.length + 1) := by
        rcases cutB_cases 32 s with ⟨_, h2⟩ | ⟨m, hm, hml, h2⟩
        · rw [h2] at hc; cases hc
        · rw [h2, Option.some.injEq, Prod.mk.injEq] at hc
          have : m = w.length := by
            have := congrArg List.length hc.1
            simp only [List.length_take] at this
            omega
          rw [← hc.2, this]
      by_cases w2 : w = holdW
      · subst w2
        have h2 : begS s (holdW ++ [32]) = true := beg_hold.2 (by rw [hc, hrest]; rfl)
        rw [if_neg (fun q => by rw [h2] at q; exact absurd q.2.1 (by decide)), if_pos h2, if_pos rfl]
        have hr : rest = s.drop 7 := hrest
        by_cases h5 : n.cs ≠ []
        · have hp : partOf n = 2 := by unfold partOf; rw [if_pos h5]
          rw [if_pos h5, if_pos (by omega)]
          exact ⟨by decide, rfl⟩
        · have hp : ¬ 1 < partOf n := by unfold partOf; rw [if_neg h5]; split <;> omega
          rw [if_neg h5, if_neg hp]
          refine ⟨?_, by omega, by omega⟩
          have : partOf { n with hs := n.hs ++ [s.drop 7] } = 1 := by
            unfold partOf
            simp only []
            rw [if_neg h5, if_pos (by simp)]
          simp only [this, hr]
      · have h2 : begS s (holdW ++ [32]) = false := Bool.eq_false_iff.2 fun e => by
          have := beg_hold.1 e
          rw [hc] at this
          exact w2 (Prod.mk.inj (Option.some.inj this)).1
        rw [if_neg w2, h2]
        by_cases w3 : w = chgW
        · subst w3
          have h3 : begS s (chgW ++ [32]) = true := beg_chg.2 (by rw [hc, hrest]; rfl)
          rw [if_neg (fun q => by rw [h3] at q; exact absurd q.2.2 (by decide)), if_neg Bool.false_ne_true, if_pos h3, if_pos rfl]
          have hr : rest = s.drop 7 := hrest
          have hp : ¬ 2 < partOf n := by unfold partOf; split <;> (try split) <;> omega
          rw [if_neg hp]
          refine ⟨?_, by omega, by omega⟩
          have : partOf { n with cs := n.cs ++ [s.drop 7] } = 2 := by
            unfold partOf
            simp only []
            rw [if_pos (by simp)]
          simp only [this, hr]
        · have h3 : begS s (chgW ++ [32]) = false := Bool.eq_false_iff.2 fun e => by
            have := beg_chg.1 e
            rw [hc] at this
            exact w3 (Prod.mk.inj (Option.some.inj this)).1
          rw [if_neg w3, if_pos ⟨by decide, rfl, h3⟩]
          exact ⟨by decide, rfl⟩

/-- What a text of a notice says, from line i on: the notice, the line and the error. -/
def parseL (l : List (List UInt8)) : Nat → Nat → Note → Note × Int × Int
  | 0, _, _ => (.zero, 0, 0)
  | f + 1, i, n =>
    if i + 1 < l.length then (match stepS l i n with
      | .inl e => (.zero, (i : Int), e)
      | .inr (n', i') => parseL l f i' n')
    else if l.getD i [] ≠ [] then (.zero, (i : Int), 13)
    else if checkS n ≠ 0 then (.zero, -1, checkS n) else (n, 0, 0)
def parseS (s : List UInt8) : Note × Int × Int := if s.length > 65536 then (.zero, 0, 10) else parseL (splitB 10 s) (splitB 10 s).length 0 .zero
end Go.V
namespace Go.V
open Go.Proofs
set_option maxRecDepth 100000
set_option linter.unusedSimpArgs false
set_option linter.unusedVariables false

/-! The reader of a notice. -/
theorem Owns.str {h0 h : Heap} {pre post : List (List (List D) × D)} {l : List (List UInt8)} {d : D} {x : List UInt8} {K : D → Heap → Prop} {w : HidR K} (ho : Owns h0 h 1 (pre ++ (strs l, d) :: post)) (hn : h0.next ≤ h.next) (hl : l.length ≤ 16777216)
    (hK : ∀ d' h', Owns h0 h' 1 (pre ++ (strs (l ++ [x]), d') :: post) → h.next ≤ h'.next → (∀ i, i < h.next → (i < h0.next ∨ h.at' i ≠ some .tok) → h'.at' i = h.at' i) → d'.cells = [d'] → d'.flat = true → K d' h') : onRH (vappend Tryz.prog false h.next 22 d (.sl 1 [[.str x]] .full) h) K w :=
  ho.appAt hn elemT_22 zokT_9 szT_9 (by omega) (by simp) (by simp) (by simp only [strs_length, bytesT_9, List.length_cons, List.length_nil]; unfold lim; omega) (by simp only [strs_length, List.length_cons, List.length_nil]; unfold lim; omega) fun d' h' o => hK d' h' (by rw [strs_app]; exact o)

abbrev Four (h0 h : Heap) (n : Note) (a b c e : D) : Prop := Owns h0 h 1 [(strs n.ls, a), (strs n.ts, b), (strs n.hs, c), (strs n.cs, e)]
/-- The reader's row r, and the row q of the result. -/
def RH (h0 : Heap) (r q : Nat) (R : RSt) (h : Heap) : Prop :=
  Ext h0 h ∧ h0.next ≤ q ∧ q < r ∧ r < h.next ∧ h.at' q = some (.row nil4) ∧ ∃ dL a b c e, h.at' r = some (.row [dL, .int .i64 R.nx, .int .i64 R.pt, a, b, c, e]) ∧ IsSl 1 (strs R.l) dL ∧ Four h0 h R.n a b c e

/-- A heap with one object. -/
def oneH (r : Nat) (o : Obj) : Heap := ⟨0, fun i => if i = r then some o else none⟩
theorem oneH_at (r : Nat) (o : Obj) : (oneH r o).at' r = some o := if_pos rfl
theorem oneH_le {r : Nat} {o : Obj} {h : Heap} (hr : h.at' r = some o) : HLe (oneH r o) h := fun i ob e => by
  unfold oneH at e
  simp only at e
  split at e
  · rename_i hi; subst hi; rw [hr]; exact e
  · cases e

theorem c_enter {h0 h : Heap} {r q : Nat} {R : RSt} (hR : RH h0 r q R h) (k : Nat) :
    VCall Tryz.prog 92 [.ptr r 0, .int .i64 (k : Int)] h fun v h' => v = .int .i64 (if k < R.pt then 5 else 0) ∧ RH h0 r q (if k < R.pt then R else { R with pt := k }) h' := by
  have hR0 := hR
  obtain ⟨hE, hq0, hqr, hr, hq, dL, a, b, c, e, hrow, hL, hF⟩ := hR
  refine VCall.of_fn (g := cfg92) mix Tryz.func92 ok92 rfl rfl ?_
  simp only [Tryz.f92, Option.getD_some]
  by_cases hk : k < R.pt
  · have e1 : decide ((k : Int) < R.pt) = true := decide_eq_true (by omega)
    rw [if_pos hk, if_pos hk]
    repeat' first
      | (simp only [go_sem, Nat.reduceEqDiff, Int.reduceBEq, Int.reduceLT, Int.reduceLE, Int.reduceGT, Int.reduceGE, ↓reduceIte, Nat.reduceAdd, Nat.zero_add, Nat.reduceBEq, List.getElem?_cons_zero, List.getElem?_cons_succ, List.contains_cons, List.contains_nil, vpart_false, vextract, decide_true, decide_false, bne, Bool.or_false, Bool.or_true, Bool.false_or, Bool.true_or, Bool.or_self, Bool.false_and, Bool.true_and, Bool.and_false, Bool.and_true, Bool.and_self, Bool.not_true, Bool.not_false, Bool.not_not, vfieldAddr, D.notTuple, D.cells, mu92, vnilCheck, *])
      | (refine onBH_caseN (fun hc => ?_) (fun hc => ?_))
      | (refine onBH_case (fun hc => ?_) (fun hc => ?_))
      | (refine gifH_caseNT (fun hc => ?_) (fun hc => ?_))
      | (refine gifH_caseNF (fun hc => ?_) (fun hc => ?_))
      | (refine gifH_caseT (fun hc => ?_) (fun hc => ?_))
      | (refine gifH_caseF (fun hc => ?_) (fun hc => ?_))
  · have e1 : decide ((k : Int) < R.pt) = false := decide_eq_false (by omega)
    rw [if_neg hk, if_neg hk]
    have hst : vstore Tryz.prog 3 (.ptr r 2) (.int .i64 (k : Int)) h = some (h.set r (.row [dL, .int .i64 R.nx, .int .i64 k, a, b, c, e])) := by
      rw [vstore_cell hrow szT_3 (by simp) rfl rfl]; rfl
    repeat' first
      | (simp only [go_sem, Nat.reduceEqDiff, Int.reduceBEq, Int.reduceLT, Int.reduceLE, Int.reduceGT, Int.reduceGE, ↓reduceIte, Nat.reduceAdd, Nat.zero_add, Nat.reduceBEq, List.getElem?_cons_zero, List.getElem?_cons_succ, List.contains_cons, List.contains_nil, vpart_false, vextract, decide_true, decide_false, bne, Bool.or_false, Bool.or_true, Bool.false_or, Bool.true_or, Bool.or_self, Bool.false_and, Bool.true_and, Bool.and_false, Bool.and_true, Bool.and_self, Bool.not_true, Bool.not_false, Bool.not_not, vfieldAddr, D.notTuple, D.cells, mu92, vnilCheck, *])
      | (refine onBH_caseN (fun hc => ?_) (fun hc => ?_))
      | (refine onBH_case (fun hc => ?_) (fun hc => ?_))
      | (refine gifH_caseNT (fun hc => ?_) (fun hc => ?_))
      | (refine gifH_caseNF (fun hc => ?_) (fun hc => ?_))
      | (refine gifH_caseT (fun hc => ?_) (fun hc => ?_))
      | (refine gifH_caseF (fun hc => ?_) (fun hc => ?_))
    exact ⟨hE.set (by omega) _, hq0, hqr, hr, by rw [set_keep (by omega)]; exact hq, dL, a, b, c, e, set_at_same _ _ _, hL, hF.set hrow (by simp)⟩

theorem cut_strs {l : List (List UInt8)} {d : D} (hd : IsSl 1 (strs l) d) {m n : Nat} (hm : m ≤ n) (hn : n ≤ l.length) : ∃ d', (∀ h, vsliceA Tryz.prog 22 d (some (.int .i64 (m : Int))) (some (.int .i64 (n : Int))) none h = some d') ∧ IsSl 1 (strs ((l.drop m).take (n - m))) d' := by
  rcases hd with ⟨rfl, hs⟩ | ⟨tk, rfl⟩
  · have hl : l = [] := List.map_eq_nil_iff.1 hs
    subst hl
    have h0 : n = 0 := by simpa using hn
    subst h0
    have h1 : m = 0 := by omega
    subst h1
    refine ⟨.nilsl, fun h => ?_, .inl ⟨rfl, by simp [strs]⟩⟩
    simp [vsliceA, arrT_22, vslice, elemT_22, szT_9, vbounds, hiOf, loOf]
  · refine ⟨.sl 1 (((strs l).take n).drop m) (cutTk n (strs l).length tk), fun h => ?_, ?_⟩
    · simp [vsliceA, arrT_22, vslice, elemT_22, szT_9, vbounds, hiOf, loOf, hn, hm, strs_length]
    · have : ((strs l).take n).drop m = strs ((l.drop m).take (n - m)) := by
        rw [List.drop_take]
        simp [strs, List.map_take, List.map_drop]
      rw [this]
      exact IsSl.mk _

/-- The reader's sizes. -/
structure RSz (R : RSt) : Prop where
  nx : R.nx ≤ R.l.length
  l : R.l.length ≤ 1048576
  pt : R.pt ≤ 2
  ls : R.n.ls.length ≤ 1048576
  ts : R.n.ts.length ≤ 1048576
  hs : R.n.hs.length ≤ 1048576
  cs : R.n.cs.length ≤ 1048576
  tx : ∀ i k, (textL R.l i k).length ≤ 1048576

set_option maxHeartbeats 2000000 in
theorem c_readLicense {h0 h : Heap} {r q : Nat} {R : RSt} (hR : RH h0 r q R h) (hz : RSz R) {rest : List UInt8} (hl : rest.length ≤ 1048576) :
    VCall Tryz.prog 91 [.ptr r 0, .str rest] h fun v h' => v = .int .i64 (licP R rest).1 ∧ RH h0 r q (licP R rest).2 h' := by
  have hw1 := hz.nx
  have hw2 := hz.l
  refine VCall.of_fn (g := cfg91) mix Tryz.func91 ok91 rfl rfl ?_
  simp only [Tryz.f91, Option.getD_some]
  cases hc : cutB 32 rest with
  | none =>
    have eD : cutD 32 rest = .tuple [.str rest, .str [], .bool false] := by simp only [cutD, hc]
    have eP : licP R rest = (4, R) := by unfold licP; rw [hc]
    repeat' first
      | (simp only [go_sem, Nat.reduceEqDiff, Int.reduceBEq, Int.reduceLT, Int.reduceLE, Int.reduceGT, Int.reduceGE, ↓reduceIte, Nat.reduceAdd, Nat.zero_add, Nat.reduceBEq, List.getElem?_cons_zero, List.getElem?_cons_succ, List.contains_cons, List.contains_nil, vpart_false, vextract, decide_true, decide_false, bne, Bool.or_false, Bool.or_true, Bool.false_or, Bool.true_or, Bool.or_self, Bool.false_and, Bool.true_and, Bool.and_false, Bool.and_true, Bool.and_self, Bool.not_true, Bool.not_false, Bool.not_not, vfieldAddr, D.notTuple, D.cells, mu91, *])
      | (refine onBH_caseN (fun hc => ?_) (fun hc => ?_))
      | (refine onBH_case (fun hc => ?_) (fun hc => ?_))
      | (refine gifH_caseNT (fun hc => ?_) (fun hc => ?_))
      | (refine gifH_caseNF (fun hc => ?_) (fun hc => ?_))
      | (refine gifH_caseT (fun hc => ?_) (fun hc => ?_))
      | (refine gifH_caseF (fun hc => ?_) (fun hc => ?_))
      | (refine VCall.mono (c_cut hl 32 _) ?_; rintro r h ⟨rfl, rfl⟩)
      | (refine VCall.mono (c_number (s := []) (by simp) _) ?_; rintro r h ⟨rfl, rfl⟩)
  | some p =>
  obtain ⟨name, digits⟩ := p
  have eD : cutD 32 rest = .tuple [.str name, .str digits, .bool true] := by simp only [cutD, hc]
  have hdl := cutB_len hc
  have hd0 : digits.length ≤ 1048576 := by omega
  have eP : licP R rest = if numS digits < 0 ∨ name = [] then (4, R)
    else if 0 < R.pt then (5, R)
    else if numS digits > (R.l.length : Int) - R.nx then (13, { R with pt := 0 })
    else if numS digits = 1 ∧ textL R.l R.nx (numS digits).toNat = [] then (4, { R with pt := 0, nx := R.nx + (numS digits).toNat })
    else (0, { R with pt := 0, nx := R.nx + (numS digits).toNat, n := { R.n with ls := R.n.ls ++ [name], ts := R.n.ts ++ [textL R.l R.nx (numS digits).toNat] } }) := by unfold licP; rw [hc]
  by_cases hk : numS digits < 0
  · have e1 : decide (numS digits ≥ 0) = false := decide_eq_false (by omega)
    have eQ : licP R rest = (4, R) := by rw [eP, if_pos (.inl hk)]
    clear eP hc
    repeat' first
      | (simp only [go_sem, Nat.reduceEqDiff, Int.reduceBEq, Int.reduceLT, Int.reduceLE, Int.reduceGT, Int.reduceGE, ↓reduceIte, Nat.reduceAdd, Nat.zero_add, Nat.reduceBEq, List.getElem?_cons_zero, List.getElem?_cons_succ, List.contains_cons, List.contains_nil, vpart_false, vextract, decide_true, decide_false, bne, Bool.or_false, Bool.or_true, Bool.false_or, Bool.true_or, Bool.or_self, Bool.false_and, Bool.true_and, Bool.and_false, Bool.and_true, Bool.and_self, Bool.not_true, Bool.not_false, Bool.not_not, vfieldAddr, D.notTuple, D.cells, mu91, *])
      | (refine onBH_caseN (fun hc => ?_) (fun hc => ?_))
      | (refine onBH_case (fun hc => ?_) (fun hc => ?_))
      | (refine gifH_caseNT (fun hc => ?_) (fun hc => ?_))
      | (refine gifH_caseNF (fun hc => ?_) (fun hc => ?_))
      | (refine gifH_caseT (fun hc => ?_) (fun hc => ?_))
      | (refine gifH_caseF (fun hc => ?_) (fun hc => ?_))
      | (refine VCall.mono (c_cut hl 32 _) ?_; rintro r h ⟨rfl, rfl⟩)
      | (refine VCall.mono (c_number hd0 _) ?_; rintro r h ⟨rfl, rfl⟩)
  obtain ⟨k, hk2⟩ := Int.eq_ofNat_of_zero_le (show 0 ≤ numS digits by omega)
  have hklt : k < 1000 := by have := (numS_lt digits).2; omega
  have e1 : decide (numS digits ≥ 0) = true := decide_eq_true (by omega)
  have hnum : ∀ h, VCall Tryz.prog 139 [.str digits] h fun r h' => h' = h ∧ r = .tuple [.int .i64 (k : Int), .bool true] := fun h => (c_number hd0 h).mono fun a b e => by
    rw [if_neg hk, e1, hk2] at e; exact e
  clear e1
  cases hn : (name == []) with
  | true =>
    have eQ : licP R rest = (4, R) := by rw [eP, if_pos (.inr (by simpa using hn))]
    clear eP hc
    repeat' first
      | (simp only [go_sem, Nat.reduceEqDiff, Int.reduceBEq, Int.reduceLT, Int.reduceLE, Int.reduceGT, Int.reduceGE, ↓reduceIte, Nat.reduceAdd, Nat.zero_add, Nat.reduceBEq, List.getElem?_cons_zero, List.getElem?_cons_succ, List.contains_cons, List.contains_nil, vpart_false, vextract, decide_true, decide_false, bne, Bool.or_false, Bool.or_true, Bool.false_or, Bool.true_or, Bool.or_self, Bool.false_and, Bool.true_and, Bool.and_false, Bool.and_true, Bool.and_self, Bool.not_true, Bool.not_false, Bool.not_not, vfieldAddr, D.notTuple, D.cells, mu91, *])
      | (refine onBH_caseN (fun hc => ?_) (fun hc => ?_))
      | (refine onBH_case (fun hc => ?_) (fun hc => ?_))
      | (refine gifH_caseNT (fun hc => ?_) (fun hc => ?_))
      | (refine gifH_caseNF (fun hc => ?_) (fun hc => ?_))
      | (refine gifH_caseT (fun hc => ?_) (fun hc => ?_))
      | (refine gifH_caseF (fun hc => ?_) (fun hc => ?_))
      | (refine VCall.mono (c_cut hl 32 _) ?_; rintro r h ⟨rfl, rfl⟩)
      | (refine VCall.mono (hnum _) ?_; rintro r h ⟨rfl, rfl⟩)
  | false =>
  have hn2 : name ≠ [] := by simpa using hn
  rw [if_neg (show ¬ (numS digits < 0 ∨ name = []) from fun e => e.elim hk hn2), hk2] at eP
  simp only [Int.toNat_natCast] at eP
  by_cases hp : 0 < R.pt
  · have eQ : licP R rest = (5, R) := by rw [eP, if_pos hp]
    have hent := c_enter hR 0
    rw [if_pos hp, if_pos hp] at hent
    clear eP hc hp hk hk2
    repeat' first
      | (simp only [go_sem, Nat.reduceEqDiff, Int.reduceBEq, Int.reduceLT, Int.reduceLE, Int.reduceGT, Int.reduceGE, ↓reduceIte, Nat.reduceAdd, Nat.zero_add, Nat.reduceBEq, List.getElem?_cons_zero, List.getElem?_cons_succ, List.contains_cons, List.contains_nil, vpart_false, vextract, decide_true, decide_false, bne, Bool.or_false, Bool.or_true, Bool.false_or, Bool.true_or, Bool.or_self, Bool.false_and, Bool.true_and, Bool.and_false, Bool.and_true, Bool.and_self, Bool.not_true, Bool.not_false, Bool.not_not, vfieldAddr, D.notTuple, D.cells, mu91, *])
      | (refine onBH_caseN (fun hc => ?_) (fun hc => ?_))
      | (refine onBH_case (fun hc => ?_) (fun hc => ?_))
      | (refine gifH_caseNT (fun hc => ?_) (fun hc => ?_))
      | (refine gifH_caseNF (fun hc => ?_) (fun hc => ?_))
      | (refine gifH_caseT (fun hc => ?_) (fun hc => ?_))
      | (refine gifH_caseF (fun hc => ?_) (fun hc => ?_))
      | (refine VCall.mono (c_cut hl 32 _) ?_; rintro r h ⟨rfl, rfl⟩)
      | (refine VCall.mono (hnum _) ?_; rintro r h ⟨rfl, rfl⟩)
      | (refine VCall.mono hent ?_; rintro r h ⟨rfl, hR2⟩)
  rw [if_neg hp] at eP
  have hent := c_enter hR 0
  rw [if_neg hp, if_neg hp] at hent
  clear hp hk hk2
  have e0 : ((0 : Nat) : Int) = 0 := rfl
  rw [e0] at hent
  repeat' first
    | (simp only [go_sem, Nat.reduceEqDiff, Int.reduceBEq, Int.reduceLT, Int.reduceLE, Int.reduceGT, Int.reduceGE, ↓reduceIte, Nat.reduceAdd, Nat.zero_add, Nat.reduceBEq, List.getElem?_cons_zero, List.getElem?_cons_succ, List.contains_cons, List.contains_nil, vpart_false, vextract, decide_true, decide_false, bne, Bool.or_false, Bool.or_true, Bool.false_or, Bool.true_or, Bool.or_self, Bool.false_and, Bool.true_and, Bool.and_false, Bool.and_true, Bool.and_self, Bool.not_true, Bool.not_false, Bool.not_not, vfieldAddr, D.notTuple, D.cells, mu91, *])
    | (refine onBH_caseN (fun hc => ?_) (fun hc => ?_))
    | (refine onBH_case (fun hc => ?_) (fun hc => ?_))
    | (refine gifH_caseNT (fun hc => ?_) (fun hc => ?_))
    | (refine gifH_caseNF (fun hc => ?_) (fun hc => ?_))
    | (refine gifH_caseT (fun hc => ?_) (fun hc => ?_))
    | (refine gifH_caseF (fun hc => ?_) (fun hc => ?_))
    | (refine VCall.mono (c_cut hl 32 _) ?_; rintro r h ⟨rfl, rfl⟩)
    | (refine VCall.mono (hnum _) ?_; rintro r h ⟨rfl, rfl⟩)
  refine hent.mono ?_
  rintro v h ⟨rfl, hE, hq0, hqr, hr, hq, dL, a, b, c, e, hrow, hL, hF⟩
  simp only at hrow hL hF
  have hlen := len_strs hL
  have ws : IntKind.i64.wrap ((R.l.length : Int) - (R.nx : Int)) = (R.l.length : Int) - R.nx := wrap_i64 (by omega) (by omega)
  have wa : IntKind.i64.wrap ((R.nx : Int) + (k : Int)) = ((R.nx + k : Nat) : Int) := by rw [wrap_i64 (by omega) (by omega)]; omega
  by_cases hsh : (k : Int) > (R.l.length : Int) - R.nx
  · have e2 : decide ((k : Int) > (R.l.length : Int) - (R.nx : Int)) = true := decide_eq_true hsh
    have eQ : licP R rest = (13, { R with pt := 0 }) := by rw [eP, if_pos hsh]
    clear eP hc hent
    repeat' first
      | (simp only [go_sem, Nat.reduceEqDiff, Int.reduceBEq, Int.reduceLT, Int.reduceLE, Int.reduceGT, Int.reduceGE, ↓reduceIte, Nat.reduceAdd, Nat.zero_add, Nat.reduceBEq, List.getElem?_cons_zero, List.getElem?_cons_succ, List.contains_cons, List.contains_nil, vpart_false, vextract, decide_true, decide_false, bne, Bool.or_false, Bool.or_true, Bool.false_or, Bool.true_or, Bool.or_self, Bool.false_and, Bool.true_and, Bool.and_false, Bool.and_true, Bool.and_self, Bool.not_true, Bool.not_false, Bool.not_not, vfieldAddr, D.notTuple, D.cells, mu91, *])
      | (refine onBH_caseN (fun hc => ?_) (fun hc => ?_))
      | (refine onBH_case (fun hc => ?_) (fun hc => ?_))
      | (refine gifH_caseNT (fun hc => ?_) (fun hc => ?_))
      | (refine gifH_caseNF (fun hc => ?_) (fun hc => ?_))
      | (refine gifH_caseT (fun hc => ?_) (fun hc => ?_))
      | (refine gifH_caseF (fun hc => ?_) (fun hc => ?_))
    refine vwp_text (by kernel_rfl) ?_
    repeat' first
      | (simp only [go_sem, Nat.reduceEqDiff, Int.reduceBEq, Int.reduceLT, Int.reduceLE, Int.reduceGT, Int.reduceGE, ↓reduceIte, Nat.reduceAdd, Nat.zero_add, Nat.reduceBEq, List.getElem?_cons_zero, List.getElem?_cons_succ, List.contains_cons, List.contains_nil, vpart_false, vextract, decide_true, decide_false, bne, Bool.or_false, Bool.or_true, Bool.false_or, Bool.true_or, Bool.or_self, Bool.false_and, Bool.true_and, Bool.and_false, Bool.and_true, Bool.and_self, Bool.not_true, Bool.not_false, Bool.not_not, vfieldAddr, D.notTuple, D.cells, mu91, vnilCheck, *])
      | (refine onBH_caseN (fun hc => ?_) (fun hc => ?_))
      | (refine onBH_case (fun hc => ?_) (fun hc => ?_))
      | (refine gifH_caseNT (fun hc => ?_) (fun hc => ?_))
      | (refine gifH_caseNF (fun hc => ?_) (fun hc => ?_))
      | (refine gifH_caseT (fun hc => ?_) (fun hc => ?_))
      | (refine gifH_caseF (fun hc => ?_) (fun hc => ?_))
    exact ⟨hE, hq0, hqr, hr, hq, dL, a, b, c, e, hrow, hL, hF⟩
  have e2 : decide ((k : Int) > (R.l.length : Int) - (R.nx : Int)) = false := decide_eq_false hsh
  rw [if_neg hsh] at eP
  obtain ⟨d', hcut, hd'⟩ := cut_strs hL (show R.nx ≤ R.nx + k by omega) (show R.nx + k ≤ R.l.length by omega)
  rw [show R.nx + k - R.nx = k by omega] at hd'
  have hst : vstore Tryz.prog 3 (.ptr r 1) (.int .i64 ((R.nx + k : Nat) : Int)) h = some (h.set r (.row [dL, .int .i64 ((R.nx + k : Nat) : Int), .int .i64 0, a, b, c, e])) := by
    rw [vstore_cell hrow szT_3 (by simp) rfl rfl]; rfl
  have htx := hz.tx R.nx k
  have hjoin := l_join hd' (sep := [10]) (by unfold textL at htx; omega)
  rw [show Lib.join ((R.l.drop R.nx).take k) [10] = textL R.l R.nx k from rfl] at hjoin
  generalize textL R.l R.nx k = tx at *
  clear hent hc
  by_cases hbad : (k : Int) = 1 ∧ tx = []
  · have b1 : ((k : Int) == 1) = true := by rw [hbad.1]; rfl
    have b2 : (tx == []) = true := by rw [hbad.2]; rfl
    have eQ : licP R rest = (4, { R with pt := 0, nx := R.nx + k }) := by rw [eP, if_pos hbad]
    clear eP hbad
    repeat' first
      | (simp only [go_sem, Nat.reduceEqDiff, Int.reduceBEq, Int.reduceLT, Int.reduceLE, Int.reduceGT, Int.reduceGE, ↓reduceIte, Nat.reduceAdd, Nat.zero_add, Nat.reduceBEq, List.getElem?_cons_zero, List.getElem?_cons_succ, List.contains_cons, List.contains_nil, vpart_false, vextract, decide_true, decide_false, bne, Bool.or_false, Bool.or_true, Bool.false_or, Bool.true_or, Bool.or_self, Bool.false_and, Bool.true_and, Bool.and_false, Bool.and_true, Bool.and_self, Bool.not_true, Bool.not_false, Bool.not_not, vfieldAddr, D.notTuple, D.cells, mu91, *])
      | (refine onBH_caseN (fun hc => ?_) (fun hc => ?_))
      | (refine onBH_case (fun hc => ?_) (fun hc => ?_))
      | (refine gifH_caseNT (fun hc => ?_) (fun hc => ?_))
      | (refine gifH_caseNF (fun hc => ?_) (fun hc => ?_))
      | (refine gifH_caseT (fun hc => ?_) (fun hc => ?_))
      | (refine gifH_caseF (fun hc => ?_) (fun hc => ?_))
    refine vwp_text (by kernel_rfl) ?_
    repeat' first
      | (simp only [go_sem, Nat.reduceEqDiff, Int.reduceBEq, Int.reduceLT, Int.reduceLE, Int.reduceGT, Int.reduceGE, ↓reduceIte, Nat.reduceAdd, Nat.zero_add, Nat.reduceBEq, List.getElem?_cons_zero, List.getElem?_cons_succ, List.contains_cons, List.contains_nil, vpart_false, vextract, decide_true, decide_false, bne, Bool.or_false, Bool.or_true, Bool.false_or, Bool.true_or, Bool.or_self, Bool.false_and, Bool.true_and, Bool.and_false, Bool.and_true, Bool.and_self, Bool.not_true, Bool.not_false, Bool.not_not, vfieldAddr, D.notTuple, D.cells, mu91, vnilCheck, *])
      | (refine onBH_caseN (fun hc => ?_) (fun hc => ?_))
      | (refine onBH_case (fun hc => ?_) (fun hc => ?_))
      | (refine gifH_caseNT (fun hc => ?_) (fun hc => ?_))
      | (refine gifH_caseNF (fun hc => ?_) (fun hc => ?_))
      | (refine gifH_caseT (fun hc => ?_) (fun hc => ?_))
      | (refine gifH_caseF (fun hc => ?_) (fun hc => ?_))
    refine vwp_text (by kernel_rfl) ?_
    repeat' first
      | (simp only [go_sem, Nat.reduceEqDiff, Int.reduceBEq, Int.reduceLT, Int.reduceLE, Int.reduceGT, Int.reduceGE, ↓reduceIte, Nat.reduceAdd, Nat.zero_add, Nat.reduceBEq, List.getElem?_cons_zero, List.getElem?_cons_succ, List.contains_cons, List.contains_nil, vpart_false, vextract, decide_true, decide_false, bne, Bool.or_false, Bool.or_true, Bool.false_or, Bool.true_or, Bool.or_self, Bool.false_and, Bool.true_and, Bool.and_false, Bool.and_true, Bool.and_self, Bool.not_true, Bool.not_false, Bool.not_not, vfieldAddr, D.notTuple, D.cells, mu91, vnilCheck, Option.map_some, Option.map_none, *])
      | (refine onBH_caseN (fun hc => ?_) (fun hc => ?_))
      | (refine onBH_case (fun hc => ?_) (fun hc => ?_))
      | (refine gifH_caseNT (fun hc => ?_) (fun hc => ?_))
      | (refine gifH_caseNF (fun hc => ?_) (fun hc => ?_))
      | (refine gifH_caseT (fun hc => ?_) (fun hc => ?_))
      | (refine gifH_caseF (fun hc => ?_) (fun hc => ?_))
      | (refine VCall.mono (hjoin _) ?_; rintro r h ⟨rfl, rfl⟩)
    exact ⟨hE.set (by omega) _, hq0, hqr, hr, by rw [set_keep (by omega)]; exact hq, dL, a, b, c, e, set_at_same _ _ _, hL, hF.set hrow (by simp)⟩
  have eQ : licP R rest = (0, { R with pt := 0, nx := R.nx + k, n := { R.n with ls := R.n.ls ++ [name], ts := R.n.ts ++ [tx] } }) := by rw [eP, if_neg hbad]
  clear eP
  repeat' first
    | (simp only [go_sem, Nat.reduceEqDiff, Int.reduceBEq, Int.reduceLT, Int.reduceLE, Int.reduceGT, Int.reduceGE, ↓reduceIte, Nat.reduceAdd, Nat.zero_add, Nat.reduceBEq, List.getElem?_cons_zero, List.getElem?_cons_succ, List.contains_cons, List.contains_nil, vpart_false, vextract, decide_true, decide_false, bne, Bool.or_false, Bool.or_true, Bool.false_or, Bool.true_or, Bool.or_self, Bool.false_and, Bool.true_and, Bool.and_false, Bool.and_true, Bool.and_self, Bool.not_true, Bool.not_false, Bool.not_not, vfieldAddr, D.notTuple, D.cells, mu91, *])
    | (refine onBH_caseN (fun hc => ?_) (fun hc => ?_))
    | (refine onBH_case (fun hc => ?_) (fun hc => ?_))
    | (refine gifH_caseNT (fun hc => ?_) (fun hc => ?_))
    | (refine gifH_caseNF (fun hc => ?_) (fun hc => ?_))
    | (refine gifH_caseT (fun hc => ?_) (fun hc => ?_))
    | (refine gifH_caseF (fun hc => ?_) (fun hc => ?_))
  refine vwp_text (by kernel_rfl) ?_
  repeat' first
    | (simp only [go_sem, Nat.reduceEqDiff, Int.reduceBEq, Int.reduceLT, Int.reduceLE, Int.reduceGT, Int.reduceGE, ↓reduceIte, Nat.reduceAdd, Nat.zero_add, Nat.reduceBEq, List.getElem?_cons_zero, List.getElem?_cons_succ, List.contains_cons, List.contains_nil, vpart_false, vextract, decide_true, decide_false, bne, Bool.or_false, Bool.or_true, Bool.false_or, Bool.true_or, Bool.or_self, Bool.false_and, Bool.true_and, Bool.and_false, Bool.and_true, Bool.and_self, Bool.not_true, Bool.not_false, Bool.not_not, vfieldAddr, D.notTuple, D.cells, mu91, vnilCheck, *])
    | (refine onBH_caseN (fun hc => ?_) (fun hc => ?_))
    | (refine onBH_case (fun hc => ?_) (fun hc => ?_))
    | (refine gifH_caseNT (fun hc => ?_) (fun hc => ?_))
    | (refine gifH_caseNF (fun hc => ?_) (fun hc => ?_))
    | (refine gifH_caseT (fun hc => ?_) (fun hc => ?_))
    | (refine gifH_caseF (fun hc => ?_) (fun hc => ?_))
  refine vwp_text (by kernel_rfl) ?_
  repeat' first
    | (simp only [go_sem, Nat.reduceEqDiff, Int.reduceBEq, Int.reduceLT, Int.reduceLE, Int.reduceGT, Int.reduceGE, ↓reduceIte, Nat.reduceAdd, Nat.zero_add, Nat.reduceBEq, List.getElem?_cons_zero, List.getElem?_cons_succ, List.contains_cons, List.contains_nil, vpart_false, vextract, decide_true, decide_false, bne, Bool.or_false, Bool.or_true, Bool.false_or, Bool.true_or, Bool.or_self, Bool.false_and, Bool.true_and, Bool.and_false, Bool.and_true, Bool.and_self, Bool.not_true, Bool.not_false, Bool.not_not, vfieldAddr, D.notTuple, D.cells, mu91, vnilCheck, Option.map_some, Option.map_none, *])
    | (refine onBH_caseN (fun hc => ?_) (fun hc => ?_))
    | (refine onBH_case (fun hc => ?_) (fun hc => ?_))
    | (refine gifH_caseNT (fun hc => ?_) (fun hc => ?_))
    | (refine gifH_caseNF (fun hc => ?_) (fun hc => ?_))
    | (refine gifH_caseT (fun hc => ?_) (fun hc => ?_))
    | (refine gifH_caseF (fun hc => ?_) (fun hc => ?_))
    | (refine VCall.mono (hjoin _) ?_; rintro r h ⟨rfl, rfl⟩)
  · exact absurd ⟨by simpa using (by assumption : ((k : Int) == 1) = true), by simpa using (by assumption : (tx == []) = true)⟩ hbad
  all_goals
    obtain ⟨H, hH, n1, r1, q1, e1, F1⟩ : ∃ H, h.set r (.row [dL, .int .i64 ((R.nx + k : Nat) : Int), .int .i64 0, a, b, c, e]) = H ∧ r < H.next ∧ H.at' r = some (.row [dL, .int .i64 ((R.nx + k : Nat) : Int), .int .i64 0, a, b, c, e]) ∧ H.at' q = some (.row nil4) ∧ Ext h0 H ∧ Four h0 H R.n a b c e :=
      ⟨_, rfl, hr, set_at_same _ _ _, by rw [set_keep (by omega)]; exact hq, hE.set (by omega) _, hF.set hrow (by simp)⟩
    rw [hH]
    clear hst hjoin hcut hH hE hr hq hrow hF
    refine vwp_plan (oneH r (.row [dL, .int .i64 ((R.nx + k : Nat) : Int), .int .i64 0, a, b, c, e])) [(0, .no, true), (1, .no, true), (2, .no, true), (3, .no, true), (4, .no, true), (5, .no, true), (6, .no, true), (7, .no, true), (8, .no, true), (10, .no, true), (11, .no, true), (12, .no, true), (13, .no, true), (14, .st, true), (15, .no, true), (16, .no, true), (9, .no, true), (17, .no, true), (18, .no, true), (19, .no, true), (20, .no, true), (21, .no, false), (22, .no, false), (23, .no, false), (24, .no, false), (25, .no, false)] (by kernel_rfl) (by kernel_rfl) (oneH_le r1) ?_
    have l1 := eq_true (oneH_le r1)
    repeat' first
      | (simp only [go_sem, Nat.reduceEqDiff, Int.reduceBEq, Int.reduceLT, Int.reduceLE, Int.reduceGT, Int.reduceGE, ↓reduceIte, Nat.reduceAdd, Nat.zero_add, Nat.reduceBEq, List.getElem?_cons_zero, List.getElem?_cons_succ, List.contains_cons, List.contains_nil, vpart_false, vextract, decide_true, decide_false, bne, Bool.or_false, Bool.or_true, Bool.false_or, Bool.true_or, Bool.or_self, Bool.false_and, Bool.true_and, Bool.and_false, Bool.and_true, Bool.and_self, Bool.not_true, Bool.not_false, Bool.not_not, vfieldAddr, D.notTuple, D.cells, mu91, vnilCheck, oneH_at, one_str, *])
      | (refine onBH_caseN (fun hc => ?_) (fun hc => ?_))
      | (refine onBH_case (fun hc => ?_) (fun hc => ?_))
      | (refine gifH_caseNT (fun hc => ?_) (fun hc => ?_))
      | (refine gifH_caseNF (fun hc => ?_) (fun hc => ?_))
      | (refine gifH_caseT (fun hc => ?_) (fun hc => ?_))
      | (refine gifH_caseF (fun hc => ?_) (fun hc => ?_))
    refine F1.str (pre := []) e1.1 (by have := hz.ls; omega) fun d1 H2 F2 n2 k2 c2 f2 => ?_
    have r2 : H2.at' r = some (.row [dL, .int .i64 ((R.nx + k : Nat) : Int), .int .i64 0, a, b, c, e]) := by rw [k2 r n1 (.inr (by rw [r1]; simp))]; exact r1
    have q2 : H2.at' q = some (.row nil4) := by rw [k2 q (by omega) (.inr (by rw [q1]; simp))]; exact q1
    have e2 : Ext h0 H2 := ⟨Nat.le_trans e1.1 n2, fun i hi => by rw [k2 i (by have := e1.1; omega) (.inl hi)]; exact e1.2 i hi⟩
    have l2 := eq_true (oneH_le r2)
    clear k2 r1 l1 F1 q1
    repeat' first
      | (simp only [go_sem, Nat.reduceEqDiff, Int.reduceBEq, Int.reduceLT, Int.reduceLE, Int.reduceGT, Int.reduceGE, ↓reduceIte, Nat.reduceAdd, Nat.zero_add, Nat.reduceBEq, List.getElem?_cons_zero, List.getElem?_cons_succ, List.contains_cons, List.contains_nil, vpart_false, vextract, decide_true, decide_false, bne, Bool.or_false, Bool.or_true, Bool.false_or, Bool.true_or, Bool.or_self, Bool.false_and, Bool.true_and, Bool.and_false, Bool.and_true, Bool.and_self, Bool.not_true, Bool.not_false, Bool.not_not, vfieldAddr, D.notTuple, D.cells, mu91, vnilCheck, oneH_at, one_str, *])
      | (refine onBH_caseN (fun hc => ?_) (fun hc => ?_))
      | (refine onBH_case (fun hc => ?_) (fun hc => ?_))
      | (refine gifH_caseNT (fun hc => ?_) (fun hc => ?_))
      | (refine gifH_caseNF (fun hc => ?_) (fun hc => ?_))
      | (refine gifH_caseT (fun hc => ?_) (fun hc => ?_))
      | (refine gifH_caseF (fun hc => ?_) (fun hc => ?_))
    refine F2.str (pre := [(_, d1)]) e2.1 (by have := hz.ts; omega) fun d2 H3 F3 n3 k3 c3 f3 => ?_
    have r3 : H3.at' r = some (.row [dL, .int .i64 ((R.nx + k : Nat) : Int), .int .i64 0, a, b, c, e]) := by rw [k3 r (by omega) (.inr (by rw [r2]; simp))]; exact r2
    have q3 : H3.at' q = some (.row nil4) := by rw [k3 q (by omega) (.inr (by rw [q2]; simp))]; exact q2
    have e3 : Ext h0 H3 := ⟨Nat.le_trans e2.1 n3, fun i hi => by rw [k3 i (by have := e2.1; omega) (.inl hi)]; exact e2.2 i hi⟩
    have l3 := eq_true (oneH_le r3)
    have s1 : vstore Tryz.prog 22 (.ptr r 3) d1 H3 = some (H3.set r (.row [dL, .int .i64 ((R.nx + k : Nat) : Int), .int .i64 0, d1, b, c, e])) := by
      rw [vstore_cell r3 szT_22 (by simp) c2 f2]; rfl
    have s2 : vstore Tryz.prog 22 (.ptr r 4) d2 (H3.set r (.row [dL, .int .i64 ((R.nx + k : Nat) : Int), .int .i64 0, d1, b, c, e])) = some ((H3.set r (.row [dL, .int .i64 ((R.nx + k : Nat) : Int), .int .i64 0, d1, b, c, e])).set r (.row [dL, .int .i64 ((R.nx + k : Nat) : Int), .int .i64 0, d1, d2, c, e])) := by
      rw [vstore_cell (set_at_same _ _ _) szT_22 (by simp) c3 f3]; rfl
    clear k3 r2 l2 F2 q2 e2
    repeat' first
      | (simp only [go_sem, Nat.reduceEqDiff, Int.reduceBEq, Int.reduceLT, Int.reduceLE, Int.reduceGT, Int.reduceGE, ↓reduceIte, Nat.reduceAdd, Nat.zero_add, Nat.reduceBEq, List.getElem?_cons_zero, List.getElem?_cons_succ, List.contains_cons, List.contains_nil, vpart_false, vextract, decide_true, decide_false, bne, Bool.or_false, Bool.or_true, Bool.false_or, Bool.true_or, Bool.or_self, Bool.false_and, Bool.true_and, Bool.and_false, Bool.and_true, Bool.and_self, Bool.not_true, Bool.not_false, Bool.not_not, vfieldAddr, D.notTuple, D.cells, mu91, vnilCheck, oneH_at, one_str, *])
      | (refine onBH_caseN (fun hc => ?_) (fun hc => ?_))
      | (refine onBH_case (fun hc => ?_) (fun hc => ?_))
      | (refine gifH_caseNT (fun hc => ?_) (fun hc => ?_))
      | (refine gifH_caseNF (fun hc => ?_) (fun hc => ?_))
      | (refine gifH_caseT (fun hc => ?_) (fun hc => ?_))
      | (refine gifH_caseF (fun hc => ?_) (fun hc => ?_))
    exact ⟨(e3.set (by omega) _).set (by omega) _, hq0, hqr, by show r < H3.next; omega, by rw [set_keep (by omega), set_keep (by omega)]; exact q3, dL, d1, d2, c, e, set_at_same _ _ _, hL, (F3.set r3 (by simp)).set (set_at_same _ _ _) (by simp)⟩
end Go.V
namespace Go.V
open Go.Proofs
set_option maxRecDepth 100000
set_option linter.unusedSimpArgs false
set_option linter.unusedVariables false

set_option maxHeartbeats 1000000 in
/-- A line is read. -/
theorem c_readLine {h0 h : Heap} {r q : Nat} {R : RSt} (hR : RH h0 r q R h) (hz : RSz R) {s : List UInt8} (hl : s.length ≤ 1048576) :
    VCall Tryz.prog 51 [.ptr r 0, .str s] h fun v h' => v = .int .i64 (lineP R s).1 ∧ RH h0 r q (lineP R s).2 h' := by
  refine VCall.of_fn (g := cfg51) mix Tryz.func51 ok51 rfl rfl ?_
  simp only [Tryz.f51, Option.getD_some]
  cases hc : cutB 32 s with
  | none =>
    have eD : cutD 32 s = .tuple [.str s, .str [], .bool false] := by simp only [cutD, hc]
    have eP : lineP R s = (4, R) := by unfold lineP; rw [hc]
    repeat' first
      | (simp only [go_sem, Nat.reduceEqDiff, Int.reduceBEq, Int.reduceLT, Int.reduceLE, Int.reduceGT, Int.reduceGE, ↓reduceIte, Nat.reduceAdd, Nat.zero_add, Nat.reduceBEq, List.getElem?_cons_zero, List.getElem?_cons_succ, List.contains_cons, List.contains_nil, vpart_false, vextract, decide_true, decide_false, bne, Bool.or_false, Bool.or_true, Bool.false_or, Bool.true_or, Bool.or_self, Bool.false_and, Bool.true_and, Bool.and_false, Bool.and_true, Bool.and_self, Bool.not_true, Bool.not_false, Bool.not_not, vfieldAddr, D.notTuple, D.cells, mu51, *])
      | (refine onBH_caseN (fun hc => ?_) (fun hc => ?_))
      | (refine onBH_case (fun hc => ?_) (fun hc => ?_))
      | (refine gifH_caseNT (fun hc => ?_) (fun hc => ?_))
      | (refine gifH_caseNF (fun hc => ?_) (fun hc => ?_))
      | (refine gifH_caseT (fun hc => ?_) (fun hc => ?_))
      | (refine gifH_caseF (fun hc => ?_) (fun hc => ?_))
      | (refine VCall.mono (c_cut hl 32 _) ?_; rintro r h ⟨rfl, rfl⟩)
  | some p =>
  obtain ⟨w, rest⟩ := p
  have eD : cutD 32 s = .tuple [.str w, .str rest, .bool true] := by simp only [cutD, hc]
  have hdl := cutB_len hc
  have eP : lineP R s = if w = licW0 then licP R rest
    else if w = holdW then (if 1 < R.pt then (5, { R with n := { R.n with hs := R.n.hs ++ [rest] } }) else (0, { R with pt := 1, n := { R.n with hs := R.n.hs ++ [rest] } }))
    else if w = chgW then (if 2 < R.pt then (5, { R with n := { R.n with cs := R.n.cs ++ [rest] } }) else (0, { R with pt := 2, n := { R.n with cs := R.n.cs ++ [rest] } }))
    else (4, R) := by unfold lineP; rw [hc]
  clear hc
  by_cases w1 : w = licW0
  · rw [if_pos w1] at eP
    rw [eP]
    have hlic := c_readLicense hR hz (rest := rest) (by omega)
    have b1 : (w == [108, 105, 99, 101, 110, 115, 101]) = true := by rw [w1]; rfl
    clear eP w1 hR
    repeat' first
      | (simp only [go_sem, Nat.reduceEqDiff, Int.reduceBEq, Int.reduceLT, Int.reduceLE, Int.reduceGT, Int.reduceGE, ↓reduceIte, Nat.reduceAdd, Nat.zero_add, Nat.reduceBEq, List.getElem?_cons_zero, List.getElem?_cons_succ, List.contains_cons, List.contains_nil, vpart_false, vextract, decide_true, decide_false, bne, Bool.or_false, Bool.or_true, Bool.false_or, Bool.true_or, Bool.or_self, Bool.false_and, Bool.true_and, Bool.and_false, Bool.and_true, Bool.and_self, Bool.not_true, Bool.not_false, Bool.not_not, vfieldAddr, D.notTuple, D.cells, mu51, *])
      | (refine onBH_caseN (fun hc => ?_) (fun hc => ?_))
      | (refine onBH_case (fun hc => ?_) (fun hc => ?_))
      | (refine gifH_caseNT (fun hc => ?_) (fun hc => ?_))
      | (refine gifH_caseNF (fun hc => ?_) (fun hc => ?_))
      | (refine gifH_caseT (fun hc => ?_) (fun hc => ?_))
      | (refine gifH_caseF (fun hc => ?_) (fun hc => ?_))
      | (refine VCall.mono (c_cut hl 32 _) ?_; rintro r h ⟨rfl, rfl⟩)
  have b1 : (w == [108, 105, 99, 101, 110, 115, 101]) = false := beq_eq_false_iff_ne.2 w1
  rw [if_neg w1] at eP
  clear w1
  have hR0 := hR
  obtain ⟨hE, hq0, hqr, hr, hq, dL, a, b, c, e, hrow, hL, hF⟩ := hR
  by_cases w2 : w = holdW
  · rw [if_pos w2] at eP
    have b2 : (w == [104, 111, 108, 100, 101, 114]) = true := by rw [w2]; rfl
    clear w2
    repeat' first
      | (simp only [go_sem, Nat.reduceEqDiff, Int.reduceBEq, Int.reduceLT, Int.reduceLE, Int.reduceGT, Int.reduceGE, ↓reduceIte, Nat.reduceAdd, Nat.zero_add, Nat.reduceBEq, List.getElem?_cons_zero, List.getElem?_cons_succ, List.contains_cons, List.contains_nil, vpart_false, vextract, decide_true, decide_false, bne, Bool.or_false, Bool.or_true, Bool.false_or, Bool.true_or, Bool.or_self, Bool.false_and, Bool.true_and, Bool.and_false, Bool.and_true, Bool.and_self, Bool.not_true, Bool.not_false, Bool.not_not, vfieldAddr, D.notTuple, D.cells, mu51, one_str, vnilCheck, *])
      | (refine onBH_caseN (fun hc => ?_) (fun hc => ?_))
      | (refine onBH_case (fun hc => ?_) (fun hc => ?_))
      | (refine gifH_caseNT (fun hc => ?_) (fun hc => ?_))
      | (refine gifH_caseNF (fun hc => ?_) (fun hc => ?_))
      | (refine gifH_caseT (fun hc => ?_) (fun hc => ?_))
      | (refine gifH_caseF (fun hc => ?_) (fun hc => ?_))
      | (refine VCall.mono (c_cut hl 32 _) ?_; rintro r h ⟨rfl, rfl⟩)
    refine hF.str (pre := [(_, a), (_, b)]) hE.1 (by have := hz.hs; omega) fun d1 H2 F2 n2 k2 c2 f2 => ?_
    have r2 : H2.at' r = some (.row [dL, .int .i64 R.nx, .int .i64 R.pt, a, b, c, e]) := by rw [k2 r hr (.inr (by rw [hrow]; simp))]; exact hrow
    have q2 : H2.at' q = some (.row nil4) := by rw [k2 q (by omega) (.inr (by rw [hq]; simp))]; exact hq
    have e2 : Ext h0 H2 := ⟨Nat.le_trans hE.1 n2, fun i hi => by rw [k2 i (by have := hE.1; omega) (.inl hi)]; exact hE.2 i hi⟩
    have s1 : vstore Tryz.prog 22 (.ptr r 5) d1 H2 = some (H2.set r (.row [dL, .int .i64 R.nx, .int .i64 R.pt, a, b, d1, e])) := by
      rw [vstore_cell r2 szT_22 (by simp) c2 f2]; rfl
    have hR1 : RH h0 r q { R with n := { R.n with hs := R.n.hs ++ [rest] } } (H2.set r (.row [dL, .int .i64 R.nx, .int .i64 R.pt, a, b, d1, e])) :=
      ⟨e2.set (by omega) _, hq0, hqr, by show r < H2.next; omega, by rw [set_keep (by omega)]; exact q2, dL, a, b, d1, e, set_at_same _ _ _, hL, F2.set r2 (by simp)⟩
    have hent := c_enter hR1 1
    generalize H2.set r (.row [dL, .int .i64 R.nx, .int .i64 R.pt, a, b, d1, e]) = H3 at *
    have hfin : (if 1 < R.pt then (5, { R with n := { R.n with hs := R.n.hs ++ [rest] } }) else (0, { R with pt := 1, n := { R.n with hs := R.n.hs ++ [rest] } })) = ((if 1 < R.pt then 5 else 0 : Int), (if 1 < R.pt then { R with n := { R.n with hs := R.n.hs ++ [rest] } } else { R with pt := 1, n := { R.n with hs := R.n.hs ++ [rest] } })) := by split <;> rfl
    rw [hfin] at eP
    rw [eP]
    clear k2 r2 F2 q2 e2 hF hrow hq hE eP hR1 hR0 hfin
    repeat' first
      | (simp only [go_sem, Nat.reduceEqDiff, Int.reduceBEq, Int.reduceLT, Int.reduceLE, Int.reduceGT, Int.reduceGE, ↓reduceIte, Nat.reduceAdd, Nat.zero_add, Nat.reduceBEq, List.getElem?_cons_zero, List.getElem?_cons_succ, List.contains_cons, List.contains_nil, vpart_false, vextract, decide_true, decide_false, bne, Bool.or_false, Bool.or_true, Bool.false_or, Bool.true_or, Bool.or_self, Bool.false_and, Bool.true_and, Bool.and_false, Bool.and_true, Bool.and_self, Bool.not_true, Bool.not_false, Bool.not_not, vfieldAddr, D.notTuple, D.cells, mu51, vnilCheck, *])
      | (refine onBH_caseN (fun hc => ?_) (fun hc => ?_))
      | (refine onBH_case (fun hc => ?_) (fun hc => ?_))
      | (refine gifH_caseNT (fun hc => ?_) (fun hc => ?_))
      | (refine gifH_caseNF (fun hc => ?_) (fun hc => ?_))
      | (refine gifH_caseT (fun hc => ?_) (fun hc => ?_))
      | (refine gifH_caseF (fun hc => ?_) (fun hc => ?_))
    refine hent.mono ?_
    rintro v h ⟨rfl, hR⟩
    simp only [go_sem, Nat.reduceEqDiff, Int.reduceBEq, Int.reduceLT, Int.reduceLE, Int.reduceGT, Int.reduceGE, ↓reduceIte, Nat.reduceAdd, Nat.zero_add, Nat.reduceBEq, List.getElem?_cons_zero, List.getElem?_cons_succ, List.contains_cons, List.contains_nil, vpart_false, vextract, decide_true, decide_false, bne, Bool.or_false, Bool.or_true, Bool.false_or, Bool.true_or, Bool.or_self, Bool.false_and, Bool.true_and, Bool.and_false, Bool.and_true, Bool.and_self, Bool.not_true, Bool.not_false, Bool.not_not, vfieldAddr, D.notTuple, D.cells, mu51, true_and]
    exact hR
  have b2 : (w == [104, 111, 108, 100, 101, 114]) = false := beq_eq_false_iff_ne.2 w2
  rw [if_neg w2] at eP
  clear w2
  by_cases w3 : w = chgW
  · rw [if_pos w3] at eP
    have b3 : (w == [99, 104, 97, 110, 103, 101]) = true := by rw [w3]; rfl
    clear w3
    repeat' first
      | (simp only [go_sem, Nat.reduceEqDiff, Int.reduceBEq, Int.reduceLT, Int.reduceLE, Int.reduceGT, Int.reduceGE, ↓reduceIte, Nat.reduceAdd, Nat.zero_add, Nat.reduceBEq, List.getElem?_cons_zero, List.getElem?_cons_succ, List.contains_cons, List.contains_nil, vpart_false, vextract, decide_true, decide_false, bne, Bool.or_false, Bool.or_true, Bool.false_or, Bool.true_or, Bool.or_self, Bool.false_and, Bool.true_and, Bool.and_false, Bool.and_true, Bool.and_self, Bool.not_true, Bool.not_false, Bool.not_not, vfieldAddr, D.notTuple, D.cells, mu51, one_str, vnilCheck, *])
      | (refine onBH_caseN (fun hc => ?_) (fun hc => ?_))
      | (refine onBH_case (fun hc => ?_) (fun hc => ?_))
      | (refine gifH_caseNT (fun hc => ?_) (fun hc => ?_))
      | (refine gifH_caseNF (fun hc => ?_) (fun hc => ?_))
      | (refine gifH_caseT (fun hc => ?_) (fun hc => ?_))
      | (refine gifH_caseF (fun hc => ?_) (fun hc => ?_))
      | (refine VCall.mono (c_cut hl 32 _) ?_; rintro r h ⟨rfl, rfl⟩)
    refine hF.str (pre := [(_, a), (_, b), (_, c)]) hE.1 (by have := hz.cs; omega) fun d1 H2 F2 n2 k2 c2 f2 => ?_
    have r2 : H2.at' r = some (.row [dL, .int .i64 R.nx, .int .i64 R.pt, a, b, c, e]) := by rw [k2 r hr (.inr (by rw [hrow]; simp))]; exact hrow
    have q2 : H2.at' q = some (.row nil4) := by rw [k2 q (by omega) (.inr (by rw [hq]; simp))]; exact hq
    have e2 : Ext h0 H2 := ⟨Nat.le_trans hE.1 n2, fun i hi => by rw [k2 i (by have := hE.1; omega) (.inl hi)]; exact hE.2 i hi⟩
    have s1 : vstore Tryz.prog 22 (.ptr r 6) d1 H2 = some (H2.set r (.row [dL, .int .i64 R.nx, .int .i64 R.pt, a, b, c, d1])) := by
      rw [vstore_cell r2 szT_22 (by simp) c2 f2]; rfl
    have hR1 : RH h0 r q { R with n := { R.n with cs := R.n.cs ++ [rest] } } (H2.set r (.row [dL, .int .i64 R.nx, .int .i64 R.pt, a, b, c, d1])) :=
      ⟨e2.set (by omega) _, hq0, hqr, by show r < H2.next; omega, by rw [set_keep (by omega)]; exact q2, dL, a, b, c, d1, set_at_same _ _ _, hL, F2.set r2 (by simp)⟩
    have hent := c_enter hR1 2
    generalize H2.set r (.row [dL, .int .i64 R.nx, .int .i64 R.pt, a, b, c, d1]) = H3 at *
    have hfin : (if 2 < R.pt then (5, { R with n := { R.n with cs := R.n.cs ++ [rest] } }) else (0, { R with pt := 2, n := { R.n with cs := R.n.cs ++ [rest] } })) = ((if 2 < R.pt then 5 else 0 : Int), (if 2 < R.pt then { R with n := { R.n with cs := R.n.cs ++ [rest] } } else { R with pt := 2, n := { R.n with cs := R.n.cs ++ [rest] } })) := by split <;> rfl
    rw [hfin] at eP
    rw [eP]
    clear k2 r2 F2 q2 e2 hF hrow hq hE eP hR1 hR0 hfin
    repeat' first
      | (simp only [go_sem, Nat.reduceEqDiff, Int.reduceBEq, Int.reduceLT, Int.reduceLE, Int.reduceGT, Int.reduceGE, ↓reduceIte, Nat.reduceAdd, Nat.zero_add, Nat.reduceBEq, List.getElem?_cons_zero, List.getElem?_cons_succ, List.contains_cons, List.contains_nil, vpart_false, vextract, decide_true, decide_false, bne, Bool.or_false, Bool.or_true, Bool.false_or, Bool.true_or, Bool.or_self, Bool.false_and, Bool.true_and, Bool.and_false, Bool.and_true, Bool.and_self, Bool.not_true, Bool.not_false, Bool.not_not, vfieldAddr, D.notTuple, D.cells, mu51, vnilCheck, *])
      | (refine onBH_caseN (fun hc => ?_) (fun hc => ?_))
      | (refine onBH_case (fun hc => ?_) (fun hc => ?_))
      | (refine gifH_caseNT (fun hc => ?_) (fun hc => ?_))
      | (refine gifH_caseNF (fun hc => ?_) (fun hc => ?_))
      | (refine gifH_caseT (fun hc => ?_) (fun hc => ?_))
      | (refine gifH_caseF (fun hc => ?_) (fun hc => ?_))
    refine hent.mono ?_
    rintro v h ⟨rfl, hR⟩
    simp only [go_sem, Nat.reduceEqDiff, Int.reduceBEq, Int.reduceLT, Int.reduceLE, Int.reduceGT, Int.reduceGE, ↓reduceIte, Nat.reduceAdd, Nat.zero_add, Nat.reduceBEq, List.getElem?_cons_zero, List.getElem?_cons_succ, List.contains_cons, List.contains_nil, vpart_false, vextract, decide_true, decide_false, bne, Bool.or_false, Bool.or_true, Bool.false_or, Bool.true_or, Bool.or_self, Bool.false_and, Bool.true_and, Bool.and_false, Bool.and_true, Bool.and_self, Bool.not_true, Bool.not_false, Bool.not_not, vfieldAddr, D.notTuple, D.cells, mu51, true_and]
    exact hR
  have b3 : (w == [99, 104, 97, 110, 103, 101]) = false := beq_eq_false_iff_ne.2 w3
  rw [if_neg w3] at eP
  rw [eP]
  clear w3 eP hE hrow hq hF
  repeat' first
    | (simp only [go_sem, Nat.reduceEqDiff, Int.reduceBEq, Int.reduceLT, Int.reduceLE, Int.reduceGT, Int.reduceGE, ↓reduceIte, Nat.reduceAdd, Nat.zero_add, Nat.reduceBEq, List.getElem?_cons_zero, List.getElem?_cons_succ, List.contains_cons, List.contains_nil, vpart_false, vextract, decide_true, decide_false, bne, Bool.or_false, Bool.or_true, Bool.false_or, Bool.true_or, Bool.or_self, Bool.false_and, Bool.true_and, Bool.and_false, Bool.and_true, Bool.and_self, Bool.not_true, Bool.not_false, Bool.not_not, vfieldAddr, D.notTuple, D.cells, mu51, *])
    | (refine onBH_caseN (fun hc => ?_) (fun hc => ?_))
    | (refine onBH_case (fun hc => ?_) (fun hc => ?_))
    | (refine gifH_caseNT (fun hc => ?_) (fun hc => ?_))
    | (refine gifH_caseNF (fun hc => ?_) (fun hc => ?_))
    | (refine gifH_caseT (fun hc => ?_) (fun hc => ?_))
    | (refine gifH_caseF (fun hc => ?_) (fun hc => ?_))
    | (refine VCall.mono (c_cut hl 32 _) ?_; rintro r h ⟨rfl, rfl⟩)

/-! Plain laws: lines that are joined, and the sizes of what is read. -/
theorem join_cons2 (x y : List UInt8) (r : List (List UInt8)) (sep : List UInt8) : Lib.join (x :: y :: r) sep = x ++ sep ++ Lib.join (y :: r) sep := by
  simp [Lib.join, List.intercalate, List.intersperse]
theorem join_split (c : UInt8) : ∀ s : List UInt8, Lib.join (splitB c s) [c] = s
  | [] => rfl
  | b :: s => by
    have ih := join_split c s
    have hne := splitB_ne c s
    simp only [splitB]
    cases hp : splitB c s with
    | nil => exact absurd hp hne
    | cons p ps =>
      rw [hp] at ih
      by_cases hb : b = c
      · rw [if_pos hb, join_cons2, ih, hb]; rfl
      · rw [if_neg hb]
        simp only []
        cases ps with
        | nil =>
          rw [Lib.join_one] at ih ⊢
          rw [ih]
        | cons q qs =>
          rw [join_cons2] at ih ⊢
          rw [← ih]; simp
theorem join_len_drop (sep : List UInt8) : ∀ (xs : List (List UInt8)) (k : Nat), (Lib.join (xs.drop k) sep).length ≤ (Lib.join xs sep).length
  | xs, 0 => by simp
  | [], k + 1 => by simp
  | [x], k + 1 => by simp [Lib.join_nil]
  | x :: y :: r, k + 1 => by
    have := join_len_drop sep (y :: r) k
    rw [join_cons2]
    simp only [List.drop_succ_cons, List.length_append]
    omega
theorem join_len_take (sep : List UInt8) : ∀ (xs : List (List UInt8)) (k : Nat), (Lib.join (xs.take k) sep).length ≤ (Lib.join xs sep).length
  | xs, 0 => by simp [Lib.join_nil]
  | [], k + 1 => by simp
  | [x], k + 1 => by simp
  | x :: y :: r, 1 => by
    rw [join_cons2]
    simp only [List.take_succ_cons, List.take_zero, Lib.join_one, List.length_append]
    omega
  | x :: y :: r, k + 2 => by
    have := join_len_take sep (y :: r) (k + 1)
    rw [join_cons2]
    simp only [List.take_succ_cons] at this ⊢
    rw [join_cons2]
    simp only [List.length_append]
    omega
theorem textL_len (s : List UInt8) (i k : Nat) : (textL (splitB 10 s) i k).length ≤ s.length := by
  unfold textL
  have h1 := join_len_take [10] ((splitB 10 s).drop i) k
  have h2 := join_len_drop [10] (splitB 10 s) i
  rw [join_split] at h2
  omega
theorem textL_len2 (s : List UInt8) (i k : Nat) : (textL (splitB 10 s).dropLast i k).length ≤ s.length := by
  unfold textL
  have h1 := join_len_take [10] ((splitB 10 s).dropLast.drop i) k
  have h2 := join_len_drop [10] (splitB 10 s).dropLast i
  have h3 := join_len_take [10] (splitB 10 s) ((splitB 10 s).length - 1)
  rw [join_split, ← List.dropLast_eq_take] at h3
  omega

/-- The sizes of a notice that has been read up to line i. -/
structure NB (B i : Nat) (n : Note) : Prop where
  ls : n.ls.length ≤ i ∧ ∀ x ∈ n.ls, x.length ≤ B
  ts : n.ts.length ≤ i ∧ ∀ x ∈ n.ts, x.length ≤ B
  hs : n.hs.length ≤ i ∧ ∀ x ∈ n.hs, x.length ≤ B
  cs : n.cs.length ≤ i ∧ ∀ x ∈ n.cs, x.length ≤ B
theorem nb_app {B i i' : Nat} {l : List (List UInt8)} (h : l.length ≤ i ∧ ∀ x ∈ l, x.length ≤ B) (hi : i < i') {y : List UInt8} (hy : y.length ≤ B) : (l ++ [y]).length ≤ i' ∧ ∀ x ∈ l ++ [y], x.length ≤ B :=
  ⟨by simp; omega, fun x hx => by
    rcases List.mem_append.1 hx with hx | hx
    · exact h.2 x hx
    · simp at hx; rw [hx]; exact hy⟩
theorem nb_le {B i i' : Nat} {l : List (List UInt8)} (h : l.length ≤ i ∧ ∀ x ∈ l, x.length ≤ B) (hi : i < i') : l.length ≤ i' ∧ ∀ x ∈ l, x.length ≤ B := ⟨by omega, h.2⟩
theorem licS_len (s : List UInt8) : (licS s).1.length ≤ s.length := by
  unfold licS licT
  split
  · rcases cutB_cases 32 (s.drop 8) with ⟨_, h2⟩ | ⟨m, _, _, h2⟩
    · rw [h2]; simp
    · rw [h2]
      simp only []
      split
      · simp
      · simp only [List.length_take, List.length_drop]; omega
  · simp
theorem step_nb {s : List UInt8} {i i' : Nat} {n n' : Note} (hn : NB s.length i n) (h : stepS (splitB 10 s) i n = .inr (n', i')) : i < i' ∧ NB s.length i' n' := by
  have hx : ((splitB 10 s).getD i []).length ≤ s.length := by
    rw [List.getD_eq_getElem?_getD]
    cases hg : (splitB 10 s)[i]? with
    | none => simp
    | some p => exact splitB_part_le 10 s p (List.mem_of_getElem? hg)
  unfold stepS at h
  simp only at h
  split at h
  · cases h
  split at h
  · split at h
    · cases h
    · cases h
      exact ⟨by omega, nb_le hn.ls (by omega), nb_le hn.ts (by omega), nb_app hn.hs (by omega) (by rw [List.length_drop]; omega), nb_le hn.cs (by omega)⟩
  split at h
  · cases h
    exact ⟨by omega, nb_le hn.ls (by omega), nb_le hn.ts (by omega), nb_le hn.hs (by omega), nb_app hn.cs (by omega) (by rw [List.length_drop]; omega)⟩
  split at h
  · cases h
  split at h
  · cases h
  split at h
  · cases h
  cases h
  have := licS_len ((splitB 10 s).getD i [])
  exact ⟨by omega, nb_app hn.ls (by omega) (by omega), nb_app hn.ts (by omega) (textL_len s _ _), nb_le hn.hs (by omega), nb_le hn.cs (by omega)⟩
theorem nb_sm {B i : Nat} {n : Note} (h : NB B i n) (hB : B ≤ 65536) (hi : i ≤ 1048576) : n.Sm :=
  ⟨⟨by have := h.ls.1; omega, fun x hx => by have := h.ls.2 x hx; omega⟩, ⟨by have := h.ts.1; omega, fun x hx => by have := h.ts.2 x hx; omega⟩,
   ⟨by have := h.hs.1; omega, fun x hx => by have := h.hs.2 x hx; omega⟩, ⟨by have := h.cs.1; omega, fun x hx => by have := h.cs.2 x hx; omega⟩⟩
theorem nb_zero (B : Nat) : NB B 0 .zero := ⟨⟨by simp [Note.zero], by simp [Note.zero]⟩, ⟨by simp [Note.zero], by simp [Note.zero]⟩, ⟨by simp [Note.zero], by simp [Note.zero]⟩, ⟨by simp [Note.zero], by simp [Note.zero]⟩⟩

theorem parseL_fuel {l : List (List UInt8)} : ∀ {f f' i : Nat} {n : Note}, i < l.length → l.length - i ≤ f → l.length - i ≤ f' → parseL l f i n = parseL l f' i n
  | 0, _, i, n, hi, h1, _ => by omega
  | f + 1, 0, i, n, hi, _, h2 => by omega
  | f + 1, f' + 1, i, n, hi, h1, h2 => by
    simp only [parseL]
    by_cases hlt : i + 1 < l.length
    · rw [if_pos hlt, if_pos hlt]
      have hs := line_step (n := n) hlt
      cases hst : stepS l i n with
      | inl e => rfl
      | inr p =>
        obtain ⟨n', i'⟩ := p
        rw [hst] at hs
        simp only at hs
        exact parseL_fuel hs.2.2 (by omega) (by omega)
    · rw [if_neg hlt, if_neg hlt]
end Go.V
