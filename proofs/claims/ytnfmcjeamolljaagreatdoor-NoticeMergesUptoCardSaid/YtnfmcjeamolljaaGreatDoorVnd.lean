/- Contracts of the functions of the law NoticeMerges. No condition. -/
import Derived.Test.YtnfmcjeamolljaaGreatDoorVhE
import Derived.Test.YtnfmcjeamolljaaGreatDoorVnc
import Derived.Test.YtnfmcjeamolljaaGreatDoorVxA
import Derived.Test.YtnfmcjeamolljaaGreatDoorVhD
import Derived.Test.YtnfmcjeamolljaaGreatDoorVna
set_option linter.unusedSimpArgs false
set_option linter.unusedVariables false
set_option linter.constructorNameAsVariable false
set_option linter.deprecated false
namespace Go.V

/-! What comes behind a call is not looked at before the call's result is known. -/
structure Hid (K : D → Heap → Prop) where
def hide (K : D → Heap → Prop) (_ : Hid K) : D → Heap → Prop := K
@[go_sem ↓] theorem hide_eq (K : D → Heap → Prop) (w : Hid K) (d : D) (h : Heap) : hide K w d h = K d h := (rfl)
@[go_sem ↓] theorem VInv_hide {P : Program} {h : Heap} {k : D → Heap → Prop} (f : FuncId) (a c args : List D) : VInv P (.fn (.func f) a c) args h k = VCall P f (a ++ args ++ c) h (hide k ⟨⟩) := (rfl)

structure HidS (k : D → Prop) where
def onSH (o : Option D) (k : D → Prop) (_ : HidS k) : Prop := onS o k
@[go_sem ↓] theorem onS_hide (o : Option D) (k : D → Prop) : onS o k = onSH o k ⟨⟩ := (rfl)
@[go_sem ↓] theorem onSH_some (d : D) (k : D → Prop) (w : HidS k) : onSH (some d) k w = k d := (rfl)
structure HidR (k : D → Heap → Prop) where
def onRH (o : VR) (k : D → Heap → Prop) (_ : HidR k) : Prop := onR o k
@[go_sem ↓] theorem onR_hide (o : VR) (k : D → Heap → Prop) : onR o k = onRH o k ⟨⟩ := (rfl)
@[go_sem ↓] theorem onRH_some (d : D) (h : Heap) (k : D → Heap → Prop) (w : HidR k) : onRH (some (d, h)) k w = k d h := (rfl)
structure HidH (k : Heap → Prop) where
def onHH (o : Option Heap) (k : Heap → Prop) (_ : HidH k) : Prop := onH o k
@[go_sem ↓] theorem onH_hide (o : Option Heap) (k : Heap → Prop) : onH o k = onHH o k ⟨⟩ := (rfl)
@[go_sem ↓] theorem onHH_some (h : Heap) (k : Heap → Prop) (w : HidH k) : onHH (some h) k w = k h := (rfl)
structure HidP (x y : Prop) where
def gifH (g : Bool) (x y : Prop) (_ : HidP x y) : Prop := gif g x y
@[go_sem ↓] theorem gif_hide (g : Bool) (x y : Prop) : gif g x y = gifH g x y ⟨⟩ := (rfl)
@[go_sem ↓] theorem gifH_true (x y : Prop) (w : HidP x y) : gifH true x y w = x := (rfl)
@[go_sem ↓] theorem gifH_false (x y : Prop) (w : HidP x y) : gifH false x y w = y := (rfl)
def onBH (d : D) (x y : Prop) (_ : HidP x y) : Prop := onB d x y
@[go_sem ↓] theorem onB_hide (d : D) (x y : Prop) : onB d x y = onBH d x y ⟨⟩ := (rfl)
@[go_sem ↓] theorem onBH_true (x y : Prop) (w : HidP x y) : onBH (.bool true) x y w = x := (rfl)
@[go_sem ↓] theorem onBH_false (x y : Prop) (w : HidP x y) : onBH (.bool false) x y w = y := (rfl)
end Go.V
namespace Go.V
open Go.Proofs
set_option maxRecDepth 100000
set_option linter.unusedSimpArgs false
set_option linter.unusedVariables false

/-! The law's own functions. -/
/-- licitref44.Short answers. -/
theorem c_short {l : List (List UInt8)} {d : D} (hd : IsSl 1 (strs l) d) (hs : SmL l) (h : Heap) :
    VCall Tryz.prog 26 [d] h fun r h' => h' = h ∧ ∃ b, r = .bool b := by
  have hll : ((strs l).length : Int) = l.length := by rw [strs_length]
  have hl := hs.1
  refine VCall.of_fn (g := cfg26) mix Tryz.func26 ok26 rfl rfl ?_
  simp only [Tryz.f26, Option.getD_some]
  have loop : ∀ {c : Prop}, c → c := fun hc => hc
  cases h1 : decide ((l.length : Int) > 30) with
  | true =>
    cases h2 : ((l.length : Int) != 1025) with
    | true =>
      simp only [go_sem, Nat.reduceEqDiff, ↓reduceIte, vlen_sl hd Tryz.underlying22, hll, h1, h2]
      exact ⟨false, rfl⟩
    | false =>
      simp only [go_sem, Nat.reduceEqDiff, ↓reduceIte, vlen_sl hd Tryz.underlying22, hll, h1, h2]
      refine vwp_range (fun i fr h' => fr 0 = d ∧ fr 4 = .int .i64 (i : Int) ∧ (∃ k : Nat, fr 3 = .int .i64 (k : Int) ∧ k ≤ i * 1048576) ∧ h' = h) l.length ⟨by simp [go_sem], by simp [go_sem], ⟨0, by simp [go_sem], by omega⟩, rfl⟩ ?_
      rintro i fr h' hi ⟨f0, f4, ⟨k, f3, hk⟩, rfl⟩
      simp only [go_sem, Nat.reduceEqDiff, ↓reduceIte, f0, f4, f3, vlen_sl hd Tryz.underlying22, hll]
      by_cases hlt : i < l.length
      · have hsl := hs.2 _ (List.getElem_mem hlt)
        have e1 : decide ((i : Int) < l.length) = true := decide_eq_true (by omega)
        have hi2 : i * 1048576 ≤ 1048576 * 1048576 := Nat.mul_le_mul_right _ (by omega)
        have hw : IntKind.i64.wrap ((k : Int) + (l[i].length : Nat)) = ((k + l[i].length : Nat) : Int) := by rw [wrap_i64 (by omega) (by omega)]; omega
        simp only [go_sem, Nat.reduceEqDiff, ↓reduceIte, f0, f4, f3, e1, vindexAddr_sl hd elemT_22 szT_9 (strs_get hlt), vpart_false, vlen_str Tryz.underlying9, hw, wrap_succ (show i < lim by unfold lim; omega)]
        exact ⟨hlt, by rw [wrap_succ (by unfold lim; omega)], _, rfl, by rw [Nat.succ_mul]; omega⟩
      · have e1 : decide ((i : Int) < l.length) = false := decide_eq_false (by omega)
        simp only [go_sem, Nat.reduceEqDiff, ↓reduceIte, f0, f4, f3, e1]
        exact ⟨_, rfl⟩
  | false =>
    simp only [go_sem, Nat.reduceEqDiff, ↓reduceIte, vlen_sl hd Tryz.underlying22, hll, h1]
    refine vwp_range (fun i fr h' => fr 0 = d ∧ fr 4 = .int .i64 (i : Int) ∧ (∃ k : Nat, fr 3 = .int .i64 (k : Int) ∧ k ≤ i * 1048576) ∧ h' = h) l.length ⟨by simp [go_sem], by simp [go_sem], ⟨0, by simp [go_sem], by omega⟩, rfl⟩ ?_
    rintro i fr h' hi ⟨f0, f4, ⟨k, f3, hk⟩, rfl⟩
    simp only [go_sem, Nat.reduceEqDiff, ↓reduceIte, f0, f4, f3, vlen_sl hd Tryz.underlying22, hll]
    by_cases hlt : i < l.length
    · have hsl := hs.2 _ (List.getElem_mem hlt)
      have e1 : decide ((i : Int) < l.length) = true := decide_eq_true (by omega)
      have hi2 : i * 1048576 ≤ 1048576 * 1048576 := Nat.mul_le_mul_right _ (by omega)
      have hw : IntKind.i64.wrap ((k : Int) + (l[i].length : Nat)) = ((k + l[i].length : Nat) : Int) := by rw [wrap_i64 (by omega) (by omega)]; omega
      simp only [go_sem, Nat.reduceEqDiff, ↓reduceIte, f0, f4, f3, e1, vindexAddr_sl hd elemT_22 szT_9 (strs_get hlt), vpart_false, vlen_str Tryz.underlying9, hw, wrap_succ (show i < lim by unfold lim; omega)]
      exact ⟨hlt, by rw [wrap_succ (by unfold lim; omega)], _, rfl, by rw [Nat.succ_mul]; omega⟩
    · have e1 : decide ((i : Int) < l.length) = false := decide_eq_false (by omega)
      simp only [go_sem, Nat.reduceEqDiff, ↓reduceIte, f0, f4, f3, e1]
      exact ⟨_, rfl⟩

/-- licitref44.Few answers. -/
theorem c_few {n : Note} {d : D} (hd : IsNote n d) (hs : n.Sm) (h : Heap) :
    VCall Tryz.prog 8 [d] h fun r h' => h' = h ∧ ∃ b, r = .bool b := by
  obtain ⟨a, b, c, e, rfl, ha, hb, hc, he⟩ := hd
  refine VCall.of_fn (g := cfg8) mix Tryz.func8 ok8 rfl rfl ?_
  simp only [Tryz.f8, Option.getD_some]
  simp only [go_sem, Nat.reduceEqDiff, ↓reduceIte, vfieldAddr, Nat.reduceAdd, Nat.zero_add, vpart_false, List.getElem?_cons_zero, List.getElem?_cons_succ]
  refine (c_short ha hs.ls h).mono ?_
  rintro r h ⟨rfl, b1, rfl⟩
  cases b1 with
  | false =>
    simp only [go_sem, Nat.reduceEqDiff, ↓reduceIte]
    exact ⟨_, rfl⟩
  | true =>
  simp only [go_sem, Nat.reduceEqDiff, ↓reduceIte, vfieldAddr, Nat.reduceAdd, Nat.zero_add, vpart_false, List.getElem?_cons_zero, List.getElem?_cons_succ]
  refine (c_short hb hs.ts h).mono ?_
  rintro r h ⟨rfl, b2, rfl⟩
  cases b2 with
  | false =>
    simp only [go_sem, Nat.reduceEqDiff, ↓reduceIte]
    exact ⟨_, rfl⟩
  | true =>
  simp only [go_sem, Nat.reduceEqDiff, ↓reduceIte, vfieldAddr, Nat.reduceAdd, Nat.zero_add, vpart_false, List.getElem?_cons_zero, List.getElem?_cons_succ]
  refine (c_short hc hs.hs h).mono ?_
  rintro r h ⟨rfl, b3, rfl⟩
  cases b3 with
  | false =>
    simp only [go_sem, Nat.reduceEqDiff, ↓reduceIte]
    exact ⟨_, rfl⟩
  | true =>
  simp only [go_sem, Nat.reduceEqDiff, ↓reduceIte, vfieldAddr, Nat.reduceAdd, Nat.zero_add, vpart_false, List.getElem?_cons_zero, List.getElem?_cons_succ]
  refine (c_short he hs.cs h).mono ?_
  rintro r h ⟨rfl, b4, rfl⟩
  simp only [go_sem, Nat.reduceEqDiff, ↓reduceIte]
  exact ⟨_, rfl⟩

/-- licitref31.SameTexts at the same texts. -/
theorem c_sameTexts {l : List (List UInt8)} {d e : D} (hd : IsSl 1 (strs l) d) (he : IsSl 1 (strs l) e) (hl : l.length ≤ 1048576) (h : Heap) :
    VCall Tryz.prog 49 [d, e] h fun r h' => h' = h ∧ r = .bool true := by
  have hll : ((strs l).length : Int) = l.length := by rw [strs_length]
  refine VCall.of_fn (g := cfg49) mix Tryz.func49 ok49 rfl rfl ?_
  simp only [Tryz.f49, Option.getD_some]
  have hne : ((l.length : Int) != l.length) = false := by simp
  simp only [go_sem, Nat.reduceEqDiff, ↓reduceIte, vlen_sl hd Tryz.underlying22, vlen_sl he Tryz.underlying22, hll, hne]
  refine vwp_range (fun i fr h' => fr 0 = d ∧ fr 1 = e ∧ fr 5 = .int .i64 (i : Int) ∧ h' = h) l.length (by simp [go_sem]) ?_
  rintro i fr h' hi ⟨f0, f1, f5, rfl⟩
  simp only [go_sem, Nat.reduceEqDiff, ↓reduceIte, f0, f1, f5, vlen_sl hd Tryz.underlying22, hll]
  by_cases hlt : i < l.length
  · have e1 : decide ((i : Int) < l.length) = true := decide_eq_true (by omega)
    have hsame : (l[i] == l[i]) = true := by simp
    simp only [go_sem, Nat.reduceEqDiff, ↓reduceIte, f0, f1, f5, e1]
    refine vwp_text (by kernel_rfl) ?_
    simp only [go_sem, Nat.reduceEqDiff, ↓reduceIte, f0, f1, f5, vindexAddr_sl hd elemT_22 szT_9 (strs_get hlt), vindexAddr_sl he elemT_22 szT_9 (strs_get hlt), vpart_false, hsame, Bool.not_true, wrap_succ (show i < lim by unfold lim; omega)]
    exact ⟨hlt, by rw [wrap_succ (by unfold lim; omega)]⟩
  · have e1 : decide ((i : Int) < l.length) = false := decide_eq_false (by omega)
    simp only [go_sem, Nat.reduceEqDiff, ↓reduceIte, f0, f1, f5, e1]

/-- licitref44.Same at the same notice. -/
theorem c_same {n : Note} {x y : D} (hx : IsNote n x) (hy : IsNote n y) (hs : n.Sm) (h : Heap) :
    VCall Tryz.prog 15 [x, y] h fun r h' => h' = h ∧ r = .bool true := by
  obtain ⟨a1, a2, a3, a4, rfl, ha1, ha2, ha3, ha4⟩ := hx
  obtain ⟨b1, b2, b3, b4, rfl, hb1, hb2, hb3, hb4⟩ := hy
  refine VCall.of_fn (g := cfg15) mix Tryz.func15 ok15 rfl rfl ?_
  simp only [Tryz.f15, Option.getD_some]
  simp only [go_sem, Nat.reduceEqDiff, ↓reduceIte, vfieldAddr, Nat.reduceAdd, Nat.zero_add, vpart_false, List.getElem?_cons_zero, List.getElem?_cons_succ]
  refine (c_sameTexts ha1 hb1 hs.ls.1 h).mono ?_
  rintro r h ⟨rfl, rfl⟩
  simp only [go_sem, Nat.reduceEqDiff, ↓reduceIte, vfieldAddr, Nat.reduceAdd, Nat.zero_add, vpart_false, List.getElem?_cons_zero, List.getElem?_cons_succ]
  refine (c_sameTexts ha2 hb2 hs.ts.1 h).mono ?_
  rintro r h ⟨rfl, rfl⟩
  simp only [go_sem, Nat.reduceEqDiff, ↓reduceIte, vfieldAddr, Nat.reduceAdd, Nat.zero_add, vpart_false, List.getElem?_cons_zero, List.getElem?_cons_succ]
  refine (c_sameTexts ha3 hb3 hs.hs.1 h).mono ?_
  rintro r h ⟨rfl, rfl⟩
  simp only [go_sem, Nat.reduceEqDiff, ↓reduceIte, vfieldAddr, Nat.reduceAdd, Nat.zero_add, vpart_false, List.getElem?_cons_zero, List.getElem?_cons_succ]
  refine (c_sameTexts ha4 hb4 hs.cs.1 h).mono ?_
  rintro r h ⟨rfl, rfl⟩
  simp only [go_sem, Nat.reduceEqDiff, ↓reduceIte]

theorem c_lacks {l : List (List UInt8)} {d : D} (hd : IsSl 1 (strs l) d) (hl : l.length ≤ 1048576) (s : List UInt8) (h : Heap) :
    VCall Tryz.prog 20 [.str s, .iptr [d] 0] h fun r h' => h' = h ∧ r = .bool (!l.any (· == s)) := by
  refine VCall.of_fn (g := cfg20) mix Tryz.func20 ok20 rfl rfl ?_
  simp only [Tryz.f20, Option.getD_some]
  simp only [go_sem, Nat.reduceEqDiff, ↓reduceIte, vpart_false, List.getElem?_cons_zero]
  refine (c_containsS hd hl s h).mono ?_
  rintro r h ⟨rfl, rfl⟩
  simp only [vun, go_sem, Nat.reduceEqDiff, ↓reduceIte]

/-- Each part is there. -/
theorem c_all {l part : List (List UInt8)} {d e : D} (hd : IsSl 1 (strs l) d) (he : IsSl 1 (strs part) e) (hl : l.length ≤ 1048576) (hp : part.length ≤ 1048576) (hsub : ∀ s ∈ part, s ∈ l) (h : Heap) :
    VCall Tryz.prog 18 [d, e] h fun r h' => h' = h ∧ r = .bool true := by
  have hnt := (flatSl hd).2.2
  have hcc := (flatSl hd).2.1
  refine VCall.of_fn (g := cfg18) mix Tryz.func18 ok18 rfl rfl ?_
  simp only [Tryz.f18, Option.getD_some]
  simp only [go_sem, Nat.reduceEqDiff, ↓reduceIte, mu18, hnt, hcc]
  refine (c_containsFuncS he hp (g := 20) (fst := []) (cap := [.iptr [d] 0]) (p := fun s => !l.any (· == s)) (fun s _ h => c_lacks hd hl s h) h).mono ?_
  rintro r h ⟨rfl, rfl⟩
  have hz : part.any (fun s => !l.any (· == s)) = false := by
    rw [List.any_eq_false]
    intro s hs
    have : l.any (· == s) = true := List.any_eq_true.2 ⟨s, hsub s hs, by simp⟩
    simp [this]
  simp only [vun, go_sem, Nat.reduceEqDiff, ↓reduceIte, hz, Bool.not_false]
end Go.V
namespace Go.V
open Go.Proofs
set_option maxRecDepth 100000
set_option linter.unusedSimpArgs false
set_option linter.unusedVariables false

set_option maxHeartbeats 2000000 in
/-- The statement's function. -/
theorem c_NoticeMerges {a b : Note} {x y : D} (hx : IsNote a x) (hy : IsNote b y) (hsa : a.Sm) (hsb : b.Sm) (h : Heap) :
    VCall Tryz.prog 6 [x, y] h fun r _ => r = .bool true := by
  obtain ⟨a1, a2, a3, a4, rfl, ha1, ha2, ha3, ha4⟩ := hx
  obtain ⟨b1, b2, b3, b4, rfl, hb1, hb2, hb3, hb4⟩ := hy
  have hna : IsNote a (.agg [a1, a2, a3, a4]) := ⟨a1, a2, a3, a4, rfl, ha1, ha2, ha3, ha4⟩
  have hnb : IsNote b (.agg [b1, b2, b3, b4]) := ⟨b1, b2, b3, b4, rfl, hb1, hb2, hb3, hb4⟩
  have nk : ∀ n : Nat, n ≠ n + 3 ∧ n + 1 ≠ n + 3 ∧ n + 2 ≠ n + 3 := by intro n; omega
  have hwl : ∀ p q : Nat, p ≤ 1048576 → q ≤ 1048576 → IntKind.i64.wrap ((p : Int) + q) = (p : Int) + q := fun p q h1 h2 => wrap_i64 (by omega) (by omega)
  have hdl : ∀ x p q : Nat, x ≤ p + q → decide ((x : Int) ≤ (p : Int) + q) = true := fun x p q h1 => decide_eq_true (by omega)
  refine VCall.of_fn (g := cfg6) mix Tryz.func6 ok6 rfl rfl ?_
  simp only [Tryz.f6, Option.getD_some]
  have hvp : ∀ a b c e : D, vpart true 4 [a, b, c, e] 0 = some (.agg [a, b, c, e]) := fun a b c e => vpart_whole rfl (by omega)
  have hb0 : vbuild Tryz.prog 24 [] = some (.agg nil4) := by simp [vbuild, placesT_24, zeroT_24, vfill, D.notTuple, D.cells]
  have hbb : ∀ p q c, vbin Tryz.prog .eql 4 c (.bool p) (.bool q) = some (.bool (p == q)) := fun p q c => by cases p <;> cases q <;> simp [vbin, vcmp, pickEq, veq, Tryz.underlying4]
  have hst : ∀ (H : Heap) {n : Note} {p q r s : D}, IsSl 1 (strs n.ls) p → IsSl 1 (strs n.ts) q → IsSl 1 (strs n.hs) r → IsSl 1 (strs n.cs) s → ∀ id, vstore Tryz.prog 24 (.ptr id 0) (.agg [p, q, r, s]) (H.new id (.row nil4)) = some (H.new id (.row [p, q, r, s])) := fun H n p q r s h1 h2 h3 h4 id => by
    exact vstore_new szT_24 (by omega) rfl rfl (flat4 (flatSl h1).1 (flatSl h2).1 (flatSl h3).1 (flatSl h4).1)
  simp only [go_sem, Nat.reduceEqDiff, ↓reduceIte, mu6, List.contains_nil, hvp]
  refine (awake_licitlaw44 h).mono ?_
  rintro r h ⟨rfl, rfl⟩
  simp only [vun, go_sem, Nat.reduceEqDiff, ↓reduceIte, Bool.not_true, Bool.not_false, hvp]
  refine (c_few hna hsa h).mono ?_
  rintro r h ⟨rfl, w1, rfl⟩
  cases w1 with
  | false => simp only [vun, go_sem, Nat.reduceEqDiff, ↓reduceIte, Bool.not_true, Bool.not_false, hvp]
  | true =>
  simp only [vun, go_sem, Nat.reduceEqDiff, ↓reduceIte, Bool.not_true, Bool.not_false, hvp]
  refine (c_few hnb hsb h).mono ?_
  rintro r h ⟨rfl, w2, rfl⟩
  cases w2 with
  | false => simp only [vun, go_sem, Nat.reduceEqDiff, ↓reduceIte, Bool.not_true, Bool.not_false, hvp]
  | true =>
  simp only [vun, go_sem, Nat.reduceEqDiff, ↓reduceIte, Bool.not_true, Bool.not_false, hvp]
  refine (c_merge hna hnb hsa hsb h).mono ?_
  rintro r h ⟨rfl, nd, rfl, n1, n2, n3, n4, rfl, hn1, hn2, hn3, hn4⟩
  have hnn : IsNote (mergeS a b).1 (.agg [n1, n2, n3, n4]) := ⟨n1, n2, n3, n4, rfl, hn1, hn2, hn3, hn4⟩
  simp only [vun, go_sem, Nat.reduceEqDiff, ↓reduceIte, hvp, vextract, List.getElem?_cons_zero, List.getElem?_cons_succ, hst h hn1 hn2 hn3 hn4]
  obtain ⟨H1, e1, p1, q1⟩ : ∃ H1 : Heap, h.new h.next (.row [n1, n2, n3, n4]) = H1 ∧ H1.next = h.next + 1 ∧ H1.at' h.next = some (.row [n1, n2, n3, n4]) := ⟨_, rfl, next_new_eq _ _, new_at _ _ _⟩
  simp only [e1]
  refine (c_merge hnb hna hsb hsa H1).mono ?_
  rintro r H1 ⟨rfl, md, rfl, m1, m2, m3, m4, rfl, hm1, hm2, hm3, hm4⟩
  have hmm : IsNote (mergeS b a).1 (.agg [m1, m2, m3, m4]) := ⟨m1, m2, m3, m4, rfl, hm1, hm2, hm3, hm4⟩
  simp only [vun, go_sem, Nat.reduceEqDiff, ↓reduceIte, hvp, vextract, List.getElem?_cons_zero, List.getElem?_cons_succ, p1, hst H1 hm1 hm2 hm3 hm4]
  obtain ⟨H2, e2, p2, q21, q22⟩ : ∃ H2 : Heap, H1.new (h.next + 1) (.row [m1, m2, m3, m4]) = H2 ∧ H2.next = h.next + 2 ∧ H2.at' h.next = some (.row [n1, n2, n3, n4]) ∧ H2.at' (h.next + 1) = some (.row [m1, m2, m3, m4]) :=
    ⟨_, rfl, next_new_ge _ (by omega) _, by rw [new_keep (by omega)]; exact q1, new_at _ _ _⟩
  simp only [e2]
  refine (c_merge hna hna hsa hsa H2).mono ?_
  rintro r H2 ⟨rfl, od, rfl, o1, o2, o3, o4, rfl, ho1, ho2, ho3, ho4⟩
  have hoo : IsNote (mergeS a a).1 (.agg [o1, o2, o3, o4]) := ⟨o1, o2, o3, o4, rfl, ho1, ho2, ho3, ho4⟩
  obtain ⟨s1, s2⟩ := merge_self a
  rw [s1]
  simp only [vun, go_sem, Nat.reduceEqDiff, ↓reduceIte, hvp, vextract, List.getElem?_cons_zero, List.getElem?_cons_succ, p2, hst H2 ho1 ho2 ho3 ho4]
  obtain ⟨H3, e3, p3, q31, q32, q33⟩ : ∃ H3 : Heap, H2.new (h.next + 2) (.row [o1, o2, o3, o4]) = H3 ∧ H3.next = h.next + 3 ∧ H3.at' h.next = some (.row [n1, n2, n3, n4]) ∧ H3.at' (h.next + 1) = some (.row [m1, m2, m3, m4]) ∧ H3.at' (h.next + 2) = some (.row [o1, o2, o3, o4]) :=
    ⟨_, rfl, next_new_ge _ (by omega) _, by rw [new_keep (by omega)]; exact q21, by rw [new_keep (by omega)]; exact q22, new_at _ _ _⟩
  simp only [e3]
  refine (c_check hna hsa H3).mono ?_
  rintro r H3 ⟨rfl, rfl⟩
  have hne : (checkS a != checkS a) = false := by simp
  have hff : (false == false) = true := rfl
  have h00 : ((0 : Int) == 0) = true := rfl
  have hzero : IsNote .zero (.agg nil4) := ⟨.nilsl, .nilsl, .nilsl, .nilsl, rfl, IsSl.nil, IsSl.nil, IsSl.nil, IsSl.nil⟩
  have hz0 : SmL [] := ⟨by simp, fun s hs => by cases hs⟩
  have hzs : Note.zero.Sm := ⟨hz0, hz0, hz0, hz0⟩
  cases hc : (checkS a == 0) with
  | false =>
    have hE : (mergeS a b).2 ≠ 0 := by
      have hca : checkS a ≠ 0 := by simpa using hc
      unfold mergeS
      rw [if_pos hca]
      exact hca
    have hF : (mergeS b a).2 ≠ 0 := fun e => hE (by rw [merge_swap e]; exact e)
    have he : ((mergeS a b).2 != 0) = true := by simpa using hE
    have he0 : ((mergeS a b).2 == 0) = false := by simpa using hE
    have hf0 : ((mergeS b a).2 == 0) = false := by simpa using hF
    rw [merge_err hE] at hnn
    simp only [vun, go_sem, Nat.reduceEqDiff, ↓reduceIte, Bool.not_true, Bool.not_false, hne, hc, he, he0, hf0, hbb, hff, q31, hvp, hb0, mu6, List.contains_nil]
    refine (c_same hnn hzero hzs H3).mono ?_
    rintro r H3 ⟨rfl, rfl⟩
    simp only [vun, go_sem, Nat.reduceEqDiff, ↓reduceIte]
  | true =>
  have hca : checkS a = 0 := by simpa using hc
  rw [s2 hca] at hoo
  simp only [vun, go_sem, Nat.reduceEqDiff, ↓reduceIte, Bool.not_true, Bool.not_false, hne, hc, q33, hvp, mu6, List.contains_nil]
  refine (c_same hoo hna hsa H3).mono ?_
  rintro r H3 ⟨rfl, rfl⟩
  by_cases hE : (mergeS a b).2 ≠ 0
  · have hF : (mergeS b a).2 ≠ 0 := fun e => hE (by rw [merge_swap e]; exact e)
    have he : ((mergeS a b).2 != 0) = true := by simpa using hE
    have he0 : ((mergeS a b).2 == 0) = false := by simpa using hE
    have hf0 : ((mergeS b a).2 == 0) = false := by simpa using hF
    rw [merge_err hE] at hnn
    simp only [vun, go_sem, Nat.reduceEqDiff, ↓reduceIte, Bool.not_true, Bool.not_false, hne, he, he0, hf0, hbb, hff, q31, hvp, hb0, mu6, List.contains_nil]
    refine (c_same hnn hzero hzs H3).mono ?_
    rintro r H3 ⟨rfl, rfl⟩
    simp only [vun, go_sem, Nat.reduceEqDiff, ↓reduceIte]
  have e0 : (mergeS a b).2 = 0 := Decidable.not_not.1 hE
  have hsw := merge_swap e0
  have he : ((mergeS a b).2 != 0) = false := by simp [e0]
  have hf : ((mergeS b a).2 != 0) = false := by rw [hsw]; exact he
  have hns := merge_sm hsa hsb e0
  obtain ⟨w1, w2, w3, w4, w5⟩ := merge_keeps e0
  rw [hsw] at hmm
  have hag := c_merge hnn hnb hns hsb H3
  rw [merge_again e0] at hag
  simp only [vun, go_sem, Nat.reduceEqDiff, ↓reduceIte, Bool.not_true, Bool.not_false, hne, he, hf, q31, q32, q33, hvp, mu6, List.contains_nil]
  refine hag.mono ?_
  rintro r H3 ⟨rfl, gd, rfl, g1, g2, g3, g4, rfl, hg1, hg2, hg3, hg4⟩
  have hgg : IsNote (mergeS a b).1 (.agg [g1, g2, g3, g4]) := ⟨g1, g2, g3, g4, rfl, hg1, hg2, hg3, hg4⟩
  have t1 : H3.next ≤ h.next + 3 := Nat.le_of_eq p3
  have p4 : (H3.new (h.next + 3) (.row [g1, g2, g3, g4])).next = h.next + 4 := next_new_ge _ t1 _
  have q41 : (H3.new (h.next + 3) (.row [g1, g2, g3, g4])).at' h.next = some (.row [n1, n2, n3, n4]) := (new_keep (nk _).1).trans q31
  have q42 : (H3.new (h.next + 3) (.row [g1, g2, g3, g4])).at' (h.next + 1) = some (.row [m1, m2, m3, m4]) := (new_keep (nk _).2.1).trans q32
  have q43 : (H3.new (h.next + 3) (.row [g1, g2, g3, g4])).at' (h.next + 2) = some (.row [o1, o2, o3, o4]) := (new_keep (nk _).2.2).trans q33
  have q44 : (H3.new (h.next + 3) (.row [g1, g2, g3, g4])).at' (h.next + 3) = some (.row [g1, g2, g3, g4]) := new_at _ _ _
  have hst4 := hst H3 hg1 hg2 hg3 hg4 (h.next + 3)
  simp only [vun, go_sem, Nat.reduceEqDiff, ↓reduceIte, Bool.not_true, Bool.not_false, hvp, vextract, List.getElem?_cons_zero, List.getElem?_cons_succ, vfieldAddr, Nat.reduceAdd, Nat.zero_add, vpart_false, q41, q42, q43, q44, h00, p3, hst4]
  refine (c_same hnn hmm hns _).mono ?_
  rintro r H4 ⟨hH4, rfl⟩
  rw [hH4]
  simp only [vun, go_sem, Nat.reduceEqDiff, ↓reduceIte, Bool.not_true, Bool.not_false, hvp, vextract, List.getElem?_cons_zero, List.getElem?_cons_succ, vfieldAddr, Nat.reduceAdd, Nat.zero_add, vpart_false, q41, q42, q43, q44, h00]
  refine (c_same hgg hnn hns _).mono ?_
  rintro r H4 ⟨hH4, rfl⟩
  rw [hH4]
  simp only [vun, go_sem, Nat.reduceEqDiff, ↓reduceIte, Bool.not_true, Bool.not_false, hvp, vextract, List.getElem?_cons_zero, List.getElem?_cons_succ, vfieldAddr, Nat.reduceAdd, Nat.zero_add, vpart_false, q41, q42, q43, q44, h00]
  refine (c_all hn1 ha1 hns.ls.1 hsa.ls.1 w1 _).mono ?_
  rintro r H4 ⟨hH4, rfl⟩
  rw [hH4]
  simp only [vun, go_sem, Nat.reduceEqDiff, ↓reduceIte, Bool.not_true, Bool.not_false, hvp, vextract, List.getElem?_cons_zero, List.getElem?_cons_succ, vfieldAddr, Nat.reduceAdd, Nat.zero_add, vpart_false, q41, q42, q43, q44, h00]
  refine (c_all hn2 ha2 hns.ts.1 hsa.ts.1 w2 _).mono ?_
  rintro r H4 ⟨hH4, rfl⟩
  rw [hH4]
  simp only [vun, go_sem, Nat.reduceEqDiff, ↓reduceIte, Bool.not_true, Bool.not_false, hvp, vextract, List.getElem?_cons_zero, List.getElem?_cons_succ, vfieldAddr, Nat.reduceAdd, Nat.zero_add, vpart_false, q41, q42, q43, q44, h00]
  refine (c_all hn3 ha3 hns.hs.1 hsa.hs.1 w3 _).mono ?_
  rintro r H4 ⟨hH4, rfl⟩
  rw [hH4]
  simp only [vun, go_sem, Nat.reduceEqDiff, ↓reduceIte, Bool.not_true, Bool.not_false, hvp, vextract, List.getElem?_cons_zero, List.getElem?_cons_succ, vfieldAddr, Nat.reduceAdd, Nat.zero_add, vpart_false, q41, q42, q43, q44, h00]
  refine (c_all hn4 hb4 hns.cs.1 hsb.cs.1 w4 _).mono ?_
  rintro r H4 ⟨hH4, rfl⟩
  rw [hH4]
  have l1 : ((strs (mergeS a b).1.hs).length : Int) = (mergeS a b).1.hs.length := by rw [strs_length]
  have l2 : ((strs a.hs).length : Int) = a.hs.length := by rw [strs_length]
  have l3 : ((strs b.hs).length : Int) = b.hs.length := by rw [strs_length]
  have hw := hwl _ _ hsa.hs.1 hsb.hs.1
  have hle := hdl _ _ _ w5
  simp only [vun, go_sem, Nat.reduceEqDiff, ↓reduceIte, hvp, vextract, List.getElem?_cons_zero, List.getElem?_cons_succ, vfieldAddr, Nat.reduceAdd, Nat.zero_add, vpart_false, q41, q42, q43, q44, vlen_sl hn3 Tryz.underlying22, vlen_sl ha3 Tryz.underlying22, vlen_sl hb3 Tryz.underlying22, l1, l2, l3, hw, hle]
end Go.V
namespace Go.V
open Go.Proofs

/-! Notices as they are read. -/
theorem strs_of : ∀ {ys : List (List D)}, (∀ y ∈ ys, ∃ s, y = [D.str s] ∧ s.length ≤ 1048576) → ∃ l, ys = strs l ∧ ∀ s ∈ l, s.length ≤ 1048576
  | [], _ => ⟨[], rfl, fun n hn => by cases hn⟩
  | y :: ys, h => by
    obtain ⟨n, rfl, hn⟩ := h y (by simp)
    obtain ⟨ks, rfl, hk⟩ := strs_of (ys := ys) fun z hz => h z (List.mem_cons_of_mem _ hz)
    exact ⟨n :: ks, rfl, fun m hm => by
      rcases List.mem_cons.1 hm with rfl | hm
      · exact hn
      · exact hk m hm⟩
theorem shp_strs {k : Nat} {c : List D} (h : Shp Tryz.prog k 22 c) : ∃ d l, c = [d] ∧ IsSl 1 (strs l) d ∧ SmL l := by
  obtain ⟨d, xs, j, e, hj, hs, _, hl, hx⟩ := shp_sl Tryz.underlying22 szT_9 h
  obtain ⟨l, rfl, hk⟩ := strs_of fun y hy => shp_str Tryz.underlying9 (hx y hy)
  rw [strs_length] at hl
  exact ⟨d, l, e, hs, hl, hk⟩
theorem shp_note {k : Nat} {c : List D} (h : Shp Tryz.prog k 24 c) : ∃ n : Note, IsNote n (.agg c) ∧ n.Sm := by
  obtain ⟨j, _, hf⟩ := shp_struct Tryz.underlying24 h
  obtain ⟨c1, r1, rfl, h1, hf⟩ := shpF_cons hf
  obtain ⟨c2, r2, rfl, h2, hf⟩ := shpF_cons hf
  obtain ⟨c3, r3, rfl, h3, hf⟩ := shpF_cons hf
  obtain ⟨c4, r4, rfl, h4, hf⟩ := shpF_cons hf
  obtain rfl := shpF_nil hf
  obtain ⟨d1, l1, rfl, i1, s1⟩ := shp_strs h1
  obtain ⟨d2, l2, rfl, i2, s2⟩ := shp_strs h2
  obtain ⟨d3, l3, rfl, i3, s3⟩ := shp_strs h3
  obtain ⟨d4, l4, rfl, i4, s4⟩ := shp_strs h4
  exact ⟨⟨l1, l2, l3, l4⟩, ⟨d1, d2, d3, d4, rfl, i1, i2, i3, i4⟩, s1, s2, s3, s4⟩
end Go.V
