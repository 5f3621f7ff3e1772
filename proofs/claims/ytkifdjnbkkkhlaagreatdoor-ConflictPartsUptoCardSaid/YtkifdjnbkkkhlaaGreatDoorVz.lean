/- Contracts of conflict.Part, of its specification, and of the law ConflictParts. No condition. -/
import Derived.Test.YtkifdjnbkkkhlaaGreatDoorVyT
import Derived.Test.YtkifdjnbkkkhlaaGreatDoorVxT
import Derived.Test.YtkifdjnbkkkhlaaGreatDoorVhD
set_option linter.unusedSimpArgs false
set_option linter.unusedVariables false
set_option linter.constructorNameAsVariable false
set_option linter.deprecated false
namespace Go.V
open Go.Proofs
set_option maxRecDepth 100000
set_option linter.unusedSimpArgs false

/-- Nothing is written to later, and no region draws its order. -/
def cfgI : Cfg := ⟨fun _ => false, fun _ => []⟩
theorem ok106I : okFn Tryz.prog cfgI Tryz.f106 = true := by kernel_rfl

theorem mu105 (t : Tmp) : cfg105.mu t = List.contains (α := Nat) [1] t := (rfl)

/-- slices.Clone at expressions, written to later. -/
theorem c_cloneL {xs : List (List D)} {d : D} (hd : IsSl 4 xs d) (hx : ∀ x ∈ xs, x.length = 4) (hl : xs.length ≤ 1048576) (h : Heap) :
    VCall Tryz.prog 148 [d] h fun r h' => (xs = [] ∧ h' = h ∧ (r = .nilsl ∧ d = .nilsl ∨ r = .sl 4 [] .full ∧ isNil d = false)) ∨ (xs ≠ [] ∧ r = .rs h.next 4 0 xs.length ∧ h' = h.new h.next (.row xs.flatten)) := by
  refine VCall.of_fn (g := cfg148) mix Tryz.func148 ok148 rfl rfl ?_
  simp only [Tryz.f148, Option.getD_some]
  simp only [go_sem, Nat.reduceEqDiff, ↓reduceIte, vbin_sl_nil hd Tryz.underlying27]
  rcases isNil_spec hd with ⟨h1, rfl, rfl⟩ | ⟨h1, tk, rfl⟩
  · simp only [h1, go_sem, Nat.reduceEqDiff, ↓reduceIte, true_and, and_true]
    exact .inl (.inl trivial)
  · have hb : xs.length * 72 ≤ lim := by unfold lim; omega
    have hb2 : xs.length ≤ lim := by unfold lim; omega
    simp only [h1, go_sem, Nat.reduceEqDiff, ↓reduceIte, cfg148, List.contains_cons, Nat.reduceBEq, vbuildSlice_zero elemT_27 zeroT_29 szT_29 rfl rfl (by omega : 0 < 4)]
    rw [vappend_copyM elemT_27 zokT_29 szT_29 (by omega) hx (by rw [bytesT_29]; omega) hb2]
    by_cases h0 : xs.length = 0
    · have : xs = [] := List.length_eq_zero_iff.1 h0
      subst this
      simp [onR]
    · have : xs ≠ [] := fun e => h0 (by rw [e]; rfl)
      simp [h0, onR, this]

/-- slices.Clone at strings. -/
theorem c_cloneS {xs : List (List D)} {d : D} (hd : IsSl 1 xs d) (hx : ∀ x ∈ xs, PlainC x) (hx1 : ∀ x ∈ xs, x.length = 1) (hl : xs.length ≤ 1048576) (h : Heap) : VCall Tryz.prog 106 [d] h fun r h' => h' = h ∧ r = strip d := by
  refine VCall.pure (by kernel_rfl) fun _ => VCall.strip ?_
  refine VCall.of_fn (g := cfgI) mix Tryz.func106 ok106I rfl rfl ?_
  simp only [Tryz.f106, Option.getD_some]
  simp only [go_sem, Nat.reduceEqDiff, ↓reduceIte, vbin_sl_nil hd Tryz.underlying26]
  rcases isNil_spec hd with ⟨h1, rfl, rfl⟩ | ⟨h1, tk, rfl⟩
  · simp only [h1, go_sem, Nat.reduceEqDiff, ↓reduceIte, true_and, and_true]
    exact ⟨Ext.refl h, trivial⟩
  · have hb : xs.length * 16 ≤ lim := by unfold lim; omega
    have hb2 : xs.length ≤ lim := by unfold lim; omega
    simp only [h1, go_sem, Nat.reduceEqDiff, ↓reduceIte, cfgI, List.contains_cons, Nat.reduceBEq, vbuildSlice_zero elemT_26 zeroT_9 szT_9 rfl rfl (by omega : 0 < 1)]
    rw [vappend_copy elemT_26 zokT_9 szT_9 (by omega) hx1 (by rw [bytesT_9]; exact hb) hb2]
    by_cases h0 : xs.length = 0
    · have : xs = [] := List.length_eq_zero_iff.1 h0
      subst this
      simp only [List.length_nil, if_true, onR_some]
      exact ⟨Ext.refl h, by simp [strip, stripE, below, belowE], rfl⟩
    · rw [if_neg h0]
      simp only [onR_some, (strip_plainE (sz := 1) hx _).1]
      exact ⟨(Ext.refl h).new (Nat.le_refl _) _, below_mono (Nat.zero_le _) _ (strip_plainE hx .no).2, trivial⟩

/-- The cells of an expression. -/
theorem shp_expr {k : Nat} {e : List D} (he : Shp Tryz.prog k 29 e) : ∃ (j : Nat) (a : Int) (s t : List UInt8) (kd : D) (xs : List (List D)), j < k ∧ e = [.int .i64 a, .str s, .str t, kd] ∧ IsSl 4 xs kd ∧ (kd = .nilsl ∨ kd = .sl 4 xs .no) ∧ xs.length ≤ 1048576 ∧ ∀ x ∈ xs, Shp Tryz.prog j 29 x := by
  obtain ⟨j, hj, hf⟩ := shp_struct Tryz.underlying29 he
  obtain ⟨c1, r1, rfl, h1, hf⟩ := shpF_cons hf
  obtain ⟨c2, r2, rfl, h2, hf⟩ := shpF_cons hf
  obtain ⟨c3, r3, rfl, h3, hf⟩ := shpF_cons hf
  obtain ⟨c4, r4, rfl, h4, hf⟩ := shpF_cons hf
  obtain rfl := shpF_nil hf
  obtain ⟨a, rfl, _⟩ := shp_int Tryz.underlying3 h1
  obtain ⟨s, rfl, _⟩ := shp_str Tryz.underlying9 h2
  obtain ⟨t, rfl, _⟩ := shp_str Tryz.underlying9 h3
  obtain ⟨d, xs, j', rfl, hj', h4, h5, h6, h7⟩ := shp_sl Tryz.underlying27 szT_29 h4
  exact ⟨j', a, s, t, d, xs, by omega, rfl, h4, h5, h6, h7⟩

theorem shp_expr_len {k : Nat} {e : List D} (he : Shp Tryz.prog k 29 e) : e.length = 4 := by
  obtain ⟨_, _, _, _, _, _, _, rfl, _⟩ := shp_expr he
  rfl

/-- conflict.own returns what it is handed. -/
theorem c_own : ∀ (k : Nat) (e : List D), Shp Tryz.prog k 29 e → ∀ h, VCall Tryz.prog 105 [.agg e] h fun r h' => h' = h ∧ r = .agg e := by
  intro k
  induction k using Nat.strongRecOn with
  | _ k ih =>
  intro e he h
  have hpl := Shp_plain k 29 e he
  obtain ⟨j, a, s, t, kd, xs, hj, rfl, hd, hd2, hl, hx⟩ := shp_expr he
  have hx4 : ∀ x ∈ xs, x.length = 4 := fun x h => shp_expr_len (hx x h)
  refine VCall.pure (by kernel_rfl) fun hok => VCall.strip ?_
  by_cases h0 : xs = []
  · subst h0
    refine VCall.of_fn (g := cfg105) mix Tryz.func105 ok105 rfl rfl ?_
    simp only [Tryz.f105, Option.getD_some]
    have e2 : ∀ o, (h.new h.next o).next = h.next + 1 := fun o => next_new_eq h o
    have hrow : ∀ o1 o2 : Obj, ((h.new h.next o1).new (h.next + 1) o2).at' h.next = some o1 := fun o1 o2 => by rw [new_keep (by omega), new_at]
    simp only [go_sem, Nat.reduceEqDiff, ↓reduceIte, mu105, List.contains_cons, Nat.reduceBEq, vpart_false, Nat.reduceAdd, Nat.zero_add, e2, hrow]
    refine (c_cloneL hd hx4 hl _).mono ?_
    rintro r h2 (⟨_, rfl, hr⟩ | ⟨h1, _⟩)
    rotate_left
    · exact absurd rfl h1
    have hr1 : r.cells = [r] ∧ r.flat = true ∧ IsSl 4 [] r ∧ strip r = kd ∧ below 0 r := by
      rcases hr with ⟨rfl, rfl⟩ | ⟨rfl, h1⟩
      · exact ⟨rfl, rfl, IsSl.nil, rfl, trivial⟩
      · refine ⟨rfl, rfl, IsSl.mk _, ?_, by simp [below, belowE]⟩
        rcases hd2 with rfl | rfl
        · cases h1
        · rfl
    obtain ⟨r1, r2, r3, r4, r5⟩ := hr1
    rw [vstore_cell (cs := [.int .i64 a, .str s, .str t, kd]) (hrow _ _) szT_27 (by simp) r1 r2]
    simp only [go_sem, Nat.reduceEqDiff, ↓reduceIte, List.set_cons_succ, List.set_cons_zero, vpart_false, vlen_sl r3 Tryz.underlying27, List.length_nil]
    refine vwp_range (fun i fr h' => fr 1 = .ptr h.next 0 ∧ fr 2 = .ptr (h.next + 1) 0 ∧ fr 10 = .int .i64 0 ∧ fr 11 = .int .i64 (i : Int) ∧ h'.at' h.next = some (.row [.int .i64 a, .str s, .str t, r]) ∧ h'.at' (h.next + 1) = some (.row [.int .i64 0, .str [], .str [], .nilsl]) ∧ Ext h h') 0 ?_ ?_
    · simp only [go_sem, Nat.reduceEqDiff, ↓reduceIte, true_and]
      refine ⟨rfl, rfl, ?_, ((((Ext.refl h).new (Nat.le_refl _) _).new (by omega) _).set (Nat.le_refl _) _)⟩
      simp [Heap.new, Heap.set]
    · rintro i fr h' hi ⟨f1, f2, f10, f11, g1, g2, hext⟩
      have hie : i = 0 := by omega
      subst hie
      have hw : vpart true 4 [.int .i64 a, .str s, .str t, r] 0 = some (.agg [.int .i64 a, .str s, .str t, r]) := vpart_whole rfl (by omega)
      simp only [go_sem, Nat.reduceEqDiff, ↓reduceIte, f1, f2, f10, f11]
      rw [decide_eq_false (by omega)]
      simp only [go_sem, Nat.reduceEqDiff, ↓reduceIte, f1, f2, f10, f11, g1, hw]
      rw [vstore_whole (cs' := [.int .i64 a, .str s, .str t, r]) g2 szT_29 rfl (by simp) (by simp only [List.all_cons, List.all_nil, r2]; rfl)]
      simp only [go_sem, hw]
      have h4 : stripL [.int .i64 a, .str s, .str t, r] = [.int .i64 a, .str s, .str t, kd] := by
        simp only [stripL, r4]
        rfl
      rw [strip, h4]
      exact ⟨hext.set (by omega) _, belowL_mono (Nat.zero_le _) _ hpl.2.1, rfl⟩
  · refine VCall.freezeD ?_
    refine VCall.of_fn (g := cfg105) mix Tryz.func105 ok105 rfl rfl ?_
    simp only [Tryz.f105, Option.getD_some]
    have e2 : ∀ o, (h.new h.next o).next = h.next + 1 := fun o => next_new_eq h o
    have e3 : ∀ o1 o2 : Obj, ((h.new h.next o1).new (h.next + 1) o2).next = h.next + 2 := fun o1 o2 => by rw [next_new_ge _ (by rw [e2]; exact Nat.le_refl _)]
    have hrow : ∀ o1 o2 : Obj, ((h.new h.next o1).new (h.next + 1) o2).at' h.next = some o1 := fun o1 o2 => by rw [new_keep (by omega), new_at]
    simp only [go_sem, Nat.reduceEqDiff, ↓reduceIte, mu105, List.contains_cons, Nat.reduceBEq, vpart_false, Nat.reduceAdd, Nat.zero_add, e2, hrow]
    refine (c_cloneL hd hx4 hl _).mono ?_
    rintro r h2 (⟨h1, _⟩ | ⟨_, rfl, rfl⟩)
    · exact absurd h1 h0
    simp only [e3]
    rw [vstore_cell (cs := [.int .i64 a, .str s, .str t, kd]) (by rw [new_keep (by omega), hrow]) szT_27 (by simp) rfl rfl]
    simp only [go_sem, Nat.reduceEqDiff, ↓reduceIte, List.set_cons_succ, List.set_cons_zero, vpart_false, vlen_rs Tryz.underlying27]
    refine vwp_range (fun i fr h' => fr 1 = .ptr h.next 0 ∧ fr 2 = .ptr (h.next + 1) 0 ∧ fr 10 = .int .i64 xs.length ∧ fr 11 = .int .i64 (i : Int) ∧ h'.at' h.next = some (.row [.int .i64 a, .str s, .str t, .rs (h.next + 2) 4 0 xs.length]) ∧ h'.at' (h.next + 1) = some (.row [.int .i64 0, .str [], .str [], .nilsl]) ∧ h'.at' (h.next + 2) = some (.row xs.flatten) ∧ Ext h h') xs.length ?_ ?_
    · simp only [go_sem, Nat.reduceEqDiff, ↓reduceIte, true_and]
      refine ⟨rfl, ?_, ?_, (((((Ext.refl h).new (Nat.le_refl _) _).new (by omega) _).new (by omega) _).set (Nat.le_refl _) _)⟩
      · simp [Heap.new, Heap.set]
      · simp [Heap.new, Heap.set]
    · rintro i fr h' hi ⟨f1, f2, f10, f11, g1, g2, g3, hext⟩
      simp only [go_sem, Nat.reduceEqDiff, ↓reduceIte, f1, f2, f10, f11]
      by_cases hlt : i < xs.length
      · rw [decide_eq_true (by exact_mod_cast hlt)]
        simp only [go_sem, Nat.reduceEqDiff, ↓reduceIte, f1, f2, f10, f11]
        refine vwp_plan h' [(0, .no, true), (1, .st, true), (2, .no, true), (3, .no, true), (4, .no, true), (5, .no, true), (6, .no, true), (7, .no, true), (8, .no, true), (9, .no, true), (10, .no, false)] (by kernel_rfl) (by kernel_rfl) (fun _ _ e => e) ?_
        have hm : xs[i] ∈ xs := List.getElem_mem hlt
        have hpart := vpart_flat hx4 (by omega) (List.getElem?_eq_getElem hlt)
        simp only [go_sem, Nat.reduceEqDiff, ↓reduceIte, f1, f2, f10, f11, g1, g3, Nat.zero_add, vpart_false, vindexAddr_rs elemT_27 szT_29 hlt, hpart]
        refine (ih j hj _ (hx _ hm) h').mono ?_
        rintro r h3 ⟨rfl, rfl⟩
        simp only [go_sem, vindexAddr_rs elemT_27 szT_29 hlt]
        rw [vstore_flat g3 hx4 (by omega) szT_29 hlt (hx4 _ hm) (Shp_plain _ _ _ (hx _ hm)).1, List.set_getElem_self]
        simp only [go_sem]
        refine ⟨hlt, by rw [wrap_succ (by unfold lim; omega)], ?_, ?_, hext.set (by omega) _⟩
        · simp [Heap.set, g1]
        · simp [Heap.set, g2]
      · have hie : i = xs.length := by omega
        subst hie
        rw [decide_eq_false (by omega)]
        have hw : vpart true 4 [.int .i64 a, .str s, .str t, .rs (h.next + 2) 4 0 xs.length] 0 = some (.agg [.int .i64 a, .str s, .str t, .rs (h.next + 2) 4 0 xs.length]) := vpart_whole rfl (by omega)
        simp only [go_sem, Nat.reduceEqDiff, ↓reduceIte, f1, f2, f10, f11, g1, hw]
        rw [vstore_whole (cs' := [.int .i64 a, .str s, .str t, .rs (h.next + 2) 4 0 xs.length]) g2 szT_29 rfl (by simp) rfl]
        simp only [go_sem, hw]
        refine ⟨h.next + 2, xs.flatten, by simp [Heap.set, g3], (hext.set (by omega) _).del (by omega), ?_⟩
        have hfr : frzL (h.next + 2) xs.flatten [.int .i64 a, .str s, .str t, .rs (h.next + 2) 4 0 xs.length] = [.int .i64 a, .str s, .str t, .sl 4 xs .no] := by
          simp only [frzL, frz_rs hx4 rfl rfl]
          rfl
        have hkd : kd = .sl 4 xs .no := by
          rcases hd2 with rfl | rfl
          · rcases hd with ⟨_, h1⟩ | ⟨tk, h1⟩
            · exact absurd h1 h0
            · cases h1
          · rfl
        subst hkd
        rw [frz, hfr, strip, hpl.2.2]
        exact ⟨belowL_mono (Nat.zero_le _) _ hpl.2.1, rfl⟩
end Go.V
namespace Go.V
open Go.Proofs
set_option maxRecDepth 100000
set_option linter.unusedSimpArgs false

/-- The cells of a fact. -/
theorem shp_fact {k : Nat} {c : List D} (hc : Shp Tryz.prog k 31 c) : ∃ (j : Nat) (a1 a2 a3 a4 a5 : Int) (s1 s2 s3 s4 : List UInt8) (b : Bool) (kd l : D) (ls : List (List D)), j < k ∧ c = [.int .i64 a1, .str s1, .str s2, .int .i64 a2, .int .i64 a3, .int .i64 a4, .bool b, .int .i64 a5, .str s3, .str s4, kd, l] ∧
    Shp Tryz.prog j 29 [.int .i64 a5, .str s3, .str s4, kd] ∧ IsSl 1 ls l ∧ (l = .nilsl ∨ l = .sl 1 ls .no) ∧ ls.length ≤ 1048576 ∧ (∀ x ∈ ls, PlainC x) ∧ ∀ x ∈ ls, x.length = 1 := by
  obtain ⟨j, hj, hf⟩ := shp_struct Tryz.underlying31 hc
  obtain ⟨c1, r1, rfl, h1, hf⟩ := shpF_cons hf
  obtain ⟨c2, r2, rfl, h2, hf⟩ := shpF_cons hf
  obtain ⟨c3, r3, rfl, h3, hf⟩ := shpF_cons hf
  obtain ⟨c4, r4, rfl, h4, hf⟩ := shpF_cons hf
  obtain ⟨c5, r5, rfl, h5, hf⟩ := shpF_cons hf
  obtain ⟨c6, r6, rfl, h6, hf⟩ := shpF_cons hf
  obtain ⟨c7, r7, rfl, h7, hf⟩ := shpF_cons hf
  obtain ⟨c8, r8, rfl, h8, hf⟩ := shpF_cons hf
  obtain ⟨c9, r9, rfl, h9, hf⟩ := shpF_cons hf
  obtain rfl := shpF_nil hf
  obtain ⟨a1, rfl, _⟩ := shp_int Tryz.underlying3 h1
  obtain ⟨s1, rfl, _⟩ := shp_str Tryz.underlying9 h2
  obtain ⟨s2, rfl, _⟩ := shp_str Tryz.underlying9 h3
  obtain ⟨a2, rfl, _⟩ := shp_int Tryz.underlying3 h4
  obtain ⟨a3, rfl, _⟩ := shp_int Tryz.underlying3 h5
  obtain ⟨a4, rfl, _⟩ := shp_int Tryz.underlying3 h6
  obtain ⟨b, rfl⟩ := shp_bool Tryz.underlying4 h7
  obtain ⟨_, a5, s3, s4, kd, _, _, rfl, _⟩ := shp_expr h8
  obtain ⟨l, ls, j', rfl, _, g1, g2, g3, g4⟩ := shp_sl Tryz.underlying26 szT_9 h9
  exact ⟨j, a1, a2, a3, a4, a5, s1, s2, s3, s4, b, kd, l, ls, hj, rfl, h8, g1, g2, g3, fun x hx => Shp_plain _ _ _ (g4 x hx), fun x hx => by obtain ⟨_, rfl, _⟩ := shp_str Tryz.underlying9 (g4 x hx); rfl⟩

theorem shp_fact_len {k : Nat} {c : List D} (hc : Shp Tryz.prog k 31 c) : c.length = 12 := by
  obtain ⟨_, _, _, _, _, _, _, _, _, _, _, _, _, _, _, rfl, _⟩ := shp_fact hc
  rfl

/-- Integers as elements. -/
def ints (l : List Int) : List (List D) := l.map fun n => [.int .i64 n]
theorem ints_length (l : List Int) : (ints l).length = l.length := List.length_map ..
theorem ints_get {l : List Int} {i : Nat} (h : i < l.length) : (ints l)[i]? = some [.int .i64 l[i]] := by simp [ints, h]

/-- conflict.chosen. -/
theorem c_chosen (x f : D) (h : Heap) (hx : x.notTuple = true) (hf : f.notTuple = true) (cx : x.cells = [x]) (cf : f.cells = [f]) : VCall Tryz.prog 63 [x, f] h fun r h' => h' = h ∧ r = .fn (.func 104) [] [.iptr [f] 0, .iptr [x] 0] := by
  refine VCall.of_fn (g := cfg63) mix Tryz.func63 ok63 rfl rfl ?_
  simp only [Tryz.f63, Option.getD_some]
  simp only [go_sem, Nat.reduceEqDiff, ↓reduceIte, cfg63, hx, hf, cx, cf]

/-- The facts with some indices. -/
def picks (xs : List (List D)) (ks : List Int) : List (List D) := ks.map fun k => xs.getD k.toNat []

/-- conflict.chosen's iterator. -/
theorem c_chosen1 {k : Nat} {x f : D} {xs : List (List D)} {ks : List Int} (hx : IsSl 12 xs x) (hxs : ∀ c ∈ xs, Shp Tryz.prog k 31 c) (hf : IsSl 1 (ints ks) f) (hlen : ks.length ≤ 1048576) (hks : ∀ n ∈ ks, 0 ≤ n ∧ n.toNat < xs.length)
    {id : Nat} {Y : Nat → (Nat → Prop) → Heap → Prop} {Z : (Nat → Prop) → Heap → Prop} (y : Yld Tryz.prog id ks.length (fun i => [.agg ((picks xs ks).getD i [])]) Y Z) {S : Nat → Prop} {h : Heap} (hY : Y 0 S h) :
    VCall Tryz.prog 104 [.yld id, .iptr [f] 0, .iptr [x] 0] h fun _ h' => ∃ S', But S h h' ∧ (Y ks.length S' h' ∨ Z S' h') := by
  refine VCall.of_fn (g := cfg104) mix Tryz.func104 ok104 rfl rfl ?_
  simp only [Tryz.f104, Option.getD_some]
  have hfl : ((ints ks).length : Int) = ks.length := by rw [ints_length]
  simp only [go_sem, Nat.reduceEqDiff, ↓reduceIte, vlen_sl hf Tryz.underlying46, hfl]
  refine vwp_range (fun i fr h' => fr 0 = .yld id ∧ fr 2 = .iptr [x] 0 ∧ fr 7 = f ∧ fr 8 = .int .i64 ks.length ∧ fr 9 = .int .i64 (i : Int) ∧ ∃ S', (∀ j, S' j → S j ∨ h.next ≤ j) ∧ But S h h' ∧ Y i S' h') ks.length ?_ ?_
  · simp only [go_sem, Nat.reduceEqDiff, ↓reduceIte, true_and]
    exact ⟨rfl, S, fun j hj => .inl hj, But.refl S h, hY⟩
  rintro i fr h' hi ⟨f0, f2, f7, f8, f9, S', hS, hbut, hYi⟩
  simp only [go_sem, Nat.reduceEqDiff, ↓reduceIte, f0, f2, f7, f8, f9]
  by_cases hlt : i < ks.length
  · rw [decide_eq_true (by exact_mod_cast hlt)]
    obtain ⟨hk0, hkl⟩ := hks _ (List.getElem_mem hlt)
    obtain ⟨c, hc⟩ : ∃ c, xs[ks[i].toNat]? = some c := ⟨_, List.getElem?_eq_getElem hkl⟩
    have hm : c ∈ xs := List.mem_of_getElem? hc
    have hel : (picks xs ks).getD i [] = c := by simp [picks, hlt, hc]
    have hidx := vindexAddr_slI hx elemT_25 szT_31 (k := .i64) hk0 hc
    have hfc := hxs c hm
    have hpl := Shp_plain _ _ _ hfc
    have hcl := shp_fact_len hfc
    obtain ⟨j, a1, a2, a3, a4, a5, s1, s2, s3, s4, b, kd, l, ls, hj, hceq, he, hl1, hl2, hl3, hl4, hl5⟩ := shp_fact hfc
    have hw : vpart true 12 c 0 = some (.agg c) := vpart_whole hcl (by omega)
    have hw2 : vpart true 4 c 7 = some (.agg [.int .i64 a5, .str s3, .str s4, kd]) := by rw [hceq]; rfl
    have hw3 : c[11]? = some l := by rw [hceq]; rfl
    have hst : ∀ (h : Heap) (id : Nat), vstore Tryz.prog 31 (.ptr id 0) (.agg c) (h.new id (.row [.int .i64 0, .str [], .str [], .int .i64 0, .int .i64 0, .int .i64 0, .bool false, .int .i64 0, .str [], .str [], .nilsl, .nilsl])) = some (h.new id (.row c)) := fun h id => vstore_new szT_31 (by omega) rfl hcl hpl.1
    simp only [go_sem, Nat.reduceEqDiff, ↓reduceIte, f0, f2, f7, f8, f9, vindexAddr_sl hf elemT_46 szT_3 (ints_get hlt), vpart_false, hidx, hw, hst]
    refine vwp_plan _ [(0, .no, true), (1, .no, true), (3, .no, true), (4, .st, true), (2, .no, true), (6, .no, true), (5, .no, true), (7, .no, false), (8, .no, false), (9, .no, false)] (by kernel_rfl) (by kernel_rfl) (fun _ _ e => e) ?_
    simp only [go_sem, Nat.reduceEqDiff, ↓reduceIte, f0, f2, f7, f8, f9, Nat.zero_add, Nat.reduceAdd, vpart_false, hw2, hw3]
    have hstrip : strip l = l ∧ l.cells = [l] := by
      rcases hl2 with rfl | rfl
      · exact ⟨rfl, rfl⟩
      · exact ⟨(strip_plainE hl4 _).1, rfl⟩
    refine (c_own j _ he _).mono ?_
    rintro r h2 ⟨rfl, rfl⟩
    simp only [go_sem]
    refine (c_cloneS hl1 hl4 hl5 hl3 _).mono ?_
    rintro r h2 ⟨rfl, rfl⟩
    rw [hstrip.1, vstore_same (new_at _ _ _) szT_29 hw2 hpl.1]
    simp only [go_sem]
    rw [vstore_same1 (new_at _ _ _) szT_26 hw3 hstrip.2 hpl.1]
    simp only [go_sem, hw]
    have hex : Ext h' (h'.new h'.next (.row c)) := (Ext.refl h').new (Nat.le_refl _) _
    have hgo := y.go i S' _ hlt (y.ext hYi hex)
    simp only [hel] at hgo
    refine hgo.mono ?_
    rintro r h3 ⟨S2, hS2, hb2, hr⟩
    have hbut3 : But S h h3 := by
      exact (hbut.trans (hex.but S) fun i hi => .inl hi).trans hb2 hS
    rcases hr with ⟨rfl, hY2⟩ | ⟨rfl, hZ2⟩
    · simp only [vun, go_sem]
      refine ⟨hlt, by rw [wrap_succ (by unfold lim; omega)], S2, fun j hj => ?_, hbut3, hY2⟩
      rcases hS2 j hj with hj | hj
      · exact hS j hj
      · have h1 := hbut.1
        have h2 := hex.1
        exact .inr (by omega)
    · simp only [vun, go_sem]
      exact ⟨S2, hbut3, .inr hZ2⟩
  · have hie : i = ks.length := by omega
    subst hie
    rw [decide_eq_false (by omega)]
    simp only [go_sem, Nat.reduceEqDiff, ↓reduceIte]
    exact ⟨S', hbut, .inl hYi⟩

/-- conflict.part. -/
theorem c_part {k : Nat} {x f : D} {xs : List (List D)} {ks : List Int} (hx : IsSl 12 xs x) (hxs : ∀ c ∈ xs, Shp Tryz.prog k 31 c) (hf : IsSl 1 (ints ks) f) (hlen : ks.length ≤ 1048576) (hks : ∀ n ∈ ks, 0 ≤ n ∧ n.toNat < xs.length) (h : Heap) :
    VCall Tryz.prog 28 [x, f] h fun r h' => h' = h ∧ Fin 12 (picks xs ks) r := by
  have cx : x.cells = [x] ∧ x.notTuple = true := by rcases hx with ⟨rfl, _⟩ | ⟨tk, rfl⟩ <;> exact ⟨rfl, rfl⟩
  have cf : f.cells = [f] ∧ f.notTuple = true := by rcases hf with ⟨rfl, _⟩ | ⟨tk, rfl⟩ <;> exact ⟨rfl, rfl⟩
  refine VCall.pure (by kernel_rfl) fun hok => VCall.strip ?_
  refine VCall.of_fn (g := cfg28) mix Tryz.func28 ok28 rfl rfl ?_
  simp only [Tryz.f28, Option.getD_some]
  simp only [go_sem, Nat.reduceEqDiff, ↓reduceIte]
  refine (c_chosen x f _ cx.2 cf.2 cx.1 cf.1).mono ?_
  rintro r h2 ⟨rfl, rfl⟩
  simp only [go_sem, Nat.reduceEqDiff, ↓reduceIte]
  simp only [next_new_eq]
  generalize hL : LRec.mk _ _ _ _ _ _ _ = L
  have hpl : ∀ c ∈ picks xs ks, ∃ c', c' ∈ xs ∧ c = c' := fun c hc => by
    obtain ⟨n, hn, rfl⟩ := List.mem_map.1 hc
    obtain ⟨h1, h2⟩ := hks n hn
    exact ⟨xs[n.toNat], List.getElem_mem h2, by simp [h2]⟩
  have hpk : (picks xs ks).length = ks.length := List.length_map ..
  have hsh : ∀ c ∈ picks xs ks, Shp Tryz.prog k 31 c := fun c hc => by obtain ⟨c', h1, rfl⟩ := hpl c hc; exact hxs _ h1
  have y : Yld Tryz.prog (h.next + 1) ks.length (fun i => [.agg ((picks xs ks).getD i [])]) (YApp h.next 12 L (picks xs ks)) (fun _ _ => False) := by
    refine ⟨fun k S h y => y.here, fun k S h h' y hn hk => y.loc hn hk, fun S h hz => hz.elim, fun S h h' hz => hz.elim, fun i S h3 hi hy => ?_⟩
    obtain ⟨c, hc⟩ : ∃ c, (picks xs ks)[i]? = some c := ⟨_, List.getElem?_eq_getElem (by omega)⟩
    have hcm := List.mem_of_getElem? hc
    have hcl := shp_fact_len (hsh c hcm)
    have hcf := (Shp_plain _ _ _ (hsh c hcm)).1
    have hget : (picks xs ks).getD i [] = c := by rw [List.getD_eq_getElem?_getD, hc]; rfl
    simp only [hget]
    obtain ⟨g1, g2, d, g3, g4, g5⟩ := hy
    subst hL
    refine VYield.round (g := cfg28) mix g2 rfl (by kernel_rfl) (by kernel_rfl) (by kernel_rfl) ?_
    simp only [go_sem, Nat.reduceEqDiff, ↓reduceIte, cfg28]
    rw [vstore_new szT_31 (by omega) rfl hcl hcf]
    simp only [go_sem]
    refine ⟨by rw [new_keep (by omega)]; exact g2, ?_⟩
    generalize hB : LRec.mk .busy _ _ _ _ _ _ = B
    generalize h5e : Heap.set (h3.new h3.next (.row c)) (h.next + 1) (.loop B) = h5
    have a1 : h5.at' h.next = some (.row [d]) := by rw [← h5e, set_keep (by omega), new_keep (by omega)]; exact g3
    have a2 : h5.at' h3.next = some (.row c) := by rw [← h5e, set_keep (by omega), new_at]
    have a3 : h5.at' (h.next + 1) = some (.loop B) := by rw [← h5e]; simp [Heap.set]
    have a4 : h5.next = h3.next + 1 := by rw [← h5e, next_set, next_new_eq]
    have a5 : OwnSl h5 12 ((picks xs ks).take i) d := g4.loc (by omega) fun j hj => by
      have := g4.tok hj
      rw [← h5e, set_keep (fun e => by subst e; rw [g2] at this; cases this.2), new_keep (by omega)]
    have hw : vpart true 12 c 0 = some (.agg c) := vpart_whole hcl (by omega)
    simp only [a1, a2, go_sem, Nat.reduceEqDiff, ↓reduceIte, vpart_false, hw]
    rw [vbuildSlice_one (x := .agg c) elemT_25 zeroT_31 szT_31 rfl rfl (by omega) (by omega) rfl hcl]
    simp only [go_sem, ↓reduceIte, Nat.reduceEqDiff]
    have htl : ((picks xs ks).take i).length = i := by rw [List.length_take]; omega
    refine a5.app2 elemT_25 zokT_31 szT_31 (by omega) (by simpa using hcl) (by simp) (by rw [htl, bytesT_31]; unfold lim; simp; omega) (by rw [htl]; unfold lim; simp; omega) ?_
    intro d' h6 b1 b2 b3 b4 b5 b6
    have c1 : h6.at' h.next = some (.row [d]) := by
      rw [b3 _ (by omega) fun ht => ?_]
      · exact a1
      · have := (a5.tok ht).2
        rw [a1] at this; cases this
    rw [vstore_cell c1 szT_25 (by simp) b5 b6]
    simp only [go_sem, List.set_cons_zero]
    have c2 : (h6.set h.next (.row [d'])).at' (h.next + 1) = some (.loop B) := by
      rw [set_keep (by omega), b3 _ (by omega) fun ht => ?_]
      · exact a3
      · have := (a5.tok ht).2
        rw [a3] at this; cases this
    refine roundQ_normal c2 ⟨fun j => j = h.next ∨ j = h.next + 1 ∨ tokOf d' j, fun j hj => ?_, ⟨by simp only [go_sem]; omega, fun j hj hS => ?_⟩, .inl ⟨rfl, by simp only [go_sem]; omega, ?_, d', ?_, ?_, fun j => Iff.rfl⟩⟩
    · rcases hj with rfl | rfl | hj
      · exact .inl ((g5 _).2 (.inl rfl))
      · exact .inl ((g5 _).2 (.inr (.inl rfl)))
      · exact .inr (by have := b4 j hj; omega)
    · have n1 : j ≠ h.next := fun e => hS ((g5 j).2 (.inl e))
      have n2 : j ≠ h.next + 1 := fun e => hS ((g5 j).2 (.inr (.inl e)))
      rw [set_keep n2, set_keep n1, b3 j (by omega) (fun ht => hS ((g5 j).2 (.inr (.inr ht)))), ← h5e, set_keep n2, new_keep (by omega)]
    · rw [set_at_same, ← hB]
    · rw [set_keep (by omega), set_at_same]
    · have : (picks xs ks).take (i + 1) = (picks xs ks).take i ++ [c] := by rw [List.take_add_one, hc]; rfl
      rw [this]
      refine b1.loc (Nat.le_refl _) fun j hj => ?_
      have := b4 j hj
      rw [set_keep (by omega), set_keep (by omega)]
  refine (c_chosen1 hx hxs hf hlen hks y (S := fun i => i = h.next ∨ i = h.next + 1) (h := (h.new h.next (.row [.nilsl])).new (h.next + 1) (.loop L)) ?_).mono ?_
  · refine ⟨?_, new_at _ _ _, .nilsl, by rw [new_keep (by omega), new_at], .inl ⟨rfl, rfl⟩, fun j => by simp [tokOf]⟩
    rw [next_new_ge _ (by rw [next_new_eq]; exact Nat.le_refl _)]
    omega
  rintro r h2 ⟨S', hb, hY | hz⟩
  · obtain ⟨g1, g2, d, g3, g4, g5⟩ := hY
    have hfull : (picks xs ks).take ks.length = picks xs ks := by rw [← hpk, List.take_length]
    rw [hfull] at g4
    refine ⟨L, g2, ?_, ?_⟩
    · rw [← hL]; intro e; cases e
    have hp : L.pending = none := by rw [← hL]
    rw [hp, pendQ_none]
    have a1 : (h2.del (h.next + 1)).at' h.next = some (.row [d]) := by rw [del_keep (by omega)]; exact g3
    simp only [go_sem, Nat.reduceEqDiff, ↓reduceIte, a1, vpart_false]
    have hfin := g4.fin fun c hc => Shp_plain _ _ _ (hsh c hc)
    refine ⟨Ext.del (Ext.of_but (((Ext.refl h).new (Nat.le_refl _) _).new (by omega) _) hb fun j hj => ?_) (by omega), below_mono (Nat.zero_le _) _ hfin.1, hfin.2⟩
    rcases hj with rfl | rfl <;> omega
  · exact hz.elim
end Go.V
namespace Go.V
open Go.Proofs
set_option maxRecDepth 100000
set_option linter.unusedSimpArgs false

/-- The test of conflict.Part's indices. -/
theorem c_part1 {x : D} {xs : List (List D)} (hx : IsSl 12 xs x) (n : Int) (h : Heap) : VCall Tryz.prog 27 [.int .i64 n, .iptr [x] 0] h fun r h' => h' = h ∧ r = .bool (decide (n < 0) || decide (n ≥ (xs.length : Int))) := by
  refine VCall.of_fn (g := cfg27) mix Tryz.func27 ok27 rfl rfl ?_
  simp only [Tryz.f27, Option.getD_some]
  cases hb : decide (n < 0) with
  | true => simp only [go_sem, Nat.reduceEqDiff, ↓reduceIte, hb]
  | false => simp only [go_sem, Nat.reduceEqDiff, ↓reduceIte, hb, vpart_false, vlen_sl hx Tryz.underlying25]

/-- slices.IndexFunc at integers. -/
theorem c_indexFunc {ks : List Int} {f : D} (hf : IsSl 1 (ints ks) f) (hlen : ks.length ≤ 1048576) {g : FuncId} {cap : List D} {p : Int → Bool} (hp : ∀ n ∈ ks, ∀ h, VCall Tryz.prog g ([.int .i64 n] ++ cap) h fun r h' => h' = h ∧ r = .bool (p n)) (h : Heap) :
    VCall Tryz.prog 62 [f, .fn (.func g) [] cap] h fun r h' => h' = h ∧ r = .int .i64 (match ks.findIdx? p with | some i => (i : Int) | none => -1) := by
  refine VCall.of_fn (g := cfg62) mix Tryz.func62 ok62 rfl rfl ?_
  simp only [Tryz.f62, Option.getD_some]
  have hfl : ((ints ks).length : Int) = ks.length := by rw [ints_length]
  simp only [go_sem, Nat.reduceEqDiff, ↓reduceIte, vlen_sl hf Tryz.underlying46, hfl]
  refine vwp_range (fun i fr h' => fr 0 = f ∧ fr 1 = .fn (.func g) [] cap ∧ fr 7 = .int .i64 ks.length ∧ fr 8 = .int .i64 (i : Int) ∧ h' = h ∧ ∀ j (hj : j < ks.length), j < i → p ks[j] = false) ks.length (by simp [go_sem]) ?_
  rintro i fr h' hi ⟨f0, f1, f7, f8, rfl, hj⟩
  simp only [go_sem, Nat.reduceEqDiff, ↓reduceIte, f0, f1, f7, f8]
  by_cases hlt : i < ks.length
  · rw [decide_eq_true (by exact_mod_cast hlt)]
    simp only [go_sem, Nat.reduceEqDiff, ↓reduceIte, f0, f1, f7, f8, vindexAddr_sl hf elemT_46 szT_3 (ints_get hlt), vpart_false]
    refine (hp _ (List.getElem_mem hlt) _).mono ?_
    rintro r h2 ⟨rfl, rfl⟩
    cases he : p ks[i] with
    | true =>
      simp only [go_sem, Nat.reduceEqDiff, ↓reduceIte]
      have : ks.findIdx? p = some i := by
        rw [List.findIdx?_eq_some_iff_getElem]
        exact ⟨hlt, he, fun j hji => by rw [hj j (by omega) hji]; exact Bool.false_ne_true⟩
      rw [this]
    | false =>
      simp only [go_sem, Nat.reduceEqDiff, ↓reduceIte]
      refine ⟨hlt, by rw [wrap_succ (by unfold lim; omega)], fun j hjl hji => ?_⟩
      rcases Nat.lt_succ_iff_lt_or_eq.1 hji with hji | rfl
      · exact hj j hjl hji
      · exact he
  · have hie : i = ks.length := by omega
    subst hie
    rw [decide_eq_false (by omega)]
    simp only [go_sem, Nat.reduceEqDiff, ↓reduceIte]
    have : ks.findIdx? p = none := by
      rw [List.findIdx?_eq_none_iff]
      intro n hn
      obtain ⟨j, hjl, rfl⟩ := List.mem_iff_getElem.1 hn
      exact hj j hjl hjl
    rw [this]

/-- slices.ContainsFunc at integers. -/
theorem c_containsFunc {ks : List Int} {f : D} (hf : IsSl 1 (ints ks) f) (hlen : ks.length ≤ 1048576) {g : FuncId} {cap : List D} {p : Int → Bool} (hp : ∀ n ∈ ks, ∀ h, VCall Tryz.prog g ([.int .i64 n] ++ cap) h fun r h' => h' = h ∧ r = .bool (p n)) (h : Heap) :
    VCall Tryz.prog 26 [f, .fn (.func g) [] cap] h fun r h' => h' = h ∧ r = .bool (ks.any p) := by
  refine VCall.of_fn (g := cfg26) mix Tryz.func26 ok26 rfl rfl ?_
  simp only [Tryz.f26, Option.getD_some]
  simp only [go_sem, Nat.reduceEqDiff, ↓reduceIte]
  refine (c_indexFunc hf hlen hp _).mono ?_
  rintro r h2 ⟨rfl, rfl⟩
  simp only [go_sem, Nat.reduceEqDiff, ↓reduceIte]
  cases hq : ks.findIdx? p with
  | none =>
    have : ks.any p = false := by
      rw [List.findIdx?_eq_none_iff] at hq
      rw [List.any_eq_false]
      intro n hn
      rw [hq n hn]; exact Bool.false_ne_true
    rw [this]; rfl
  | some i =>
    have : ks.any p = true := by
      rw [List.findIdx?_eq_some_iff_getElem] at hq
      obtain ⟨hi, hp, _⟩ := hq
      exact List.any_eq_true.2 ⟨_, List.getElem_mem hi, hp⟩
    rw [this]
    simp
end Go.V
namespace Go.V
open Go.Proofs
set_option maxRecDepth 100000
set_option linter.unusedSimpArgs false

/-- An index that is none. -/
def badIx (n : Nat) (k : Int) : Bool := decide (k < 0) || decide (k ≥ (n : Int))
/-- Each index is greater than the one before it. -/
def Inc (ks : List Int) : Prop := ∀ i (h : i + 1 < ks.length), ks[i] < ks[i + 1]

/-- What conflict.Part and its specification return. -/
def PartR (xs : List (List D)) (ks : List Int) (r : D) : Prop :=
  (ks.any (badIx xs.length) = true ∧ r = .tuple [.nilsl, .int .i64 3]) ∨
  (ks.any (badIx xs.length) = false ∧ ¬ Inc ks ∧ r = .tuple [.nilsl, .int .i64 5]) ∨
  (ks.any (badIx xs.length) = false ∧ Inc ks ∧ ∃ p, Fin 12 (picks xs ks) p ∧ r = .tuple [p, .int .i64 0])

theorem good_ix {n : Nat} {ks : List Int} (h : ks.any (badIx n) = false) : ∀ k ∈ ks, 0 ≤ k ∧ k.toNat < n := fun k hk => by
  have := List.any_eq_false.1 h k hk
  simp only [badIx, Bool.or_eq_true, decide_eq_true_eq, not_or] at this
  omega

/-- conflict.Part. -/
theorem c_Part {k : Nat} {x f : D} {xs : List (List D)} {ks : List Int} (hx : IsSl 12 xs x) (hxs : ∀ c ∈ xs, Shp Tryz.prog k 31 c) (hf : IsSl 1 (ints ks) f) (hlen : ks.length ≤ 1048576) (hk64 : ∀ n ∈ ks, fits .i64 n) (h : Heap) :
    VCall Tryz.prog 11 [x, f] h fun r h' => h' = h ∧ PartR xs ks r := by
  have cx : x.cells = [x] ∧ x.notTuple = true := by rcases hx with ⟨rfl, _⟩ | ⟨tk, rfl⟩ <;> exact ⟨rfl, rfl⟩
  refine VCall.of_fn (g := cfg11) mix Tryz.func11 ok11 rfl rfl ?_
  simp only [Tryz.f11, Option.getD_some]
  have mu11 : ∀ t, cfg11.mu t = List.contains (α := Nat) [] t := fun t => rfl
  simp only [go_sem, Nat.reduceEqDiff, ↓reduceIte, mu11, cx]
  refine (c_containsFunc hf hlen (p := badIx xs.length) (fun n _ h => c_part1 hx n h) _).mono ?_
  rintro r h2 ⟨rfl, rfl⟩
  cases hb : ks.any (badIx xs.length) with
  | true =>
    simp only [go_sem, Nat.reduceEqDiff, ↓reduceIte]
    exact .inl ⟨hb, rfl⟩
  | false =>
    have hgood := good_ix hb
    simp only [go_sem, Nat.reduceEqDiff, ↓reduceIte]
    refine vwp_range (fun i fr h' => fr 1 = f ∧ fr 2 = .iptr [x] 0 ∧ fr 6 = .int .i64 ((i + 1 : Nat) : Int) ∧ h' = h2 ∧ ∀ j (hj : j + 1 < ks.length), j < i → ks[j] < ks[j + 1]) ks.length ?_ ?_
    · simp only [go_sem, Nat.reduceEqDiff, ↓reduceIte]
      exact ⟨rfl, fun j _ hj => absurd hj (Nat.not_lt_zero _)⟩
    rintro i fr h' hi ⟨f1, f2, f6, rfl, hinc⟩
    have hfl : ((ints ks).length : Int) = ks.length := by rw [ints_length]
    simp only [go_sem, Nat.reduceEqDiff, ↓reduceIte, f1, f2, f6, vlen_sl hf Tryz.underlying46, hfl]
    by_cases hlt : i + 1 < ks.length
    · rw [decide_eq_true (by exact_mod_cast hlt)]
      have hw : IntKind.i64.wrap (((i + 1 : Nat) : Int) - 1) = ((i : Nat) : Int) := by rw [wrap_i64 (by omega) (by omega)]; omega
      simp only [go_sem, Nat.reduceEqDiff, ↓reduceIte, f1, f2, f6]
      refine vwp_text (by kernel_rfl) ?_
      simp only [go_sem, Nat.reduceEqDiff, ↓reduceIte, f1, f2, f6, vindexAddr_sl hf elemT_46 szT_3 (ints_get hlt), hw, vindexAddr_sl hf elemT_46 szT_3 (ints_get (show i < ks.length by omega)), vpart_false]
      cases hle : decide (ks[i + 1] ≤ ks[i]) with
      | true =>
        simp only [go_sem, Nat.reduceEqDiff, ↓reduceIte]
        refine .inr (.inl ⟨hb, fun hI => ?_, rfl⟩)
        have := hI i hlt
        have := of_decide_eq_true hle
        omega
      | false =>
        simp only [go_sem, Nat.reduceEqDiff, ↓reduceIte, f1, f2, f6]
        refine ⟨by omega, by rw [wrap_succ (by unfold lim; omega)], fun j hj hji => ?_⟩
        rcases Nat.lt_succ_iff_lt_or_eq.1 hji with hji | rfl
        · exact hinc j hj hji
        · have := of_decide_eq_false hle
          omega
    · rw [decide_eq_false (by omega)]
      simp only [go_sem, Nat.reduceEqDiff, ↓reduceIte, f1, f2, f6, vpart_false]
      refine (c_part hx hxs hf hlen hgood _).mono ?_
      rintro r h3 ⟨rfl, hr⟩
      simp only [go_sem, Nat.reduceEqDiff, ↓reduceIte]
      exact .inr (.inr ⟨hb, fun j hj => hinc j hj (by omega), r, hr, rfl⟩)

/-- The specification of conflict.Part. -/
theorem c_refPart {k : Nat} {x f : D} {xs : List (List D)} {ks : List Int} (hx : IsSl 12 xs x) (hxs : ∀ c ∈ xs, Shp Tryz.prog k 31 c) (hf : IsSl 1 (ints ks) f) (hlen : ks.length ≤ 1048576) (hk64 : ∀ n ∈ ks, fits .i64 n) (h : Heap) :
    VCall Tryz.prog 12 [x, f] h fun r h' => h' = h ∧ PartR xs ks r := by
  refine VCall.pure (by kernel_rfl) fun hok => VCall.strip ?_
  refine VCall.of_fn (g := cfg12) mix Tryz.func12 ok12 rfl rfl ?_
  simp only [Tryz.f12, Option.getD_some]
  have mu12 : ∀ t, cfg12.mu t = List.contains (α := Nat) [] t := fun t => rfl
  have hfl : ((ints ks).length : Int) = ks.length := by rw [ints_length]
  simp only [go_sem, Nat.reduceEqDiff, ↓reduceIte, mu12]
  refine vwp_range (fun i fr h' => fr 0 = x ∧ fr 1 = f ∧ fr 6 = .int .i64 (i : Int) ∧ h' = h ∧ ∀ j (hj : j < ks.length), j < i → badIx xs.length ks[j] = false) ks.length ?_ ?_
  · simp only [go_sem, Nat.reduceEqDiff, ↓reduceIte]
    exact ⟨rfl, fun j _ hj => absurd hj (Nat.not_lt_zero _)⟩
  rintro i fr h' hi ⟨f0, f1, f6, rfl, hgd⟩
  simp only [go_sem, Nat.reduceEqDiff, ↓reduceIte, f0, f1, f6, vlen_sl hf Tryz.underlying46, hfl]
  by_cases hlt : i < ks.length
  · rw [decide_eq_true (by exact_mod_cast hlt)]
    simp only [go_sem, Nat.reduceEqDiff, ↓reduceIte, f0, f1, f6, vindexAddr_sl hf elemT_46 szT_3 (ints_get hlt), vpart_false]
    cases h1 : decide (ks[i] < 0) with
    | true =>
      simp only [go_sem, Nat.reduceEqDiff, ↓reduceIte]
      refine ⟨Ext.refl _, ⟨trivial, trivial, trivial⟩, .inl ⟨List.any_eq_true.2 ⟨_, List.getElem_mem hlt, by simp only [badIx, h1, Bool.true_or]⟩, rfl⟩⟩
    | false =>
      simp only [go_sem, Nat.reduceEqDiff, ↓reduceIte, f0, f1, f6, vindexAddr_sl hf elemT_46 szT_3 (ints_get hlt), vpart_false, vlen_sl hx Tryz.underlying25]
      cases h2 : decide (ks[i] ≥ (xs.length : Int)) with
      | true =>
        simp only [go_sem, Nat.reduceEqDiff, ↓reduceIte]
        refine ⟨Ext.refl _, ⟨trivial, trivial, trivial⟩, .inl ⟨List.any_eq_true.2 ⟨_, List.getElem_mem hlt, by simp only [badIx, h2, Bool.or_true]⟩, rfl⟩⟩
      | false =>
        simp only [go_sem, Nat.reduceEqDiff, ↓reduceIte, f0, f1, f6]
        refine ⟨hlt, by rw [wrap_succ (by unfold lim; omega)], fun j hj hji => ?_⟩
        rcases Nat.lt_succ_iff_lt_or_eq.1 hji with hji | rfl
        · exact hgd j hj hji
        · simp only [badIx, h1, h2, Bool.or_self]
  · have hie : i = ks.length := by omega
    subst hie
    have hb : ks.any (badIx xs.length) = false := by
      rw [List.any_eq_false]
      intro n hn
      obtain ⟨j, hj, rfl⟩ := List.mem_iff_getElem.1 hn
      rw [hgd j hj hj]; exact Bool.false_ne_true
    have hgood := good_ix hb
    rw [decide_eq_false (by omega)]
    simp only [go_sem, Nat.reduceEqDiff, ↓reduceIte]
    have hpk : (picks xs ks).length = ks.length := List.length_map ..
    have hcl : ∀ c ∈ picks xs ks, c.length = 12 ∧ PlainC c := fun c hc => by
      obtain ⟨n, hn, rfl⟩ := List.mem_map.1 hc
      obtain ⟨h1, h2⟩ := hgood n hn
      have hm : xs.getD n.toNat [] ∈ xs := by simp [h2]
      exact ⟨shp_fact_len (hxs _ hm), Shp_plain _ _ _ (hxs _ hm)⟩
    refine vwp_range (fun i fr h2 => fr 0 = x ∧ fr 1 = f ∧ fr 8 = .int .i64 (i : Int) ∧ Ext h' h2 ∧ OwnSl h2 12 ((picks xs ks).take i) (fr 7) ∧ (∀ t, tokOf (fr 7) t → h'.next ≤ t) ∧ ∀ j (hj : j + 1 < ks.length), j + 1 < i → ks[j] < ks[j + 1]) ks.length ?_ ?_
    · simp only [go_sem, Nat.reduceEqDiff, ↓reduceIte, f0, f1]
      exact ⟨rfl, Ext.refl _, .inl ⟨rfl, rfl⟩, fun t ht => ht.elim, fun j _ hj => absurd hj (Nat.not_lt_zero _)⟩
    clear f0 f1 f6 hgd hlt hi
    rintro i fr h2 hi ⟨f0, f1, f8, hext, hown, htok, hinc⟩
    simp only [go_sem, Nat.reduceEqDiff, ↓reduceIte, f0, f1, f8, vlen_sl hf Tryz.underlying46, hfl]
    by_cases hlt : i < ks.length
    · rw [decide_eq_true (by exact_mod_cast hlt)]
      obtain ⟨hk0, hkl⟩ := hgood _ (List.getElem_mem hlt)
      obtain ⟨c, hcx⟩ : ∃ c, xs[ks[i].toNat]? = some c := ⟨_, List.getElem?_eq_getElem hkl⟩
      have hcp : c ∈ picks xs ks := List.mem_map.2 ⟨ks[i], List.getElem_mem hlt, by simp [hcx]⟩
      have hw : vpart true 12 c 0 = some (.agg c) := vpart_whole (hcl c hcp).1 (by omega)
      have htl : ((picks xs ks).take i).length = i := by rw [List.length_take]; omega
      have htk : (picks xs ks).take (i + 1) = (picks xs ks).take i ++ [c] := by
        rw [List.take_add_one]
        simp [picks, hlt, hcx]
      simp only [go_sem, Nat.reduceEqDiff, ↓reduceIte, f0, f1, f8]
      refine vwp_text (by kernel_rfl) ?_
      cases hz : decide ((i : Int) > 0) with
      | false =>
        have hi0 : i = 0 := by have := of_decide_eq_false hz; omega
        simp only [go_sem, Nat.reduceEqDiff, ↓reduceIte, f0, f1, f8, hz]
        simp only [go_sem, Nat.reduceEqDiff, ↓reduceIte, f0, f1, f8, vindexAddr_sl hf elemT_46 szT_3 (ints_get hlt), vindexAddr_slI hx elemT_25 szT_31 hk0 hcx, vpart_false, hw, mu12]
        rw [vbuildSlice_one (x := .agg c) elemT_25 zeroT_31 szT_31 rfl rfl (by omega) (by omega) rfl (hcl c hcp).1]
        simp only [go_sem, Nat.reduceEqDiff, ↓reduceIte, cells_agg, mu12]
        refine hown.app2 elemT_25 zokT_31 szT_31 (by omega) (by simpa using (hcl c hcp).1) (by simp) (by rw [htl, bytesT_31]; unfold lim; simp; omega) (by rw [htl]; unfold lim; simp; omega) ?_
        intro d' h6 b1 b2 b3 b4 b5 b6
        have hex6 : Ext h' h6 := ⟨by have := hext.1; omega, fun j hj => by
          rw [b3 j (by have := hext.1; omega) (fun ht => by have := htok j ht; omega)]
          exact hext.2 j hj⟩
        refine ⟨hlt, by rw [wrap_succ (by unfold lim; omega)], hex6, by rw [htk]; exact b1, fun t ht => by have := b4 t ht; have := hext.1; omega, fun j hj hji => ?_⟩
        omega
      | true =>
        have hi0 : 0 < i := by have := of_decide_eq_true hz; omega
        have hwp : IntKind.i64.wrap ((i : Int) - 1) = ((i - 1 : Nat) : Int) := by rw [wrap_i64 (by omega) (by omega)]; omega
        simp only [go_sem, Nat.reduceEqDiff, ↓reduceIte, f0, f1, f8, hz, hwp, vindexAddr_sl hf elemT_46 szT_3 (ints_get (show i - 1 < ks.length by omega)), vindexAddr_sl hf elemT_46 szT_3 (ints_get hlt), vpart_false]
        cases hge : decide (ks[i - 1] ≥ ks[i]) with
        | true =>
          simp only [go_sem, Nat.reduceEqDiff, ↓reduceIte]
          refine ⟨hext, ⟨trivial, trivial, trivial⟩, .inr (.inl ⟨hb, fun hI => ?_, rfl⟩)⟩
          have h1 := hI (i - 1) (by omega)
          have h2 := of_decide_eq_true hge
          simp only [Nat.sub_add_cancel hi0] at h1
          omega
        | false =>
          simp only [go_sem, Nat.reduceEqDiff, ↓reduceIte, f0, f1, f8, vindexAddr_sl hf elemT_46 szT_3 (ints_get hlt), vindexAddr_slI hx elemT_25 szT_31 hk0 hcx, vpart_false, hw, mu12]
          rw [vbuildSlice_one (x := .agg c) elemT_25 zeroT_31 szT_31 rfl rfl (by omega) (by omega) rfl (hcl c hcp).1]
          simp only [go_sem, Nat.reduceEqDiff, ↓reduceIte, cells_agg, mu12]
          refine hown.app2 elemT_25 zokT_31 szT_31 (by omega) (by simpa using (hcl c hcp).1) (by simp) (by rw [htl, bytesT_31]; unfold lim; simp; omega) (by rw [htl]; unfold lim; simp; omega) ?_
          intro d' h6 b1 b2 b3 b4 b5 b6
          have hex6 : Ext h' h6 := ⟨by have := hext.1; omega, fun j hj => by
            rw [b3 j (by have := hext.1; omega) (fun ht => by have := htok j ht; omega)]
            exact hext.2 j hj⟩
          refine ⟨hlt, by rw [wrap_succ (by unfold lim; omega)], hex6, by rw [htk]; exact b1, fun t ht => by have := b4 t ht; have := hext.1; omega, fun j hj hji => ?_⟩
          rcases Nat.lt_or_ge (j + 1) i with hlt2 | hge2
          · exact hinc j hj hlt2
          · have hj2 : j = i - 1 := by omega
            subst hj2
            have h2 := of_decide_eq_false hge
            simp only [Nat.sub_add_cancel hi0]
            omega
    · have hie : i = ks.length := by omega
      subst hie
      rw [decide_eq_false (by omega)]
      simp only [go_sem, Nat.reduceEqDiff, ↓reduceIte]
      rw [← hpk, List.take_length] at hown
      have hfin := hown.fin fun c hc => (hcl c hc).2
      refine ⟨hext, ⟨below_mono (Nat.zero_le _) _ hfin.1, trivial, trivial⟩, .inr (.inr ⟨hb, fun j hj => hinc j hj hj, _, hfin.2, rfl⟩)⟩
end Go.V
namespace Go.V
open Go.Proofs
set_option maxRecDepth 100000
set_option linter.unusedSimpArgs false

noncomputable def cfg4A : Cfg := ⟨fun _ => false, fun i => (look (α := List (Nat × Fl)) [(14, [(0, .no), (1, .no), (2, .no), (3, .st), (4, .no), (5, .no), (6, .no), (7, .st), (8, .al 0), (9, .al 1), (10, .no), (11, .no)])] i).getD []⟩
theorem ok4A : okFn Tryz.prog cfg4A Tryz.f4 = true := by kernel_rfl

/-- Both return the same error, and the same facts. -/
theorem PartR.both {xs : List (List D)} {ks : List Int} {r1 r2 : D} (h1 : PartR xs ks r1) (h2 : PartR xs ks r2) :
    (∃ e, e ≠ 0 ∧ r1 = .tuple [.nilsl, .int .i64 e] ∧ r2 = .tuple [.nilsl, .int .i64 e]) ∨ (ks.any (badIx xs.length) = false ∧ ∃ p q, Fin 12 (picks xs ks) p ∧ Fin 12 (picks xs ks) q ∧ r1 = .tuple [p, .int .i64 0] ∧ r2 = .tuple [q, .int .i64 0]) := by
  rcases h1 with ⟨a, rfl⟩ | ⟨a, b, rfl⟩ | ⟨a, b, p, hp, rfl⟩ <;> rcases h2 with ⟨a', rfl⟩ | ⟨a', b', rfl⟩ | ⟨a', b', q, hq, rfl⟩
  · exact .inl ⟨3, by decide, rfl, rfl⟩
  · rw [a] at a'; cases a'
  · rw [a] at a'; cases a'
  · rw [a] at a'; cases a'
  · exact .inl ⟨5, by decide, rfl, rfl⟩
  · exact absurd b' b
  · rw [a] at a'; cases a'
  · exact absurd b b'
  · exact .inr ⟨a, p, q, hp, hq, rfl, rfl⟩

theorem PartR.tup {xs : List (List D)} {ks : List Int} {r1 : D} (h1 : PartR xs ks r1) : ∃ p e, r1 = .tuple [p, .int .i64 e] := by
  rcases h1 with ⟨a, rfl⟩ | ⟨a, b, rfl⟩ | ⟨a, b, p, hp, rfl⟩ <;> exact ⟨_, _, rfl⟩

theorem hle_none (n : Nat) (h : Heap) : HLe ⟨n, fun _ => none⟩ h = True := eq_true fun _ _ e => by cases e

theorem set_new_ne {h : Heap} {i j : Nat} {o o' : Obj} (hne : i ≠ j) : (h.new j o).set i o' = (h.set i o').new j o := by
  simp only [Heap.set, Heap.new, Heap.mk.injEq, true_and]
  funext k
  by_cases h1 : k = i
  · by_cases h2 : k = j
    · exact absurd (h1.symm.trans h2) hne
    · simp [h1, hne]
  · simp [h1]

set_option maxHeartbeats 2000000 in
/-- The law of conflict.Part. -/
theorem c_law {k : Nat} {x f : D} {xs : List (List D)} {ks : List Int} (hx : IsSl 12 xs x) (hxs : ∀ c ∈ xs, Shp Tryz.prog k 31 c) (hf : IsSl 1 (ints ks) f) (hlen : ks.length ≤ 1048576) (hk64 : ∀ n ∈ ks, fits .i64 n)
    (hawake : ∀ h, VCall Tryz.prog 10 [] h fun a b => a = .bool true ∧ b = h) (h : Heap) : VCall Tryz.prog 4 [x, f] h fun r h' => r = .bool true := by
  refine VCall.of_fn (g := cfg4A) mix Tryz.func4 ok4A rfl rfl ?_
  simp only [Tryz.f4, Option.getD_some]
  have hfl : ((ints ks).length : Int) = ks.length := by rw [ints_length]
  simp only [go_sem, Nat.reduceEqDiff, ↓reduceIte]
  refine (hawake _).mono ?_
  rintro r h2 ⟨rfl, rfl⟩
  simp only [vun, go_sem, Nat.reduceEqDiff, ↓reduceIte, vlen_sl hx Tryz.underlying25]
  cases h1 : decide ((xs.length : Int) > 100) with
  | true => simp only [go_sem, Nat.reduceEqDiff, ↓reduceIte]
  | false =>
  simp only [go_sem, Nat.reduceEqDiff, ↓reduceIte, vlen_sl hf Tryz.underlying46, hfl]
  cases h2 : decide ((ks.length : Int) > 30) with
  | true => simp only [go_sem, Nat.reduceEqDiff, ↓reduceIte]
  | false =>
  simp only [go_sem, Nat.reduceEqDiff, ↓reduceIte]
  refine (c_Part hx hxs hf hlen hk64 _).mono ?_
  rintro r1 h2 ⟨rfl, hr1⟩
  obtain ⟨p1, e1, rfl⟩ := hr1.tup
  simp only [vextract, go_sem, Nat.reduceEqDiff, ↓reduceIte]
  refine (c_refPart hx hxs hf hlen hk64 _).mono ?_
  rintro r2 h3 ⟨rfl, hr2⟩
  rcases hr1.both hr2 with ⟨e, he, hp1, rfl⟩ | ⟨hb, p, q, hp, hq, hp1, rfl⟩
  · cases hp1
    have hne : (e1 != 0) = true := by simpa using he
    have hvl : ∀ h, vlen Tryz.prog 25 .nilsl h = some (.int .i64 0) := fun h => vlen_sl (sz := 12) IsSl.nil Tryz.underlying25
    simp only [vextract, go_sem, Nat.reduceEqDiff, ↓reduceIte, bne_self_eq_false, hne, hvl, beq_self_eq_true]
  · cases hp1
    have hpk : (picks xs ks).length = ks.length := List.length_map ..
    have hplen : ((picks xs ks).length : Int) = ks.length := by rw [hpk]
    simp only [vextract, go_sem, Nat.reduceEqDiff, ↓reduceIte, bne_self_eq_false, vlen_sl hp.isSl Tryz.underlying25, vlen_sl hf Tryz.underlying46, hfl, hplen]
    have hgood := good_ix hb
    refine vwp_range (fun i fr h' => fr 0 = x ∧ fr 1 = f ∧ fr 5 = p1 ∧ fr 55 = f ∧ fr 56 = .int .i64 ks.length ∧ fr 57 = .int .i64 (i : Int)) ks.length ?_ ?_
    · simp only [go_sem, Nat.reduceEqDiff, ↓reduceIte]
      rfl
    rintro i fr h4 hi ⟨f0, f1, f5, f55, f56, f57⟩
    simp only [go_sem, Nat.reduceEqDiff, ↓reduceIte, f0, f1, f5, f55, f56, f57]
    by_cases hlt : i < ks.length
    · rw [decide_eq_true (by exact_mod_cast hlt)]
      obtain ⟨hk0, hkl⟩ := hgood _ (List.getElem_mem hlt)
      obtain ⟨c, hcx⟩ : ∃ c, xs[ks[i].toNat]? = some c := ⟨_, List.getElem?_eq_getElem hkl⟩
      have hm : c ∈ xs := List.mem_of_getElem? hcx
      have hcp : (picks xs ks)[i]? = some c := by simp [picks, hlt, hcx]
      have hfc := hxs c hm
      have hpl := Shp_plain _ _ _ hfc
      have hcl := shp_fact_len hfc
      have hw : vpart true 12 c 0 = some (.agg c) := vpart_whole hcl (by omega)
      simp only [go_sem, Nat.reduceEqDiff, ↓reduceIte, f0, f1, f5, f55, f56, f57, vindexAddr_sl hf elemT_46 szT_3 (ints_get hlt), vpart_false]
      have mu4 : ∀ t, cfg4A.mu t = false := fun t => rfl
      obtain ⟨j, a1, a2, a3, a4, a5, s1, s2, s3, s4, b, kd, l, ls, hj, hceq, he, hl1, hl2, hl3, hl4, hl5⟩ := shp_fact hfc
      have hbn : ∀ c, vbin Tryz.prog .neq 4 c (.bool b) (.bool b) = some (.bool false) := fun c => by simp [vbin, vcmp, pickEq, veq, Tryz.underlying4]
      have hat : ∀ (hh : Heap) (o1 o2 : Obj), ((hh.new h4.next o1).new (h4.next + 1) o2).at' h4.next = some o1 := fun hh o1 o2 => by rw [new_keep (by omega), new_at]
      have hs1 : ∀ (hh : Heap), vstore Tryz.prog 31 (.ptr h4.next 0) (.agg c) ((hh.new h4.next (.row [.int .i64 0, .str [], .str [], .int .i64 0, .int .i64 0, .int .i64 0, .bool false, .int .i64 0, .str [], .str [], .nilsl, .nilsl])).new (h4.next + 1) (.row [.int .i64 0, .str [], .str [], .int .i64 0, .int .i64 0, .int .i64 0, .bool false, .int .i64 0, .str [], .str [], .nilsl, .nilsl])) =
          some ((hh.new h4.next (.row c)).new (h4.next + 1) (.row [.int .i64 0, .str [], .str [], .int .i64 0, .int .i64 0, .int .i64 0, .bool false, .int .i64 0, .str [], .str [], .nilsl, .nilsl])) := fun hh => by
        rw [vstore_whole (cs' := c) (hat _ _ _) (szT_31.trans hcl.symm) (by rw [hcl]; rfl) (by omega) hpl.1, set_new_ne (by omega), new_set]
      have hs2 : ∀ (hh : Heap), vstore Tryz.prog 31 (.ptr (h4.next + 1) 0) (.agg c) (hh.new (h4.next + 1) (.row [.int .i64 0, .str [], .str [], .int .i64 0, .int .i64 0, .int .i64 0, .bool false, .int .i64 0, .str [], .str [], .nilsl, .nilsl])) = some (hh.new (h4.next + 1) (.row c)) := fun hh => vstore_new szT_31 (by omega) rfl hcl hpl.1
      refine vwp_cut (fun fr h' => fr 0 = x ∧ fr 1 = f ∧ fr 5 = p1 ∧ fr 55 = f ∧ fr 56 = .int .i64 ks.length ∧ fr 57 = .int .i64 (i : Int) ∧ fr 11 = .ptr h4.next 0 ∧ fr 12 = .ptr (h4.next + 1) 0 ∧ h'.at' h4.next = some (.row c) ∧ h'.at' (h4.next + 1) = some (.row c)) ?_ ?_
      · refine vwp_planA 1 (fun _ => none) [(0, .no, true), (1, .no, true), (2, .no, true), (3, .st, true), (4, .no, true), (5, .no, true), (6, .no, true), (7, .st, true), (8, .al 0, true), (9, .al 1, true), (10, .no, true), (11, .no, true)] (by kernel_rfl) (by kernel_rfl) (fun _ _ e => by cases e) ?_
        simp only [go_sem, Nat.reduceEqDiff, ↓reduceIte, f0, f1, f5, f55, f56, f57, hle_none, Nat.add_zero, mu4, vindexAddr_sl hp.isSl elemT_25 szT_31 hcp, vindexAddr_slI hx elemT_25 szT_31 hk0 hcx, hw, hs1, hs2, hat]
      have hg : c[0]? = some (.int .i64 a1) ∧ c[1]? = some (.str s1) ∧ c[2]? = some (.str s2) ∧ c[3]? = some (.int .i64 a2) ∧ c[4]? = some (.int .i64 a3) ∧ c[5]? = some (.int .i64 a4) ∧ c[6]? = some (.bool b) ∧ c[8]? = some (.str s3) ∧ c[11]? = some l := by
        rw [hceq]
        exact ⟨rfl, rfl, rfl, rfl, rfl, rfl, rfl, rfl, rfl⟩
      obtain ⟨g0, g1, g2, g3, g4, g5, g6, g8, g11⟩ := hg
      clear hceq hs1 hs2 hat hw f0 f1 f5 f55 f56 f57
      rintro fr h5 ⟨f0, f1, f5, f55, f56, f57, f11, f12, b1, b2⟩
      simp (config := { maxSteps := 20000 }) only [go_sem, Nat.reduceEqDiff, ↓reduceIte, f0, f1, f5, f55, f56, f57, f11, f12, b1, b2, Nat.zero_add, Nat.reduceAdd, vpart_false, bne_self_eq_false, beq_self_eq_true, vstr_neq, hbn, vlen_sl hl1 Tryz.underlying26, g0, g1, g2, g3, g4, g5, g6, g8, g11]
      exact ⟨hlt, by rw [wrap_succ (by unfold lim; omega)]⟩
    · rw [decide_eq_false (by omega)]
      simp only [go_sem, Nat.reduceEqDiff, ↓reduceIte]
end Go.V
