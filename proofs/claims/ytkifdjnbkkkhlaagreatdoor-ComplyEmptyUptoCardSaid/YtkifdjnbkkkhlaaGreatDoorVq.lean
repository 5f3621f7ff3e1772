/- Contracts of duty.Check, duty.CheckChoice, comply.Violations and comply.Complies at no licenses, and of the law ComplyEmpty. No condition. -/
import Derived.Test.YtkifdjnbkkkhlaaGreatDoorVkb
import Derived.Test.YtkifdjnbkkkhlaaGreatDoorVxA
set_option linter.unusedSimpArgs false
set_option linter.unusedVariables false
set_option linter.constructorNameAsVariable false
set_option linter.deprecated false
namespace Go.V

/-! Outputs that are shipped. -/
def outStep (acc : List (List UInt8)) (f : Fact) : List (List UInt8) := if f.kind = 2 then (if acc.any (· == f.out) then acc else acc ++ [f.out]) else acc
/-- Each output that is shipped, once. -/
def outsOf (fs : List Fact) : List (List UInt8) := fs.foldl outStep []

theorem outsOf_append (l m : List Fact) : outsOf (l ++ m) = m.foldl outStep (outsOf l) := List.foldl_append ..
theorem outsOf_take {fs : List Fact} {i : Nat} (h : i < fs.length) : outsOf (fs.take (i + 1)) = outStep (outsOf (fs.take i)) fs[i] := by
  rw [List.take_succ_eq_append_getElem h, outsOf_append]
  rfl
theorem outStep_ge (acc : List (List UInt8)) (f : Fact) : acc.length ≤ (outStep acc f).length := by
  unfold outStep
  split
  · split <;> simp
  · exact Nat.le_refl _
theorem outStep_le (acc : List (List UInt8)) (f : Fact) : (outStep acc f).length ≤ acc.length + 1 := by
  unfold outStep
  split
  · split <;> simp
  · omega
theorem foldl_ge : ∀ (l : List Fact) (acc : List (List UInt8)), acc.length ≤ (l.foldl outStep acc).length
  | [], _ => Nat.le_refl _
  | f :: l, acc => Nat.le_trans (outStep_ge acc f) (foldl_ge l _)
theorem outsOf_mono (fs : List Fact) (i : Nat) : (outsOf (fs.take i)).length ≤ (outsOf fs).length := by
  have e : outsOf fs = (fs.drop i).foldl outStep (outsOf (fs.take i)) := by rw [← outsOf_append, List.take_append_drop]
  rw [e]
  exact foldl_ge _ _
theorem outsOf_len (fs : List Fact) : (outsOf fs).length ≤ fs.length := by
  have : ∀ (l : List Fact) (acc : List (List UInt8)), (l.foldl outStep acc).length ≤ acc.length + l.length := fun l => by
    induction l with
    | nil => intro acc; simp
    | cons f l ih => intro acc; have h1 := ih (outStep acc f); have h2 := outStep_le acc f; simp only [List.foldl_cons, List.length_cons]; omega
  simpa [outsOf] using this fs []

/-! The facts of the statement. -/
def nmB (n : Nat) : List UInt8 := [112, 47, 111, UInt8.ofNat (97 + n % 4)]
def shipF (n : Nat) : Fact := ⟨2, [], nmB n, 0, ((n % 3 : Nat) : Int), 0, false, .int .i64 0, .str [], .str [], .nilsl, .nilsl⟩
def mustF (n : Nat) : Fact := ⟨3, [], nmB n, 0, 0, 0, false, .int .i64 0, .str [], .str [], .nilsl, .nilsl⟩
def lawFs (os : List Nat) : List Fact := os.flatMap fun n => [shipF n, mustF n]

theorem lawFs_length (os : List Nat) : (lawFs os).length = 2 * os.length := by
  induction os with
  | nil => rfl
  | cons n os ih => simp only [lawFs, List.flatMap_cons, List.length_append, List.length_cons, List.length_nil] at ih ⊢; omega
theorem lawFs_take {os : List Nat} {i : Nat} (h : i < os.length) : lawFs (os.take (i + 1)) = lawFs (os.take i) ++ [shipF os[i], mustF os[i]] := by
  rw [List.take_succ_eq_append_getElem h]
  simp only [lawFs, List.flatMap_append, List.flatMap_cons, List.flatMap_nil, List.append_nil]
theorem lawFs_idx : ∀ (os : List Nat) (k : Nat), idxFrom (ofKind 2) (lawFs os) k = (List.range os.length).map fun i => k + 2 * i
  | [], k => rfl
  | n :: os, k => by
    have ih := lawFs_idx os (k + 1 + 1)
    have e : lawFs (n :: os) = shipF n :: mustF n :: lawFs os := rfl
    rw [e, idxFrom, if_pos (show ofKind 2 (shipF n) = true from rfl), idxFrom, if_neg (by simp [ofKind, mustF]), ih, List.length_cons, List.range_succ_eq_map, List.map_cons, List.map_map]
    simp only [List.cons.injEq, Nat.mul_zero, Nat.add_zero, true_and]
    refine List.map_congr_left fun i _ => ?_
    simp only [Function.comp]
    omega
theorem noneV_law (os : List Nat) : noneV (lawFs os) = (List.range os.length).map fun i => [((2 * i : Nat) : Int)] := by
  simp [noneV, lawFs_idx]
theorem outsOf_law {os : List Nat} {i : Nat} (h : i < os.length) : outsOf (lawFs (os.take (i + 1))) = outStep (outsOf (lawFs (os.take i))) (shipF os[i]) := by
  rw [lawFs_take h, outsOf_append]
  simp [outStep, mustF]
theorem lawFs_mem {os : List Nat} {f : Fact} (h : f ∈ lawFs os) : ∃ n ∈ os, f = shipF n ∨ f = mustF n := by
  obtain ⟨n, hn, hf⟩ := List.mem_flatMap.1 h
  refine ⟨n, hn, ?_⟩
  simpa using hf
theorem lawFs_ok {os : List Nat} : ∀ f ∈ lawFs os, f.Ok := fun f h => by
  obtain ⟨n, _, rfl | rfl⟩ := lawFs_mem h <;> rfl
end Go.V
namespace Go.V
open Go.Proofs
/-- No licenses. -/
abbrev cat0 : D := .agg [.nilsl, .nilsl, .nilsl, .nilsl]
theorem k_catCheck (h : Heap) : VCall Tryz.prog 40 [cat0] h fun r h2 => h2 = h ∧ r = .int .i64 0 := (k33.1 h).mono fun a b e => ⟨e.2, e.1⟩
theorem k_complies (h : Heap) : VCall Tryz.prog 9 [cat0, .nilsl, .agg [.nilsl, .sl 1 [] .no]] h fun r h2 => h2 = h ∧ r = .tuple [.bool true, .int .i64 0] := (k57.1 h).mono fun a b e => ⟨e.2, e.1⟩
/-- A fact that duty.Check accepts, without licenses. -/
def Good (f : Fact) : Prop := ∀ h, VCall Tryz.prog 133 [cat0, .agg f.cells] h fun r h2 => h2 = h ∧ r = .int .i64 0
theorem good_ship0 : ∀ o w : Nat, o < 4 → w < 3 → Good ⟨2, [], [112, 47, 111, UInt8.ofNat (97 + o)], 0, (w : Int), 0, false, .int .i64 0, .str [], .str [], .nilsl, .nilsl⟩
  | 0, 0, _, _ => fun h => (k35.1 h).mono fun a b e => ⟨e.2, e.1⟩
  | 0, 1, _, _ => fun h => (k36.1 h).mono fun a b e => ⟨e.2, e.1⟩
  | 0, 2, _, _ => fun h => (k37.1 h).mono fun a b e => ⟨e.2, e.1⟩
  | 1, 0, _, _ => fun h => (k40.1 h).mono fun a b e => ⟨e.2, e.1⟩
  | 1, 1, _, _ => fun h => (k41.1 h).mono fun a b e => ⟨e.2, e.1⟩
  | 1, 2, _, _ => fun h => (k42.1 h).mono fun a b e => ⟨e.2, e.1⟩
  | 2, 0, _, _ => fun h => (k45.1 h).mono fun a b e => ⟨e.2, e.1⟩
  | 2, 1, _, _ => fun h => (k46.1 h).mono fun a b e => ⟨e.2, e.1⟩
  | 2, 2, _, _ => fun h => (k47.1 h).mono fun a b e => ⟨e.2, e.1⟩
  | 3, 0, _, _ => fun h => (k50.1 h).mono fun a b e => ⟨e.2, e.1⟩
  | 3, 1, _, _ => fun h => (k51.1 h).mono fun a b e => ⟨e.2, e.1⟩
  | 3, 2, _, _ => fun h => (k52.1 h).mono fun a b e => ⟨e.2, e.1⟩
  | n + 4, _, h1, _ => by omega
  | 0, n + 3, _, h2 => by omega
  | 1, n + 3, _, h2 => by omega
  | 2, n + 3, _, h2 => by omega
  | 3, n + 3, _, h2 => by omega
theorem good_must0 : ∀ o : Nat, o < 4 → Good ⟨3, [], [112, 47, 111, UInt8.ofNat (97 + o)], 0, 0, 0, false, .int .i64 0, .str [], .str [], .nilsl, .nilsl⟩
  | 0, _ => fun h => (k38.1 h).mono fun a b e => ⟨e.2, e.1⟩
  | 1, _ => fun h => (k43.1 h).mono fun a b e => ⟨e.2, e.1⟩
  | 2, _ => fun h => (k48.1 h).mono fun a b e => ⟨e.2, e.1⟩
  | 3, _ => fun h => (k53.1 h).mono fun a b e => ⟨e.2, e.1⟩
  | n + 4, h1 => by omega
theorem good_law {os : List Nat} : ∀ f ∈ lawFs os, Good f := fun f h => by
  obtain ⟨n, _, rfl | rfl⟩ := lawFs_mem h
  · exact good_ship0 (n % 4) (n % 3) (Nat.mod_lt _ (by omega)) (Nat.mod_lt _ (by omega))
  · exact good_must0 (n % 4) (Nat.mod_lt _ (by omega))
theorem kind_law {os : List Nat} : ∀ f ∈ lawFs os, f.kind = 2 ∨ f.kind = 3 := fun f h => by
  obtain ⟨n, _, rfl | rfl⟩ := lawFs_mem h
  · exact .inl rfl
  · exact .inr rfl
end Go.V
namespace Go.V
open Go.Proofs
set_option maxRecDepth 100000
set_option linter.unusedSimpArgs false
set_option linter.unusedVariables false

theorem one_of {sz : Nat} {xs : List (List D)} {x : D} (hx : IsSl sz xs x) : x.cells = [x] ∧ x.notTuple = true ∧ x.flat = true := by
  rcases hx with ⟨rfl, _⟩ | ⟨tk, rfl⟩ <;> exact ⟨rfl, rfl, rfl⟩

set_option maxHeartbeats 1000000 in
/-- comply.start, at a case without FactLicensed, when no own license is decided. -/
theorem c_start {x own : D} {fs : List Fact} (hx : IsSl 12 (facts fs) x) (hl : fs.length ≤ 1000) (hok : ∀ f ∈ fs, f.Ok) (hk : ∀ f ∈ fs, f.kind = 2 ∨ f.kind = 3) {n : Nat} (hown : IsSl 1 (List.replicate n [.str []]) own) (hn : (outsOf fs).length ≤ n) (h : Heap) :
    VCall Tryz.prog 19 [cat0, x, .agg [.nilsl, own]] h fun r h' => Ext h h' ∧ ∃ m1 m2, r = .iptr (sc0 x m1 m2) 0 ∧ m1 < h'.next ∧ h'.at' m1 = some (.map []) ∧ m2 < h'.next ∧ h'.at' m2 = some (.map []) := by
  obtain ⟨cx1, cx2, cx3⟩ := one_of hx
  obtain ⟨co1, co2, co3⟩ := one_of hown
  have hb : ∀ m1 m2, vbuild Tryz.prog 132 [(0, .agg [.nilsl, .nilsl, .nilsl, .nilsl]), (1, x), (2, .map m1), (3, .map m2)] = some (.agg (sc0 x m1 m2)) := fun m1 m2 => by
    simp [vbuild, placesT_132, zeroT_132, vfill, putAt, cx1, cx2, cells_agg, notTuple_agg, show (D.map m1).notTuple = true from rfl, show (D.map m2).notTuple = true from rfl, show (D.map m1).cells = [.map m1] from rfl, show (D.map m2).cells = [.map m2] from rfl]
  have hw4 : vpart true 4 [D.nilsl, .nilsl, .nilsl, .nilsl] 0 = some cat0 := vpart_whole rfl (by omega)
  have hll : ((facts fs).length : Int) = fs.length := by rw [facts_length]
  refine VCall.of_fn (g := cfg19) mix Tryz.func19 ok19 rfl rfl ?_
  simp only [Tryz.f19, Option.getD_some]
  simp only [go_sem, Nat.reduceEqDiff, ↓reduceIte, mu19, hb, hw4, vlen_sl hx Tryz.underlying25, hll, next_new_eq]
  have e1 : ((h.new h.next (.map [])).new (h.next + 1) (.map [])).at' h.next = some (.map []) := by rw [new_keep (by omega), new_at]
  have e2 : ((h.new h.next (.map [])).new (h.next + 1) (.map [])).at' (h.next + 1) = some (.map []) := new_at _ _ _
  have e3 : ((h.new h.next (.map [])).new (h.next + 1) (.map [])).next = h.next + 2 := by rw [next_new_ge _ (by rw [next_new_eq]; exact Nat.le_refl _)]
  have e4 : Ext h ((h.new h.next (.map [])).new (h.next + 1) (.map [])) := ((Ext.refl h).new (Nat.le_refl _) _).new (by omega) _
  generalize (h.new h.next (.map [])).new (h.next + 1) (.map []) = H at e1 e2 e3 e4 ⊢
  refine vwp_range (fun i fr h' => fr 5 = .iptr [.nilsl, own] 0 ∧ fr 7 = .iptr (sc0 x h.next (h.next + 1)) 0 ∧ fr 19 = x ∧ fr 20 = .int .i64 fs.length ∧ fr 21 = .int .i64 (i : Int) ∧ Ext h h' ∧ h.next + 2 ≤ h'.next ∧ h'.at' h.next = some (.map []) ∧ h'.at' (h.next + 1) = some (.map []) ∧ OwnSl h' 1 (strs (outsOf (fs.take i))) (fr 9) ∧ ∀ j, tokOf (fr 9) j → h.next ≤ j) fs.length ?_ ?_
  · simp only [go_sem, Nat.reduceEqDiff, ↓reduceIte, true_and]
    exact ⟨rfl, e4, by omega, e1, e2, .inl ⟨rfl, rfl⟩, fun j hj => hj.elim⟩
  rintro i fr h' hi ⟨f5, f7, f19, f20, f21, hext, hnx, hm1, hm2, hos, htk⟩
  simp only [go_sem, Nat.reduceEqDiff, ↓reduceIte, f5, f7, f19, f20, f21]
  by_cases hlt : i < fs.length
  · rw [decide_eq_true (by exact_mod_cast hlt)]
    have hm : fs[i] ∈ fs := List.getElem_mem hlt
    have hw : vpart true 12 fs[i].cells 0 = some (.agg fs[i].cells) := vpart_whole (Fact.len _) (by omega)
    have hst : ∀ (h : Heap) (id : Nat), vstore Tryz.prog 31 (.ptr id 0) (.agg fs[i].cells) (h.new id (.row [.int .i64 0, .str [], .str [], .int .i64 0, .int .i64 0, .int .i64 0, .bool false, .int .i64 0, .str [], .str [], .nilsl, .nilsl])) = some (h.new id (.row fs[i].cells)) := fun h id => vstore_new szT_31 (by omega) rfl (Fact.len _) (hok _ hm)
    have hk0 : fs[i].cells[0]? = some (.int .i64 fs[i].kind) := rfl
    have hk2 : fs[i].cells[0 + 2]? = some (.str fs[i].out) := rfl
    have hext1 : Ext h' (h'.new h'.next (.row fs[i].cells)) := (Ext.refl h').new (Nat.le_refl _) _
    have hos1 : OwnSl (h'.new h'.next (.row fs[i].cells)) 1 (strs (outsOf (fs.take i))) (fr 9) := hos.keep hext1.2 hext1.1
    have hm1' : (h'.new h'.next (.row fs[i].cells)).at' h.next = some (.map []) := by rw [hext1.2 _ (by omega)]; exact hm1
    have hm2' : (h'.new h'.next (.row fs[i].cells)).at' (h.next + 1) = some (.map []) := by rw [hext1.2 _ (by omega)]; exact hm2
    have hext2 := hext.trans hext1
    have hn1 := hext1.1
    have hrow := new_at h' h'.next (.row fs[i].cells)
    have hot := outsOf_take hlt
    have hoi : (outsOf (fs.take i)).length ≤ i := by have := outsOf_len (fs.take i); rw [List.length_take] at this; omega
    simp only [go_sem, Nat.reduceEqDiff, ↓reduceIte, f5, f7, f19, f20, f21, vindexAddr_sl hx elemT_25 szT_31 (facts_get hlt), hw, hst, vpart_false, hk0]
    generalize h'.new h'.next (.row fs[i].cells) = H2 at hext1 hos1 hm1' hm2' hext2 hn1 hrow ⊢
    rcases hk _ hm with hki | hki
    · have d1 : ((2 : Int) == 1) = false := rfl
      have d2 : ((2 : Int) == 2) = true := rfl
      simp only [go_sem, Nat.reduceEqDiff, ↓reduceIte, hki, d1, d2, hrow, vpart_false, hk2]
      refine (c_containsS hos1.isSl (by omega) fs[i].out _).mono ?_
      rintro r h3 ⟨rfl, rfl⟩
      cases hany : (outsOf (fs.take i)).any (· == fs[i].out) with
      | true =>
        simp only [go_sem, Nat.reduceEqDiff, ↓reduceIte, f5, f7, f19, f20, f21]
        refine ⟨hlt, by rw [wrap_succ (by unfold lim; omega)], hext2, by omega, hm1', hm2', ?_, htk⟩
        rw [hot, outStep, if_pos hki, if_pos hany]
        exact hos1
      | false =>
        have hlen2 : (outsOf (fs.take (i + 1))).length = (outsOf (fs.take i)).length + 1 := by
          rw [hot, outStep, if_pos hki, if_neg (by rw [hany]; exact Bool.false_ne_true)]; simp
        have hidx : (outsOf (fs.take i)).length < n := by have := outsOf_mono fs (i + 1); omega
        have hrep : (List.replicate n [D.str []])[(outsOf (fs.take i)).length]? = some [.str []] := by simp [hidx]
        have hsl : ((strs (outsOf (fs.take i))).length : Int) = ((outsOf (fs.take i)).length : Nat) := by rw [strs_length]
        have hneq : (([] : List UInt8) == []) = true := rfl
        have hk2' : fs[i].cells[2]? = some (.str fs[i].out) := rfl
        simp only [go_sem, Nat.reduceEqDiff, ↓reduceIte, f5, f7, f19, f20, f21, vpart_false, hrow, vlen_sl hos1.isSl Tryz.underlying26, hsl, vindexAddr_sl hown elemT_26 szT_9 hrep, hneq, List.getElem?_cons_succ, List.getElem?_cons_zero, hk2', mu19]
        rw [vbuildSlice_one (x := .str fs[i].out) elemT_26 zeroT_9 szT_9 rfl rfl (by omega) (by omega) rfl rfl]
        simp only [go_sem, Nat.reduceEqDiff, ↓reduceIte]
        refine hos1.app2 elemT_26 zokT_9 szT_9 (by omega) (by simp [cells_str]) (by simp) (by rw [strs_length, bytesT_9]; unfold lim; simp; omega) (by rw [strs_length]; unfold lim; simp; omega) ?_
        intro d' h6 b1 b2 b3 b4 b5 b6
        have hkeep : ∀ j, j < h3.next → (h3.at' j ≠ some .tok) → h6.at' j = h3.at' j := fun j hj hne => b3 j hj fun ht => hne (hos1.tok ht).2
        refine ⟨hlt, by rw [wrap_succ (by unfold lim; omega)], ?_, by omega, by rw [hkeep _ (by omega) (by rw [hm1']; simp)]; exact hm1', by rw [hkeep _ (by omega) (by rw [hm2']; simp)]; exact hm2', ?_, fun j hj => by have := b4 j hj; have := hext2.1; omega⟩
        · exact ⟨by have := hext2.1; omega, fun j hj => by rw [b3 j (by have := hext2.1; omega) fun ht => by have := htk j ht; omega, hext2.2 j hj]⟩
        · rw [hot, outStep, if_pos hki, if_neg (by rw [hany]; exact Bool.false_ne_true)]
          simpa [strs] using b1
    · have d1 : ((3 : Int) == 1) = false := rfl
      have d2 : ((3 : Int) == 2) = false := rfl
      simp only [go_sem, Nat.reduceEqDiff, ↓reduceIte, hki, d1, d2, f5, f7, f19, f20, f21]
      refine ⟨hlt, by rw [wrap_succ (by unfold lim; omega)], hext2, by omega, hm1', hm2', ?_, htk⟩
      rw [hot, outStep, if_neg (by omega)]
      exact hos1
  · have hie : i = fs.length := by omega
    subst hie
    rw [decide_eq_false (by omega)]
    simp only [go_sem, Nat.reduceEqDiff, ↓reduceIte, f7]
    exact ⟨hext, h.next, h.next + 1, rfl, by omega, hm1, by omega, hm2⟩
end Go.V
namespace Go.V
open Go.Proofs
set_option maxRecDepth 100000
set_option linter.unusedSimpArgs false
set_option linter.unusedVariables false

/-- duty.Check. -/
theorem c_dutyCheck {x : D} {fs : List Fact} (hx : IsSl 12 (facts fs) x) (hl : fs.length ≤ 256) (hok : ∀ f ∈ fs, f.Ok) (hg : ∀ f ∈ fs, Good f) (h : Heap) :
    VCall Tryz.prog 88 [cat0, x] h fun r h' => h' = h ∧ r = .tuple [.int .i64 0, .int .i64 0] := by
  have hw4 : vpart true 4 [D.nilsl, .nilsl, .nilsl, .nilsl] 0 = some cat0 := vpart_whole rfl (by omega)
  have hll : ((facts fs).length : Int) = fs.length := by rw [facts_length]
  have h256 : decide ((fs.length : Int) > 256) = false := decide_eq_false (by omega)
  refine VCall.pure (by kernel_rfl) fun hok' => ?_
  refine VCall.of_fn (g := cfg88) mix Tryz.func88 ok88 rfl rfl ?_
  simp only [Tryz.f88, Option.getD_some]
  simp only [go_sem, Nat.reduceEqDiff, ↓reduceIte, mu88, hw4]
  refine (k_catCheck h).mono ?_
  rintro r h ⟨rfl, rfl⟩
  simp only [go_sem, Nat.reduceEqDiff, ↓reduceIte, show ((0 : Int) != 0) = false from rfl, vlen_sl hx Tryz.underlying25, hll, h256]
  refine vwp_range (fun i fr h' => fr 2 = .iptr [.nilsl, .nilsl, .nilsl, .nilsl] 0 ∧ fr 15 = x ∧ fr 16 = .int .i64 fs.length ∧ fr 17 = .int .i64 (i : Int) ∧ Ext h h') fs.length ?_ ?_
  · simp only [go_sem, Nat.reduceEqDiff, ↓reduceIte, true_and]
    exact ⟨rfl, Ext.refl h⟩
  rintro i fr h' hi ⟨f2, f15, f16, f17, hext⟩
  simp only [go_sem, Nat.reduceEqDiff, ↓reduceIte, f2, f15, f16, f17]
  by_cases hlt : i < fs.length
  · rw [decide_eq_true (by exact_mod_cast hlt)]
    have hm : fs[i] ∈ fs := List.getElem_mem hlt
    have hw : vpart true 12 fs[i].cells 0 = some (.agg fs[i].cells) := vpart_whole (Fact.len _) (by omega)
    have hst : ∀ (h : Heap) (id : Nat), vstore Tryz.prog 31 (.ptr id 0) (.agg fs[i].cells) (h.new id (.row [.int .i64 0, .str [], .str [], .int .i64 0, .int .i64 0, .int .i64 0, .bool false, .int .i64 0, .str [], .str [], .nilsl, .nilsl])) = some (h.new id (.row fs[i].cells)) := fun h id => vstore_new szT_31 (by omega) rfl (Fact.len _) (hok _ hm)
    have hext1 : Ext h' (h'.new h'.next (.row fs[i].cells)) := (Ext.refl h').new (Nat.le_refl _) _
    have hrow := new_at h' h'.next (.row fs[i].cells)
    simp only [go_sem, Nat.reduceEqDiff, ↓reduceIte, f2, f15, f16, f17, vindexAddr_sl hx elemT_25 szT_31 (facts_get hlt), hw, hw4, hst, hrow]
    refine (hg _ hm _).mono ?_
    rintro r h3 ⟨rfl, rfl⟩
    simp only [go_sem, Nat.reduceEqDiff, ↓reduceIte, f2, f15, f16, f17, show ((0 : Int) != 0) = false from rfl]
    exact ⟨hlt, by rw [wrap_succ (by unfold lim; omega)], hext.trans hext1⟩
  · rw [decide_eq_false (by omega)]
    simp only [go_sem, Nat.reduceEqDiff, ↓reduceIte]
    exact ⟨hext, by simp [below, belowL]⟩

set_option maxHeartbeats 1000000 in
/-- duty.Values. -/
theorem c_values {x : D} {fs : List Fact} (hx : IsSl 12 (facts fs) x) (hl : fs.length ≤ 256) (hok : ∀ f ∈ fs, f.Ok) (hg : ∀ f ∈ fs, Good f) (hk : ∀ f ∈ fs, f.kind = 2 ∨ f.kind = 3) (h : Heap) :
    VCall Tryz.prog 47 [cat0, x] h fun r h' => h' = h ∧ ∃ d, r = .tuple [.nilsl, d, .int .i64 0] ∧ Fin 1 (strs (outsOf fs)) d := by
  have hw4 : vpart true 4 [D.nilsl, .nilsl, .nilsl, .nilsl] 0 = some cat0 := vpart_whole rfl (by omega)
  have hll : ((facts fs).length : Int) = fs.length := by rw [facts_length]
  refine VCall.pure (by kernel_rfl) fun hok' => VCall.strip ?_
  refine VCall.of_fn (g := cfg47) mix Tryz.func47 ok47 rfl rfl ?_
  simp only [Tryz.f47, Option.getD_some]
  simp only [go_sem, Nat.reduceEqDiff, ↓reduceIte, mu47, hw4]
  refine (c_dutyCheck hx hl hok hg h).mono ?_
  rintro r h ⟨rfl, rfl⟩
  simp only [go_sem, Nat.reduceEqDiff, ↓reduceIte, vextract, show ((0 : Int) != 0) = false from rfl, vlen_sl hx Tryz.underlying25, hll]
  refine vwp_range (fun i fr h' => fr 9 = .nilsl ∧ fr 24 = x ∧ fr 25 = .int .i64 fs.length ∧ fr 26 = .int .i64 (i : Int) ∧ Ext h h' ∧ OwnSl h' 1 (strs (outsOf (fs.take i))) (fr 10) ∧ ∀ j, tokOf (fr 10) j → h.next ≤ j) fs.length ?_ ?_
  · simp only [go_sem, Nat.reduceEqDiff, ↓reduceIte, true_and]
    exact ⟨rfl, Ext.refl h, .inl ⟨rfl, rfl⟩, fun j hj => hj.elim⟩
  rintro i fr h' hi ⟨f9, f24, f25, f26, hext, hos, htk⟩
  simp only [go_sem, Nat.reduceEqDiff, ↓reduceIte, f9, f24, f25, f26]
  by_cases hlt : i < fs.length
  · rw [decide_eq_true (by exact_mod_cast hlt)]
    have hm : fs[i] ∈ fs := List.getElem_mem hlt
    have hw : vpart true 12 fs[i].cells 0 = some (.agg fs[i].cells) := vpart_whole (Fact.len _) (by omega)
    have hst : ∀ (h : Heap) (id : Nat), vstore Tryz.prog 31 (.ptr id 0) (.agg fs[i].cells) (h.new id (.row [.int .i64 0, .str [], .str [], .int .i64 0, .int .i64 0, .int .i64 0, .bool false, .int .i64 0, .str [], .str [], .nilsl, .nilsl])) = some (h.new id (.row fs[i].cells)) := fun h id => vstore_new szT_31 (by omega) rfl (Fact.len _) (hok _ hm)
    have hk0 : fs[i].cells[0]? = some (.int .i64 fs[i].kind) := rfl
    have hk2 : fs[i].cells[0 + 2]? = some (.str fs[i].out) := rfl
    have hk2' : fs[i].cells[2]? = some (.str fs[i].out) := rfl
    have hext1 : Ext h' (h'.new h'.next (.row fs[i].cells)) := (Ext.refl h').new (Nat.le_refl _) _
    have hos1 : OwnSl (h'.new h'.next (.row fs[i].cells)) 1 (strs (outsOf (fs.take i))) (fr 10) := hos.keep hext1.2 hext1.1
    have hext2 := hext.trans hext1
    have hrow := new_at h' h'.next (.row fs[i].cells)
    have hot := outsOf_take hlt
    have hoi : (outsOf (fs.take i)).length ≤ i := by have := outsOf_len (fs.take i); rw [List.length_take] at this; omega
    simp only [go_sem, Nat.reduceEqDiff, ↓reduceIte, f9, f24, f25, f26, vindexAddr_sl hx elemT_25 szT_31 (facts_get hlt), hw, hst, vpart_false, hk0]
    generalize h'.new h'.next (.row fs[i].cells) = H2 at hext1 hos1 hext2 hrow ⊢
    rcases hk _ hm with hki | hki
    · have d1 : ((2 : Int) == 1) = false := rfl
      have d2 : ((2 : Int) == 2) = true := rfl
      simp only [go_sem, Nat.reduceEqDiff, ↓reduceIte, hki, d1, d2, hrow, vpart_false, hk2, hk2']
      refine (c_containsS hos1.isSl (by omega) fs[i].out _).mono ?_
      rintro r h3 ⟨rfl, rfl⟩
      cases hany : (outsOf (fs.take i)).any (· == fs[i].out) with
      | true =>
        simp only [vun, go_sem, Nat.reduceEqDiff, ↓reduceIte, f9, f24, f25, f26]
        refine ⟨hlt, by rw [wrap_succ (by unfold lim; omega)], hext2, ?_, htk⟩
        rw [hot, outStep, if_pos hki, if_pos hany]
        exact hos1
      | false =>
        simp only [vun, go_sem, Nat.reduceEqDiff, ↓reduceIte, f9, f24, f25, f26, vpart_false, hrow, hk2, hk2', mu47]
        rw [vbuildSlice_one (x := .str fs[i].out) elemT_26 zeroT_9 szT_9 rfl rfl (by omega) (by omega) rfl rfl]
        simp only [go_sem, Nat.reduceEqDiff, ↓reduceIte]
        refine hos1.app2 elemT_26 zokT_9 szT_9 (by omega) (by simp [cells_str]) (by simp) (by rw [strs_length, bytesT_9]; unfold lim; simp; omega) (by rw [strs_length]; unfold lim; simp; omega) ?_
        intro d' h6 b1 b2 b3 b4 b5 b6
        refine ⟨hlt, by rw [wrap_succ (by unfold lim; omega)], ?_, ?_, fun j hj => by have := b4 j hj; have := hext2.1; omega⟩
        · exact ⟨by have := hext2.1; omega, fun j hj => by rw [b3 j (by have := hext2.1; omega) fun ht => by have := htk j ht; omega, hext2.2 j hj]⟩
        · rw [hot, outStep, if_pos hki, if_neg (by rw [hany]; exact Bool.false_ne_true)]
          simpa [strs] using b1
    · have d1 : ((3 : Int) == 1) = false := rfl
      have d2 : ((3 : Int) == 2) = false := rfl
      simp only [go_sem, Nat.reduceEqDiff, ↓reduceIte, hki, d1, d2, f9, f24, f25, f26]
      refine ⟨hlt, by rw [wrap_succ (by unfold lim; omega)], hext2, ?_, htk⟩
      rw [hot, outStep, if_neg (by omega)]
      exact hos1
  · have hie : i = fs.length := by omega
    subst hie
    rw [decide_eq_false (by omega)]
    simp only [go_sem, Nat.reduceEqDiff, ↓reduceIte, f9]
    rw [List.take_length] at hos
    have hfin := hos.fin fun c hc => strs_plain c hc
    simp only [strip, stripL]
    exact ⟨hext, ⟨trivial, below_mono (Nat.zero_le _) _ hfin.1, trivial, trivial⟩, _, rfl, hfin.2⟩
end Go.V
namespace Go.V
open Go.Proofs
set_option maxRecDepth 100000
set_option linter.unusedSimpArgs false
set_option linter.unusedVariables false

/-- slices.ContainsFunc at no licenses. -/
theorem c_containsL0 (f : D) (h : Heap) : VCall Tryz.prog 51 [.nilsl, f] h fun r h' => h' = h ∧ r = .bool false := by
  refine VCall.of_fn (g := cfg51) mix Tryz.func51 ok51 rfl rfl ?_
  simp only [Tryz.f51, Option.getD_some]
  simp only [go_sem, Nat.reduceEqDiff, ↓reduceIte]
  refine VCall.mono (Q := fun r h' => h' = h ∧ r = .int .i64 (-1)) ?_ ?_
  · refine VCall.of_fn (g := cfg91) mix Tryz.func91 ok91 rfl rfl ?_
    simp only [Tryz.f91, Option.getD_some]
    simp only [go_sem, Nat.reduceEqDiff, ↓reduceIte, vlen_sl (IsSl.nil (sz := 4)) Tryz.underlying40, List.length_nil]
    refine vwp_range (fun i fr h' => fr 7 = .int .i64 0 ∧ fr 8 = .int .i64 0 ∧ h' = h) 0 ?_ ?_
    · simp only [go_sem, Nat.reduceEqDiff, ↓reduceIte, true_and]
      rfl
    rintro i fr h' hi ⟨f7, f8, rfl⟩
    have hlt : decide ((0 : Int) < 0) = false := rfl
    simp only [go_sem, Nat.reduceEqDiff, ↓reduceIte, f7, f8, hlt]
  · rintro r h2 ⟨rfl, rfl⟩
    simp only [go_sem, Nat.reduceEqDiff, ↓reduceIte]
    rfl

set_option maxHeartbeats 1000000 in
/-- duty.CheckChoice, when no own license is decided. -/
theorem c_checkChoice {x own : D} {fs : List Fact} (hx : IsSl 12 (facts fs) x) (hl : fs.length ≤ 256) (hok : ∀ f ∈ fs, f.Ok) (hg : ∀ f ∈ fs, Good f) (hk : ∀ f ∈ fs, f.kind = 2 ∨ f.kind = 3) (hown : IsSl 1 (List.replicate (outsOf fs).length [.str []]) own) (p : Bool) (h : Heap) :
    VCall Tryz.prog 18 [cat0, x, .agg [.nilsl, own], .bool p] h fun r h' => h' = h ∧ r = .int .i64 (if p = true ∨ (outsOf fs).length = 0 then 0 else 7) := by
  obtain ⟨co1, co2, co3⟩ := one_of hown
  have hw4 : vpart true 4 [D.nilsl, .nilsl, .nilsl, .nilsl] 0 = some cat0 := vpart_whole rfl (by omega)
  have hol := outsOf_len fs
  refine VCall.pure (by kernel_rfl) fun hok' => ?_
  refine VCall.of_fn (g := cfg18) mix Tryz.func18 ok18 rfl rfl ?_
  simp only [Tryz.f18, Option.getD_some]
  simp only [go_sem, Nat.reduceEqDiff, ↓reduceIte, mu18, hw4]
  refine (c_values hx hl hok hg hk h).mono ?_
  rintro r h ⟨rfl, d, rfl, hd⟩
  have hrl : ((List.replicate (outsOf fs).length [D.str []]).length : Int) = ((outsOf fs).length : Nat) := by rw [List.length_replicate]
  have hsl : ((strs (outsOf fs)).length : Int) = ((outsOf fs).length : Nat) := by rw [strs_length]
  have hnn : ∀ n : Nat, ((n : Int) != (n : Int)) = false := fun n => by simp
  have h00 : ((0 : Int) != 0) = false := rfl
  simp only [go_sem, Nat.reduceEqDiff, ↓reduceIte, vextract, h00, Nat.zero_add, vpart_false, List.getElem?_cons_zero, List.getElem?_cons_succ, vlen_sl (IsSl.nil (sz := 1)) Tryz.underlying33, vlen_sl (IsSl.nil (sz := 1)) Tryz.underlying108, List.length_nil, vlen_sl hown Tryz.underlying26, vlen_sl hd.isSl Tryz.underlying26, hrl, hsl, hnn]
  refine vwp_range (fun i fr h' => fr 3 = .bool p ∧ fr 4 = .iptr [.nilsl, .nilsl, .nilsl, .nilsl] 0 ∧ fr 6 = .iptr [.nilsl, own] 0 ∧ fr 42 = .int .i64 0 ∧ fr 43 = .int .i64 0 ∧ h' = h) 0 ?_ ?_
  · simp only [go_sem, Nat.reduceEqDiff, ↓reduceIte, true_and]
    rfl
  rintro i fr h' hi ⟨f3, f4, f6, f42, f43, rfl⟩
  have hlt : decide ((0 : Int) < 0) = false := rfl
  simp only [go_sem, Nat.reduceEqDiff, ↓reduceIte, f3, f4, f6, f42, f43, hlt, vpart_false, Nat.zero_add, List.getElem?_cons_zero, List.getElem?_cons_succ, vlen_sl hown Tryz.underlying26, hrl]
  refine vwp_range (fun i fr h2 => fr 3 = .bool p ∧ fr 4 = .iptr [.nilsl, .nilsl, .nilsl, .nilsl] 0 ∧ fr 63 = own ∧ fr 64 = .int .i64 (outsOf fs).length ∧ fr 65 = .int .i64 (i : Int) ∧ Ext h' h2 ∧ (p = true ∨ i = 0)) (outsOf fs).length ?_ ?_
  · simp only [go_sem, Nat.reduceEqDiff, ↓reduceIte, true_and]
    exact ⟨f3, f4, rfl, Ext.refl _, .inr trivial⟩
  rintro i fr h2 hi ⟨f3, f4, f63, f64, f65, hext, hp⟩
  simp only [go_sem, Nat.reduceEqDiff, ↓reduceIte, f3, f4, f63, f64, f65]
  by_cases hlt : i < (outsOf fs).length
  · rw [decide_eq_true (by exact_mod_cast hlt)]
    have hrep : (List.replicate (outsOf fs).length [D.str []])[i]? = some [.str []] := by simp [hlt]
    have hrow := new_at h2 h2.next (.row [.str []])
    have hst : vstore Tryz.prog 9 (.ptr h2.next 0) (.str []) (h2.new h2.next (.row [.str []])) = some (h2.new h2.next (.row [.str []])) := vstore_same1 hrow szT_9 rfl rfl rfl
    have heq : (([] : List UInt8) == []) = true := rfl
    have hext1 := hext.trans ((Ext.refl h2).new (Nat.le_refl _) (.row [.str []]))
    cases p with
    | true =>
      simp only [go_sem, Nat.reduceEqDiff, ↓reduceIte, f3, f4, f63, f64, f65, vindexAddr_sl hown elemT_26 szT_9 hrep, vpart_false, hst, hrow, heq, List.getElem?_cons_zero]
      exact ⟨hlt, by rw [wrap_succ (by unfold lim; omega)], hext1, .inl trivial⟩
    | false =>
      simp only [go_sem, Nat.reduceEqDiff, ↓reduceIte, f3, f4, f63, f64, f65, vindexAddr_sl hown elemT_26 szT_9 hrep, vpart_false, hst, hrow, heq, List.getElem?_cons_zero, Nat.zero_add]
      refine (c_containsL0 _ _).mono ?_
      rintro r h3 ⟨rfl, rfl⟩
      simp only [vun, go_sem, Nat.reduceEqDiff, ↓reduceIte]
      refine ⟨hext1, trivial, ?_⟩
      rw [if_neg]
      rintro (e | e)
      · cases e
      · omega
  · have hie : i = (outsOf fs).length := by omega
    rw [decide_eq_false (by omega)]
    simp only [go_sem, Nat.reduceEqDiff, ↓reduceIte]
    refine ⟨hext, trivial, ?_⟩
    rw [if_pos (hp.elim .inl fun e => .inr (by omega))]

/-- comply.Violations. -/
theorem c_Violations {x own : D} {fs : List Fact} (hx : IsSl 12 (facts fs) x) (hl : fs.length ≤ 256) (hok : ∀ f ∈ fs, f.Ok) (hg : ∀ f ∈ fs, Good f) (hk : ∀ f ∈ fs, f.kind = 2 ∨ f.kind = 3) (h12 : (noneV fs).length ≤ 12) (hown : IsSl 1 (List.replicate (outsOf fs).length [.str []]) own) (h : Heap) :
    VCall Tryz.prog 7 [cat0, x, .agg [.nilsl, own]] h fun r h' => h' = h ∧ ∃ d, r = .tuple [d, .int .i64 0] ∧ Fin 2 (allV fs) d := by
  obtain ⟨co1, co2, co3⟩ := one_of hown
  have hw4 : vpart true 4 [D.nilsl, .nilsl, .nilsl, .nilsl] 0 = some cat0 := vpart_whole rfl (by omega)
  have hw2 : vpart true 2 [D.nilsl, own] 0 = some (.agg [.nilsl, own]) := vpart_whole rfl (by omega)
  refine VCall.pure (by kernel_rfl) fun hok' => ?_
  refine VCall.of_fn (g := cfg7) mix Tryz.func7 ok7 rfl rfl ?_
  simp only [Tryz.f7, Option.getD_some]
  simp only [go_sem, Nat.reduceEqDiff, ↓reduceIte, mu7, hw4, hw2]
  refine (c_checkChoice hx hl hok hg hk hown true h).mono ?_
  rintro r h ⟨rfl, rfl⟩
  have h00 : ((0 : Int) != 0) = false := rfl
  simp only [go_sem, Nat.reduceEqDiff, ↓reduceIte, true_or, h00, hw4, hw2]
  refine (c_start hx (by omega) hok hk hown (Nat.le_refl _) h).mono ?_
  rintro r h2 ⟨hext, m1, m2, rfl, g1, g2, g3, g4⟩
  refine (c_all hx (by omega) hok h12 g1 g2 g3 g4).mono ?_
  rintro r h3 ⟨rfl, hr⟩
  have hal := allV_length fs
  have h1024 : decide (((allV fs).length : Int) > 1024) = false := decide_eq_false (by omega)
  simp only [go_sem, Nat.reduceEqDiff, ↓reduceIte, vlen_sl hr.isSl Tryz.underlying36, h1024]
  have hb : below 0 r := by
    rcases hr with ⟨rfl, _⟩ | rfl
    · trivial
    · exact (strip_plainE allV_plain .no).2
  exact ⟨hext, ⟨below_mono (Nat.zero_le _) _ hb, trivial, trivial⟩, _, rfl, hr⟩

/-- comply.Complies, when an output is shipped. -/
theorem c_Complies {x own : D} {fs : List Fact} (hx : IsSl 12 (facts fs) x) (hl : fs.length ≤ 256) (hok : ∀ f ∈ fs, f.Ok) (hg : ∀ f ∈ fs, Good f) (hk : ∀ f ∈ fs, f.kind = 2 ∨ f.kind = 3) (h0 : 0 < (outsOf fs).length) (hown : IsSl 1 (List.replicate (outsOf fs).length [.str []]) own) (h : Heap) :
    VCall Tryz.prog 9 [cat0, x, .agg [.nilsl, own]] h fun r h' => h' = h ∧ r = .tuple [.bool false, .int .i64 7] := by
  obtain ⟨co1, co2, co3⟩ := one_of hown
  have hw4 : vpart true 4 [D.nilsl, .nilsl, .nilsl, .nilsl] 0 = some cat0 := vpart_whole rfl (by omega)
  have hw2 : vpart true 2 [D.nilsl, own] 0 = some (.agg [.nilsl, own]) := vpart_whole rfl (by omega)
  refine VCall.of_fn (g := cfg9) mix Tryz.func9 ok9 rfl rfl ?_
  simp only [Tryz.f9, Option.getD_some]
  simp only [go_sem, Nat.reduceEqDiff, ↓reduceIte, mu9, hw4, hw2]
  refine (c_checkChoice hx hl hok hg hk hown false h).mono ?_
  rintro r h ⟨rfl, rfl⟩
  rw [if_neg (by rintro (e | e); exact Bool.false_ne_true e; omega)]
  have h70 : ((7 : Int) != 0) = true := rfl
  simp only [go_sem, Nat.reduceEqDiff, ↓reduceIte, h70]
end Go.V
namespace Go.V
open Go.Proofs
set_option maxRecDepth 100000
set_option linter.unusedSimpArgs false
set_option linter.unusedVariables false

/-- What is handed on may be taken without tokens. -/
theorem VCall.argsStrip {P : Program} {f : FuncId} {args args' : List D} {h : Heap} {Q : D → Heap → Prop} (hv : VCall P f args' h Q) (ha : stripL args = args') : VCall P f args h Q := by
  subst ha
  exact ⟨hv.1, fun w0 G M ρ w va hs hfr hr => hv.2 w0 G M ρ w va hs hfr (relL_strip M ρ _ _ hr)⟩

/-- slices.Equal at integers. -/
theorem c_equalI {l m : List Int} {d e : D} (hd : IsSl 1 (ints l) d) (he : IsSl 1 (ints m) e) (hl : l.length ≤ 1048576) (h : Heap) :
    VCall Tryz.prog 8 [d, e] h fun r h' => h' = h ∧ r = .bool (l == m) := by
  refine VCall.of_fn (g := cfg8) mix Tryz.func8 ok8 rfl rfl ?_
  simp only [Tryz.f8, Option.getD_some]
  have h1 : ((ints l).length : Int) = l.length := by rw [ints_length]
  have h2 : ((ints m).length : Int) = m.length := by rw [ints_length]
  by_cases hlm : l.length = m.length
  · have hne : ((l.length : Int) != (m.length : Int)) = false := by simp [hlm]
    simp only [go_sem, Nat.reduceEqDiff, ↓reduceIte, vlen_sl hd Tryz.underlying46, vlen_sl he Tryz.underlying46, h1, h2, hne]
    refine vwp_range (fun i fr h' => fr 0 = d ∧ fr 1 = e ∧ fr 12 = .int .i64 l.length ∧ fr 13 = .int .i64 (i : Int) ∧ h' = h ∧ l.take i = m.take i) l.length ?_ ?_
    · simp only [go_sem, Nat.reduceEqDiff, ↓reduceIte, true_and]
      simp
    rintro i fr h' hi ⟨f0, f1, f12, f13, rfl, htk⟩
    by_cases hlt : i < l.length
    · have hlt2 : i < m.length := by omega
      have hdl : decide ((i : Int) < (l.length : Int)) = true := decide_eq_true (by exact_mod_cast hlt)
      simp only [go_sem, Nat.reduceEqDiff, ↓reduceIte, f0, f1, f12, f13, hdl]
      refine vwp_plan Heap.emp [(0, .no, false), (1, .no, false), (2, .no, false), (3, .no, false), (4, .no, false), (5, .no, false), (6, .no, false), (7, .no, false), (8, .no, false)] (by kernel_rfl) (by kernel_rfl) (fun i ob e => by cases e) ?_
      by_cases heq : l[i] = m[i]
      · have hb : (l[i] != m[i]) = false := by simp [heq]
        simp only [go_sem, Nat.reduceEqDiff, ↓reduceIte, f0, f1, f12, f13, vindexAddr_sl hd elemT_46 szT_3 (ints_get hlt), vindexAddr_sl he elemT_46 szT_3 (ints_get hlt2), vpart_false, List.getElem?_cons_zero, hb]
        refine ⟨hlt, by rw [wrap_succ (by unfold lim; omega)], ?_⟩
        rw [List.take_succ_eq_append_getElem hlt, List.take_succ_eq_append_getElem hlt2, htk, heq]
      · have hb : (l[i] != m[i]) = true := by simp [heq]
        simp only [go_sem, Nat.reduceEqDiff, ↓reduceIte, f0, f1, f12, f13, vindexAddr_sl hd elemT_46 szT_3 (ints_get hlt), vindexAddr_sl he elemT_46 szT_3 (ints_get hlt2), vpart_false, List.getElem?_cons_zero, hb]
        have : (l == m) = false := by
          rw [beq_eq_false_iff_ne]
          rintro rfl
          exact heq rfl
        rw [this]
    · have hie : i = l.length := by omega
      subst hie
      have hdl : decide ((l.length : Int) < (l.length : Int)) = false := decide_eq_false (by omega)
      simp only [go_sem, Nat.reduceEqDiff, ↓reduceIte, f0, f1, f12, f13, hdl]
      rw [List.take_length, List.take_of_length_le (by omega)] at htk
      rw [htk, beq_self_eq_true]
  · have hne : ((l.length : Int) != (m.length : Int)) = true := by
      rw [bne_iff_ne]; exact_mod_cast hlm
    simp only [go_sem, Nat.reduceEqDiff, ↓reduceIte, vlen_sl hd Tryz.underlying46, vlen_sl he Tryz.underlying46, h1, h2, hne]
    have : (l == m) = false := by
      rw [beq_eq_false_iff_ne]
      rintro rfl
      exact hlm rfl
    rw [this]

theorem outsOf_pos {os : List Nat} (h : 0 < os.length) : 0 < (outsOf (lawFs os)).length := by
  have h1 := outsOf_mono (lawFs os) 1
  have h2 : lawFs os = shipF os[0] :: mustF os[0] :: lawFs (os.drop 1) := by
    cases os with
    | nil => simp at h
    | cons n os => rfl
  rw [h2] at h1 ⊢
  have h3 : (outsOf ((shipF os[0] :: mustF os[0] :: lawFs (os.drop 1)).take 1)).length = 1 := rfl
  omega

/-- Bytes. -/
def bytesD (os : List Nat) : List (List D) := os.map fun (n : Nat) => [.int .u8 (n : Int)]
theorem bytesD_length (os : List Nat) : (bytesD os).length = os.length := List.length_map ..
theorem bytesD_get {os : List Nat} {i : Nat} (h : i < os.length) : (bytesD os)[i]? = some [.int .u8 (os[i] : Int)] := by simp [bytesD, h]
end Go.V
namespace Go.V
open Go.Proofs
set_option maxRecDepth 100000
set_option linter.unusedSimpArgs false
set_option linter.unusedVariables false

set_option maxHeartbeats 1000000 in
/-- The statement's function. -/
theorem c_ComplyEmpty {a : D} {os : List Nat} (ho : ∀ n ∈ os, n < 256) (ha : IsSl 1 (bytesD os) a) (hl : os.length ≤ 1048576) (h : Heap) :
    VCall Tryz.prog 3 [a] h fun r _ => r = .bool true := by
  obtain ⟨ca1, ca2, ca3⟩ := one_of ha
  have hal : ((bytesD os).length : Int) = os.length := by rw [bytesD_length]
  refine VCall.of_fn (g := cfg3) mix Tryz.func3 ok3 rfl rfl ?_
  simp only [Tryz.f3, Option.getD_some]
  simp only [go_sem, Nat.reduceEqDiff, ↓reduceIte, mu3]
  refine (awake_licitlaw40 h).mono ?_
  rintro r h ⟨rfl, rfl⟩
  by_cases hbig : os.length > 12
  · have hb : decide ((os.length : Int) > 12) = true := decide_eq_true (by omega)
    simp only [vun, go_sem, Nat.reduceEqDiff, ↓reduceIte, vlen_sl ha Tryz.underlying22, hal, hb]
  have hb : decide ((os.length : Int) > 12) = false := decide_eq_false (by omega)
  simp only [vun, go_sem, Nat.reduceEqDiff, ↓reduceIte, vlen_sl ha Tryz.underlying22, hal, hb]
  refine vwp_range (fun i fr h' => fr 0 = a ∧ fr 20 = a ∧ fr 21 = .int .i64 os.length ∧ fr 22 = .int .i64 (i : Int) ∧ OwnSl h' 12 (facts (lawFs (os.take i))) (fr 3) ∧ OwnSl h' 1 (strs (outsOf (lawFs (os.take i)))) (fr 4) ∧ (∀ j, tokOf (fr 3) j → ¬ tokOf (fr 4) j) ∧ (i = 0 → fr 3 = .nilsl)) os.length ?_ ?_
  · simp only [go_sem, Nat.reduceEqDiff, ↓reduceIte, true_and]
    exact ⟨rfl, .inl ⟨rfl, rfl⟩, .inl ⟨rfl, rfl⟩, fun j (hj : False) => hj.elim⟩
  rintro i fr h' hi ⟨f0, f20, f21, f22, hos3, hos4, hdis, hz⟩
  simp only [go_sem, Nat.reduceEqDiff, ↓reduceIte, f0, f20, f21, f22]
  by_cases hlt : i < os.length
  · rw [decide_eq_true (by exact_mod_cast hlt)]
    have hn := ho _ (List.getElem_mem hlt)
    generalize hne : os[i] = n at hn
    have hget : (bytesD os)[i]? = some [.int .u8 (n : Int)] := by rw [bytesD_get hlt, hne]
    have r4 : vints .rem .u8 .u8 (n : Int) 4 = some (.int .u8 ((n % 4 : Nat) : Int)) := by simp [vints, vint]; rfl
    have r3 : vints .rem .u8 .u8 (n : Int) 3 = some (.int .u8 ((n % 3 : Nat) : Int)) := by simp [vints, vint]; rfl
    have hu8 : ∀ m : Nat, m < 256 → IntKind.u8.wrap (m : Int) = (m : Int) := fun m hm => by
      unfold IntKind.wrap
      simp [IntKind.signed, IntKind.bits]
      omega
    have r97 : IntKind.u8.wrap (97 + ((n % 4 : Nat) : Int)) = ((97 + n % 4 : Nat) : Int) := by
      have : (97 : Int) + ((n % 4 : Nat) : Int) = ((97 + n % 4 : Nat) : Int) := by push_cast; rfl
      rw [this, hu8 _ (by omega)]
    have hbs : ∀ h : Heap, vbuildSlice Tryz.prog false h.next 22 1 [(0, .int .u8 ((97 + n % 4 : Nat) : Int))] h = some (.sl 1 [[.int .u8 ((97 + n % 4 : Nat) : Int)]] .full, h) := fun h =>
      vbuildSlice_one (x := .int .u8 ((97 + n % 4 : Nat) : Int)) elemT_22 zeroT_5 szT_5 rfl rfl (by omega) (by omega) rfl rfl
    have hcv : vconvert Tryz.prog 22 9 (.sl 1 [[.int .u8 ((97 + n % 4 : Nat) : Int)]] .full) = some (.str [UInt8.ofNat (97 + n % 4)]) := by
      simp only [vconvert, Tryz.underlying22, Tryz.underlying5, Tryz.underlying9, List.flatten_cons, List.flatten_nil, List.append_nil, bytesOf, Int.toNat_natCast, if_true]
    have hadd : vstr .add [112, 47, 111] [UInt8.ofNat (97 + n % 4)] = some (.str (nmB n)) := by
      simp [vstr, lim, nmB]
    have hcv2 : vconvert Tryz.prog 5 3 (.int .u8 ((n % 3 : Nat) : Int)) = some (.int .i64 ((n % 3 : Nat) : Int)) := by
      simp only [vconvert, Tryz.underlying5, Tryz.underlying3]
      rw [wrap_i64 (by omega) (by omega)]
    have hb1 : vbuild Tryz.prog 31 [(0, .int .i64 2), (2, .str (nmB n)), (4, .int .i64 ((n % 3 : Nat) : Int))] = some (.agg (shipF n).cells) := by
      simp [vbuild, placesT_31, zeroT_31, vfill, putAt, notTuple_agg, cells_agg, notTuple_int, notTuple_str, cells_int, cells_str, Fact.cells, shipF]
    have hb2 : vbuild Tryz.prog 31 [(0, .int .i64 3), (2, .str (nmB n))] = some (.agg (mustF n).cells) := by
      simp [vbuild, placesT_31, zeroT_31, vfill, putAt, notTuple_agg, cells_agg, notTuple_int, notTuple_str, cells_int, cells_str, Fact.cells, mustF]
    have hbt : ∀ h : Heap, vbuildSlice Tryz.prog false h.next 25 2 [(0, .agg (shipF n).cells), (1, .agg (mustF n).cells)] h = some (.sl 12 [(shipF n).cells, (mustF n).cells] .full, h) := fun h =>
      vbuildSlice_two (x := .agg (shipF n).cells) (y := .agg (mustF n).cells) elemT_25 zeroT_31 szT_31 rfl rfl (by omega) (by omega) rfl rfl rfl rfl
    have hli := lawFs_length (os.take i)
    have hti : (os.take i).length = i := by rw [List.length_take]; omega
    have hfl := facts_length (lawFs (os.take i))
    have hol := outsOf_len (lawFs (os.take i))
    simp only [go_sem, Nat.reduceEqDiff, ↓reduceIte, f0, f20, f21, f22, vindexAddr_sl ha elemT_22 szT_5 hget, vpart_false, List.getElem?_cons_zero, r4, r97, hbs, hcv, hadd, r3, hcv2, hb1, hb2, hbt, mu3]
    refine hos3.app2 elemT_25 zokT_31 szT_31 (by omega) (by simp [Fact.len]) (by simp) (by rw [hfl, hli, hti, bytesT_31]; unfold lim; simp; omega) (by rw [hfl, hli, hti]; unfold lim; simp; omega) ?_
    intro x h6 b1 b2 b3 b4 b5 b6
    have hos4' : OwnSl h6 1 (strs (outsOf (lawFs (os.take i)))) (fr 4) := hos4.loc b2 fun j hj => b3 j (hos4.tok hj).1 fun e => hdis j e hj
    have hx : OwnSl h6 12 (facts (lawFs (os.take (i + 1)))) x := by
      rw [lawFs_take hlt, hne]
      simpa [facts] using b1
    have hot := outsOf_law hlt
    rw [hne] at hot
    refine (c_containsS hos4'.isSl (by omega) (nmB n) _).mono ?_
    rintro r h7 ⟨rfl, rfl⟩
    cases hany : (outsOf (lawFs (os.take i))).any (· == nmB n) with
    | true =>
      simp only [vun, go_sem, Nat.reduceEqDiff, ↓reduceIte, f0, f20, f21, f22]
      refine ⟨hlt, by rw [wrap_succ (by unfold lim; omega)], hx, ?_, fun j hj hj4 => ?_⟩
      · rw [hot, outStep, if_pos (show (shipF n).kind = 2 from rfl), if_pos (show (outsOf (lawFs (os.take i))).any (· == (shipF n).out) = true from hany)]
        exact hos4'
      · have h1 := b4 j hj
        have h2 := (hos4.tok hj4).1
        omega
    | false =>
      simp only [vun, go_sem, Nat.reduceEqDiff, ↓reduceIte, f0, f20, f21, f22, mu3]
      rw [vbuildSlice_one (x := .str (nmB n)) elemT_26 zeroT_9 szT_9 rfl rfl (by omega) (by omega) rfl rfl]
      simp only [go_sem, Nat.reduceEqDiff, ↓reduceIte]
      refine hos4'.app2 elemT_26 zokT_9 szT_9 (by omega) (by simp [cells_str]) (by simp) (by rw [strs_length, bytesT_9]; unfold lim; simp; omega) (by rw [strs_length]; unfold lim; simp; omega) ?_
      intro d' h8 e1 e2 e3 e4 e5 e6
      refine ⟨hlt, by rw [wrap_succ (by unfold lim; omega)], hx.loc e2 fun j hj => e3 j (hx.tok hj).1 fun e => ?_, ?_, fun j hj hj4 => ?_⟩
      · have h1 := b4 j hj
        have h2 := (hos4.tok e).1
        omega
      · rw [hot, outStep, if_pos (show (shipF n).kind = 2 from rfl), if_neg (show ¬ (outsOf (lawFs (os.take i))).any (· == (shipF n).out) = true by rw [show (outsOf (lawFs (os.take i))).any (· == (shipF n).out) = false from hany]; exact Bool.false_ne_true)]
        simpa [strs, shipF, cells_str] using e1
      · have h1 := e4 j hj4
        have h2 := (hx.tok hj).1
        omega
  · have hie : i = os.length := by omega
    subst hie
    rw [decide_eq_false (by omega)]
    rw [List.take_length] at hos3 hos4
    have hz0 : os.length = 0 → fr 3 = .nilsl := hz
    clear hz hdis
    have hx := hos3.isSl
    have hd4 := hos4.isSl
    obtain ⟨x, f3⟩ : ∃ x, fr 3 = x := ⟨_, rfl⟩
    obtain ⟨d4, f4⟩ : ∃ x, fr 4 = x := ⟨_, rfl⟩
    rw [f3] at hx hz0
    rw [f4] at hd4
    have hbq : ∀ c b b', vbin Tryz.prog .eql 4 c (.bool b) (.bool b') = some (.bool (b == b')) := fun c b b' => by cases b <;> cases b' <;> simp [vbin, vcmp, pickEq, veq, Tryz.underlying4]
    have hfl := lawFs_length os
    have hnv : (noneV (lawFs os)).length = os.length := by rw [noneV_law]; simp
    have hol := outsOf_len (lawFs os)
    generalize hN : (outsOf (lawFs os)).length = N at hol
    have hsl : ((strs (outsOf (lawFs os))).length : Int) = (N : Nat) := by rw [strs_length, hN]
    have hmk : vmakeSlice Tryz.prog false h'.next 26 (.int .i64 (N : Int)) (.int .i64 (N : Int)) h' = some (.sl 1 (List.replicate N [.str []]) .full, h') := by
      simp only [vmakeSlice, elemT_26, zeroT_9, szT_9, bytesT_9]
      rw [if_pos (by simp [notTuple_str, cells_str]; unfold lim; omega)]
      simp [cells_str]
    have hown : IsSl 1 (List.replicate (outsOf (lawFs os)).length [.str []]) (.sl 1 (List.replicate N [.str []]) .full) := by rw [hN]; exact IsSl.mk _
    generalize hoe : D.sl 1 (List.replicate N [.str []]) .full = own at hmk hown
    obtain ⟨co1, co2, co3⟩ := one_of hown
    have hb35 : vbuild Tryz.prog 35 [(1, own)] = some (.agg [.nilsl, own]) := by
      simp [vbuild, placesT_35, zeroT_35, vfill, putAt, notTuple_agg, cells_agg, co1, co2]
    have hb45 : vbuild Tryz.prog 45 [] = some cat0 := by
      simp [vbuild, zeroT_45, placesT_45, vfill, notTuple_agg, cells_agg]
    have hst35 : vstore Tryz.prog 35 (.ptr h'.next 0) (.agg [.nilsl, own]) (h'.new h'.next (.row [.nilsl, .nilsl])) = some (h'.new h'.next (.row [.nilsl, own])) := vstore_new szT_35 (by omega) rfl rfl (by simp [co3, flat_nilsl])
    have hw2 : vpart true 2 [D.nilsl, own] 0 = some (.agg [.nilsl, own]) := vpart_whole rfl (by omega)
    have hrow := new_at h' h'.next (.row [.nilsl, own])
    have hnx : h'.next < (h'.new h'.next (.row [.nilsl, own])).next := by rw [next_new_eq]; omega
    simp only [go_sem, Nat.reduceEqDiff, ↓reduceIte, f0, f3, f4, vlen_sl hd4 Tryz.underlying26, hsl, mu3, hmk, hb35, hb45, hst35, hrow, hw2]
    generalize h'.new h'.next (.row [.nilsl, own]) = H at hrow hnx ⊢
    generalize h'.next = n8 at hrow hnx ⊢
    refine (c_Violations hx (by omega) lawFs_ok good_law kind_law (by omega) hown H).mono ?_
    rintro r h2 ⟨rfl, d, rfl, hd⟩
    have hvl : ((allV (lawFs os)).length : Int) = os.length := by rw [allV_length, hnv]
    have h00 : ((0 : Int) != 0) = false := rfl
    have hll : ((os.length : Int) != (os.length : Int)) = false := by simp
    simp only [go_sem, Nat.reduceEqDiff, ↓reduceIte, vextract, List.getElem?_cons_zero, List.getElem?_cons_succ, h00, vlen_sl hd.isSl Tryz.underlying36, hvl, vlen_sl ha Tryz.underlying22, hal, hll]
    refine vwp_range (fun i fr h2 => fr 0 = a ∧ fr 3 = x ∧ fr 8 = .ptr n8 0 ∧ fr 71 = d ∧ fr 72 = .int .i64 os.length ∧ fr 73 = .int .i64 (i : Int) ∧ n8 < h2.next ∧ h2.at' n8 = some (.row [.nilsl, own])) os.length ?_ ?_
    · simp only [go_sem, Nat.reduceEqDiff, ↓reduceIte, true_and]
      exact ⟨f0, f3, rfl, hnx, hrow⟩
    rintro i fr h3 hi ⟨f0, f3, f8, f71, f72, f73, hn8, hr8⟩
    by_cases hlt : i < os.length
    · have hdl : decide ((i : Int) < (os.length : Int)) = true := decide_eq_true (by exact_mod_cast hlt)
      have hget : (allV (lawFs os))[i]? = some (vioCells 5 [((2 * i : Nat) : Int)]) := by
        simp [allV, noneV_law, hlt]
      have hwv : vpart true 2 (vioCells 5 [((2 * i : Nat) : Int)]) 0 = some (.agg (vioCells 5 [((2 * i : Nat) : Int)])) := vpart_whole rfl (by omega)
      have hstv : vstore Tryz.prog 48 (.ptr h3.next 0) (.agg (vioCells 5 [((2 * i : Nat) : Int)])) (h3.new h3.next (.row [.int .i64 0, .nilsl])) = some (h3.new h3.next (.row (vioCells 5 [((2 * i : Nat) : Int)]))) := vstore_new szT_48 (by omega) rfl rfl rfl
      have hrv := new_at h3 h3.next (.row (vioCells 5 [((2 * i : Nat) : Int)]))
      have hr8' : (h3.new h3.next (.row (vioCells 5 [((2 * i : Nat) : Int)]))).at' n8 = some (.row [.nilsl, own]) := by rw [new_keep (by omega)]; exact hr8
      have hn8' : n8 < (h3.new h3.next (.row (vioCells 5 [((2 * i : Nat) : Int)]))).next := by rw [next_new_eq]; omega
      have hv0 : (vioCells 5 [((2 * i : Nat) : Int)])[0]? = some (.int .i64 5) := rfl
      have hv1 : (vioCells 5 [((2 * i : Nat) : Int)])[1]? = some (.sl 1 (ints [((2 * i : Nat) : Int)]) .no) := rfl
      have h55 : ((5 : Int) != 5) = false := rfl
      have hmul : IntKind.i64.wrap (2 * (i : Int)) = ((2 * i : Nat) : Int) := by rw [wrap_i64 (by omega) (by omega)]; push_cast; rfl
      have hbs : ∀ h : Heap, vbuildSlice Tryz.prog false h.next 46 1 [(0, .int .i64 ((2 * i : Nat) : Int))] h = some (.sl 1 [[.int .i64 ((2 * i : Nat) : Int)]] .full, h) := fun h =>
        vbuildSlice_one (x := .int .i64 ((2 * i : Nat) : Int)) elemT_46 zeroT_3 szT_3 rfl rfl (by omega) (by omega) rfl rfl
      simp only [go_sem, Nat.reduceEqDiff, ↓reduceIte, f0, f3, f8, f71, f72, f73, hdl, vindexAddr_sl hd.isSl elemT_36 szT_48 hget, hwv, hstv, hrv, vpart_false, hv0, hv1, Nat.zero_add, h55, hmul, hbs, mu3]
      refine (c_equalI (l := [((2 * i : Nat) : Int)]) (m := [((2 * i : Nat) : Int)]) (IsSl.mk _) (IsSl.mk _) (by simp) _).mono ?_
      rintro r h4 ⟨rfl, rfl⟩
      simp only [vun, go_sem, Nat.reduceEqDiff, ↓reduceIte, beq_self_eq_true, f0, f3, f8, f71, f72, f73]
      exact ⟨hlt, by rw [wrap_succ (by unfold lim; omega)], hn8', hr8'⟩
    · have hdl : decide ((i : Int) < (os.length : Int)) = false := decide_eq_false (by omega)
      have hxl : ((facts (lawFs os)).length : Int) = ((2 * os.length : Nat) : Int) := by rw [facts_length, hfl]
      simp only [go_sem, Nat.reduceEqDiff, ↓reduceIte, f0, f3, f8, f71, f72, f73, hdl, hb45, hr8, hw2]
      by_cases h0 : os.length = 0
      · have hnil : os = [] := List.eq_nil_of_length_eq_zero h0
        subst hnil
        rw [hz0 rfl]
        have hN0 : N = 0 := by rw [← hN]; rfl
        subst hN0
        refine (VCall.argsStrip (k_complies h3) (by rw [← hoe]; rfl)).mono ?_
        rintro r h4 ⟨rfl, rfl⟩
        simp only [go_sem, Nat.reduceEqDiff, ↓reduceIte, vextract, List.getElem?_cons_zero, List.getElem?_cons_succ, vlen_sl (IsSl.nil (sz := 12)) Tryz.underlying25, List.length_nil, hbq, show ((((0 : Nat) : Int)) == 0) = true from rfl, show decide (((0 : Nat) : Int) > 0) = false from rfl, show ((0 : Int) == 7) = false from rfl]
      · refine (c_Complies hx (by omega) lawFs_ok good_law kind_law (outsOf_pos (by omega)) hown h3).mono ?_
        rintro r h4 ⟨rfl, rfl⟩
        have e1 : (((2 * os.length : Nat) : Int) == 0) = false := by rw [beq_eq_false_iff_ne]; omega
        have e2 : decide (((2 * os.length : Nat) : Int) > 0) = true := decide_eq_true (by omega)
        have e3 : ((7 : Int) == 7) = true := rfl
        simp only [go_sem, Nat.reduceEqDiff, ↓reduceIte, vextract, List.getElem?_cons_zero, List.getElem?_cons_succ, vlen_sl hx Tryz.underlying25, hxl, e1, e2, e3, hbq]
end Go.V
