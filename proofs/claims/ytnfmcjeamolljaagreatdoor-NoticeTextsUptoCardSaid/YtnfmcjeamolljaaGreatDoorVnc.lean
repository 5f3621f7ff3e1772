/- The contract of notice.Merge. No condition. -/
import Derived.Test.YtnfmcjeamolljaaGreatDoorVnb
set_option linter.unusedSimpArgs false
set_option linter.unusedVariables false
set_option linter.constructorNameAsVariable false
set_option linter.deprecated false
namespace Go.V
open Go.Proofs
set_option maxRecDepth 100000
set_option linter.unusedSimpArgs false
set_option linter.unusedVariables false

/-! notice.Merge. -/
theorem flatSl {sz : Nat} {xs : List (List D)} {d : D} (hd : IsSl sz xs d) : d.flat = true ∧ d.cells = [d] ∧ d.notTuple = true := by
  rcases hd with ⟨rfl, _⟩ | ⟨tk, rfl⟩ <;> exact ⟨rfl, rfl, rfl⟩
theorem flat4 {a b c e : D} (h1 : a.flat = true) (h2 : b.flat = true) (h3 : c.flat = true) (h4 : e.flat = true) : [a, b, c, e].all D.flat = true := by simp [h1, h2, h3, h4]
theorem Fin0.strip {l : List (List UInt8)} {d : D} (hf : Fin0 l d) : below 0 (V.strip d) ∧ IsSl 1 (strs l) (V.strip d) := by
  rcases hf with ⟨rfl, rfl⟩ | ⟨_, rfl⟩
  · exact ⟨trivial, IsSl.nil⟩
  · rw [(strip_plainE (sz := 1) strs_plain .no).1]
    exact ⟨(strip_plainE (sz := 1) strs_plain .no).2, IsSl.mk _⟩
def fin0D (l : List (List UInt8)) : D := if l = [] then .nilsl else .sl 1 (strs l) .no
theorem Fin0.eq {l : List (List UInt8)} {d : D} (hf : Fin0 l d) : d = fin0D l := by
  unfold fin0D
  rcases hf with ⟨e, rfl⟩ | ⟨e, rfl⟩
  · rw [if_pos e]
  · rw [if_neg e]
theorem fin0D_ok (l : List (List UInt8)) : Fin0 l (fin0D l) := by
  unfold fin0D
  by_cases e : l = []
  · rw [if_pos e]; exact .inl ⟨e, rfl⟩
  · rw [if_neg e]; exact .inr ⟨e, rfl⟩
abbrev nil4 : List D := [.nilsl, .nilsl, .nilsl, .nilsl]

/-- What Merge returns. -/
def MergeQ (n : Note × Int) (r : D) : Prop := ∃ d, r = .tuple [d, .int .i64 n.2] ∧ IsNote n.1 d
theorem merge_zero {n : Note × Int} {k : Int} (h : n = (.zero, k)) : below 0 (strip (.tuple [.agg nil4, .int .i64 k])) ∧ MergeQ n (strip (.tuple [.agg nil4, .int .i64 k])) := by
  subst h
  have e : strip (.tuple [.agg nil4, .int .i64 k]) = .tuple [.agg nil4, .int .i64 k] := by simp [strip, stripL]
  rw [e]
  exact ⟨by simp [below, belowL], .agg nil4, rfl, .nilsl, .nilsl, .nilsl, .nilsl, rfl, IsSl.nil, IsSl.nil, IsSl.nil, IsSl.nil⟩
theorem merge_note {n : Note} {a b c e : D} {h : Heap} (h1 : Fin0 n.ls a) (h2 : OwnSl h 1 (strs n.ts) b) (h3 : Fin0 n.hs c) (h4 : Fin0 n.cs e) : below 0 (strip (.tuple [.agg [a, b, c, e], .int .i64 0])) ∧ MergeQ (n, 0) (strip (.tuple [.agg [a, b, c, e], .int .i64 0])) := by
  have e : strip (.tuple [.agg [a, b, c, e], .int .i64 0]) = .tuple [.agg [strip a, strip b, strip c, strip e], .int .i64 0] := by simp [strip, stripL]
  rw [e]
  have q := h2.fin strs_plain
  refine ⟨?_, _, rfl, _, _, _, _, rfl, h1.strip.2, q.2.isSl, h3.strip.2, h4.strip.2⟩
  simp [below, belowL, h1.strip.1, q.1, h3.strip.1, h4.strip.1]

set_option maxHeartbeats 4000000 in
/-- notice.Merge. -/
theorem c_merge {a b : Note} {x y : D} (hx : IsNote a x) (hy : IsNote b y) (hsa : a.Sm) (hsb : b.Sm) (h : Heap) :
    VCall Tryz.prog 11 [x, y] h fun r h' => h' = h ∧ MergeQ (mergeS a b) r := by
  obtain ⟨a1, a2, a3, a4, rfl, ha1, ha2, ha3, ha4⟩ := hx
  obtain ⟨b1, b2, b3, b4, rfl, hb1, hb2, hb3, hb4⟩ := hy
  refine VCall.pure (by kernel_rfl) fun hok => VCall.strip ?_
  refine VCall.of_fn (g := cfg11) mix Tryz.func11 ok11 rfl rfl ?_
  simp only [Tryz.f11, Option.getD_some]
  have hvp : ∀ a b c e : D, vpart true 4 [a, b, c, e] 0 = some (.agg [a, b, c, e]) := fun a b c e => vpart_whole rfl (by omega)
  have hb0 : vbuild Tryz.prog 24 [] = some (.agg nil4) := by simp [vbuild, placesT_24, zeroT_24, vfill, D.notTuple, D.cells]
  have hst0 : ∀ H : Heap, vstore Tryz.prog 24 (.ptr H.next 0) (.agg nil4) (H.new H.next (.row nil4)) = some (H.new H.next (.row nil4)) := fun H => vstore_new szT_24 (by omega) rfl rfl rfl
  have fin0 : ∀ {k : Int} {h' : Heap}, Ext h h' → mergeS a b = (.zero, k) → Ext h h' ∧ below h.next (strip (.tuple [.agg nil4, .int .i64 k])) ∧ MergeQ (mergeS a b) (strip (.tuple [.agg nil4, .int .i64 k])) := fun hE hm => by
    have := merge_zero hm
    exact ⟨hE, below_mono (Nat.zero_le _) _ this.1, this.2⟩
  have hE0 : Ext h (h.new h.next (.row nil4)) := (Ext.refl h).new (Nat.le_refl _) _
  simp only [go_sem, Nat.reduceEqDiff, ↓reduceIte, mu11, List.contains_cons, Nat.reduceBEq, hvp]
  refine (c_check ⟨a1, a2, a3, a4, rfl, ha1, ha2, ha3, ha4⟩ hsa _).mono ?_
  rintro r h2 ⟨rfl, rfl⟩
  cases h1 : (checkS a != 0) with
  | true =>
    simp only [go_sem, Nat.reduceEqDiff, ↓reduceIte, hvp, h1, hb0, hst0]
    exact fin0 hE0 (by unfold mergeS; rw [if_pos (by simpa using h1)])
  | false =>
  have k1 : checkS a = 0 := by simpa using h1
  simp only [go_sem, Nat.reduceEqDiff, ↓reduceIte, hvp, h1]
  refine (c_check ⟨b1, b2, b3, b4, rfl, hb1, hb2, hb3, hb4⟩ hsb _).mono ?_
  rintro r h2 ⟨rfl, rfl⟩
  cases h2 : (checkS b != 0) with
  | true =>
    simp only [go_sem, Nat.reduceEqDiff, ↓reduceIte, hvp, h2, hb0, hst0]
    exact fin0 hE0 (by unfold mergeS; rw [if_neg (by simp [k1]), if_pos (by simpa using h2)])
  | false =>
  have k2 : checkS b = 0 := by simpa using h2
  obtain ⟨la1, la2, la3, la, _⟩ := check_ok k1
  obtain ⟨lb1, lb2, lb3, lb, _⟩ := check_ok k2
  have hbs : ∀ H : Heap, vbuildSlice Tryz.prog false H.next 85 2 [(0, .agg [a1, a2, a3, a4]), (1, .agg [b1, b2, b3, b4])] H = some (.sl 4 [[a1, a2, a3, a4], [b1, b2, b3, b4]] .full, H) := fun H => vbuildSlice_two elemT_85 zeroT_24 szT_24 rfl rfl (by omega) (by omega) rfl rfl rfl rfl
  have hl2 : ∀ H : Heap, vlen Tryz.prog 85 (.sl 4 [[a1, a2, a3, a4], [b1, b2, b3, b4]] .full) H = some (.int .i64 2) := fun H => vlen_sl (IsSl.mk .full) Tryz.underlying85
  obtain ⟨R, r0, r1, r2⟩ : ∃ R : Nat → List (Str × Str), R 0 = zipN a ++ zipN b ∧ R 1 = zipN b ∧ R 2 = [] := ⟨fun i => if i = 0 then zipN a ++ zipN b else if i = 1 then zipN b else [], rfl, rfl, rfl⟩
  simp only [go_sem, Nat.reduceEqDiff, ↓reduceIte, hvp, h2, next_new_eq, mu11, List.contains_cons, Nat.reduceBEq, hbs, hl2]
  refine vwp_range (fun i fr h' => fr 2 = .iptr [a1, a2, a3, a4] 0 ∧ fr 3 = .iptr [b1, b2, b3, b4] 0 ∧ fr 4 = .ptr h.next 0 ∧ fr 8 = .map (h.next + 1) ∧ fr 34 = .sl 4 [[a1, a2, a3, a4], [b1, b2, b3, b4]] .full ∧ fr 35 = .int .i64 2 ∧ fr 36 = .int .i64 (i : Int) ∧
    Ext h h' ∧ h.next + 2 ≤ h'.next ∧ h'.at' h.next = some (.row nil4) ∧ ∃ m, h'.at' (h.next + 1) = some (.map (kvD m)) ∧ addAll (R 0) [] = addAll (R i) m) 2 ?_ ?_
  · simp only [go_sem, Nat.reduceEqDiff, ↓reduceIte, true_and]
    exact ⟨rfl, hE0.new (by omega) _, Nat.le_of_eq (next_new_ge (h.new h.next (.row nil4)) (i := h.next + 1) (by rw [next_new_eq]; exact Nat.le_refl _) _).symm, by rw [new_keep (by omega), new_at], [], rfl, rfl⟩
  rintro i fr h' hi ⟨f2, f3, f4, f8, f34, f35, f36, hE, hN, hrow, m, hmap, hadd⟩
  by_cases hlt : i < 2
  · obtain ⟨n, p1, p2, p3, p4, hS, q1, q2, q3, q4, ln, le, hR⟩ : ∃ (n : Note) (p1 p2 p3 p4 : D), [[a1, a2, a3, a4], [b1, b2, b3, b4]][i]? = some [p1, p2, p3, p4] ∧ IsSl 1 (strs n.ls) p1 ∧ IsSl 1 (strs n.ts) p2 ∧ IsSl 1 (strs n.hs) p3 ∧ IsSl 1 (strs n.cs) p4 ∧ n.ts.length = n.ls.length ∧ n.ls.length ≤ 1024 ∧ R i = zipN n ++ R (i + 1) := by
      rcases i with _ | _ | i
      · exact ⟨a, a1, a2, a3, a4, rfl, ha1, ha2, ha3, ha4, la, la1, by rw [r0, r1]⟩
      · exact ⟨b, b1, b2, b3, b4, rfl, hb1, hb2, hb3, hb4, lb, lb1, by rw [r1, r2, List.append_nil]⟩
      · omega
    have e1 : decide ((i : Int) < 2) = true := decide_eq_true (by omega)
    have hix : vindexAddr Tryz.prog 85 (.sl 4 [[a1, a2, a3, a4], [b1, b2, b3, b4]] .full) (.int .i64 (i : Int)) = some (.iptr [p1, p2, p3, p4] 0) := vindexAddr_sl (IsSl.mk _) elemT_85 szT_24 hS
    have hst : vstore Tryz.prog 24 (.ptr h'.next 0) (.agg [p1, p2, p3, p4]) (h'.new h'.next (.row nil4)) = some (h'.new h'.next (.row [p1, p2, p3, p4])) := vstore_new szT_24 (by omega) rfl rfl (flat4 (flatSl q1).1 (flatSl q2).1 (flatSl q3).1 (flatSl q4).1)
    have s1 : ((strs n.ls).length : Int) = n.ls.length := by rw [strs_length]
    simp only [go_sem, Nat.reduceEqDiff, ↓reduceIte, mu11, List.contains_cons, Nat.reduceBEq, f2, f3, f4, f8, f34, f35, f36, e1, hix, hvp, hst, new_at, vfieldAddr, Nat.reduceAdd, Nat.zero_add, vpart_false, List.getElem?_cons_zero, List.getElem?_cons_succ, vlen_sl q1 Tryz.underlying22, s1]
    refine vwp_range (fun j fr h3 => fr 2 = .iptr [a1, a2, a3, a4] 0 ∧ fr 3 = .iptr [b1, b2, b3, b4] 0 ∧ fr 4 = .ptr h.next 0 ∧ fr 8 = .map (h.next + 1) ∧ fr 34 = .sl 4 [[a1, a2, a3, a4], [b1, b2, b3, b4]] .full ∧ fr 35 = .int .i64 2 ∧ fr 36 = .int .i64 (i : Int) ∧
      fr 10 = .ptr h'.next 0 ∧ fr 41 = p1 ∧ fr 42 = .int .i64 n.ls.length ∧ fr 43 = .int .i64 (j : Int) ∧ Ext h h3 ∧ h'.next < h3.next ∧ h3.at' h.next = some (.row nil4) ∧ h3.at' h'.next = some (.row [p1, p2, p3, p4]) ∧ ∃ m, h3.at' (h.next + 1) = some (.map (kvD m)) ∧ addAll (R 0) [] = addAll ((zipN n).drop j ++ R (i + 1)) m) n.ls.length ?_ ?_
    · simp only [go_sem, Nat.reduceEqDiff, ↓reduceIte, f2, f3, f4, f8, f34, f35, f36, true_and]
      exact ⟨rfl, hE.new (by omega) _, by rw [next_new_eq]; omega, by rw [new_keep (by omega)]; exact hrow, m, by rw [new_keep (by omega)]; exact hmap, by rw [hadd, hR, List.drop_zero]⟩
    rintro j fr2 h3 hj ⟨g2, g3, g4, g8, g34, g35, g36, g10, g41, g42, g43, gE, gN, grow, gcp, m2, gmap, gadd⟩
    by_cases hjl : j < n.ls.length
    · have hjt : j < n.ts.length := by omega
      have e2 : decide ((j : Int) < n.ls.length) = true := decide_eq_true (by omega)
      have hlk := vlookup_kv (t := 84) gmap mapT_84 keyT_9 zeroT_9 n.ls[j] true
      have hdr : (zipN n).drop j = (n.ls[j], n.ts[j]) :: (zipN n).drop (j + 1) := by
        have hz : j < (zipN n).length := by unfold zipN; rw [List.length_zip]; omega
        rw [List.drop_eq_getElem_cons hz]
        simp [zipN]
      rw [hdr, List.cons_append, addAll] at gadd
      obtain ⟨h4, hup, u1, u2, u3, u4, u5⟩ : ∃ h4, vmapUpdate Tryz.prog 84 (.map (h.next + 1)) (.str n.ls[j]) (.str n.ts[j]) h3 = some h4 ∧ Ext h h4 ∧ h'.next < h4.next ∧ h4.at' h.next = some (.row nil4) ∧ h4.at' h'.next = some (.row [p1, p2, p3, p4]) ∧ h4.at' (h.next + 1) = some (.map (kvD (kvPut n.ls[j] n.ts[j] m2))) :=
        ⟨_, vmapUpdate_kv gmap mapT_84 keyT_9 _ _, gE.set (by omega) _, gN, by rw [set_keep (by omega)]; exact grow, by rw [set_keep (by omega)]; exact gcp, set_at_same _ _ _⟩
      have hwr := wrap_succ (show j < lim by unfold lim; omega)
      cases hg : kvGet n.ls[j] m2 with
      | none =>
        rw [hg] at hlk gadd
        simp (config := { maxSteps := 2000000 }) only [go_sem, Nat.reduceEqDiff, ↓reduceIte, mu11, List.contains_cons, Nat.reduceBEq, g2, g3, g4, g8, g34, g35, g36, g10, g41, g42, g43, e2, vindexAddr_sl q1 elemT_22 szT_9 (strs_get hjl), vindexAddr_sl q2 elemT_22 szT_9 (strs_get hjt), hlk, vfound, Option.map_none, Option.map_some, vextract, List.getElem?_cons_zero, List.getElem?_cons_succ, gcp, vfieldAddr, Nat.reduceAdd, Nat.zero_add, vpart_false, hup, hwr]
        exact ⟨hjl, by rw [wrap_succ (by unfold lim; omega)], u1, u2, u3, u4, _, u5, gadd⟩
      | some t =>
        rw [hg] at hlk gadd
        cases ht : (t == n.ts[j]) with
        | false =>
          have hst4 : vstore Tryz.prog 24 (.ptr h.next 0) (.agg nil4) h3 = some (h3.set h.next (.row nil4)) := vstore_whole grow szT_24 rfl (by simp) rfl
          simp (config := { maxSteps := 2000000 }) only [go_sem, Nat.reduceEqDiff, ↓reduceIte, mu11, List.contains_cons, Nat.reduceBEq, g2, g3, g4, g8, g34, g35, g36, g10, g41, g42, g43, e2, vindexAddr_sl q1 elemT_22 szT_9 (strs_get hjl), vindexAddr_sl q2 elemT_22 szT_9 (strs_get hjt), hlk, vfound, Option.map_none, Option.map_some, vextract, List.getElem?_cons_zero, List.getElem?_cons_succ, gcp, vfieldAddr, Nat.reduceAdd, Nat.zero_add, vpart_false, ht, Bool.not_false, hb0, hst4, hvp]
          refine fin0 (gE.set (Nat.le_refl _) _) ?_
          simp only [ht, Bool.false_eq_true, if_false] at gadd
          unfold mergeS
          rw [if_neg (by simp [k1]), if_neg (by simp [k2]), ← r0, gadd]
        | true =>
          simp only [ht, if_true] at gadd
          simp (config := { maxSteps := 2000000 }) only [go_sem, Nat.reduceEqDiff, ↓reduceIte, mu11, List.contains_cons, Nat.reduceBEq, g2, g3, g4, g8, g34, g35, g36, g10, g41, g42, g43, e2, vindexAddr_sl q1 elemT_22 szT_9 (strs_get hjl), vindexAddr_sl q2 elemT_22 szT_9 (strs_get hjt), hlk, vfound, Option.map_none, Option.map_some, vextract, List.getElem?_cons_zero, List.getElem?_cons_succ, gcp, vfieldAddr, Nat.reduceAdd, Nat.zero_add, vpart_false, ht, Bool.not_true, hup, hwr]
          exact ⟨hjl, by rw [wrap_succ (by unfold lim; omega)], u1, u2, u3, u4, _, u5, gadd⟩
    · have hje : j = n.ls.length := by omega
      subst hje
      have e2 : decide ((n.ls.length : Int) < n.ls.length) = false := decide_eq_false (by omega)
      have hwr := wrap_succ (show i < lim by unfold lim; omega)
      simp only [go_sem, Nat.reduceEqDiff, ↓reduceIte, g2, g3, g4, g8, g34, g35, g36, g10, g41, g42, g43, e2, hwr]
      rw [List.drop_of_length_le (by unfold zipN; rw [List.length_zip]; omega), List.nil_append] at gadd
      exact ⟨hlt, by rw [wrap_succ (by unfold lim; omega)], gE, by omega, grow, m2, gmap, gadd⟩
  have hie : i = 2 := by omega
  subst hie
  have e1 : decide (((2 : Nat) : Int) < 2) = false := rfl
  have hadd2 : addAll (zipN a ++ zipN b) [] = some m := by rw [← r0, hadd, r2]; rfl
  have hmg : mergeS a b = if checkS (mergedN a b m) ≠ 0 then (.zero, checkS (mergedN a b m)) else (mergedN a b m, 0) := merge_of k1 k2 hadd2
  have hsm := merged_sm hsa hsb k1 k2 hadd2
  have hle0 : ∀ H : Heap, HLe ⟨0, fun _ => none⟩ H := fun H i ob e => by cases e
  have hle1 : ∀ H : Heap, HLe ⟨0, fun _ => none⟩ H = True := fun H => eq_true (hle0 H)
  have hbp : ∀ {l1 l2 : List (List UInt8)} {x y : D}, IsSl 1 (strs l1) x → IsSl 1 (strs l2) y → ∀ H : Heap, vbuildSlice Tryz.prog false H.next 144 2 [(0, x), (1, y)] H = some (.sl 1 [[x], [y]] .full, H) := fun {l1 l2 x y} hx hy H => by
    have q1 := flatSl hx
    have q2 := flatSl hy
    rw [vbuildSlice_two (x := x) (y := y) elemT_144 zeroT_22 szT_22 rfl rfl (by omega) (by omega) q1.2.2 (by rw [q1.2.1]; rfl) q2.2.2 (by rw [q2.2.1]; rfl), q1.2.1, q2.2.1]
  have con : ∀ {l1 l2 : List (List UInt8)} {x y : D}, IsSl 1 (strs l1) x → IsSl 1 (strs l2) y → l1.length ≤ 1024 → l2.length ≤ 1024 → ∀ H : Heap, VCall Tryz.prog 34 [.sl 1 [[x], [y]] .full] H fun r h'' => h'' = H ∧ r = fin0D (l1 ++ l2) := fun hx hy e1 e2 H =>
    (c_concat hx hy (by omega) (by omega) .full H).mono fun _ _ q => ⟨q.1, Fin0.eq q.2⟩
  have srt : ∀ {l1 l2 : List (List UInt8)} {d : D}, l1.length ≤ 1024 → l2.length ≤ 1024 → fin0D (sortedS (l1 ++ l2)) = d → ∀ H : Heap, VCall Tryz.prog 33 [fin0D (l1 ++ l2)] H fun r h'' => h'' = H ∧ r = d := fun e1 e2 e H =>
    (c_sorted (fin0D_ok _) (by rw [List.length_append]; omega) H).mono fun _ _ q => ⟨q.1, by rw [← e]; exact q.2.eq⟩
  obtain ⟨Ld, hL, eL⟩ : ∃ d, Fin0 (sortedS (a.ls ++ b.ls)) d ∧ fin0D (sortedS (a.ls ++ b.ls)) = d := ⟨_, fin0D_ok _, rfl⟩
  obtain ⟨Hd, hH, eH⟩ : ∃ d, Fin0 (sortedS (a.hs ++ b.hs)) d ∧ fin0D (sortedS (a.hs ++ b.hs)) = d := ⟨_, fin0D_ok _, rfl⟩
  obtain ⟨Cd, hC, eC⟩ : ∃ d, Fin0 (sortedS (a.cs ++ b.cs)) d ∧ fin0D (sortedS (a.cs ++ b.cs)) = d := ⟨_, fin0D_ok _, rfl⟩
  have qL := flatSl hL.isSl
  have qH := flatSl hH.isSl
  have qC := flatSl hC.isSl
  have hbn : vbuild Tryz.prog 24 [(0, Ld), (2, Hd), (3, Cd)] = some (.agg [Ld, .nilsl, Hd, Cd]) := by
    simp [vbuild, placesT_24, zeroT_24, vfill, putAt, notTuple_agg, cells_agg, qL.2.1, qL.2.2, qH.2.1, qH.2.2, qC.2.1, qC.2.2]
  have hst5 : vstore Tryz.prog 24 (.ptr h'.next 0) (.agg [Ld, .nilsl, Hd, Cd]) (h'.new h'.next (.row nil4)) = some (h'.new h'.next (.row [Ld, .nilsl, Hd, Cd])) := vstore_new szT_24 (by omega) rfl rfl (flat4 qL.1 rfl qH.1 qC.1)
  simp only [go_sem, Nat.reduceEqDiff, ↓reduceIte, f2, f3, f4, f8, f34, f35, f36, e1]
  refine vwp_plan ⟨0, fun _ => none⟩ [(0, .no, true), (1, .st, true), (2, .no, true), (3, .st, true), (4, .no, true), (7, .no, true), (8, .st, true), (9, .no, true), (10, .st, true), (11, .no, true), (14, .no, true), (15, .st, true), (16, .no, true), (17, .st, true), (18, .no, true), (5, .st, true), (6, .st, true), (12, .st, true), (13, .st, true), (19, .st, true), (20, .st, true), (21, .no, true), (22, .no, true), (23, .no, true)] (by kernel_rfl) (by kernel_rfl) (hle0 _) ?_
  simp only [go_sem, Nat.reduceEqDiff, ↓reduceIte, f2, f3, f4, f8, mu11, List.contains_nil, hle1, vfieldAddr, Nat.reduceAdd, Nat.zero_add, vpart_false, List.getElem?_cons_zero, List.getElem?_cons_succ, hbp ha1 hb1, hbp ha3 hb3, hbp ha4 hb4]
  refine onSt_fn _ (con ha1 hb1 la1 lb1) ?_
  refine onSt_fn _ (srt la1 lb1 eL) ?_
  refine onSt_fn _ (con ha3 hb3 la2 lb2) ?_
  refine onSt_fn _ (srt la2 lb2 eH) ?_
  refine onSt_fn _ (con ha4 hb4 la3 lb3) ?_
  refine onSt_fn _ (srt la3 lb3 eC) ?_
  have sL : ((strs (sortedS (a.ls ++ b.ls))).length : Int) = (sortedS (a.ls ++ b.ls)).length := by rw [strs_length]
  have hLen : (sortedS (a.ls ++ b.ls)).length ≤ 2048 := by
    have := sortedS_len (a.ls ++ b.ls)
    rw [List.length_append] at this; omega
  simp only [go_sem, Nat.reduceEqDiff, ↓reduceIte, f2, f3, f4, f8, mu11, List.contains_nil, hle1, hbn, hst5, new_at, vfieldAddr, Nat.reduceAdd, Nat.zero_add, vpart_false, List.getElem?_cons_zero, List.getElem?_cons_succ, vlen_sl hL.isSl Tryz.underlying22, sL]
  generalize hLL : sortedS (a.ls ++ b.ls) = L at *
  obtain ⟨T, hT⟩ : ∃ T : List (List UInt8), T = L.map fun s => (kvGet s m).getD [] := ⟨_, rfl⟩
  have hTl : T.length = L.length := by rw [hT, List.length_map]
  refine vwp_range (fun j fr h3 => fr 4 = .ptr h.next 0 ∧ fr 8 = .map (h.next + 1) ∧ fr 15 = .ptr h'.next 0 ∧ fr 97 = Ld ∧ fr 98 = .int .i64 L.length ∧ fr 99 = .int .i64 (j : Int) ∧ Ext h h3 ∧ h'.next < h3.next ∧ h3.at' h.next = some (.row nil4) ∧ h3.at' (h.next + 1) = some (.map (kvD m)) ∧
    ∃ td, h3.at' h'.next = some (.row [Ld, td, Hd, Cd]) ∧ OwnSl h3 1 (strs (T.take j)) td ∧ ∀ q, tokOf td q → h'.next < q) L.length ?_ ?_
  · simp only [go_sem, Nat.reduceEqDiff, ↓reduceIte, f2, f3, f4, f8, true_and]
    exact ⟨rfl, hE.new (by omega) _, by rw [next_new_eq]; omega, by rw [new_keep (by omega)]; exact hrow, by rw [new_keep (by omega)]; exact hmap, .nilsl, rfl, .inl ⟨rfl, rfl⟩, fun q hq => hq.elim⟩
  rintro j fr2 h3 hj ⟨g4, g8, g15, g97, g98, g99, gE, gN, grow, gmap, td, gtd, gos, gtk⟩
  by_cases hjl : j < L.length
  · have e2 : decide ((j : Int) < L.length) = true := decide_eq_true (by omega)
    have hlk := vlookup_kv (t := 84) gmap mapT_84 keyT_9 zeroT_9 L[j] false
    have hvf : vfound false (.str []) ((kvGet L[j] m).map .str) = .str ((kvGet L[j] m).getD []) := by cases kvGet L[j] m <;> rfl
    rw [hvf] at hlk
    have hTj : T.take (j + 1) = T.take j ++ [(kvGet L[j] m).getD []] := by
      rw [List.take_succ_eq_append_getElem (by omega)]
      simp [hT]
    have hb1' : ∀ H : Heap, vbuildSlice Tryz.prog false H.next 22 1 [(0, .str ((kvGet L[j] m).getD []))] H = some (.sl 1 [[.str ((kvGet L[j] m).getD [])]] .full, H) := fun H => vbuildSlice_one (x := .str ((kvGet L[j] m).getD [])) elemT_22 zeroT_9 szT_9 rfl rfl (by omega) (by omega) rfl rfl
    simp only [go_sem, Nat.reduceEqDiff, ↓reduceIte, mu11, List.contains_nil, g4, g8, g15, g97, g98, g99, e2, gtd, vindexAddr_sl hL.isSl elemT_22 szT_9 (strs_get hjl), vfieldAddr, Nat.reduceAdd, Nat.zero_add, vpart_false, List.getElem?_cons_zero, List.getElem?_cons_succ, hlk, hb1']
    have htl : (strs (T.take j)).length = j := by rw [strs_length, List.length_take]; omega
    refine OwnSl.app2 (h := h3) gos elemT_22 zokT_9 szT_9 (by omega) (by simp) (by simp) (by rw [htl, bytesT_9]; unfold lim; simp; omega) (by rw [htl]; unfold lim; simp; omega) ?_
    intro d' h6 b1 b2 b3 b4 b5 b6
    have g : h6.at' h'.next = some (.row [Ld, td, Hd, Cd]) := by rw [b3 _ (by omega) fun e => by have := gtk _ e; omega]; exact gtd
    have k0 : h6.at' h.next = some (.row nil4) := by rw [b3 _ (by omega) fun e => by have := gtk _ e; omega]; exact grow
    have k1' : h6.at' (h.next + 1) = some (.map (kvD m)) := by rw [b3 _ (by omega) fun e => by have := gtk _ e; omega]; exact gmap
    have gE6 : Ext h h6 := ⟨by have := gE.1; omega, fun i hi => by rw [b3 i (by have := gE.1; omega) fun e => by have := gtk _ e; omega]; exact gE.2 i hi⟩
    have hst : vstore Tryz.prog 22 (.ptr h'.next 1) d' h6 = some (h6.set h'.next (.row [Ld, d', Hd, Cd])) := by rw [vstore_cell g szT_22 (by simp) b5 b6]; rfl
    simp only [go_sem, Nat.reduceEqDiff, ↓reduceIte, g4, g8, g15, g97, g98, g99, vfieldAddr, Nat.reduceAdd, Nat.zero_add, hst]
    refine ⟨hjl, by rw [wrap_succ (by unfold lim; omega)], gE6.set (by omega) _, by omega, by rw [set_keep (by omega)]; exact k0, by rw [set_keep (by omega)]; exact k1', d', rfl, ?_, fun q hq => by have := b4 q hq; omega⟩
    rw [hTj]
    have hss : strs (T.take j ++ [(kvGet L[j] m).getD []]) = strs (T.take j) ++ [[.str ((kvGet L[j] m).getD [])]] := by simp [strs]
    rw [hss]
    exact b1.loc (Nat.le_refl _) fun i hi => set_keep (by have := b4 i hi; omega)
  have hje : j = L.length := by omega
  subst hje
  have e2 : decide ((L.length : Int) < L.length) = false := decide_eq_false (by omega)
  rw [List.take_of_length_le (by omega)] at gos
  obtain ⟨h4, hclr, v1, v3, v4, v5⟩ : ∃ h4, vclear Tryz.prog 84 (.map (h.next + 1)) h3 = some h4 ∧ Ext h h4 ∧ h4.at' h.next = some (.row nil4) ∧ h4.at' h'.next = some (.row [Ld, td, Hd, Cd]) ∧ OwnSl h4 1 (strs T) td :=
    ⟨_, vclear_map gmap Tryz.underlying84, gE.set (by omega) _, by rw [set_keep (by omega)]; exact grow, by rw [set_keep (by omega)]; exact gtd, gos.loc (Nat.le_refl _) fun i hi => set_keep (by have := gtk i hi; omega)⟩
  have hmn : mergedN a b m = ⟨L, T, sortedS (a.hs ++ b.hs), sortedS (a.cs ++ b.cs)⟩ := by unfold mergedN; rw [hLL, hT]
  have qT := flatSl v5.isSl
  simp only [go_sem, Nat.reduceEqDiff, ↓reduceIte, mu11, List.contains_nil, g4, g8, g15, g97, g98, g99, e2, hclr, v4, hvp]
  refine (c_check (n := mergedN a b m) ⟨Ld, td, Hd, Cd, rfl, by rw [hmn]; exact hL.isSl, by rw [hmn]; exact v5.isSl, by rw [hmn]; exact hH.isSl, by rw [hmn]; exact hC.isSl⟩ hsm h4).mono ?_
  rintro r h4 ⟨rfl, rfl⟩
  cases h5 : (checkS (mergedN a b m) != 0) with
  | true =>
    have hst4 : vstore Tryz.prog 24 (.ptr h.next 0) (.agg nil4) h4 = some (h4.set h.next (.row nil4)) := vstore_whole v3 szT_24 rfl (by simp) rfl
    simp only [go_sem, Nat.reduceEqDiff, ↓reduceIte, g4, g8, g15, h5, hb0, hst4, hvp]
    exact fin0 (v1.set (Nat.le_refl _) _) (by rw [hmg, if_pos (by simpa using h5)])
  | false =>
    have hst4 : vstore Tryz.prog 24 (.ptr h.next 0) (.agg [Ld, td, Hd, Cd]) h4 = some (h4.set h.next (.row [Ld, td, Hd, Cd])) := vstore_whole v3 szT_24 rfl (by simp) (flat4 qL.1 qT.1 qH.1 qC.1)
    simp only [go_sem, Nat.reduceEqDiff, ↓reduceIte, g4, g8, g15, h5, v4, hst4, hvp]
    have := merge_note (n := mergedN a b m) (a := Ld) (b := td) (c := Hd) (e := Cd) (h := h4) (by rw [hmn]; exact hL) (by rw [hmn]; exact v5) (by rw [hmn]; exact hH) (by rw [hmn]; exact hC)
    rw [hmg, if_neg (by simpa using h5)]
    exact ⟨v1.set (Nat.le_refl _) _, below_mono (Nat.zero_le _) _ this.1, this.2⟩
end Go.V
