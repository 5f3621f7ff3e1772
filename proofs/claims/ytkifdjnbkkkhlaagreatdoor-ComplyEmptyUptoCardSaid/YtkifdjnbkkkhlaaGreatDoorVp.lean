/- Contracts of functions of the library at strings. No condition. -/
import Derived.Test.YtkifdjnbkkkhlaaGreatDoorVhE
import Derived.Lib.IndexLaws
import Derived.Test.YtkifdjnbkkkhlaaGreatDoorVSh
import Derived.Test.YtkifdjnbkkkhlaaGreatDoorVyT
import Derived.Test.YtkifdjnbkkkhlaaGreatDoorVxT
set_option linter.unusedSimpArgs false
set_option linter.unusedVariables false
set_option linter.constructorNameAsVariable false
set_option linter.deprecated false
namespace Go.V

/-! Strings and their parts: plain laws. -/
/-- The parts of a string between the bytes c. -/
def splitB (c : UInt8) : List UInt8 → List (List UInt8)
  | [] => [[]]
  | b :: s => if b = c then [] :: splitB c s else match splitB c s with
    | [] => [[b]]
    | p :: ps => (b :: p) :: ps

theorem splitB_ne (c : UInt8) : ∀ s, splitB c s ≠ []
  | [] => by simp [splitB]
  | b :: s => by
    simp only [splitB]
    split
    · simp
    · split <;> simp

theorem splitB_length (c : UInt8) : ∀ s : List UInt8, (splitB c s).length = s.count c + 1
  | [] => rfl
  | b :: s => by
    have ih := splitB_length c s
    simp only [splitB]
    by_cases h : b = c
    · subst h; simp [ih]
    · rw [if_neg h, List.count_cons_of_ne h]
      split
      · rename_i h0; rw [h0] at ih; simp at ih
      · rename_i p ps h0; rw [h0] at ih; simpa using ih

theorem splitB_none {c : UInt8} : ∀ {s : List UInt8}, c ∉ s → splitB c s = [s]
  | [], _ => rfl
  | b :: s, h => by
    simp only [List.mem_cons, not_or] at h
    rw [splitB, if_neg (fun e => h.1 e.symm), splitB_none h.2]

theorem splitB_at {c : UInt8} : ∀ {m : Nat} {s : List UInt8}, s[m]? = some c → (∀ k, k < m → s[k]? ≠ some c) → splitB c s = s.take m :: splitB c (s.drop (m + 1))
  | m, [], h, _ => by simp at h
  | 0, b :: s, h, _ => by
    simp only [List.getElem?_cons_zero, Option.some.injEq] at h
    rw [splitB, if_pos h]
    simp
  | m + 1, b :: s, h, hk => by
    simp only [List.getElem?_cons_succ] at h
    have hb : b ≠ c := fun e => hk 0 (by omega) (by simp [e])
    rw [splitB, if_neg hb, splitB_at h fun k hkm => by simpa using hk (k + 1) (by omega)]
    simp

/-- What strings.Index finds. -/
theorem index_cases (s : List UInt8) (c : UInt8) : (Lib.indexByte s c = -1 ∧ splitB c s = [s]) ∨ ∃ m : Nat, Lib.indexByte s c = (m : Int) ∧ m < s.length ∧ splitB c s = s.take m :: splitB c (s.drop (m + 1)) := by
  have h1 := Lib.indexByte_ge s c
  by_cases h : Lib.indexByte s c = -1
  · refine .inl ⟨h, splitB_none fun hc => ?_⟩
    obtain ⟨k, hk⟩ := List.mem_iff_getElem?.1 hc
    exact Lib.indexByte_none h k hk
  · obtain ⟨m, hm⟩ := Int.eq_ofNat_of_zero_le (show 0 ≤ Lib.indexByte s c by omega)
    obtain ⟨g1, g2⟩ := Lib.indexByte_some hm
    exact .inr ⟨m, hm, (List.getElem?_eq_some_iff.1 g1).1, splitB_at g1 g2⟩

theorem splitB_len_le (c : UInt8) (s : List UInt8) : (splitB c s).length ≤ s.length + 1 := by
  rw [splitB_length]
  have := List.count_le_length (a := c) (l := s)
  omega

/-- Each part is no longer than the whole. -/
theorem splitB_part_le (c : UInt8) : ∀ (s : List UInt8), ∀ p ∈ splitB c s, p.length ≤ s.length
  | [], p, h => by simp [splitB] at h; subst h; simp
  | b :: s, p, h => by
    have ih := splitB_part_le c s
    simp only [splitB] at h
    split at h
    · rcases List.mem_cons.1 h with rfl | h
      · simp
      · have := ih p h; simp; omega
    · split at h
      · rename_i h0; exact absurd h0 (splitB_ne c s)
      · rename_i q qs h0
        rcases List.mem_cons.1 h with rfl | h
        · have := ih q (by rw [h0]; simp); simp; omega
        · have := ih p (by rw [h0]; simp [h]); simp; omega

/-- Strings as elements. -/
def strs (l : List (List UInt8)) : List (List D) := l.map fun s => [.str s]
theorem strs_length (l : List (List UInt8)) : (strs l).length = l.length := List.length_map ..
theorem strs_get {l : List (List UInt8)} {i : Nat} (h : i < l.length) : (strs l)[i]? = some [.str l[i]] := by simp [strs, h]
theorem strs_plain {l : List (List UInt8)} : ∀ x ∈ strs l, PlainC x := fun x hx => by
  obtain ⟨s, _, rfl⟩ := List.mem_map.1 hx
  exact ⟨rfl, ⟨trivial, trivial⟩, rfl⟩
theorem strs_one {l : List (List UInt8)} : ∀ x ∈ strs l, x.length = 1 := fun x hx => by
  obtain ⟨s, _, rfl⟩ := List.mem_map.1 hx
  rfl
def sdd (s : List UInt8) : D := .str s
theorem strs_flat (l : List (List UInt8)) : (strs l).flatten = l.map sdd := by
  induction l with
  | nil => rfl
  | cons x l ih => simp [strs, sdd] at ih ⊢; exact ih
end Go.V
namespace Go.V
open Go.Proofs

/-! Functions of Go's library whose contracts are known. -/
/-- strings.Count at one byte. -/
theorem l_count {s : List UInt8} (hl : s.length ≤ 1048576) (c : UInt8) (h : Heap) : VCall Tryz.prog 108 [.str s, .str [c]] h fun r h' => h' = h ∧ r = .int .i64 (Lib.countByte s c : Nat) := by
  have hc : Lib.countByte s c ≤ s.length := List.count_le_length
  refine (libCount_ok (by kernel_rfl) (fun s c w => Tryz.strings_Count_one s c w) (args := [.str s, .str [c]]) (d := .int .i64 (Lib.countByte s c : Nat)) ?_ h).mono fun a b hab => ⟨hab.2, hab.1⟩
  simp only [libCount, intR]
  rw [wrap_i64 (by omega) (by omega)]
  simp
/-- strings.Index at one byte. -/
theorem l_index {s : List UInt8} (hl : s.length ≤ 1048576) (c : UInt8) (h : Heap) : VCall Tryz.prog 109 [.str s, .str [c]] h fun r h' => h' = h ∧ r = .int .i64 (Lib.indexByte s c) := by
  have h1 := Lib.indexByte_ge s c
  have h2 : Lib.indexByte s c ≤ s.length := by
    by_cases h0 : Lib.indexByte s c = -1
    · omega
    · obtain ⟨m, hm⟩ := Int.eq_ofNat_of_zero_le (show 0 ≤ Lib.indexByte s c by omega)
      have := (List.getElem?_eq_some_iff.1 (Lib.indexByte_some hm).1).1
      omega
  refine (libIndex_ok (by kernel_rfl) (fun s c w => Tryz.strings_Index_one s c w) (args := [.str s, .str [c]]) (d := .int .i64 (Lib.indexByte s c)) ?_ h).mono fun a b hab => ⟨hab.2, hab.1⟩
  simp only [libIndex, intR]
  rw [wrap_i64 (by omega) (by omega)]
  simp

theorem dropWhile_len {α : Type} (p : α → Bool) : ∀ l : List α, (l.dropWhile p).length ≤ l.length
  | [] => Nat.le_refl _
  | a :: l => by
    simp only [List.dropWhile]
    split
    · have := dropWhile_len p l
      simp; omega
    · exact Nat.le_refl _
theorem trimS_len (s c : List UInt8) : (Lib.trimS s c).length ≤ s.length := by
  unfold Lib.trimS Lib.trimLeftS Lib.trimRightS
  refine Nat.le_trans (dropWhile_len _ _) ?_
  rw [List.length_reverse]
  refine Nat.le_trans (dropWhile_len _ _) ?_
  rw [List.length_reverse]
  exact Nat.le_refl _
/-- strings.Trim at a cutset of ASCII. -/
theorem l_trim {s : List UInt8} (hl : s.length ≤ 1048576) {c : List UInt8} (hc : c.all (fun b => decide (b.toNat < 128)) = true) (hn : c.length < 4294967281) (h : Heap) : VCall Tryz.prog 153 [.str s, .str c] h fun r h' => h' = h ∧ r = .str (Lib.trimS s c) := by
  refine (libTrim_ok (by kernel_rfl) (fun s c w h1 h2 h3 => Any.strings_Trim_laid Tryz.lays160 (by kernel_rfl) s c w h1 h2 h3) (args := [.str s, .str c]) (d := .str (Lib.trimS s c)) ?_ h).mono fun a b hab => ⟨hab.2, hab.1⟩
  have h1 := trimS_len s c
  have h2 : Nat.blt c.length 4294967281 = true := by rw [Nat.blt_eq]; exact hn
  simp only [libTrim, hc, h2, Bool.and_self, if_true, strR]
  rw [if_pos (decide_eq_true (by unfold lim; omega))]
end Go.V
namespace Go.V
open Go.Proofs
set_option maxRecDepth 100000
set_option linter.unusedSimpArgs false

/-! Lists of strings that are searched. -/
/-- slices.Index at strings. -/
theorem c_indexS {l : List (List UInt8)} {d : D} (hd : IsSl 1 (strs l) d) (hl : l.length ≤ 1048576) (s : List UInt8) (h : Heap) :
    VCall Tryz.prog 17 [d, .str s] h fun r h' => h' = h ∧ r = .int .i64 (match l.findIdx? (· == s) with | some i => (i : Int) | none => -1) := by
  refine VCall.of_fn (g := cfg17) mix Tryz.func17 ok17 rfl rfl ?_
  simp only [Tryz.f17, Option.getD_some]
  have hll : ((strs l).length : Int) = l.length := by rw [strs_length]
  simp only [go_sem, Nat.reduceEqDiff, ↓reduceIte, vlen_sl hd Tryz.underlying26, hll]
  refine vwp_range (fun i fr h' => fr 0 = d ∧ fr 1 = .str s ∧ fr 7 = .int .i64 l.length ∧ fr 8 = .int .i64 (i : Int) ∧ h' = h ∧ ∀ j (hj : j < l.length), j < i → (l[j] == s) = false) l.length (by simp [go_sem]) ?_
  rintro i fr h' hi ⟨f0, f1, f7, f8, rfl, hj⟩
  simp only [go_sem, Nat.reduceEqDiff, ↓reduceIte, f0, f1, f7, f8]
  by_cases hlt : i < l.length
  · rw [decide_eq_true (by exact_mod_cast hlt)]
    have hsym : (s == l[i]) = (l[i] == s) := by
      by_cases e : s = l[i]
      · rw [e]
      · rw [beq_eq_false_iff_ne.2 e, beq_eq_false_iff_ne.2 (Ne.symm e)]
    cases he : (l[i] == s) with
    | true =>
      simp only [go_sem, Nat.reduceEqDiff, ↓reduceIte, f0, f1, f7, f8, vindexAddr_sl hd elemT_26 szT_9 (strs_get hlt), vpart_false, hsym, he]
      have : l.findIdx? (· == s) = some i := by
        rw [List.findIdx?_eq_some_iff_getElem]
        exact ⟨hlt, he, fun j hji => by rw [hj j (by omega) hji]; exact Bool.false_ne_true⟩
      rw [this]
    | false =>
      simp only [go_sem, Nat.reduceEqDiff, ↓reduceIte, f0, f1, f7, f8, vindexAddr_sl hd elemT_26 szT_9 (strs_get hlt), vpart_false, hsym, he]
      refine ⟨hlt, by rw [wrap_succ (by unfold lim; omega)], fun j hjl hji => ?_⟩
      rcases Nat.lt_succ_iff_lt_or_eq.1 hji with hji | rfl
      · exact hj j hjl hji
      · exact he
  · have hie : i = l.length := by omega
    subst hie
    rw [decide_eq_false (by omega)]
    simp only [go_sem, Nat.reduceEqDiff, ↓reduceIte]
    have : l.findIdx? (· == s) = none := by
      rw [List.findIdx?_eq_none_iff]
      intro n hn
      obtain ⟨j, hjl, rfl⟩ := List.mem_iff_getElem.1 hn
      exact hj j hjl hjl
    rw [this]

theorem findIdx_ge {α : Type} {l : List α} {p : α → Bool} : decide ((match l.findIdx? p with | some i => (i : Int) | none => -1) ≥ 0) = l.any p := by
  cases hq : l.findIdx? p with
  | none =>
    have : l.any p = false := by
      rw [List.findIdx?_eq_none_iff] at hq
      rw [List.any_eq_false]
      intro n hn
      rw [hq n hn]; exact Bool.false_ne_true
    rw [this]; rfl
  | some i =>
    have : l.any p = true := by
      rw [List.findIdx?_eq_some_iff_getElem] at hq
      obtain ⟨hi, hp, _⟩ := hq
      exact List.any_eq_true.2 ⟨_, List.getElem_mem hi, hp⟩
    rw [this]
    simp

/-- slices.Contains at strings. -/
theorem c_containsS {l : List (List UInt8)} {d : D} (hd : IsSl 1 (strs l) d) (hl : l.length ≤ 1048576) (s : List UInt8) (h : Heap) :
    VCall Tryz.prog 6 [d, .str s] h fun r h' => h' = h ∧ r = .bool (l.any (· == s)) := by
  refine VCall.of_fn (g := cfg6) mix Tryz.func6 ok6 rfl rfl ?_
  simp only [Tryz.f6, Option.getD_some]
  simp only [go_sem, Nat.reduceEqDiff, ↓reduceIte]
  refine (c_indexS hd hl s _).mono ?_
  rintro r h2 ⟨rfl, rfl⟩
  simp only [go_sem, Nat.reduceEqDiff, ↓reduceIte, findIdx_ge]

/-- slices.IndexFunc at strings. -/
theorem c_indexFuncS {l : List (List UInt8)} {d : D} (hd : IsSl 1 (strs l) d) (hl : l.length ≤ 1048576) {g : FuncId} {fst cap : List D} {p : List UInt8 → Bool} (hp : ∀ s ∈ l, ∀ h, VCall Tryz.prog g (fst ++ [.str s] ++ cap) h fun r h' => h' = h ∧ r = .bool (p s)) (h : Heap) :
    VCall Tryz.prog 110 [d, .fn (.func g) fst cap] h fun r h' => h' = h ∧ r = .int .i64 (match l.findIdx? p with | some i => (i : Int) | none => -1) := by
  refine VCall.of_fn (g := cfg110) mix Tryz.func110 ok110 rfl rfl ?_
  simp only [Tryz.f110, Option.getD_some]
  have hll : ((strs l).length : Int) = l.length := by rw [strs_length]
  simp only [go_sem, Nat.reduceEqDiff, ↓reduceIte, vlen_sl hd Tryz.underlying26, hll]
  refine vwp_range (fun i fr h' => fr 0 = d ∧ fr 1 = .fn (.func g) fst cap ∧ fr 7 = .int .i64 l.length ∧ fr 8 = .int .i64 (i : Int) ∧ h' = h ∧ ∀ j (hj : j < l.length), j < i → p l[j] = false) l.length (by simp [go_sem]) ?_
  rintro i fr h' hi ⟨f0, f1, f7, f8, rfl, hj⟩
  simp only [go_sem, Nat.reduceEqDiff, ↓reduceIte, f0, f1, f7, f8]
  by_cases hlt : i < l.length
  · rw [decide_eq_true (by exact_mod_cast hlt)]
    simp only [go_sem, Nat.reduceEqDiff, ↓reduceIte, f0, f1, f7, f8, vindexAddr_sl hd elemT_26 szT_9 (strs_get hlt), vpart_false]
    refine (hp _ (List.getElem_mem hlt) _).mono ?_
    rintro r h2 ⟨rfl, rfl⟩
    cases he : p l[i] with
    | true =>
      simp only [go_sem, Nat.reduceEqDiff, ↓reduceIte]
      have : l.findIdx? p = some i := by
        rw [List.findIdx?_eq_some_iff_getElem]
        exact ⟨hlt, he, fun j hji => by rw [hj j (by omega) hji]; exact Bool.false_ne_true⟩
      rw [this]
    | false =>
      simp only [go_sem, Nat.reduceEqDiff, ↓reduceIte]
      refine ⟨hlt, by rw [wrap_succ (by unfold lim; omega)], fun j hjl hji => ?_⟩
      rcases Nat.lt_succ_iff_lt_or_eq.1 hji with hji | rfl
      · exact hj j hjl hji
      · exact he
  · have hie : i = l.length := by omega
    subst hie
    rw [decide_eq_false (by omega)]
    simp only [go_sem, Nat.reduceEqDiff, ↓reduceIte]
    have : l.findIdx? p = none := by
      rw [List.findIdx?_eq_none_iff]
      intro n hn
      obtain ⟨j, hjl, rfl⟩ := List.mem_iff_getElem.1 hn
      exact hj j hjl hjl
    rw [this]

/-- slices.ContainsFunc at strings. -/
theorem c_containsFuncS {l : List (List UInt8)} {d : D} (hd : IsSl 1 (strs l) d) (hl : l.length ≤ 1048576) {g : FuncId} {fst cap : List D} {p : List UInt8 → Bool} (hp : ∀ s ∈ l, ∀ h, VCall Tryz.prog g (fst ++ [.str s] ++ cap) h fun r h' => h' = h ∧ r = .bool (p s)) (h : Heap) :
    VCall Tryz.prog 234 [d, .fn (.func g) fst cap] h fun r h' => h' = h ∧ r = .bool (l.any p) := by
  refine VCall.of_fn (g := cfg234) mix Tryz.func234 ok234 rfl rfl ?_
  simp only [Tryz.f234, Option.getD_some]
  simp only [go_sem, Nat.reduceEqDiff, ↓reduceIte]
  refine (c_indexFuncS hd hl hp _).mono ?_
  rintro r h2 ⟨rfl, rfl⟩
  simp only [go_sem, Nat.reduceEqDiff, ↓reduceIte, findIdx_ge]

/-! Runes that are searched. -/
/-- strings.indexFunc. -/
theorem c_sIndexFunc {s : List UInt8} (hl : s.length ≤ 1048576) {g : FuncId} {p : Nat → Bool} (hp : ∀ n : Nat, n ≤ 1114111 → ∀ h, VCall Tryz.prog g [.int .i32 n] h fun r h' => h' = h ∧ r = .bool (p n)) (h : Heap) :
    VCall Tryz.prog 334 [.str s, .fn (.func g) [] [], .bool true] h fun r h' => h' = h ∧ ∃ n : Int, r = .int .i64 n ∧ decide (n ≥ 0) = anyRune p s (s.length + 1) 0 := by
  refine VCall.pure (by kernel_rfl) fun hok => ?_
  refine VCall.of_fn (g := cfg334) mix Tryz.func334 ok334 rfl rfl ?_
  simp only [Tryz.f334, Option.getD_some]
  have hr : ∀ h : Heap, vrange Tryz.prog h.next 9 (.str s) h = some (.ptr h.next 0, h.new h.next (.siter s 0)) := fun h => by simp [vrange, Tryz.underlying9]
  simp only [go_sem, Nat.reduceEqDiff, ↓reduceIte, hr]
  refine vwp_loop (fun k fr h' => ∃ pos : Nat, k = s.length - pos ∧ fr 1 = .fn (.func g) [] [] ∧ fr 2 = .bool true ∧ fr 10 = .ptr h.next 0 ∧ h'.at' h.next = some (.siter s pos) ∧ Ext h h' ∧ anyRune p s (s.length + 1) 0 = anyRune p s (s.length + 1 - pos) pos) s.length ?_ ?_
  · refine ⟨0, rfl, ?_⟩
    simp only [go_sem, Nat.reduceEqDiff, ↓reduceIte, Nat.sub_zero, true_and]
    exact (Ext.refl h).new (Nat.le_refl _) _
  rintro k fr h' ⟨pos, rfl, f1, f2, f10, hit, hext, hany⟩
  by_cases hlt : pos < s.length
  · have hn := vnext_more hit (by unfold lim; omega) hlt
    have hle : (runeAt s pos).1 ≤ 1114111 := Go.Lib.rune_le _ _
    have hsz := runeAt_size s pos
    simp only [go_sem, Nat.reduceEqDiff, ↓reduceIte, f1, f2, f10, hn, vextract]
    refine (hp _ hle _).mono ?_
    rintro r h2 ⟨rfl, rfl⟩
    have hbb : ∀ b c, vbin Tryz.prog .eql 4 c (.bool b) (.bool true) = some (.bool b) := fun b c => by cases b <;> simp [vbin, vcmp, pickEq, veq, Tryz.underlying4]
    have hst : s.length + 1 - pos = (s.length - pos) + 1 := by omega
    cases he : p (runeAt s pos).1 with
    | true =>
      simp only [go_sem, Nat.reduceEqDiff, ↓reduceIte, hbb, f1, f2, f10]
      refine ⟨hext.set (Nat.le_refl _) _, trivial, (pos : Int), rfl, ?_⟩
      rw [hany, hst, anyRune, if_pos hlt, he, decide_eq_true (by omega)]
      rfl
    | false =>
      simp only [go_sem, Nat.reduceEqDiff, ↓reduceIte, hbb, f1, f2, f10]
      refine ⟨s.length - (pos + (runeAt s pos).2), by omega, pos + (runeAt s pos).2, rfl, rfl, hext.set (Nat.le_refl _) _, ?_⟩
      rw [hany, hst, anyRune, if_pos hlt, he, Bool.false_or]
      exact anyRune_fuel (by omega) (by omega)
  · have hn := vnext_end hit hlt
    simp only [go_sem, Nat.reduceEqDiff, ↓reduceIte, f1, f2, f10, hn, vextract]
    refine ⟨hext, trivial, -1, rfl, ?_⟩
    rw [hany, anyRune_end (by omega)]
    rfl

/-- strings.ContainsFunc. -/
theorem c_sContainsFunc {s : List UInt8} (hl : s.length ≤ 1048576) {g : FuncId} {p : Nat → Bool} (hp : ∀ n : Nat, n ≤ 1114111 → ∀ h, VCall Tryz.prog g [.int .i32 n] h fun r h' => h' = h ∧ r = .bool (p n)) (h : Heap) :
    VCall Tryz.prog 282 [.str s, .fn (.func g) [] []] h fun r h' => h' = h ∧ r = .bool (anyRune p s (s.length + 1) 0) := by
  refine VCall.of_fn (g := cfg282) mix Tryz.func282 ok282 rfl rfl ?_
  simp only [Tryz.f282, Option.getD_some]
  simp only [go_sem, Nat.reduceEqDiff, ↓reduceIte]
  refine VCall.mono (Q := fun r h' => h' = h ∧ ∃ n : Int, r = .int .i64 n ∧ decide (n ≥ 0) = anyRune p s (s.length + 1) 0) ?_ ?_
  · refine VCall.of_fn (g := cfg302) mix Tryz.func302 ok302 rfl rfl ?_
    simp only [Tryz.f302, Option.getD_some]
    simp only [go_sem, Nat.reduceEqDiff, ↓reduceIte]
    refine (c_sIndexFunc hl hp _).mono ?_
    rintro r h2 ⟨rfl, n, rfl, hn⟩
    simp only [go_sem, Nat.reduceEqDiff, ↓reduceIte]
    exact ⟨n, rfl, hn⟩
  · rintro r h2 ⟨rfl, n, rfl, hn⟩
    simp only [go_sem, Nat.reduceEqDiff, ↓reduceIte, hn]

/-! Strings that are split. -/
/-- strings.Split at one byte. -/
theorem c_split {s : List UInt8} (hl : s.length ≤ 1048576) (c : UInt8) (h : Heap) :
    VCall Tryz.prog 29 [.str s, .str [c]] h fun r h' => h' = h ∧ r = .sl 1 (strs (splitB c s)) .no := by
  refine VCall.of_fn (g := cfg29) mix Tryz.func29 ok29 rfl rfl ?_
  simp only [Tryz.f29, Option.getD_some]
  simp only [go_sem, Nat.reduceEqDiff, ↓reduceIte]
  refine VCall.mono (Q := fun r h' => h' = h ∧ r = .sl 1 (strs (splitB c s)) .no) ?_ ?_
  rotate_left
  · rintro r h2 ⟨rfl, rfl⟩
    simp only [go_sem, Nat.reduceEqDiff, ↓reduceIte]
  have hlen := splitB_len_le c s
  have hlc := splitB_length c s
  refine VCall.pure (by kernel_rfl) fun hok => VCall.freezeD ?_
  refine VCall.of_fn (g := cfg64) mix Tryz.func64 ok64 rfl rfl ?_
  simp only [Tryz.f64, Option.getD_some]
  have hne : ([c] == ([] : List UInt8)) = false := rfl
  simp only [go_sem, Nat.reduceEqDiff, ↓reduceIte, hne, show ((-1 : Int) == 0) = false from rfl, show decide ((-1 : Int) < 0) = true from rfl]
  refine (l_count hl c _).mono ?_
  rintro r h ⟨rfl, rfl⟩
  have hw1 : IntKind.i64.wrap ((Lib.countByte s c : Nat) + 1 : Int) = (((splitB c s).length : Nat) : Int) := by
    rw [hlc, show Lib.countByte s c = s.count c from rfl]
    exact wrap_succ (by have := List.count_le_length (a := c) (l := s); unfold lim; omega)
  have hw2 : IntKind.i64.wrap ((s.length : Int) + 1) = ((s.length + 1 : Nat) : Int) := wrap_succ (by unfold lim; omega)
  have hmin : vmin (.int .i64 (((splitB c s).length : Nat) : Int)) (.int .i64 ((s.length + 1 : Nat) : Int)) = some (.int .i64 (((splitB c s).length : Nat) : Int)) := by
    simp only [vmin, if_true]
    rw [if_neg (by omega)]
  have hmk : ∀ h : Heap, vmakeSlice Tryz.prog true h.next 26 (.int .i64 (((splitB c s).length : Nat) : Int)) (.int .i64 (((splitB c s).length : Nat) : Int)) h = some (.rs h.next 1 0 (splitB c s).length, h.new h.next (.row (repl (splitB c s).length [.str []]))) := fun h => by
    simp only [vmakeSlice, elemT_26, zeroT_9, szT_9, bytesT_9]
    rw [if_pos (by simp [notTuple_str, cells_str]; unfold lim; omega)]
    simp
    rfl
  have hw3 : IntKind.i64.wrap ((((splitB c s).length : Nat) : Int) - 1) = ((((splitB c s).length - 1 : Nat)) : Int) := by
    have := splitB_ne c s
    have h1 : 0 < (splitB c s).length := List.length_pos_iff.2 this
    rw [wrap_i64 (by omega) (by omega)]; omega
  simp only [go_sem, Nat.reduceEqDiff, ↓reduceIte, hw1, hw2, hw3, hmin, hmk, mu64, List.contains_cons, Nat.reduceBEq, vlen_str Tryz.underlying9]
  have hpos : 0 < (splitB c s).length := List.length_pos_iff.2 (splitB_ne c s)
  refine vwp_range (fun i fr h' => ∃ (ps : List (List UInt8)) (r : List UInt8), ps.length = i ∧ splitB c s = ps ++ splitB c r ∧ r.length ≤ s.length ∧ fr 0 = .str r ∧ fr 1 = .str [c] ∧ fr 2 = .int .i64 0 ∧ fr 3 = .int .i64 (((splitB c s).length - 1 : Nat) : Int) ∧ fr 9 = .rs h.next 1 0 (splitB c s).length ∧ fr 10 = .int .i64 (i : Int) ∧
      h'.at' h.next = some (.row (ps.map sdd ++ List.replicate ((splitB c s).length - i) (.str []))) ∧ Ext h h') ((splitB c s).length - 1) ?_ ?_
  · refine ⟨[], s, rfl, rfl, Nat.le_refl _, ?_⟩
    simp only [go_sem, Nat.reduceEqDiff, ↓reduceIte, true_and, Nat.sub_zero]
    refine ⟨rfl, ?_, (Ext.refl h).new (Nat.le_refl _) _⟩
    rw [repl_one]
  rintro i fr h' hi ⟨ps, r, hps, hsp, hrl, f0, f1, f2, f3, f9, f10, hrow, hext⟩
  simp only [go_sem, Nat.reduceEqDiff, ↓reduceIte, f0, f1, f2, f3, f9, f10]
  have hput : ∀ x : List UInt8, i < (splitB c s).length → (ps.map sdd ++ List.replicate ((splitB c s).length - i) (D.str [])).set i (D.str x) = (ps ++ [x]).map sdd ++ List.replicate ((splitB c s).length - (i + 1)) (D.str []) := fun x hlt => by
    rw [List.set_append_right _ _ (by simp [hps]), List.length_map, hps, Nat.sub_self, show (splitB c s).length - i = ((splitB c s).length - (i + 1)) + 1 by omega, List.replicate_succ, List.set_cons_zero]
    simp [sdd]
  by_cases hlt : i < (splitB c s).length - 1
  · rw [decide_eq_true (by exact_mod_cast hlt)]
    simp only [go_sem, Nat.reduceEqDiff, ↓reduceIte, f0, f1, f2, f3, f9, f10]
    refine (l_index (by omega) c _).mono ?_
    rintro q h' ⟨rfl, rfl⟩
    rcases index_cases r c with ⟨hm, hs1⟩ | ⟨m, hm, hml, hs1⟩
    · exfalso
      rw [hs1] at hsp
      have := congrArg List.length hsp
      simp [hps] at this
      omega
    · have hneg : decide (((m : Nat) : Int) < 0) = false := decide_eq_false (by omega)
      have hw4 : IntKind.i64.wrap ((m : Int) + 0) = ((m : Nat) : Int) := by rw [Int.add_zero, wrap_i64 (by omega) (by omega)]
      have hw5 : IntKind.i64.wrap ((m : Int) + 1) = ((m + 1 : Nat) : Int) := wrap_succ (by unfold lim; omega)
      have hl1 : ([c].length : Int) = 1 := rfl
      have hsth : vstore Tryz.prog 9 (.ptr h.next (i * 1)) (.str (r.take m)) h' = some (h'.set h.next (.row ((ps ++ [r.take m]).map sdd ++ List.replicate ((splitB c s).length - (i + 1)) (.str [])))) := by
        rw [Nat.mul_one, vstore_cell hrow szT_9 (by simp [hps]; omega) rfl rfl, hput _ (by omega)]
      simp only [go_sem, Nat.reduceEqDiff, ↓reduceIte, f0, f1, f2, f3, f9, f10, hm, hneg, hw4, hw5, hl1, vlen_str Tryz.underlying9, vslice_str_hi arrT_9 Tryz.underlying9 (show m ≤ r.length by omega), vslice_str_lo arrT_9 Tryz.underlying9 (show m + 1 ≤ r.length by omega), vindexAddr_rs elemT_26 szT_9 (show i < (splitB c s).length by omega), hsth]
      refine ⟨hlt, ps ++ [r.take m], r.drop (m + 1), by simp [hps], by rw [hsp, hs1]; simp, by simp; omega, rfl, ?_, rfl, hext.set (Nat.le_refl _) _⟩
      rw [wrap_succ (by unfold lim; omega)]
  · have hie : i = (splitB c s).length - 1 := by omega
    rw [decide_eq_false (by omega)]
    have hlast : splitB c r = [r] := by
      have h1 := congrArg List.length hsp
      rw [List.length_append, hps, splitB_length c r] at h1
      exact splitB_none (List.count_eq_zero.1 (by omega))
    have hw6 : IntKind.i64.wrap ((i : Int) + 1) = (((splitB c s).length : Nat) : Int) := by rw [wrap_succ (by unfold lim; omega)]; omega
    have hsth : vstore Tryz.prog 9 (.ptr h.next (i * 1)) (.str r) h' = some (h'.set h.next (.row ((ps ++ [r]).map sdd ++ List.replicate ((splitB c s).length - (i + 1)) (.str [])))) := by
      rw [Nat.mul_one, vstore_cell hrow szT_9 (by simp [hps]; omega) rfl rfl, hput _ (by omega)]
    simp only [go_sem, Nat.reduceEqDiff, ↓reduceIte, f0, f1, f2, f3, f9, f10, hw6, vindexAddr_rs elemT_26 szT_9 (show i < (splitB c s).length by omega), hsth, vslice_rs_hi arrT_26 elemT_26 szT_9 (Nat.le_refl (splitB c s).length)]
    have hall : (ps ++ [r]).map sdd ++ List.replicate ((splitB c s).length - (i + 1)) (.str []) = (strs (splitB c s)).flatten := by
      rw [show (splitB c s).length - (i + 1) = 0 by omega, List.replicate_zero, List.append_nil, strs_flat, hsp, hlast]
    refine ⟨h.next, _, set_at_same _ _ _, (hext.set (Nat.le_refl _) _).del (Nat.le_refl _), ?_⟩
    rw [frz_rs strs_one (strs_length _) hall]
    exact ⟨below_mono (Nat.zero_le _) _ (strip_plainE (sz := 1) strs_plain .no).2, rfl⟩
end Go.V
