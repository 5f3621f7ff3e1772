/- Contracts of functions of the library at strings. No condition. -/
import Derived.Test.YtnfmcjeamolljaaGreatDoorVhE
import Derived.Lib.IndexLaws
import Derived.Test.YtnfmcjeamolljaaGreatDoorVSh
import Derived.Test.YtnfmcjeamolljaaGreatDoorVyT
import Derived.Test.YtnfmcjeamolljaaGreatDoorVxT
import Derived.Lib.SlicesCompact
import Derived.Lib.RowBridge
import Derived.Sort.Walk0
set_option linter.unusedSimpArgs false
set_option linter.unusedVariables false
set_option linter.constructorNameAsVariable false
set_option linter.deprecated false
namespace Go.V

/-! Strings and their parts: plain laws. -/
/-- The parts of a string between the bytes c. -/
def splitB (c : UInt8) : List UInt8 → List (List UInt8)
  | [] => [[]]
  | b :: s => if b = c then [] :: splitB c s else match splitB c s with
    | [] => [[b]]
    | p :: ps => (b :: p) :: ps

theorem splitB_ne (c : UInt8) : ∀ s, splitB c s ≠ []
  | [] => by simp [splitB]
  | b :: s => by
    simp only [splitB]
    split
    · simp
    · split <;> simp

theorem splitB_length (c : UInt8) : ∀ s : List UInt8, (splitB c s).length = s.count c + 1
  | [] => rfl
  | b :: s => by
    have ih := splitB_length c s
    simp only [splitB]
    by_cases h : b = c
    · subst h; simp [ih]
    · rw [if_neg h, List.count_cons_of_ne h]
      split
      · rename_i h0; rw [h0] at ih; simp at ih
      · rename_i p ps h0; rw [h0] at ih; simpa using ih

theorem splitB_none {c : UInt8} : ∀ {s : List UInt8}, c ∉ s → splitB c s = [s]
  | [], _ => rfl
  | b :: s, h => by
    simp only [List.mem_cons, not_or] at h
    rw [splitB, if_neg (fun e => h.1 e.symm), splitB_none h.2]

theorem splitB_at {c : UInt8} : ∀ {m : Nat} {s : List UInt8}, s[m]? = some c → (∀ k, k < m → s[k]? ≠ some c) → splitB c s = s.take m :: splitB c (s.drop (m + 1))
  | m, [], h, _ => by simp at h
  | 0, b :: s, h, _ => by
    simp only [List.getElem?_cons_zero, Option.some.injEq] at h
    rw [splitB, if_pos h]
    simp
  | m + 1, b :: s, h, hk => by
    simp only [List.getElem?_cons_succ] at h
    have hb : b ≠ c := fun e => hk 0 (by omega) (by simp [e])
    rw [splitB, if_neg hb, splitB_at h fun k hkm => by simpa using hk (k + 1) (by omega)]
    simp

/-- What strings.Index finds. -/
theorem index_cases (s : List UInt8) (c : UInt8) : (Lib.indexByte s c = -1 ∧ splitB c s = [s]) ∨ ∃ m : Nat, Lib.indexByte s c = (m : Int) ∧ m < s.length ∧ splitB c s = s.take m :: splitB c (s.drop (m + 1)) := by
  have h1 := Lib.indexByte_ge s c
  by_cases h : Lib.indexByte s c = -1
  · refine .inl ⟨h, splitB_none fun hc => ?_⟩
    obtain ⟨k, hk⟩ := List.mem_iff_getElem?.1 hc
    exact Lib.indexByte_none h k hk
  · obtain ⟨m, hm⟩ := Int.eq_ofNat_of_zero_le (show 0 ≤ Lib.indexByte s c by omega)
    obtain ⟨g1, g2⟩ := Lib.indexByte_some hm
    exact .inr ⟨m, hm, (List.getElem?_eq_some_iff.1 g1).1, splitB_at g1 g2⟩

theorem splitB_len_le (c : UInt8) (s : List UInt8) : (splitB c s).length ≤ s.length + 1 := by
  rw [splitB_length]
  have := List.count_le_length (a := c) (l := s)
  omega

/-- Each part is no longer than the whole. -/
theorem splitB_part_le (c : UInt8) : ∀ (s : List UInt8), ∀ p ∈ splitB c s, p.length ≤ s.length
  | [], p, h => by simp [splitB] at h; subst h; simp
  | b :: s, p, h => by
    have ih := splitB_part_le c s
    simp only [splitB] at h
    split at h
    · rcases List.mem_cons.1 h with rfl | h
      · simp
      · have := ih p h; simp; omega
    · split at h
      · rename_i h0; exact absurd h0 (splitB_ne c s)
      · rename_i q qs h0
        rcases List.mem_cons.1 h with rfl | h
        · have := ih q (by rw [h0]; simp); simp; omega
        · have := ih p (by rw [h0]; simp [h]); simp; omega

/-- Strings as elements. -/
def strs (l : List (List UInt8)) : List (List D) := l.map fun s => [.str s]
theorem strs_length (l : List (List UInt8)) : (strs l).length = l.length := List.length_map ..
theorem strs_get {l : List (List UInt8)} {i : Nat} (h : i < l.length) : (strs l)[i]? = some [.str l[i]] := by simp [strs, h]
theorem strs_plain {l : List (List UInt8)} : ∀ x ∈ strs l, PlainC x := fun x hx => by
  obtain ⟨s, _, rfl⟩ := List.mem_map.1 hx
  exact ⟨rfl, ⟨trivial, trivial⟩, rfl⟩
theorem strs_one {l : List (List UInt8)} : ∀ x ∈ strs l, x.length = 1 := fun x hx => by
  obtain ⟨s, _, rfl⟩ := List.mem_map.1 hx
  rfl
def sdd (s : List UInt8) : D := .str s
theorem strs_flat (l : List (List UInt8)) : (strs l).flatten = l.map sdd := by
  induction l with
  | nil => rfl
  | cons x l ih => simp [strs, sdd] at ih ⊢; exact ih
end Go.V
namespace Go.V
open Go.Proofs

/-! Functions of Go's library whose contracts are known. -/
/-- strings.Count at one byte. -/
theorem l_count {s : List UInt8} (hl : s.length ≤ 1048576) (c : UInt8) (h : Heap) : VCall Tryz.prog 136 [.str s, .str [c]] h fun r h' => h' = h ∧ r = .int .i64 (Lib.countByte s c : Nat) := by
  have hc : Lib.countByte s c ≤ s.length := List.count_le_length
  refine (libCount_ok (by kernel_rfl) (fun s c w => Tryz.strings_Count_one s c w) (args := [.str s, .str [c]]) (d := .int .i64 (Lib.countByte s c : Nat)) ?_ h).mono fun a b hab => ⟨hab.2, hab.1⟩
  simp only [libCount, intR]
  rw [wrap_i64 (by omega) (by omega)]
  simp
/-- strings.Index at one byte. -/
theorem l_index {s : List UInt8} (hl : s.length ≤ 1048576) (c : UInt8) (h : Heap) : VCall Tryz.prog 137 [.str s, .str [c]] h fun r h' => h' = h ∧ r = .int .i64 (Lib.indexByte s c) := by
  have h1 := Lib.indexByte_ge s c
  have h2 : Lib.indexByte s c ≤ s.length := by
    by_cases h0 : Lib.indexByte s c = -1
    · omega
    · obtain ⟨m, hm⟩ := Int.eq_ofNat_of_zero_le (show 0 ≤ Lib.indexByte s c by omega)
      have := (List.getElem?_eq_some_iff.1 (Lib.indexByte_some hm).1).1
      omega
  refine (libIndex_ok (by kernel_rfl) (fun s c w => Tryz.strings_Index_one s c w) (args := [.str s, .str [c]]) (d := .int .i64 (Lib.indexByte s c)) ?_ h).mono fun a b hab => ⟨hab.2, hab.1⟩
  simp only [libIndex, intR]
  rw [wrap_i64 (by omega) (by omega)]
  simp

theorem dropWhile_len {α : Type} (p : α → Bool) : ∀ l : List α, (l.dropWhile p).length ≤ l.length
  | [] => Nat.le_refl _
  | a :: l => by
    simp only [List.dropWhile]
    split
    · have := dropWhile_len p l
      simp; omega
    · exact Nat.le_refl _
theorem trimS_len (s c : List UInt8) : (Lib.trimS s c).length ≤ s.length := by
  unfold Lib.trimS Lib.trimLeftS Lib.trimRightS
  refine Nat.le_trans (dropWhile_len _ _) ?_
  rw [List.length_reverse]
  refine Nat.le_trans (dropWhile_len _ _) ?_
  rw [List.length_reverse]
  exact Nat.le_refl _
/-- strings.Trim at a cutset of ASCII. -/
theorem l_trim {s : List UInt8} (hl : s.length ≤ 1048576) {c : List UInt8} (hc : c.all (fun b => decide (b.toNat < 128)) = true) (hn : c.length < 4294967281) (h : Heap) : VCall Tryz.prog 81 [.str s, .str c] h fun r h' => h' = h ∧ r = .str (Lib.trimS s c) := by
  refine (libTrim_ok (by kernel_rfl) (fun s c w h1 h2 h3 => Any.strings_Trim_laid Tryz.lays160 (by kernel_rfl) s c w h1 h2 h3) (args := [.str s, .str c]) (d := .str (Lib.trimS s c)) ?_ h).mono fun a b hab => ⟨hab.2, hab.1⟩
  have h1 := trimS_len s c
  have h2 : Nat.blt c.length 4294967281 = true := by rw [Nat.blt_eq]; exact hn
  simp only [libTrim, hc, h2, Bool.and_self, if_true, strR]
  rw [if_pos (decide_eq_true (by unfold lim; omega))]
end Go.V
namespace Go.V
open Go.Proofs
set_option maxRecDepth 100000
set_option linter.unusedSimpArgs false

/-! Lists of strings that are searched. -/
/-- slices.Index at strings. -/
theorem c_indexS {l : List (List UInt8)} {d : D} (hd : IsSl 1 (strs l) d) (hl : l.length ≤ 1048576) (s : List UInt8) (h : Heap) :
    VCall Tryz.prog 56 [d, .str s] h fun r h' => h' = h ∧ r = .int .i64 (match l.findIdx? (· == s) with | some i => (i : Int) | none => -1) := by
  refine VCall.of_fn (g := cfg56) mix Tryz.func56 ok56 rfl rfl ?_
  simp only [Tryz.f56, Option.getD_some]
  have hll : ((strs l).length : Int) = l.length := by rw [strs_length]
  simp only [go_sem, Nat.reduceEqDiff, ↓reduceIte, vlen_sl hd Tryz.underlying22, hll]
  refine vwp_range (fun i fr h' => fr 0 = d ∧ fr 1 = .str s ∧ fr 7 = .int .i64 l.length ∧ fr 8 = .int .i64 (i : Int) ∧ h' = h ∧ ∀ j (hj : j < l.length), j < i → (l[j] == s) = false) l.length (by simp [go_sem]) ?_
  rintro i fr h' hi ⟨f0, f1, f7, f8, rfl, hj⟩
  simp only [go_sem, Nat.reduceEqDiff, ↓reduceIte, f0, f1, f7, f8]
  by_cases hlt : i < l.length
  · rw [decide_eq_true (by exact_mod_cast hlt)]
    have hsym : (s == l[i]) = (l[i] == s) := by
      by_cases e : s = l[i]
      · rw [e]
      · rw [beq_eq_false_iff_ne.2 e, beq_eq_false_iff_ne.2 (Ne.symm e)]
    cases he : (l[i] == s) with
    | true =>
      simp only [go_sem, Nat.reduceEqDiff, ↓reduceIte, f0, f1, f7, f8, vindexAddr_sl hd elemT_22 szT_9 (strs_get hlt), vpart_false, hsym, he]
      have : l.findIdx? (· == s) = some i := by
        rw [List.findIdx?_eq_some_iff_getElem]
        exact ⟨hlt, he, fun j hji => by rw [hj j (by omega) hji]; exact Bool.false_ne_true⟩
      rw [this]
    | false =>
      simp only [go_sem, Nat.reduceEqDiff, ↓reduceIte, f0, f1, f7, f8, vindexAddr_sl hd elemT_22 szT_9 (strs_get hlt), vpart_false, hsym, he]
      refine ⟨hlt, by rw [wrap_succ (by unfold lim; omega)], fun j hjl hji => ?_⟩
      rcases Nat.lt_succ_iff_lt_or_eq.1 hji with hji | rfl
      · exact hj j hjl hji
      · exact he
  · have hie : i = l.length := by omega
    subst hie
    rw [decide_eq_false (by omega)]
    simp only [go_sem, Nat.reduceEqDiff, ↓reduceIte]
    have : l.findIdx? (· == s) = none := by
      rw [List.findIdx?_eq_none_iff]
      intro n hn
      obtain ⟨j, hjl, rfl⟩ := List.mem_iff_getElem.1 hn
      exact hj j hjl hjl
    rw [this]

theorem findIdx_ge {α : Type} {l : List α} {p : α → Bool} : decide ((match l.findIdx? p with | some i => (i : Int) | none => -1) ≥ 0) = l.any p := by
  cases hq : l.findIdx? p with
  | none =>
    have : l.any p = false := by
      rw [List.findIdx?_eq_none_iff] at hq
      rw [List.any_eq_false]
      intro n hn
      rw [hq n hn]; exact Bool.false_ne_true
    rw [this]; rfl
  | some i =>
    have : l.any p = true := by
      rw [List.findIdx?_eq_some_iff_getElem] at hq
      obtain ⟨hi, hp, _⟩ := hq
      exact List.any_eq_true.2 ⟨_, List.getElem_mem hi, hp⟩
    rw [this]
    simp

/-- slices.Contains at strings. -/
theorem c_containsS {l : List (List UInt8)} {d : D} (hd : IsSl 1 (strs l) d) (hl : l.length ≤ 1048576) (s : List UInt8) (h : Heap) :
    VCall Tryz.prog 21 [d, .str s] h fun r h' => h' = h ∧ r = .bool (l.any (· == s)) := by
  refine VCall.of_fn (g := cfg21) mix Tryz.func21 ok21 rfl rfl ?_
  simp only [Tryz.f21, Option.getD_some]
  simp only [go_sem, Nat.reduceEqDiff, ↓reduceIte]
  refine (c_indexS hd hl s _).mono ?_
  rintro r h2 ⟨rfl, rfl⟩
  simp only [go_sem, Nat.reduceEqDiff, ↓reduceIte, findIdx_ge]

/-- slices.IndexFunc at strings. -/
theorem c_indexFuncS {l : List (List UInt8)} {d : D} (hd : IsSl 1 (strs l) d) (hl : l.length ≤ 1048576) {g : FuncId} {fst cap : List D} {p : List UInt8 → Bool} (hp : ∀ s ∈ l, ∀ h, VCall Tryz.prog g (fst ++ [.str s] ++ cap) h fun r h' => h' = h ∧ r = .bool (p s)) (h : Heap) :
    VCall Tryz.prog 55 [d, .fn (.func g) fst cap] h fun r h' => h' = h ∧ r = .int .i64 (match l.findIdx? p with | some i => (i : Int) | none => -1) := by
  refine VCall.of_fn (g := cfg55) mix Tryz.func55 ok55 rfl rfl ?_
  simp only [Tryz.f55, Option.getD_some]
  have hll : ((strs l).length : Int) = l.length := by rw [strs_length]
  simp only [go_sem, Nat.reduceEqDiff, ↓reduceIte, vlen_sl hd Tryz.underlying22, hll]
  refine vwp_range (fun i fr h' => fr 0 = d ∧ fr 1 = .fn (.func g) fst cap ∧ fr 7 = .int .i64 l.length ∧ fr 8 = .int .i64 (i : Int) ∧ h' = h ∧ ∀ j (hj : j < l.length), j < i → p l[j] = false) l.length (by simp [go_sem]) ?_
  rintro i fr h' hi ⟨f0, f1, f7, f8, rfl, hj⟩
  simp only [go_sem, Nat.reduceEqDiff, ↓reduceIte, f0, f1, f7, f8]
  by_cases hlt : i < l.length
  · rw [decide_eq_true (by exact_mod_cast hlt)]
    simp only [go_sem, Nat.reduceEqDiff, ↓reduceIte, f0, f1, f7, f8, vindexAddr_sl hd elemT_22 szT_9 (strs_get hlt), vpart_false]
    refine (hp _ (List.getElem_mem hlt) _).mono ?_
    rintro r h2 ⟨rfl, rfl⟩
    cases he : p l[i] with
    | true =>
      simp only [go_sem, Nat.reduceEqDiff, ↓reduceIte]
      have : l.findIdx? p = some i := by
        rw [List.findIdx?_eq_some_iff_getElem]
        exact ⟨hlt, he, fun j hji => by rw [hj j (by omega) hji]; exact Bool.false_ne_true⟩
      rw [this]
    | false =>
      simp only [go_sem, Nat.reduceEqDiff, ↓reduceIte]
      refine ⟨hlt, by rw [wrap_succ (by unfold lim; omega)], fun j hjl hji => ?_⟩
      rcases Nat.lt_succ_iff_lt_or_eq.1 hji with hji | rfl
      · exact hj j hjl hji
      · exact he
  · have hie : i = l.length := by omega
    subst hie
    rw [decide_eq_false (by omega)]
    simp only [go_sem, Nat.reduceEqDiff, ↓reduceIte]
    have : l.findIdx? p = none := by
      rw [List.findIdx?_eq_none_iff]
      intro n hn
      obtain ⟨j, hjl, rfl⟩ := List.mem_iff_getElem.1 hn
      exact hj j hjl hjl
    rw [this]

/-- slices.ContainsFunc at strings. -/
theorem c_containsFuncS {l : List (List UInt8)} {d : D} (hd : IsSl 1 (strs l) d) (hl : l.length ≤ 1048576) {g : FuncId} {fst cap : List D} {p : List UInt8 → Bool} (hp : ∀ s ∈ l, ∀ h, VCall Tryz.prog g (fst ++ [.str s] ++ cap) h fun r h' => h' = h ∧ r = .bool (p s)) (h : Heap) :
    VCall Tryz.prog 19 [d, .fn (.func g) fst cap] h fun r h' => h' = h ∧ r = .bool (l.any p) := by
  refine VCall.of_fn (g := cfg19) mix Tryz.func19 ok19 rfl rfl ?_
  simp only [Tryz.f19, Option.getD_some]
  simp only [go_sem, Nat.reduceEqDiff, ↓reduceIte]
  refine (c_indexFuncS hd hl hp _).mono ?_
  rintro r h2 ⟨rfl, rfl⟩
  simp only [go_sem, Nat.reduceEqDiff, ↓reduceIte, findIdx_ge]

/-! Runes that are searched. -/
/-- strings.indexFunc. -/
theorem c_sIndexFunc {s : List UInt8} (hl : s.length ≤ 1048576) {g : FuncId} {p : Nat → Bool} (hp : ∀ n : Nat, n ≤ 1114111 → ∀ h, VCall Tryz.prog g [.int .i32 n] h fun r h' => h' = h ∧ r = .bool (p n)) (h : Heap) :
    VCall Tryz.prog 220 [.str s, .fn (.func g) [] [], .bool true] h fun r h' => h' = h ∧ ∃ n : Int, r = .int .i64 n ∧ decide (n ≥ 0) = anyRune p s (s.length + 1) 0 := by
  refine VCall.pure (by kernel_rfl) fun hok => ?_
  refine VCall.of_fn (g := cfg220) mix Tryz.func220 ok220 rfl rfl ?_
  simp only [Tryz.f220, Option.getD_some]
  have hr : ∀ h : Heap, vrange Tryz.prog h.next 9 (.str s) h = some (.ptr h.next 0, h.new h.next (.siter s 0)) := fun h => by simp [vrange, Tryz.underlying9]
  simp only [go_sem, Nat.reduceEqDiff, ↓reduceIte, hr]
  refine vwp_loop (fun k fr h' => ∃ pos : Nat, k = s.length - pos ∧ fr 1 = .fn (.func g) [] [] ∧ fr 2 = .bool true ∧ fr 10 = .ptr h.next 0 ∧ h'.at' h.next = some (.siter s pos) ∧ Ext h h' ∧ anyRune p s (s.length + 1) 0 = anyRune p s (s.length + 1 - pos) pos) s.length ?_ ?_
  · refine ⟨0, rfl, ?_⟩
    simp only [go_sem, Nat.reduceEqDiff, ↓reduceIte, Nat.sub_zero, true_and]
    exact (Ext.refl h).new (Nat.le_refl _) _
  rintro k fr h' ⟨pos, rfl, f1, f2, f10, hit, hext, hany⟩
  by_cases hlt : pos < s.length
  · have hn := vnext_more hit (by unfold lim; omega) hlt
    have hle : (runeAt s pos).1 ≤ 1114111 := Go.Lib.rune_le _ _
    have hsz := runeAt_size s pos
    simp only [go_sem, Nat.reduceEqDiff, ↓reduceIte, f1, f2, f10, hn, vextract]
    refine (hp _ hle _).mono ?_
    rintro r h2 ⟨rfl, rfl⟩
    have hbb : ∀ b c, vbin Tryz.prog .eql 4 c (.bool b) (.bool true) = some (.bool b) := fun b c => by cases b <;> simp [vbin, vcmp, pickEq, veq, Tryz.underlying4]
    have hst : s.length + 1 - pos = (s.length - pos) + 1 := by omega
    cases he : p (runeAt s pos).1 with
    | true =>
      simp only [go_sem, Nat.reduceEqDiff, ↓reduceIte, hbb, f1, f2, f10]
      refine ⟨hext.set (Nat.le_refl _) _, trivial, (pos : Int), rfl, ?_⟩
      rw [hany, hst, anyRune, if_pos hlt, he, decide_eq_true (by omega)]
      rfl
    | false =>
      simp only [go_sem, Nat.reduceEqDiff, ↓reduceIte, hbb, f1, f2, f10]
      refine ⟨s.length - (pos + (runeAt s pos).2), by omega, pos + (runeAt s pos).2, rfl, rfl, hext.set (Nat.le_refl _) _, ?_⟩
      rw [hany, hst, anyRune, if_pos hlt, he, Bool.false_or]
      exact anyRune_fuel (by omega) (by omega)
  · have hn := vnext_end hit hlt
    simp only [go_sem, Nat.reduceEqDiff, ↓reduceIte, f1, f2, f10, hn, vextract]
    refine ⟨hext, trivial, -1, rfl, ?_⟩
    rw [hany, anyRune_end (by omega)]
    rfl

/-- strings.ContainsFunc. -/
theorem c_sContainsFunc {s : List UInt8} (hl : s.length ≤ 1048576) {g : FuncId} {p : Nat → Bool} (hp : ∀ n : Nat, n ≤ 1114111 → ∀ h, VCall Tryz.prog g [.int .i32 n] h fun r h' => h' = h ∧ r = .bool (p n)) (h : Heap) :
    VCall Tryz.prog 133 [.str s, .fn (.func g) [] []] h fun r h' => h' = h ∧ r = .bool (anyRune p s (s.length + 1) 0) := by
  refine VCall.of_fn (g := cfg133) mix Tryz.func133 ok133 rfl rfl ?_
  simp only [Tryz.f133, Option.getD_some]
  simp only [go_sem, Nat.reduceEqDiff, ↓reduceIte]
  refine VCall.mono (Q := fun r h' => h' = h ∧ ∃ n : Int, r = .int .i64 n ∧ decide (n ≥ 0) = anyRune p s (s.length + 1) 0) ?_ ?_
  · refine VCall.of_fn (g := cfg186) mix Tryz.func186 ok186 rfl rfl ?_
    simp only [Tryz.f186, Option.getD_some]
    simp only [go_sem, Nat.reduceEqDiff, ↓reduceIte]
    refine (c_sIndexFunc hl hp _).mono ?_
    rintro r h2 ⟨rfl, n, rfl, hn⟩
    simp only [go_sem, Nat.reduceEqDiff, ↓reduceIte]
    exact ⟨n, rfl, hn⟩
  · rintro r h2 ⟨rfl, n, rfl, hn⟩
    simp only [go_sem, Nat.reduceEqDiff, ↓reduceIte, hn]

/-! Strings that are split. -/
/-- strings.Split at one byte. -/
theorem c_split {s : List UInt8} (hl : s.length ≤ 1048576) (c : UInt8) (h : Heap) :
    VCall Tryz.prog 50 [.str s, .str [c]] h fun r h' => h' = h ∧ r = .sl 1 (strs (splitB c s)) .no := by
  refine VCall.of_fn (g := cfg50) mix Tryz.func50 ok50 rfl rfl ?_
  simp only [Tryz.f50, Option.getD_some]
  simp only [go_sem, Nat.reduceEqDiff, ↓reduceIte]
  refine VCall.mono (Q := fun r h' => h' = h ∧ r = .sl 1 (strs (splitB c s)) .no) ?_ ?_
  rotate_left
  · rintro r h2 ⟨rfl, rfl⟩
    simp only [go_sem, Nat.reduceEqDiff, ↓reduceIte]
  have hlen := splitB_len_le c s
  have hlc := splitB_length c s
  refine VCall.pure (by kernel_rfl) fun hok => VCall.freezeD ?_
  refine VCall.of_fn (g := cfg89) mix Tryz.func89 ok89 rfl rfl ?_
  simp only [Tryz.f89, Option.getD_some]
  have hne : ([c] == ([] : List UInt8)) = false := rfl
  simp only [go_sem, Nat.reduceEqDiff, ↓reduceIte, hne, show ((-1 : Int) == 0) = false from rfl, show decide ((-1 : Int) < 0) = true from rfl]
  refine (l_count hl c _).mono ?_
  rintro r h ⟨rfl, rfl⟩
  have hw1 : IntKind.i64.wrap ((Lib.countByte s c : Nat) + 1 : Int) = (((splitB c s).length : Nat) : Int) := by
    rw [hlc, show Lib.countByte s c = s.count c from rfl]
    exact wrap_succ (by have := List.count_le_length (a := c) (l := s); unfold lim; omega)
  have hw2 : IntKind.i64.wrap ((s.length : Int) + 1) = ((s.length + 1 : Nat) : Int) := wrap_succ (by unfold lim; omega)
  have hmin : vmin (.int .i64 (((splitB c s).length : Nat) : Int)) (.int .i64 ((s.length + 1 : Nat) : Int)) = some (.int .i64 (((splitB c s).length : Nat) : Int)) := by
    simp only [vmin, if_true]
    rw [if_neg (by omega)]
  have hmk : ∀ h : Heap, vmakeSlice Tryz.prog true h.next 22 (.int .i64 (((splitB c s).length : Nat) : Int)) (.int .i64 (((splitB c s).length : Nat) : Int)) h = some (.rs h.next 1 0 (splitB c s).length, h.new h.next (.row (repl (splitB c s).length [.str []]))) := fun h => by
    simp only [vmakeSlice, elemT_22, zeroT_9, szT_9, bytesT_9]
    rw [if_pos (by simp [notTuple_str, cells_str]; unfold lim; omega)]
    simp
    rfl
  have hw3 : IntKind.i64.wrap ((((splitB c s).length : Nat) : Int) - 1) = ((((splitB c s).length - 1 : Nat)) : Int) := by
    have := splitB_ne c s
    have h1 : 0 < (splitB c s).length := List.length_pos_iff.2 this
    rw [wrap_i64 (by omega) (by omega)]; omega
  simp only [go_sem, Nat.reduceEqDiff, ↓reduceIte, hw1, hw2, hw3, hmin, hmk, mu89, List.contains_cons, Nat.reduceBEq, vlen_str Tryz.underlying9]
  have hpos : 0 < (splitB c s).length := List.length_pos_iff.2 (splitB_ne c s)
  refine vwp_range (fun i fr h' => ∃ (ps : List (List UInt8)) (r : List UInt8), ps.length = i ∧ splitB c s = ps ++ splitB c r ∧ r.length ≤ s.length ∧ fr 0 = .str r ∧ fr 1 = .str [c] ∧ fr 2 = .int .i64 0 ∧ fr 3 = .int .i64 (((splitB c s).length - 1 : Nat) : Int) ∧ fr 9 = .rs h.next 1 0 (splitB c s).length ∧ fr 10 = .int .i64 (i : Int) ∧
      h'.at' h.next = some (.row (ps.map sdd ++ List.replicate ((splitB c s).length - i) (.str []))) ∧ Ext h h') ((splitB c s).length - 1) ?_ ?_
  · refine ⟨[], s, rfl, rfl, Nat.le_refl _, ?_⟩
    simp only [go_sem, Nat.reduceEqDiff, ↓reduceIte, true_and, Nat.sub_zero]
    refine ⟨rfl, ?_, (Ext.refl h).new (Nat.le_refl _) _⟩
    rw [repl_one]
  rintro i fr h' hi ⟨ps, r, hps, hsp, hrl, f0, f1, f2, f3, f9, f10, hrow, hext⟩
  simp only [go_sem, Nat.reduceEqDiff, ↓reduceIte, f0, f1, f2, f3, f9, f10]
  have hput : ∀ x : List UInt8, i < (splitB c s).length → (ps.map sdd ++ List.replicate ((splitB c s).length - i) (D.str [])).set i (D.str x) = (ps ++ [x]).map sdd ++ List.replicate ((splitB c s).length - (i + 1)) (D.str []) := fun x hlt => by
    rw [List.set_append_right _ _ (by simp [hps]), List.length_map, hps, Nat.sub_self, show (splitB c s).length - i = ((splitB c s).length - (i + 1)) + 1 by omega, List.replicate_succ, List.set_cons_zero]
    simp [sdd]
  by_cases hlt : i < (splitB c s).length - 1
  · rw [decide_eq_true (by exact_mod_cast hlt)]
    simp only [go_sem, Nat.reduceEqDiff, ↓reduceIte, f0, f1, f2, f3, f9, f10]
    refine (l_index (by omega) c _).mono ?_
    rintro q h' ⟨rfl, rfl⟩
    rcases index_cases r c with ⟨hm, hs1⟩ | ⟨m, hm, hml, hs1⟩
    · exfalso
      rw [hs1] at hsp
      have := congrArg List.length hsp
      simp [hps] at this
      omega
    · have hneg : decide (((m : Nat) : Int) < 0) = false := decide_eq_false (by omega)
      have hw4 : IntKind.i64.wrap ((m : Int) + 0) = ((m : Nat) : Int) := by rw [Int.add_zero, wrap_i64 (by omega) (by omega)]
      have hw5 : IntKind.i64.wrap ((m : Int) + 1) = ((m + 1 : Nat) : Int) := wrap_succ (by unfold lim; omega)
      have hl1 : ([c].length : Int) = 1 := rfl
      have hsth : vstore Tryz.prog 9 (.ptr h.next (i * 1)) (.str (r.take m)) h' = some (h'.set h.next (.row ((ps ++ [r.take m]).map sdd ++ List.replicate ((splitB c s).length - (i + 1)) (.str [])))) := by
        rw [Nat.mul_one, vstore_cell hrow szT_9 (by simp [hps]; omega) rfl rfl, hput _ (by omega)]
      simp only [go_sem, Nat.reduceEqDiff, ↓reduceIte, f0, f1, f2, f3, f9, f10, hm, hneg, hw4, hw5, hl1, vlen_str Tryz.underlying9, vslice_str_hi arrT_9 Tryz.underlying9 (show m ≤ r.length by omega), vslice_str_lo arrT_9 Tryz.underlying9 (show m + 1 ≤ r.length by omega), vindexAddr_rs elemT_22 szT_9 (show i < (splitB c s).length by omega), hsth]
      refine ⟨hlt, ps ++ [r.take m], r.drop (m + 1), by simp [hps], by rw [hsp, hs1]; simp, by simp; omega, rfl, ?_, rfl, hext.set (Nat.le_refl _) _⟩
      rw [wrap_succ (by unfold lim; omega)]
  · have hie : i = (splitB c s).length - 1 := by omega
    rw [decide_eq_false (by omega)]
    have hlast : splitB c r = [r] := by
      have h1 := congrArg List.length hsp
      rw [List.length_append, hps, splitB_length c r] at h1
      exact splitB_none (List.count_eq_zero.1 (by omega))
    have hw6 : IntKind.i64.wrap ((i : Int) + 1) = (((splitB c s).length : Nat) : Int) := by rw [wrap_succ (by unfold lim; omega)]; omega
    have hsth : vstore Tryz.prog 9 (.ptr h.next (i * 1)) (.str r) h' = some (h'.set h.next (.row ((ps ++ [r]).map sdd ++ List.replicate ((splitB c s).length - (i + 1)) (.str [])))) := by
      rw [Nat.mul_one, vstore_cell hrow szT_9 (by simp [hps]; omega) rfl rfl, hput _ (by omega)]
    simp only [go_sem, Nat.reduceEqDiff, ↓reduceIte, f0, f1, f2, f3, f9, f10, hw6, vindexAddr_rs elemT_22 szT_9 (show i < (splitB c s).length by omega), hsth, vslice_rs_hi arrT_22 elemT_22 szT_9 (Nat.le_refl (splitB c s).length)]
    have hall : (ps ++ [r]).map sdd ++ List.replicate ((splitB c s).length - (i + 1)) (.str []) = (strs (splitB c s)).flatten := by
      rw [show (splitB c s).length - (i + 1) = 0 by omega, List.replicate_zero, List.append_nil, strs_flat, hsp, hlast]
    refine ⟨h.next, _, set_at_same _ _ _, (hext.set (Nat.le_refl _) _).del (Nat.le_refl _), ?_⟩
    rw [frz_rs strs_one (strs_length _) hall]
    exact ⟨below_mono (Nat.zero_le _) _ (strip_plainE (sz := 1) strs_plain .no).2, rfl⟩
end Go.V
namespace Go.V
open Go.Proofs
set_option maxRecDepth 100000
set_option linter.unusedSimpArgs false

/-! Paths. -/
/-- A rune that no name part has. -/
def partBad (n : Nat) : Bool := !(decide (97 ≤ n) && decide (n ≤ 122) || decide (48 ≤ n) && decide (n ≤ 57) || decide (n = 46) || decide (n = 95) || decide (n = 45))

theorem c_treePart1 (n : Nat) (h : Heap) : VCall Tryz.prog 134 [.int .i32 n] h fun r h' => h' = h ∧ r = .bool (partBad n) := by
  refine VCall.of_fn (g := cfg134) mix Tryz.func134 ok134 rfl rfl ?_
  simp only [Tryz.f134, Option.getD_some]
  have key : ∀ b1 b2 b3 b4 b5 b6 b7 : Bool, decide ((n : Int) ≥ 97) = b1 → decide ((n : Int) ≤ 122) = b2 → decide ((n : Int) ≥ 48) = b3 → decide ((n : Int) ≤ 57) = b4 → ((n : Int) == 46) = b5 → ((n : Int) == 95) = b6 → ((n : Int) == 45) = b7 → partBad n = !(b1 && b2 || b3 && b4 || b5 || b6 || b7) := by
    rintro _ _ _ _ _ _ _ rfl rfl rfl rfl rfl rfl rfl
    have e5 : ((n : Int) == 46) = decide (n = 46) := by by_cases e : n = 46 <;> simp [e] <;> omega
    have e6 : ((n : Int) == 95) = decide (n = 95) := by by_cases e : n = 95 <;> simp [e] <;> omega
    have e7 : ((n : Int) == 45) = decide (n = 45) := by by_cases e : n = 45 <;> simp [e] <;> omega
    have e1 : decide ((n : Int) ≥ 97) = decide (97 ≤ n) := by by_cases e : 97 ≤ n <;> simp [e] <;> omega
    have e2 : decide ((n : Int) ≤ 122) = decide (n ≤ 122) := by by_cases e : n ≤ 122 <;> simp [e] <;> omega
    have e3 : decide ((n : Int) ≥ 48) = decide (48 ≤ n) := by by_cases e : 48 ≤ n <;> simp [e] <;> omega
    have e4 : decide ((n : Int) ≤ 57) = decide (n ≤ 57) := by by_cases e : n ≤ 57 <;> simp [e] <;> omega
    rw [e1, e2, e3, e4, e5, e6, e7]
    rfl
  cases h1 : decide ((n : Int) ≥ 97) <;> cases h2 : decide ((n : Int) ≤ 122) <;> cases h3 : decide ((n : Int) ≥ 48) <;> cases h4 : decide ((n : Int) ≤ 57) <;> cases h5 : ((n : Int) == 46) <;> cases h6 : ((n : Int) == 95) <;> cases h7 : ((n : Int) == 45) <;> rw [key _ _ _ _ _ _ _ h1 h2 h3 h4 h5 h6 h7] <;>
    simp only [go_sem, Nat.reduceEqDiff, ↓reduceIte, vun, h1, h2, h3, h4, h5, h6, h7] <;> rfl

/-- A name part. -/
def partS (s : List UInt8) : Bool := match s with
  | [] => false
  | b :: r => !(decide ((b :: r).length > 32) || (b == 46 || (b == 45 || anyRune partBad (b :: r) ((b :: r).length + 1) 0)))

theorem c_treePart {s : List UInt8} (hl : s.length ≤ 1048576) (h : Heap) : VCall Tryz.prog 85 [.str s] h fun r h' => h' = h ∧ r = .bool (partS s) := by
  refine VCall.of_fn (g := cfg85) mix Tryz.func85 ok85 rfl rfl ?_
  simp only [Tryz.f85, Option.getD_some]
  cases s with
  | nil => simp only [go_sem, Nat.reduceEqDiff, ↓reduceIte, show (([] : List UInt8) == []) = true from rfl, partS]
  | cons b r =>
    have h0 : ((b :: r : List UInt8) == []) = false := rfl
    have hi : vindex Tryz.prog 9 (.str (b :: r)) (.int .i64 0) = some (.int .u8 b.toNat) := vindex_str (n := 0) Tryz.underlying9 rfl
    have e1 : ((b.toNat : Int) == 46) = (b == 46) := by
      by_cases e : b = 46
      · subst e; rfl
      · rw [beq_eq_false_iff_ne.2 e, beq_eq_false_iff_ne.2 fun h => e (UInt8.toNat_inj.1 (by rw [show (46 : UInt8).toNat = 46 from rfl]; omega))]
    have e2 : ((b.toNat : Int) == 45) = (b == 45) := by
      by_cases e : b = 45
      · subst e; rfl
      · rw [beq_eq_false_iff_ne.2 e, beq_eq_false_iff_ne.2 fun h => e (UInt8.toNat_inj.1 (by rw [show (45 : UInt8).toNat = 45 from rfl]; omega))]
    have e0 : decide (((b :: r).length : Int) > 32) = decide ((b :: r).length > 32) := by
      by_cases e : (b :: r).length > 32
      · rw [decide_eq_true e, decide_eq_true (by omega)]
      · rw [decide_eq_false e, decide_eq_false (by omega)]
    cases h1 : decide ((b :: r).length > 32) with
    | true =>
      simp only [go_sem, Nat.reduceEqDiff, ↓reduceIte, h0, vlen_str Tryz.underlying9, e0, h1]
      simp only [partS, h1]; rfl
    | false =>
    cases h2 : (b == 46) with
    | true =>
      simp only [go_sem, Nat.reduceEqDiff, ↓reduceIte, h0, vlen_str Tryz.underlying9, e0, h1, hi, e1, h2]
      simp only [partS, h1, h2]; rfl
    | false =>
    cases h3 : (b == 45) with
    | true =>
      simp only [go_sem, Nat.reduceEqDiff, ↓reduceIte, h0, vlen_str Tryz.underlying9, e0, h1, hi, e1, e2, h2, h3]
      simp only [partS, h1, h2, h3]; rfl
    | false =>
      simp only [go_sem, Nat.reduceEqDiff, ↓reduceIte, h0, vlen_str Tryz.underlying9, e0, h1, hi, e1, e2, h2, h3]
      refine (c_sContainsFunc hl (fun n _ h => c_treePart1 n h) _).mono ?_
      rintro q h2' ⟨rfl, rfl⟩
      simp only [vun, go_sem, Nat.reduceEqDiff, ↓reduceIte, partS, h1, h2, h3]

/-- What tree.Path returns. -/
def pathS (s : List UInt8) : Int := if s.length > 128 ∨ (splitB 47 s).length > 8 ∨ (splitB 47 s).any (fun p => !partS p) = true then 2 else 0

theorem c_treePath {s : List UInt8} (hl : s.length ≤ 1048576) (h : Heap) : VCall Tryz.prog 44 [.str s] h fun r h' => h' = h ∧ r = .int .i64 (pathS s) := by
  refine VCall.of_fn (g := cfg44) mix Tryz.func44 ok44 rfl rfl ?_
  simp only [Tryz.f44, Option.getD_some]
  simp only [go_sem, Nat.reduceEqDiff, ↓reduceIte]
  refine (c_split hl 47 _).mono ?_
  rintro r h2 ⟨rfl, rfl⟩
  have hlen := splitB_len_le 47 s
  have e0 : decide ((s.length : Int) > 128) = decide (s.length > 128) := by
    by_cases e : s.length > 128
    · rw [decide_eq_true e, decide_eq_true (by omega)]
    · rw [decide_eq_false e, decide_eq_false (by omega)]
  have e1 : decide (((strs (splitB 47 s)).length : Int) > 8) = decide ((splitB 47 s).length > 8) := by
    rw [strs_length]
    by_cases e : (splitB 47 s).length > 8
    · rw [decide_eq_true e, decide_eq_true (by omega)]
    · rw [decide_eq_false e, decide_eq_false (by omega)]
  cases h1 : decide (s.length > 128) with
  | true =>
    simp only [go_sem, Nat.reduceEqDiff, ↓reduceIte, vlen_str Tryz.underlying9, e0, h1]
    rw [pathS, if_pos (.inl (of_decide_eq_true h1))]
  | false =>
  have g1 := of_decide_eq_false h1
  cases h3 : decide ((splitB 47 s).length > 8) with
  | true =>
    simp only [go_sem, Nat.reduceEqDiff, ↓reduceIte, vlen_str Tryz.underlying9, vlen_sl (IsSl.mk .no) Tryz.underlying22, e0, e1, h1, h3]
    rw [pathS, if_pos (.inr (.inl (of_decide_eq_true h3)))]
  | false =>
  have g3 := of_decide_eq_false h3
  simp only [go_sem, Nat.reduceEqDiff, ↓reduceIte, vlen_str Tryz.underlying9, vlen_sl (IsSl.mk .no) Tryz.underlying22, e0, e1, h1, h3]
  refine (c_containsFuncS (IsSl.mk .no) (by omega) (p := fun p => !partS p) (fun p hp h => ?_) _).mono ?_
  · refine VCall.of_fn (g := cfg84) mix Tryz.func84 ok84 rfl rfl ?_
    simp only [Tryz.f84, Option.getD_some]
    have := splitB_part_le 47 s p hp
    simp only [go_sem, Nat.reduceEqDiff, ↓reduceIte]
    refine (c_treePart (by omega) _).mono ?_
    rintro r h2 ⟨rfl, rfl⟩
    simp only [vun, go_sem, Nat.reduceEqDiff, ↓reduceIte]
  · rintro r h2 ⟨rfl, rfl⟩
    cases h4 : (splitB 47 s).any (fun p => !partS p) with
    | true =>
      simp only [go_sem, Nat.reduceEqDiff, ↓reduceIte]
      rw [pathS, if_pos (.inr (.inr h4))]
    | false =>
      simp only [go_sem, Nat.reduceEqDiff, ↓reduceIte]
      rw [pathS, if_neg (fun h => h.elim g1 fun h => h.elim g3 fun h => by rw [h4] at h; cases h)]
end Go.V
namespace Go.V
open Go.Proofs

/-! Sorted lists of strings, each once: plain laws. -/
abbrev Str := List UInt8
theorem lstr_lt (a b : Str) : lstr a b = decide (a < b) := bytesLess_eq a b

/-- A sorted copy, each element once. -/
def sortedS (l : List Str) : List Str := Lib.compact (l.mergeSort fun x y => decide (x ≤ y))

/-- A list that increases strictly. -/
def Inc (l : List Str) : Prop := l.Pairwise (· < ·)

theorem str_le_of_lt {a b : Str} (h : a < b) : a ≤ b := List.le_of_lt h
theorem str_lt_of_le {a b : Str} (h : a ≤ b) (hn : a ≠ b) : a < b := by
  rcases Decidable.em (a < b) with q | q
  · exact q
  · exact absurd (List.le_antisymm h (List.not_lt.1 q)) hn
theorem str_lt_irrefl (a : Str) : ¬ a < a := List.lt_irrefl a
theorem str_lt_trans {a b c : Str} (h : a < b) (g : b < c) : a < c := List.lt_trans h g

theorem compact_inv {d : Array Str} (hs : ∀ i j, i ≤ j → j < d.size → d[i]! ≤ d[j]!) : ∀ m, m ≤ d.size → (∀ x, x ∈ Lib.compactUpTo d m ↔ ∃ j, j < m ∧ d[j]! = x) ∧ (Lib.compactUpTo d m).Pairwise (· < ·)
  | 0, _ => by simp [Lib.compactUpTo]
  | m + 1, h => by
    obtain ⟨h1, h2⟩ := compact_inv hs m (by omega)
    rw [Lib.compactUpTo_succ]
    have step : ∀ x, (∃ j, j < m + 1 ∧ d[j]! = x) ↔ (∃ j, j < m ∧ d[j]! = x) ∨ d[m]! = x := fun x => by
      constructor
      · rintro ⟨j, hj, e⟩
        rcases Nat.lt_succ_iff_lt_or_eq.1 hj with hj | rfl
        · exact .inl ⟨j, hj, e⟩
        · exact .inr e
      · rintro (⟨j, hj, e⟩ | e)
        · exact ⟨j, by omega, e⟩
        · exact ⟨m, by omega, e⟩
    cases hk : Lib.keeps d m with
    | true =>
      simp only [if_true]
      refine ⟨fun x => ?_, ?_⟩
      · rw [step, List.mem_append, List.mem_singleton, h1]
        constructor
        · rintro (e | e)
          · exact .inl e
          · exact .inr e.symm
        · rintro (e | e)
          · exact .inl e
          · exact .inr e.symm
      · rw [List.pairwise_append]
        refine ⟨h2, List.pairwise_singleton _ _, fun a ha b hb => ?_⟩
        simp only [List.mem_singleton] at hb
        subst hb
        obtain ⟨j, hj, rfl⟩ := (h1 a).1 ha
        simp only [Lib.keeps, decide_eq_true_eq] at hk
        have hne : d[m]! ≠ d[m - 1]! := hk.resolve_left (by omega)
        have g1 := hs j (m - 1) (by omega) (by omega)
        have g2 := hs (m - 1) m (by omega) (by omega)
        exact List.lt_of_le_of_lt g1 (str_lt_of_le g2 fun e => hne e.symm)
    | false =>
      simp only [Bool.false_eq_true, if_false, List.append_nil]
      refine ⟨fun x => ?_, h2⟩
      rw [step, h1]
      simp only [Lib.keeps, decide_eq_false_iff_not, not_or, Decidable.not_not] at hk
      constructor
      · exact .inl
      · rintro (e | e)
        · exact e
        · exact ⟨m - 1, by omega, by rw [← hk.2]; exact e⟩

theorem leB_trans : ∀ a b c : Str, decide (a ≤ b) = true → decide (b ≤ c) = true → decide (a ≤ c) = true := fun a b c h1 h2 => by
  simp only [decide_eq_true_eq] at *; exact List.le_trans h1 h2
theorem leB_total : ∀ a b : Str, (decide (a ≤ b) || decide (b ≤ a)) = true := fun a b => by
  simp only [Bool.or_eq_true, decide_eq_true_eq]; exact List.le_total a b

theorem sortedS_both (l : List Str) : (∀ x, x ∈ sortedS l ↔ x ∈ l) ∧ Inc (sortedS l) := by
  have hp : (l.mergeSort fun x y => decide (x ≤ y)).Pairwise fun a b => decide (a ≤ b) = true := List.pairwise_mergeSort leB_trans leB_total l
  have hm : ∀ x, x ∈ (l.mergeSort fun x y => decide (x ≤ y)) ↔ x ∈ l := fun x => List.mem_mergeSort
  unfold sortedS Lib.compact
  generalize (l.mergeSort fun x y => decide (x ≤ y)) = z at hp hm
  have hs : ∀ i j, i ≤ j → j < z.toArray.size → z.toArray[i]! ≤ z.toArray[j]! := fun i j hij hj => by
    have hj' : j < z.length := by simpa using hj
    have hi' : i < z.length := by omega
    have e1 : z.toArray[i]! = z[i] := by simp [hi']
    have e2 : z.toArray[j]! = z[j] := by simp [hj']
    rw [e1, e2]
    rcases Nat.lt_or_ge i j with q | q
    · have := List.pairwise_iff_getElem.1 hp i j hi' hj' q
      simpa using this
    · have : i = j := by omega
      subst this
      exact List.le_refl _
  obtain ⟨h1, h2⟩ := compact_inv hs z.length (by simp)
  refine ⟨fun x => ?_, h2⟩
  rw [h1, ← hm]
  constructor
  · rintro ⟨j, hj, rfl⟩
    have : z.toArray[j]! = z[j] := by simp [hj]
    rw [this]; exact List.getElem_mem hj
  · intro hx
    obtain ⟨j, hj, rfl⟩ := List.mem_iff_getElem.1 hx
    exact ⟨j, hj, by simp [hj]⟩
theorem sortedS_mem {l : List Str} {x : Str} : x ∈ sortedS l ↔ x ∈ l := (sortedS_both l).1 x
theorem sortedS_inc (l : List Str) : Inc (sortedS l) := (sortedS_both l).2
theorem sortedS_len (l : List Str) : (sortedS l).length ≤ l.length := by
  have := Lib.compact_length_le (l.mergeSort fun x y => decide (x ≤ y))
  rw [List.length_mergeSort] at this
  exact this

/-- Two strictly increasing lists with the same members are the same. -/
theorem inc_unique : ∀ {a b : List Str}, Inc a → Inc b → (∀ x, x ∈ a ↔ x ∈ b) → a = b
  | [], [], _, _, _ => rfl
  | [], y :: b, _, _, h => by have := (h y).2 (by simp); simp at this
  | x :: a, [], _, _, h => by have := (h x).1 (by simp); simp at this
  | x :: a, y :: b, ha, hb, h => by
    unfold Inc at ha hb
    rw [List.pairwise_cons] at ha hb
    have hxy : x = y := by
      rcases List.mem_cons.1 ((h x).1 (by simp)) with e | e
      · exact e
      · rcases List.mem_cons.1 ((h y).2 (by simp)) with g | g
        · exact g.symm
        · exact absurd (str_lt_trans (hb.1 x e) (ha.1 y g)) (str_lt_irrefl y)
    subst hxy
    have : a = b := inc_unique ha.2 hb.2 fun z => by
      constructor
      · intro hz
        rcases List.mem_cons.1 ((h z).1 (by simp [hz])) with e | e
        · subst e; exact absurd (ha.1 _ hz) (str_lt_irrefl _)
        · exact e
      · intro hz
        rcases List.mem_cons.1 ((h z).2 (by simp [hz])) with e | e
        · subst e; exact absurd (hb.1 _ hz) (str_lt_irrefl _)
        · exact e
    rw [this]
theorem sortedS_congr {a b : List Str} (h : ∀ x, x ∈ a ↔ x ∈ b) : sortedS a = sortedS b :=
  inc_unique (sortedS_inc a) (sortedS_inc b) fun x => by rw [sortedS_mem, sortedS_mem, h]
theorem sortedS_comm (a b : List Str) : sortedS (a ++ b) = sortedS (b ++ a) := sortedS_congr fun x => by simp [or_comm]
theorem sortedS_keep {a b : List Str} (ha : Inc a) (hb : ∀ x ∈ b, x ∈ a) : sortedS (a ++ b) = a :=
  inc_unique (sortedS_inc _) ha fun x => by
    rw [sortedS_mem, List.mem_append]
    exact ⟨fun h => h.elim id (hb x), .inl⟩
theorem Inc.nodup {l : List Str} (h : Inc l) : l.Nodup := h.imp fun {a b} q e => by subst e; exact str_lt_irrefl _ q
end Go.V
