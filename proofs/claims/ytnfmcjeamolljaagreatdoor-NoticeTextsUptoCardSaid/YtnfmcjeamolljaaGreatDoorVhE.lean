/- Parts of strings, functions of the library that sort, functions that are handed on, maps, builders of strings. No condition. -/
import Derived.Test.YtnfmcjeamolljaaGreatDoorVhD
import Derived.Sort.Grow
import Derived.Lib.TrimU
import Derived.Shelf.Strings.Builder1
set_option linter.unusedSimpArgs false
set_option linter.unusedVariables false
set_option linter.constructorNameAsVariable false
set_option linter.deprecated false
namespace Go.V
open Go.RowKit (Below)

attribute [go_sem] Option.map_none Option.map_some
/-! Parts of strings. -/
section
variable {P : Program} {t e : TypeId} {s : List UInt8} {h : Heap}
theorem vslice_str_hi (ha : arrT P t = none) (hu : P.underlying t = some .string) {k : IntKind} {n : Nat} (hn : n ≤ s.length) : vsliceA P t (.str s) none (some (.int k (n : Int))) none h = some (.str (s.take n)) := by
  simp [vsliceA, ha, vslice, hu, vbounds, hiOf, loOf, hn]
theorem vslice_str_lo (ha : arrT P t = none) (hu : P.underlying t = some .string) {k : IntKind} {n : Nat} (hn : n ≤ s.length) : vsliceA P t (.str s) (some (.int k (n : Int))) none none h = some (.str (s.drop n)) := by
  simp [vsliceA, ha, vslice, hu, vbounds, hiOf, loOf, hn]
theorem vslice_rs_hi (ha : arrT P t = none) (he : elemT P t = some e) {id sz len n : Nat} (hz : szT P e = sz) {k : IntKind} (hn : n ≤ len) : vsliceA P t (.rs id sz 0 len) none (some (.int k (n : Int))) none h = some (.rs id sz 0 n) := by
  simp [vsliceA, ha, vslice, he, hz, vbounds, hiOf, loOf, hn]
theorem vlen_str (hu : P.underlying t = some .string) : vlen P t (.str s) h = some (.int .i64 s.length) := by simp [vlen, hu]
theorem vindex_str (hu : P.underlying t = some .string) {k : IntKind} {n : Nat} {b : UInt8} (hn : s[n]? = some b) : vindex P t (.str s) (.int k (n : Int)) = some (.int .u8 b.toNat) := by
  simp [vindex, hu, hn]
end

/-! Functions of Go's library that sort a slice in place. -/
theorem Sim.grow {w0 : Base} {G : List Nat} {M : Imm} {ρ : Ren} {h : Heap} {w : World} (hs : Sim w0 G M ρ h w) (os : Array Go.Obj) : Sim w0 G M ρ h (Go.Sort.grow w os) :=
  hs.world ⟨rfl, rfl, rfl, by simp [Go.Sort.grow], fun k hk => by simp [Go.Sort.grow, Array.getElem?_append_left hk]⟩

theorem VCall.of_rowU {P : Program} {f : FuncId} {α : Type} [Inhabited α] {enc : α → Value} {dd : α → D} (hinv : ∀ M ρ x v, rel M ρ (dd x) v → v = enc x) (hfl : ∀ x, (dd x).flat = true) {xs ys : List α} {rest : List D} {id : Nat} {pre post : List D} {h : Heap}
    (he : entersT P f = true) (hrow : h.at' id = some (.row (pre ++ xs.map dd ++ post))) (h0 : 0 < xs.length) (hlen : ys.length = xs.length) (hy : ∀ y ∈ ys, y ∈ xs ∨ ∀ M ρ, rel M ρ (dd y) (enc y))
    (hc : ∀ (blk o cap : Nat) (w : World) (M : Imm) (ρ : Ren) (va : List Value), Go.Sort.Holds enc w blk o xs.toArray → blk < w.heap.size → xs.length ≤ cap → cap ≤ 9223372036854775807 → relL M ρ rest va →
      Calls P f (.slice (some ⟨blk, o, none⟩) xs.length cap :: va).toArray w fun e w' => e = .returned (.tuple #[]) ∧ ∃ q os, w' = Go.Sort.grow (Go.Sort.putRow enc (Go.Sort.ahead w q) blk o ys.toArray) os) :
    VCall P f (.rs id 1 pre.length xs.length :: rest) h fun d h' => d = .tuple [] ∧ h' = h.set id (.row (pre ++ ys.map dd ++ post)) := by
  refine ⟨he, fun w0 G M ρ w va hg0 hs hfr hr => ?_⟩
  simp only [relL] at hr
  obtain ⟨v, vs', hva, hv, hrest⟩ := hr
  simp only [rel] at hv
  obtain ⟨_, hlim, l, cap, o, hl, rfl, ⟨hc1, hc2⟩, hsz, ho⟩ := hv
  have ho : o = pre.length := by
    rcases ho with hz | ho
    · omega
    · exact ho
  subst ho
  obtain ⟨l', h1, hkeep, hM, c, e, hw, hls, hcl, hcells⟩ := hs.live id _ hrow
  rw [hl] at h1; cases h1
  have hcell : ∀ (j : Nat) (hj : j < xs.length), ∃ v, c[pre.length + j]? = some v ∧ rel M ρ (dd xs[j]) v := fun j hj => by
    obtain ⟨_, v, e1, e2⟩ := hcells (pre.length + j) (dd xs[j]) (by
      rw [List.append_assoc, List.getElem?_append_right (by omega), Nat.add_sub_cancel_left, List.getElem?_append_left (by simpa using hj), List.getElem?_map, List.getElem?_eq_getElem hj]; rfl)
    exact ⟨v, e1, e2⟩
  have hholds : Go.Sort.Holds enc w l.blk pre.length xs.toArray := fun j hj => by
    have hj' : j < xs.length := by simpa using hj
    obtain ⟨v, e1, e2⟩ := hcell j hj'
    refine ⟨?_, by simp [World.frozen?, hw]⟩
    rw [getElem!_pos xs.toArray j hj]
    simp only [World.cell?, hw, Option.isSome_none, Bool.false_eq_true, if_false, e1, hinv _ _ _ _ e2, List.getElem_toArray]
  have hva' : va = (.slice (some ⟨l.blk, pre.length, none⟩) xs.length cap :: vs').toArray := Array.ext' (by simpa using hva)
  rw [hva']
  have hblk : l.blk < w.heap.size := (Array.getElem?_eq_some_iff.1 hw).1
  refine (hc l.blk pre.length cap w M ρ vs' hholds hblk hc1 (by simpa [maxLen] using hc2) hrest).mono fun e w' hq => ?_
  obtain ⟨rfl, q, os, rfl⟩ := hq
  have hrel : ∀ y ∈ ys, rel M ρ (dd y) (enc y) := fun y hyy => by
    rcases hy y hyy with hx | hx
    · obtain ⟨j, hj, rfl⟩ := List.mem_iff_getElem.1 hx
      obtain ⟨v, _, e2⟩ := hcell j hj
      have := hinv _ _ _ _ e2
      rw [← this]; exact e2
    · exact hx M ρ
  have hS := (((hs.ahead q).putRow hfl (enc := enc) hrow hl hlen hrel)).grow os
  refine ⟨_, M, ρ, .tuple [], _, rfl, MLe.refl _, RLe.refl _, hS, hfr, ?_, rfl, rfl⟩
  simp only [rel, relL]
  exact ⟨#[], rfl, rfl⟩

/-! The runes of a string. -/
def anyRune (p : Nat → Bool) (s : List UInt8) : Nat → Nat → Bool
  | 0, _ => false
  | k + 1, pos => if pos < s.length then p (runeAt s pos).1 || anyRune p s k (pos + (runeAt s pos).2) else false

theorem anyRune_end {p : Nat → Bool} {s : List UInt8} {pos : Nat} (h : s.length ≤ pos) : ∀ k, anyRune p s k pos = false
  | 0 => rfl
  | k + 1 => by simp [anyRune]; omega

theorem anyRune_fuel {p : Nat → Bool} {s : List UInt8} : ∀ {j k pos : Nat}, s.length + 1 ≤ pos + j → s.length + 1 ≤ pos + k → anyRune p s j pos = anyRune p s k pos
  | 0, k, pos, hj, _ => by rw [anyRune_end (by omega), anyRune_end (by omega)]
  | j + 1, 0, pos, _, hk => by rw [anyRune_end (by omega), anyRune_end (by omega)]
  | j + 1, k + 1, pos, hj, hk => by
    simp only [anyRune]
    by_cases h : pos < s.length
    · have := Go.Lib.width_pos ⟨s.toArray⟩ pos
      rw [if_pos h, if_pos h, anyRune_fuel (j := j) (k := k) (by unfold runeAt; omega) (by unfold runeAt; omega)]
    · rw [if_neg h, if_neg h]

theorem runeAt_wrap (s : List UInt8) (pos : Nat) : IntKind.i32.wrap ((runeAt s pos).1 : Int) = ((runeAt s pos).1 : Int) := by
  have := Go.Lib.rune_le ⟨s.toArray⟩ pos
  unfold runeAt IntKind.wrap
  simp [IntKind.signed, IntKind.bits]
  split <;> omega

theorem runeAt_size (s : List UInt8) (pos : Nat) : 1 ≤ (runeAt s pos).2 := Go.Lib.width_pos _ _

/-- The next rune. -/
theorem vnext_more {s : List UInt8} {pos id : Nat} {h : Heap} (hi : h.at' id = some (.siter s pos)) (hl : s.length ≤ lim) (hp : pos < s.length) : vnext (.ptr id 0) true h = some (.tuple [.bool true, .int .i64 (pos : Int), .int .i32 ((runeAt s pos).1 : Int)], h.set id (.siter s (pos + (runeAt s pos).2))) := by
  simp [vnext, hi, hp, hl, runeAt_wrap]
theorem vnext_end {s : List UInt8} {pos id : Nat} {h : Heap} (hi : h.at' id = some (.siter s pos)) (hp : ¬ pos < s.length) : vnext (.ptr id 0) true h = some (.tuple [.bool false], h) := by
  simp [vnext, hi, hp]
theorem repl_one (n : Nat) (d : D) : repl n [d] = List.replicate n d := by
  induction n with
  | zero => rfl
  | succ n ih => simp only [repl, List.replicate_succ, List.flatten_cons] at ih ⊢; rw [ih]; rfl
end Go.V
namespace Go.V

/-! Functions that are handed on and called with lists of numbers. -/
/-- Integers as elements. -/
def ints (l : List Int) : List (List D) := l.map fun n => [.int .i64 n]
theorem ints_length (l : List Int) : (ints l).length = l.length := List.length_map ..
theorem ints_get {l : List Int} {i : Nat} (h : i < l.length) : (ints l)[i]? = some [.int .i64 l[i]] := by simp [ints, h]

/-- What a function says of its heap and of the places that are its own: Y ks, when it was called with the lists ks. -/
structure Fnd (P : Program) (mx : Nat) (found : D) (Y : List (List Int) → (Nat → Prop) → Heap → Prop) : Prop where
  here : ∀ ks S h, Y ks S h → ∀ i, S i → i < h.next
  loc : ∀ ks S h h', Y ks S h → h.next ≤ h'.next → (∀ i, S i → h'.at' i = h.at' i) → Y ks S h'
  go : ∀ ks S h l tk, Y ks S h → ks.length < 1048576 → 0 < l.length → l.length ≤ mx → (∀ n ∈ l, fits .i64 n) → VInv P found [.sl 1 (ints l) tk] h fun _ h' => ∃ S', (∀ i, S' i → S i ∨ h.next ≤ i) ∧ But S h h' ∧ Y (ks ++ [l]) S' h'

theorem Fnd.ext {P : Program} {mx : Nat} {found : D} {Y : List (List Int) → (Nat → Prop) → Heap → Prop} (y : Fnd P mx found Y) {ks : List (List Int)} {S : Nat → Prop} {h h' : Heap} (hy : Y ks S h) (he : Ext h h') : Y ks S h' :=
  y.loc ks S h h' hy he.1 fun i hi => he.2 i (y.here ks S h hy i hi)

/-- A loop over a function that calls such a function: k elements were yielded, and for them it was called with els k. -/
def YCall (id : Nat) (L : LRec) (Y : List (List Int) → (Nat → Prop) → Heap → Prop) (ks : List (List Int)) (els : Nat → List (List Int)) (k : Nat) (S : Nat → Prop) (h : Heap) : Prop :=
  id < h.next ∧ h.at' id = some (.loop L) ∧ ∃ S0, Y (ks ++ els k) S0 h ∧ ¬ S0 id ∧ ∀ i, S i ↔ (i = id ∨ S0 i)

section
variable {P : Program} {mx : Nat} {found : D} {Y : List (List Int) → (Nat → Prop) → Heap → Prop} {id : Nat} {L : LRec} {ks : List (List Int)} {els : Nat → List (List Int)} {k : Nat} {S : Nat → Prop} {h : Heap}

theorem YCall.here (y : Fnd P mx found Y) (hy : YCall id L Y ks els k S h) (i : Nat) (hi : S i) : i < h.next := by
  obtain ⟨a1, _, S0, a3, _, a5⟩ := hy
  rcases (a5 i).1 hi with rfl | hs
  · exact a1
  · exact y.here _ _ _ a3 i hs

theorem YCall.loc (y : Fnd P mx found Y) (hy : YCall id L Y ks els k S h) {h' : Heap} (hn : h.next ≤ h'.next) (hk : ∀ i, S i → h'.at' i = h.at' i) : YCall id L Y ks els k S h' := by
  obtain ⟨a1, a2, S0, a3, a4, a5⟩ := hy
  exact ⟨by omega, by rw [hk id ((a5 id).2 (.inl rfl))]; exact a2, S0, y.loc _ _ _ _ a3 hn fun i hi => hk i ((a5 i).2 (.inr hi)), a4, a5⟩

/-- What a round must end with. -/
def roundK (id : Nat) (L : LRec) (Y : List (List Int) → (Nat → Prop) → Heap → Prop) (ks : List (List Int)) (els : Nat → List (List Int)) (k : Nat) (S : Nat → Prop) (h : Heap) (r : D) (h' : Heap) : Prop :=
  ∃ S', (∀ i, S' i → S i ∨ h.next ≤ i) ∧ But S h h' ∧ ((r = .bool true ∧ YCall id L Y ks els (k + 1) S' h') ∨ (r = .bool false ∧ False))

/-- A round that does nothing more. -/
theorem YCall.quiet (y : Fnd P mx found Y) (hy : YCall id L Y ks els k S h) (hst : L.st = .ready) (hpe : L.pending = none) (hel : els (k + 1) = els k) {B : LRec} (hB : B = { L with st := .busy }) {h6 : Heap} (he : Ext h h6 ∨ ∃ h5, Ext h h5 ∧ Ext (h5.set id (.loop B)) h6) (hid : h6.at' id = some (.loop B)) {fr : Frm} :
    roundQ (roundK id L Y ks els k S h) id .normal fr h6 := by
  obtain ⟨a1, a2, S0, a3, a4, a5⟩ := hy
  have hLB : ({ B with st := .ready, pending := none } : LRec) = L := by subst hB; cases L; simp only at hst hpe; subst hst hpe; rfl
  have hb : But (fun i => i = id) h h6 := by
    rcases he with he | ⟨h5, e1, e2⟩
    · exact he.but _
    · refine ⟨Nat.le_trans e1.1 e2.1, fun i hi hn => ?_⟩
      rw [e2.2 i (Nat.lt_of_lt_of_le hi e1.1), set_keep hn, e1.2 i hi]
  have hS0 : ∀ i, S0 i → (h6.set id (.loop L)).at' i = h.at' i := fun i hi => by
    have hne : i ≠ id := fun e => a4 (e ▸ hi)
    rw [set_keep hne, hb.2 i (y.here _ _ _ a3 i hi) hne]
  refine roundQ_normal hid ⟨S, fun i hi => .inl hi, ⟨hb.1, fun i hi hn => ?_⟩, .inl ⟨rfl, ?_⟩⟩
  · have hne : i ≠ id := fun e => hn ((a5 i).2 (.inl e))
    rw [set_keep hne, hb.2 i hi hne]
  · rw [hLB]
    refine ⟨Nat.lt_of_lt_of_le a1 hb.1, set_at_same _ _ _, S0, ?_, a4, a5⟩
    rw [hel]
    exact y.loc _ _ _ _ a3 hb.1 hS0

/-- A round that calls the function. -/
theorem YCall.step (y : Fnd P mx found Y) (hy : YCall id L Y ks els k S h) (hst : L.st = .ready) (hpe : L.pending = none) {l : List Int} (hel : els (k + 1) = els k ++ [l]) (hlen : (ks ++ els k).length < 1048576) (h0 : 0 < l.length) (h8 : l.length ≤ mx) (hft : ∀ n ∈ l, fits .i64 n)
    {B : LRec} (hB : B = { L with st := .busy }) {h1 h2 : Heap} (he : Ext h h1) (he2 : Ext (h1.set id (.loop B)) h2) (tk : Tk) {fr : Frm} :
    VInv P found [.sl 1 (ints l) tk] h2 fun _ h6 => roundQ (roundK id L Y ks els k S h) id .normal fr h6 := by
  obtain ⟨a1, a2, S0, a3, a4, a5⟩ := hy
  have hLB : ({ B with st := .ready, pending := none } : LRec) = L := by subst hB; cases L; simp only at hst hpe; subst hst hpe; rfl
  have hn12 : h1.next ≤ h2.next := he2.1
  have hid1 : id < h1.next := Nat.lt_of_lt_of_le a1 he.1
  have hkeep : ∀ i, i < h.next → i ≠ id → h2.at' i = h.at' i := fun i hi hne => by
    rw [he2.2 i (Nat.lt_of_lt_of_le hi he.1), set_keep hne, he.2 i hi]
  have hidB : h2.at' id = some (.loop B) := by rw [he2.2 id hid1, set_at_same]
  have Y2 : Y (ks ++ els k) S0 h2 := y.loc _ _ _ _ a3 (Nat.le_trans he.1 hn12) fun i hi => hkeep i (y.here _ _ _ a3 i hi) fun e => a4 (e ▸ hi)
  refine VInv.mono (fun r h6 hq => ?_) (y.go _ _ _ l tk Y2 hlen h0 h8 hft)
  obtain ⟨S0', b1, b2, b3⟩ := hq
  have hid6 : h6.at' id = some (.loop B) := by rw [b2.2 id (by omega) a4, hidB]
  have hid0 : ¬ S0' id := fun e => (b1 id e).elim a4 (by omega)
  have hn6 : h.next ≤ h6.next := by have := b2.1; have := he.1; omega
  refine roundQ_normal hid6 ⟨fun i => i = id ∨ S0' i, fun i hi => ?_, ⟨hn6, fun i hi hn => ?_⟩, .inl ⟨rfl, ?_⟩⟩
  · rcases hi with rfl | hi
    · exact .inl ((a5 _).2 (.inl rfl))
    · rcases b1 i hi with hs | hs
      · exact .inl ((a5 i).2 (.inr hs))
      · exact .inr (by have := he.1; omega)
  · have hne : i ≠ id := fun e => hn ((a5 i).2 (.inl e))
    rw [set_keep hne, b2.2 i (by have := he.1; omega) (fun e => hn ((a5 i).2 (.inr e))), hkeep i hi hne]
  · rw [hLB]
    refine ⟨by simp only [next_set]; omega, set_at_same _ _ _, S0', ?_, hid0, fun i => Iff.rfl⟩
    rw [hel, ← List.append_assoc]
    refine y.loc _ _ _ _ b3 (Nat.le_refl _) fun i hi => ?_
    exact set_keep fun e => hid0 (by rw [← e]; exact hi)
end
end Go.V
namespace Go.V

/-! Maps without entries. -/
theorem vlookup_empty {P : Program} {t kt e : TypeId} {ag : Bool} {ks : List Kd} {z k : D} {id : Nat} {ok : Bool} {h : Heap} (hi : h.at' id = some (.map [])) (hm : mapT P t = some (kt, e)) (hk : keyT P kt = some (ag, ks)) (hz : zeroT P e = some z) (hs : keyShape ag k = true) (he : (eqK ks k.cells k.cells).isSome = true) : vlookup P t (.map id) k ok h = some (vfound ok z none) := by
  simp [vlookup, hm, hk, hz, mapEs, hi, vlookupIn, hs, he, mfind]

/-! Loops over functions that yield nothing. -/
theorem ext_loop {h h2 : Heap} {L : LRec} (he : Ext (h.new h.next (.loop L)) h2) : h2.at' h.next = some (.loop L) ∧ Ext h (h2.del h.next) := by
  have hn : h.next + 1 ≤ h2.next := by have := he.1; rw [next_new_eq] at this; exact this
  refine ⟨by rw [he.2 _ (by rw [next_new_eq]; omega), new_at], by simp only [next_del]; omega, fun i hi => ?_⟩
  rw [del_keep (by omega), he.2 i (by rw [next_new_eq]; omega), new_keep (by omega)]

/-- A function that is handed on keeps an object besides. -/
def YKeep (m : Nat) (o : Obj) (Y : List (List Int) → (Nat → Prop) → Heap → Prop) (ks : List (List Int)) (S : Nat → Prop) (h : Heap) : Prop :=
  ∃ S1, Y ks S1 h ∧ m < h.next ∧ h.at' m = some o ∧ ¬ S1 m ∧ ∀ i, S i ↔ (i = m ∨ S1 i)

theorem Fnd.keep {P : Program} {mx : Nat} {found : D} {Y : List (List Int) → (Nat → Prop) → Heap → Prop} (y : Fnd P mx found Y) (m : Nat) (o : Obj) : Fnd P mx found (YKeep m o Y) := by
  refine ⟨fun ks S h hy i hi => ?_, fun ks S h h' hy hn hk => ?_, fun ks S h l tk hy hl h0 h8 hft => ?_⟩
  · obtain ⟨S1, a1, a2, a3, a4, a5⟩ := hy
    rcases (a5 i).1 hi with rfl | hs
    · exact a2
    · exact y.here _ _ _ a1 i hs
  · obtain ⟨S1, a1, a2, a3, a4, a5⟩ := hy
    exact ⟨S1, y.loc _ _ _ _ a1 hn fun i hi => hk i ((a5 i).2 (.inr hi)), by omega, by rw [hk m ((a5 m).2 (.inl rfl))]; exact a3, a4, a5⟩
  · obtain ⟨S1, a1, a2, a3, a4, a5⟩ := hy
    refine VInv.mono (fun r h2 hq => ?_) (y.go _ _ _ l tk a1 hl h0 h8 hft)
    obtain ⟨S2, b1, b2, b3⟩ := hq
    refine ⟨fun i => i = m ∨ S2 i, fun i hi => ?_, ⟨b2.1, fun i hi hn => b2.2 i hi fun e => hn ((a5 i).2 (.inr e))⟩, S2, b3, by have := b2.1; omega, by rw [b2.2 m a2 a4]; exact a3, fun e => (b1 m e).elim a4 (by omega), fun i => Iff.rfl⟩
    rcases hi with rfl | hi
    · exact .inl ((a5 _).2 (.inl rfl))
    · rcases b1 i hi with h1 | h1
      · exact .inl ((a5 i).2 (.inr h1))
      · exact .inr h1

theorem YKeep.start {m : Nat} {o : Obj} {Y : List (List Int) → (Nat → Prop) → Heap → Prop} {ks : List (List Int)} {S : Nat → Prop} {h : Heap} (hy : Y ks S h) (hm : m < h.next) (ho : h.at' m = some o) (hn : ¬ S m) : YKeep m o Y ks (fun i => i = m ∨ S i) h :=
  ⟨S, hy, hm, ho, hn, fun _ => Iff.rfl⟩

/-- What was done with an object kept was done without it. -/
theorem YKeep.stop {m : Nat} {o : Obj} {Y : List (List Int) → (Nat → Prop) → Heap → Prop} {ks : List (List Int)} {S S' : Nat → Prop} {h h' : Heap} (hm : m < h.next) (ho : h.at' m = some o) (hs : ∀ i, S' i → (i = m ∨ S i) ∨ h.next ≤ i) (hb : But (fun i => i = m ∨ S i) h h') (hy : YKeep m o Y ks S' h') :
    ∃ S1, (∀ i, S1 i → S i ∨ h.next ≤ i) ∧ But S h h' ∧ Y ks S1 h' := by
  obtain ⟨S1, a1, a2, a3, a4, a5⟩ := hy
  refine ⟨S1, fun i hi => ?_, ⟨hb.1, fun i hi hn => ?_⟩, a1⟩
  · rcases hs i ((a5 i).2 (.inr hi)) with (rfl | h1) | h1
    · exact absurd hi a4
    · exact .inl h1
    · exact .inr h1
  · by_cases he : i = m
    · subst he; rw [a3, ho]
    · exact hb.2 i hi fun e => e.elim he hn
/-! Two new objects. -/
theorem new2_at {H : Heap} (o o2 : Obj) : ((H.new H.next o).new (H.new H.next o).next o2).at' H.next = some o := by
  rw [new_keep (by rw [next_new_eq]; omega), new_at]
theorem new2_keep {H : Heap} (o o2 : Obj) {i : Nat} (hi : i < H.next) : ((H.new H.next o).new (H.new H.next o).next o2).at' i = H.at' i := by
  rw [new_keep (by rw [next_new_eq]; omega), new_keep (by omega)]
theorem vstore_new2 {P : Program} {t : TypeId} {H : Heap} {c x : D} {o2 : Obj} (hs : szT P t = 1) (hc : x.cells = [x]) (hf : x.flat = true) :
    vstore P t (.ptr H.next 0) x ((H.new H.next (.row [c])).new (H.new H.next (.row [c])).next o2) = some ((H.new H.next (.row [x])).new (H.new H.next (.row [x])).next o2) := by
  rw [vstore_cell (new2_at _ _) hs (by simp) hc hf]
  congr 1
  simp only [Heap.set, Heap.new, Heap.mk.injEq, true_and]
  funext j
  by_cases hj : j = H.next
  · subst hj; simp
  · simp [hj]
theorem putAt_mid {a b c b' : List D} (hl : b'.length = b.length) : putAt (a ++ b ++ c) b' a.length = a ++ b' ++ c := by
  simp [putAt, hl]
theorem vbuildSlice_two {P : Program} {nid : Nat} {t e : TypeId} {z x y : D} {sz : Nat} {h : Heap} (he : elemT P t = some e) (hz : zeroT P e = some z) (hs : szT P e = sz) (hzt : z.notTuple = true) (hzl : z.cells.length = sz) (h0 : 0 < sz) (hlim : sz ≤ 1048576)
    (hxt : x.notTuple = true) (hxl : x.cells.length = sz) (hyt : y.notTuple = true) (hyl : y.cells.length = sz) : vbuildSlice P false nid t 2 [(0, x), (1, y)] h = some (.sl sz [x.cells, y.cells] .full, h) := by
  simp only [vbuildSlice, he, hz, hs]
  have hrep : repl 2 z.cells = z.cells ++ z.cells := by simp [repl]
  have hp1 : putAt (z.cells ++ z.cells) x.cells (0 * sz) = x.cells ++ z.cells := by
    have := putAt_mid (a := []) (b := z.cells) (c := z.cells) (b' := x.cells) (by rw [hxl, hzl])
    simpa using this
  have hp2 : putAt (x.cells ++ z.cells) y.cells (1 * sz) = x.cells ++ y.cells := by
    have := putAt_mid (a := x.cells) (b := z.cells) (c := []) (b' := y.cells) (by rw [hyl, hzl])
    rw [Nat.one_mul, ← hxl]
    simpa using this
  rw [if_pos (by simp [hzt, hzl, h0]; omega)]
  simp only [vfill, hrep]
  rw [if_pos (by simp [hxt, hxl, hzl])]
  simp only [vfill, hp1]
  rw [if_pos (by simp [hyt, hyl, hxl, hzl])]
  simp only [vfill, hp2]
  have hc : chunks sz 2 (x.cells ++ y.cells) = [x.cells, y.cells] := by
    simp only [chunks]
    rw [List.take_append_of_le_length (by omega), List.take_of_length_le (by omega), List.drop_append_of_le_length (by omega), List.drop_eq_nil_of_le (by omega), List.nil_append, List.take_of_length_le (by omega)]
  simp [hc]
theorem flatten_split {xs : List (List D)} {i : Nat} {x : List D} (hx : xs[i]? = some x) : xs.flatten = (xs.take i).flatten ++ x ++ (xs.drop (i + 1)).flatten := by
  obtain ⟨hi, rfl⟩ := List.getElem?_eq_some_iff.1 hx
  have e : xs = xs.take i ++ xs[i] :: xs.drop (i + 1) := by rw [List.getElem_cons_drop, List.take_append_drop]
  have e2 : xs.flatten = (xs.take i ++ xs[i] :: xs.drop (i + 1)).flatten := by rw [← e]
  rw [e2, List.flatten_append, List.flatten_cons, List.append_assoc]
/-- An element of a row is loaded. -/
theorem vload_flat {P : Program} {t : TypeId} {id sz i : Nat} {xs : List (List D)} {x : List D} {h : Heap} (hi : h.at' id = some (.row xs.flatten)) (hs : ∀ y ∈ xs, y.length = sz) (hx : xs[i]? = some x) (ha : agT P t = some true) (hz : szT P t = sz) (h0 : 0 < sz) : vload P t (.ptr id (i * sz)) h = some (.agg x) := by
  have hlt := (List.getElem?_eq_some_iff.1 hx).1
  refine vload_cells (pre := (xs.take i).flatten) (mid := x) (post := (xs.drop (i + 1)).flatten) (by rw [hi, flatten_split hx]) ?_ (hs x (List.mem_of_getElem? hx)) ha hz h0
  rw [flat_len fun y hy => hs y (List.mem_of_mem_take hy), List.length_take, Nat.min_eq_left (by omega)]
end Go.V
namespace Go.V
open Go.RowKit (Below)
open Go.Shelf Go.Proofs

/-! strings.Builder. -/
theorem setCell0_sim {w0 : Base} {G : List Nat} {M : Imm} {ρ : Ren} {h : Heap} {w : World} (hs : Sim w0 G M ρ h w) {id : Nat} {t : TypeId} {a b : D} {ds : List D} {l : Loc} (hi : h.at' id = some (.trow t true (a :: ds))) (hl : ρ id = some l) {v : Value} (hv : rel M ρ b v) (hf : b.flat = true) :
    Sim w0 G M ρ (h.set id (.trow t true (b :: ds))) (w.setCell ⟨l.blk, 0, none⟩ v) := by
  obtain ⟨l', g1, g2, hM, c, e0, hw, hls, hlen, hcells, hty, hfu⟩ := hs.live id _ hi
  rw [hl] at g1; cases g1
  have hsz := hfu rfl
  have hw2 : (w.setCell ⟨l.blk, 0, none⟩ v).heap[l.blk]? = some (.cells (c.setIfInBounds 0 v) e0 (0, 0)) := by
    show (w.heap.modify l.blk _)[l.blk]? = _
    rw [Array.getElem?_modify, if_pos rfl, hw]
    rfl
  refine hs.put hi hl rfl rfl rfl (by simp [World.setCell]) (fun k hk => ?_) (fun o v' e => by rw [hM o] at e; cases e) ⟨_, hw, fun d => by simp⟩ ?_
  · show (w.heap.modify l.blk _)[k]? = _
    rw [Array.getElem?_modify, if_neg (fun q => hk q.symm)]
  · refine ⟨hM, _, e0, hw2, by simpa using hls, by simp only [Array.size_setIfInBounds, List.length_cons] at hlen ⊢; omega, fun i d hd => ?_, hty, fun _ => by simp only [Array.size_setIfInBounds, List.length_cons] at hsz ⊢; omega⟩
    cases i with
    | zero =>
      simp only [List.getElem?_cons_zero, Option.some.injEq] at hd
      subst hd
      refine ⟨hf, v, ?_, hv⟩
      rw [Array.getElem?_setIfInBounds]
      simp only [List.length_cons] at hlen
      rw [if_pos rfl, if_pos (by omega)]
    | succ i =>
      obtain ⟨k1, u, k2, k3⟩ := hcells (i + 1) d (by simpa using hd)
      exact ⟨k1, u, by rw [Array.getElem?_setIfInBounds, if_neg (by omega)]; exact k2, k3⟩

theorem copyCheck_ok {P : Program} {ρ0 : Go.Shelf.Ren} (L : Lays.n240 P ρ0) (X : Builder.X72 P ρ0) (he : entersT P (ρ0.f 240) = true) {id : Nat} {a d : D} {h : Heap} (hi : h.at' id = some (.trow (ρ0.t 72) true [a, d])) (ha : a = .nilptr ∨ a = .ptr id 0) :
    VCall P (ρ0.f 240) [.ptr id 0] h fun r h' => r = .tuple [] ∧ h' = h.set id (.trow (ρ0.t 72) true [.ptr id 0, d]) := by
  refine ⟨he, fun w0 G M ρ w va hg0 hs hfr hr => ?_⟩
  simp only [relL, rel] at hr
  obtain ⟨v, vs, hva, ⟨l, hl, rfl⟩, rfl⟩ := hr
  have hva' : va = #[.pointer (some ⟨l.blk, 0, none⟩)] := Array.ext' (by simpa using hva)
  subst hva'
  obtain ⟨l', g1, g2, hM, c, e0, hw, hls, hlen, hcells, hty, hfu⟩ := hs.live id _ hi
  rw [hl] at g1; cases g1
  have hsz : c.size = 2 := hfu rfl
  obtain ⟨_, u, hu1, hu2⟩ := hcells 0 a rfl
  have hc0 : w.cell? ⟨l.blk, 0, none⟩ = some u := by simp [World.cell?, hw, hu1]
  have hself : rel M ρ (.ptr id 0) (.pointer (some ⟨l.blk, 0, none⟩)) := by simp only [rel]; exact ⟨l, hl, rfl⟩
  have fin : ∀ w', Sim w0 G M ρ (h.set id (.trow (ρ0.t 72) true [.ptr id 0, d])) w' → Ret w0 G M ρ (fun r h' => r = .tuple [] ∧ h' = h.set id (.trow (ρ0.t 72) true [.ptr id 0, d])) (.returned (.tuple #[])) w' := fun w' hS =>
    ⟨.tuple #[], M, ρ, .tuple [], _, rfl, MLe.refl _, RLe.refl _, hS, hfr, by simp only [rel, relL]; exact ⟨#[], rfl, rfl⟩, rfl, rfl⟩
  rcases ha with rfl | rfl
  · simp only [rel] at hu2
    subst hu2
    refine (Any.Builder_copyCheck_fresh L X l.blk w hc0 (by simp [World.shape?, hw, hty, hsz]) (by simp [World.frozen?, hw])).mono fun e w' hq => ?_
    obtain ⟨rfl, rfl⟩ := hq
    exact fin _ (setCell0_sim hs hi hl hself rfl)
  · simp only [rel] at hu2
    obtain ⟨l2, hl2, rfl⟩ := hu2
    rw [hl] at hl2; cases hl2
    refine (Any.Builder_copyCheck_used L X l.blk w hc0).mono fun e w' hq => ?_
    obtain ⟨rfl, rfl⟩ := hq
    refine fin _ ?_
    have : h.set id (.trow (ρ0.t 72) true [.ptr id 0, d]) = h := set_same hi
    rw [this]
    exact hs

/-- copyCheck, for the evaluator. -/
def libCopy (t : TypeId) (args : List D) (hp : Nat → Option Obj) : ExtR :=
  match args with
  | [x] => match x with
    | .ptr id off => match off with
      | 0 => match hp id with
        | some (.trow u full cs) => match full with
          | true => match cs with
            | [a, d] => match a with
              | .nilptr => if Nat.beq u t then some (.tuple [], some (id, .trow t true [.ptr id 0, d])) else none
              | .ptr i o => if Nat.beq u t && Nat.beq i id && Nat.beq o 0 then some (.tuple [], some (id, .trow t true [.ptr id 0, d])) else none
              | _ => none
            | _ => none
          | false => none
        | _ => none
      | _ => none
    | _ => none
  | _ => none

theorem libCopy_ok {P : Program} {ρ0 : Go.Shelf.Ren} (L : Lays.n240 P ρ0) (X : Builder.X72 P ρ0) (he : entersT P (ρ0.f 240) = true) {args : List D} {h : Heap} {r : D × Option (Nat × Obj)} (hl : libCopy (ρ0.t 72) args h.at' = some r) : VCall P (ρ0.f 240) args h fun a b => a = r.1 ∧ b = updO r.2 h := by
  unfold libCopy at hl
  split at hl
  · split at hl
    · split at hl
      · split at hl
        · rename_i u full cs hi
          split at hl
          · split at hl
            · split at hl
              · split at hl
                · rename_i hb
                  cases hl
                  have e := Nat.eq_of_beq_eq_true hb
                  subst e
                  exact copyCheck_ok L X he hi (.inl rfl)
                · cases hl
              · split at hl
                · rename_i hb
                  simp only [Bool.and_eq_true] at hb
                  cases hl
                  have e := Nat.eq_of_beq_eq_true hb.1.1
                  have e2 := Nat.eq_of_beq_eq_true hb.1.2
                  have e3 := Nat.eq_of_beq_eq_true hb.2
                  subst e e2 e3
                  exact copyCheck_ok L X he hi (.inr rfl)
                · cases hl
              · cases hl
            · cases hl
          · cases hl
        · cases hl
      · cases hl
    · cases hl
  · cases hl
end Go.V
namespace Go.V
open Go.Proofs
/-! Rules for cap of nil, and for clear. -/
section
variable {P : Program} {m : Bool} {nid : Nat} {h : Heap} {fr : Frm} {k : D → Heap → Prop}
def capN (P : Program) (t : TypeId) (d : D) : Option D :=
  match d with
  | .nilsl => match P.underlying t with
    | some (.slice _) => some (.int .i64 0)
    | _ => none
  | _ => none
@[go_sem ↓] theorem v_cap (t : TypeId) (x : Operand) : vop1 P m nid (.call ⟨.builtin .cap, #[x], #[t]⟩) (opnd fr) h k = onS (capN P t (opnd fr x)) (k · h) := by
  refine vop1_S rfl ?_
  simp only [vop, vbuiltin, capN, List.map_cons, List.map_nil]
  cases opnd fr x <;> try rfl
  simp only []
  cases P.underlying t with
  | none => rfl
  | some y => cases y <;> rfl
@[go_sem ↓] theorem v_clear (t : TypeId) (x : Operand) : vop1 P m nid (.call ⟨.builtin .clear, #[x], #[t]⟩) (opnd fr) h k = onH (vclear P t (opnd fr x) h) (k undefD ·) := vop1_H rfl rfl
theorem capN_nil {t e : TypeId} (hu : P.underlying t = some (.slice e)) : capN P t .nilsl = some (.int .i64 0) := by simp [capN, hu]
end
end Go.V
namespace Go.V

/-! Maps from strings to strings. -/
abbrev KV := List (List UInt8 × List UInt8)
def kvD (m : KV) : List (D × D) := m.map fun p => (.str p.1, .str p.2)
def kvGet (k : List UInt8) : KV → Option (List UInt8)
  | [] => none
  | (k', v) :: m => if k == k' then some v else kvGet k m
def kvPut (k v : List UInt8) : KV → KV
  | [] => [(k, v)]
  | (k', v') :: m => if k == k' then (k, v) :: m else (k', v') :: kvPut k v m

theorem kvD_cons (p : List UInt8 × List UInt8) (m : KV) : kvD (p :: m) = (.str p.1, .str p.2) :: kvD m := rfl
theorem eqK_str (k k' : List UInt8) : eqK [.s] (D.str k).cells (D.str k').cells = some (k == k') := by
  show (eqK [] [] []).map (k == k' && ·) = _
  simp [eqK]
theorem mfind_kv (k : List UInt8) : ∀ m : KV, mfind [.s] (.str k) (kvD m) = some ((kvGet k m).map .str)
  | [] => rfl
  | (k', v) :: m => by
    have ih := mfind_kv k m
    rw [kvD_cons, mfind, eqK_str]
    cases h : (k == k') with
    | true => simp [kvGet, h]
    | false => simp only [kvGet, h, ih]; rfl
theorem mput_kv (k v : List UInt8) : ∀ m : KV, mput [.s] (.str k) (.str v) (kvD m) = some (kvD (kvPut k v m))
  | [] => rfl
  | (k', v') :: m => by
    have ih := mput_kv k v m
    rw [kvD_cons, mput, eqK_str]
    cases h : (k == k') with
    | true => simp [kvPut, h, kvD_cons]
    | false => simp [kvPut, h, kvD_cons, ih]
theorem kvD_shape (m : KV) : (kvD m).all (fun x => keyShape false x.1) = true := by
  rw [List.all_eq_true]
  intro x hx
  obtain ⟨p, _, rfl⟩ := List.mem_map.1 hx
  rfl
theorem kvGet_put (k k' v : List UInt8) : ∀ m : KV, kvGet k (kvPut k' v m) = if k == k' then some v else kvGet k m
  | [] => by simp [kvPut, kvGet]
  | (k2, v2) :: m => by
    have ih := kvGet_put k k' v m
    simp only [kvPut]
    by_cases h : k' = k2
    · subst h
      simp only [beq_self_eq_true, if_true, kvGet]
      by_cases g : k = k'
      · subst g; simp
      · simp [g]
    · have hb : (k' == k2) = false := by simp [h]
      simp only [hb, Bool.false_eq_true, if_false, kvGet, ih]
      by_cases g : k = k2
      · subst g
        have : (k == k') = false := by simp; exact fun e => h e.symm
        simp [this]
      · simp [g]

section
variable {P : Program} {t kt e : TypeId} {id : Nat} {h : Heap} {m : KV}
theorem vlookup_kv (hi : h.at' id = some (.map (kvD m))) (hm : mapT P t = some (kt, e)) (hk : keyT P kt = some (false, [.s])) (hz : zeroT P e = some (.str [])) (k : List UInt8) (ok : Bool) :
    vlookup P t (.map id) (.str k) ok h = some (vfound ok (.str []) ((kvGet k m).map .str)) := by
  simp only [vlookup, hm, hk, hz, mapEs, hi, vlookupIn, kvD_shape, eqK_str, mfind_kv, show keyShape false (.str k) = true from rfl, Option.isSome_some, Bool.and_self, if_true]
theorem vmapUpdate_kv (hi : h.at' id = some (.map (kvD m))) (hm : mapT P t = some (kt, e)) (hk : keyT P kt = some (false, [.s])) (k v : List UInt8) :
    vmapUpdate P t (.map id) (.str k) (.str v) h = some (h.set id (.map (kvD (kvPut k v m)))) := by
  simp only [vmapUpdate, hm, hk, hi, kvD_shape, eqK_str, mfind_kv, mput_kv, show keyShape false (.str k) = true from rfl, Option.isSome_some, Bool.and_self, if_true]
theorem vclear_map {a b : TypeId} {es : List (D × D)} (hi : h.at' id = some (.map es)) (hu : P.underlying t = some (.map a b)) : vclear P t (.map id) h = some (h.set id (.map [])) := by
  simp only [vclear, hu, hi]
end

/-! Calls in regions that draw their order. -/
def onSt (P : Program) (h0 : Heap) (f : D) (args : List D) (k : D → Prop) : Prop := ∃ d, (∀ h', HLe h0 h' → VInv P f args h' fun d' h'' => d' = d ∧ h'' = h') ∧ k d
@[congr] theorem onSt_congr {P : Program} {h0 : Heap} {f f' : D} {args args' : List D} {k : D → Prop} (hf : f = f') (ha : args = args') : onSt P h0 f args k = onSt P h0 f' args' k := by rw [hf, ha]
@[go_sem ↓] theorem stLoad_call {P : Program} {h0 : Heap} {fr : Frm} (f : Operand) (args : List Operand) (ats : Array TypeId) (k : D → Prop) : stLoad P h0 (.call ⟨.value f, args.toArray, ats⟩) (opnd fr) k = onSt P h0 (opnd fr f) (args.map (opnd fr)) k := (rfl)
theorem onSt_fn {P : Program} {h0 : Heap} {g : FuncId} {args : List D} {k : D → Prop} (d : D) (hv : ∀ h', VCall P g args h' fun r h'' => h'' = h' ∧ r = d) (hk : k d) : onSt P h0 (.fn (.func g) [] []) args k :=
  ⟨d, fun h' _ => by
    rw [VInv_fn, List.nil_append, List.append_nil]
    exact (hv h').mono fun _ _ e => ⟨e.2, e.1⟩, hk⟩
end Go.V
