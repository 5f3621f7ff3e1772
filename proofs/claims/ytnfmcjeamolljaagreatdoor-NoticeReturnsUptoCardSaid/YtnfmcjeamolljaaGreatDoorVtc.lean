/- What is written is read back, and what is read is written as it was. No condition. -/
import Derived.Test.YtnfmcjeamolljaaGreatDoorVta
import Derived.Test.YtnfmcjeamolljaaGreatDoorVrf
import Derived.Test.YtnfmcjeamolljaaGreatDoorVra
import Derived.Test.YtnfmcjeamolljaaGreatDoorVrb
set_option linter.unusedSimpArgs false
set_option linter.unusedVariables false
set_option linter.constructorNameAsVariable false
set_option linter.deprecated false
namespace Go.V
open Go.Proofs
set_option maxRecDepth 100000
set_option linter.unusedSimpArgs false
set_option linter.unusedVariables false

/-! What is written is read back, and what is read is written as it was: plain laws. -/
/-- A number below 1000 in digits. -/
def dec3 (k : Nat) : List UInt8 := if k < 10 then [UInt8.ofNat (48 + k)] else if k < 100 then [UInt8.ofNat (48 + k / 10), UInt8.ofNat (48 + k % 10)] else [UInt8.ofNat (48 + k / 100), UInt8.ofNat (48 + k / 10 % 10), UInt8.ofNat (48 + k % 10)]
theorem itoa_dec3 {k : Nat} (h : k < 1000) : Lib.itoa (k : Int) = dec3 k := by
  rw [Lib.itoa_nonneg]
  unfold dec3
  split
  · exact Lib.decDigits_one (by assumption)
  split
  · exact Lib.decDigits_two (by assumption) (by assumption)
  · rename_i h1 h2
    rw [Lib.decDigits, dif_neg h1, Lib.decDigits_two (by omega) (by omega), Nat.div_div_eq_div_mul]
    rfl
theorem num_dec3F : ∀ k : _root_.Fin 1000, numS (dec3 k.val) = (k.val : Int) := by decide +kernel
theorem dec3_no32F : ∀ k : _root_.Fin 1000, (dec3 k.val).all (fun b => b != 32 && b != 10) = true := by decide +kernel
theorem dec3_1F : ∀ x : _root_.Fin 10, numS [UInt8.ofNat (48 + x.val)] = (x.val : Int) ∧ dec3 x.val = [UInt8.ofNat (48 + x.val)] := by decide +kernel
theorem dec3_2F : ∀ x y : _root_.Fin 10, x.val ≠ 0 → numS [UInt8.ofNat (48 + x.val), UInt8.ofNat (48 + y.val)] = ((x.val * 10 + y.val : Nat) : Int) ∧ dec3 (x.val * 10 + y.val) = [UInt8.ofNat (48 + x.val), UInt8.ofNat (48 + y.val)] := by decide +kernel
theorem dec3_3F : ∀ x y z : _root_.Fin 10, x.val ≠ 0 → numS [UInt8.ofNat (48 + x.val), UInt8.ofNat (48 + y.val), UInt8.ofNat (48 + z.val)] = ((x.val * 100 + y.val * 10 + z.val : Nat) : Int) ∧ dec3 (x.val * 100 + y.val * 10 + z.val) = [UInt8.ofNat (48 + x.val), UInt8.ofNat (48 + y.val), UInt8.ofNat (48 + z.val)] := by decide +kernel
theorem dig_fin {b : UInt8} (h : digB b = true) : ∃ x : _root_.Fin 10, b = UInt8.ofNat (48 + x.val) := by
  obtain ⟨_, h2, h3⟩ := digB_val h
  refine ⟨⟨b.toNat - 48, by omega⟩, ?_⟩
  simp only
  rw [show 48 + (b.toNat - 48) = b.toNat by omega]
  exact (UInt8.ofNat_toNat).symm
theorem numS_itoa {k : Nat} (h : k ≤ 999) : numS (Lib.itoa (k : Int)) = (k : Int) := by
  rw [itoa_dec3 (by omega)]
  exact num_dec3F ⟨k, by omega⟩
theorem itoa_no {k : Nat} (h : k ≤ 999) : (32 : UInt8) ∉ Lib.itoa (k : Int) ∧ (10 : UInt8) ∉ Lib.itoa (k : Int) := by
  rw [itoa_dec3 (by omega)]
  have := dec3_no32F ⟨k, by omega⟩
  rw [List.all_eq_true] at this
  exact ⟨fun hm => by simpa using this _ hm, fun hm => by simpa using this _ hm⟩
theorem num0 {b : UInt8} {x : _root_.Fin 10} {s : List UInt8} (e : b = UInt8.ofNat (48 + x.val)) (h : numForm (b :: s) = true) (hs : s ≠ []) : x.val ≠ 0 := fun h0 => by
  rw [h0] at e
  subst e
  simp only [numForm, Bool.not_eq_true', Bool.or_eq_false_iff, Bool.and_eq_false_iff, decide_eq_false_iff_not] at h
  have hl := List.length_pos_iff.2 hs
  rcases h.2 with q | q
  · simp only [List.length_cons] at q; omega
  · exact absurd q (by decide)
theorem itoa_numS {s : List UInt8} (h : 0 ≤ numS s) : s = Lib.itoa (numS s) := by
  obtain ⟨hf, hd, _⟩ := numS_nonneg h
  have hl := numForm_len hf
  match s, hl with
  | [a], _ =>
    simp only [List.all_cons, List.all_nil, Bool.and_true] at hd
    obtain ⟨x, rfl⟩ := dig_fin hd
    obtain ⟨h1, h2⟩ := dec3_1F x
    rw [h1, itoa_dec3 (by omega), h2]
  | [a, b], _ =>
    simp only [List.all_cons, List.all_nil, Bool.and_true, Bool.and_eq_true] at hd
    obtain ⟨x, ex⟩ := dig_fin hd.1
    obtain ⟨y, ey⟩ := dig_fin hd.2
    have h0 := num0 ex hf (by simp)
    subst ex ey
    obtain ⟨h1, h2⟩ := dec3_2F x y h0
    rw [h1, itoa_dec3 (by omega), h2]
  | [a, b, c], _ =>
    simp only [List.all_cons, List.all_nil, Bool.and_true, Bool.and_eq_true] at hd
    obtain ⟨x, ex⟩ := dig_fin hd.1
    obtain ⟨y, ey⟩ := dig_fin hd.2.1
    obtain ⟨z, ez⟩ := dig_fin hd.2.2
    have h0 := num0 ex hf (by simp)
    subst ex ey ez
    obtain ⟨h1, h2⟩ := dec3_3F x y z h0
    rw [h1, itoa_dec3 (by omega), h2]

/-! Lines. -/
theorem splitB_app {c : UInt8} : ∀ {x : List UInt8} (t : List UInt8), c ∉ x → splitB c (x ++ c :: t) = x :: splitB c t
  | [], t, _ => by simp [splitB]
  | b :: x, t, h => by
    rw [List.mem_cons, not_or] at h
    have ih := splitB_app t h.2
    rw [List.cons_append, splitB, if_neg (fun e => h.1 e.symm), ih]
theorem splitB_nl : ∀ {L : List (List UInt8)}, (∀ x ∈ L, (10 : UInt8) ∉ x) → splitB 10 (nl L) = L ++ [[]]
  | [], _ => rfl
  | x :: L, h => by
    have e : nl (x :: L) = x ++ 10 :: nl L := by simp [nl]
    rw [e, splitB_app _ (h x List.mem_cons_self), splitB_nl fun y hy => h y (List.mem_cons_of_mem _ hy)]
    rfl
theorem splitB_not (c : UInt8) : ∀ (s : List UInt8), ∀ p ∈ splitB c s, c ∉ p
  | [], p, hp => by simp [splitB] at hp; subst hp; simp
  | b :: s, p, hp => by
    have ih := splitB_not c s
    simp only [splitB] at hp
    split at hp
    · rcases List.mem_cons.1 hp with rfl | hp
      · simp
      · exact ih p hp
    · rename_i hb
      cases hs : splitB c s with
      | nil => exact absurd hs (splitB_ne c s)
      | cons q qs =>
        rw [hs] at hp ih
        rcases List.mem_cons.1 hp with rfl | hp
        · intro hm
          rcases List.mem_cons.1 hm with e | hm
          · exact hb e.symm
          · exact ih q List.mem_cons_self hm
        · exact ih p (List.mem_cons_of_mem _ hp)
theorem splitB_join {L : List (List UInt8)} (h : ∀ x ∈ L, (10 : UInt8) ∉ x) (h0 : L ≠ []) : splitB 10 (Lib.join L [10]) = L := by
  have := splitB_nl h
  rw [nl_join h0] at this
  have e : ∀ t : List UInt8, splitB 10 (t ++ [10]) = splitB 10 t ++ [[]] := fun t => by
    induction t with
    | nil => rfl
    | cons b t ih =>
      rw [List.cons_append, splitB, splitB, ih]
      split
      · rfl
      · cases hs : splitB 10 t with
        | nil => exact absurd hs (splitB_ne 10 t)
        | cons q qs => rfl
  rw [e] at this
  exact List.append_cancel_right this
/-- The lines of lines that are joined, but for one empty line. -/
theorem lines_join {L : List (List UInt8)} (h : ∀ x ∈ L, (10 : UInt8) ∉ x) (h1 : ¬ (L.length = 1 ∧ Lib.join L [10] = [])) : linesS (Lib.join L [10]) = L := by
  unfold linesS
  cases L with
  | nil => rw [Lib.join_nil]; rfl
  | cons x r =>
    by_cases hj : Lib.join (x :: r) [10] = []
    · exfalso
      refine h1 ⟨?_, hj⟩
      cases r with
      | nil => rfl
      | cons y r => rw [join_cons2] at hj; simp at hj
    · rw [if_neg hj, splitB_join h (by simp)]
theorem lines_no (t : List UInt8) : ∀ x ∈ linesS t, (10 : UInt8) ∉ x := fun x hx => by
  unfold linesS at hx
  split at hx
  · cases hx
  · exact splitB_not 10 t x hx
theorem join_lines (t : List UInt8) : Lib.join (linesS t) [10] = t := by
  unfold linesS
  split
  · rename_i h; rw [h, Lib.join_nil]
  · exact join_split 10 t
theorem cutB_app {c : UInt8} {a : List UInt8} (r : List UInt8) (h : c ∉ a) : cutB c (a ++ c :: r) = some (a, r) := by
  rw [cutB_at (m := a.length) (by simp) fun k hk e => h ?_]
  · simp
  · rw [List.getElem?_append_left hk] at e
    exact List.mem_of_getElem? e
theorem cutB_back {c : UInt8} {s a b : List UInt8} (h : cutB c s = some (a, b)) : s = a ++ c :: b := by
  rcases cutB_cases c s with ⟨_, h2⟩ | ⟨m, hm, hml, h2⟩
  · rw [h2] at h; cases h
  · rw [h2, Option.some.injEq, Prod.mk.injEq] at h
    obtain ⟨rfl, rfl⟩ := h
    have hg := (Lib.indexByte_some hm).1
    rw [List.getElem?_eq_getElem hml, Option.some.injEq] at hg
    rw [← hg, ← List.drop_eq_getElem_cons hml, List.take_append_drop]
theorem name_no {a : List UInt8} (h : isNameS a = true) : a ≠ [] ∧ (32 : UInt8) ∉ a ∧ (10 : UInt8) ∉ a := by
  cases a with
  | nil => cases h
  | cons b r =>
    simp only [isNameS, Bool.and_eq_true] at h
    have h2 := h.2
    rw [trimS_nil, List.all_eq_true] at h2
    refine ⟨by simp, fun hm => ?_, fun hm => ?_⟩
    · exact absurd (h2 _ hm) (by decide)
    · exact absurd (h2 _ hm) (by decide)
theorem hold_no {x : List UInt8} (h : isTextS x = true) : (10 : UInt8) ∉ x := fun hm => by
  simp only [isTextS, Bool.and_eq_true, Bool.not_eq_true'] at h
  have := List.any_eq_false.1 h.2 _ hm
  exact this (by decide)
end Go.V
namespace Go.V
open Go.Proofs
set_option maxRecDepth 100000
set_option linter.unusedSimpArgs false
set_option linter.unusedVariables false

/-! What is written is read back, and what is read is written as it was. -/
theorem splitB_mem {b c : UInt8} (hc : b ≠ c) : ∀ {s : List UInt8}, b ∈ s → ∃ p ∈ splitB c s, b ∈ p
  | a :: s, hm => by
    simp only [splitB]
    rcases List.mem_cons.1 hm with rfl | hm
    · rw [if_neg hc]
      cases splitB c s with
      | nil => exact ⟨[b], by simp, by simp⟩
      | cons p ps => exact ⟨b :: p, by simp, by simp⟩
    · obtain ⟨p, hp, hb⟩ := splitB_mem hc hm
      split
      · exact ⟨p, List.mem_cons_of_mem _ hp, hb⟩
      · cases hs : splitB c s with
        | nil => rw [hs] at hp; cases hp
        | cons q qs =>
          rw [hs] at hp
          rcases List.mem_cons.1 hp with rfl | hp
          · exact ⟨a :: p, by simp, List.mem_cons_of_mem _ hb⟩
          · exact ⟨p, List.mem_cons_of_mem _ hp, hb⟩
theorem path_no {x : List UInt8} (h : pathS x = 0) : (10 : UInt8) ∉ x := fun hm => by
  unfold pathS at h
  split at h
  · cases h
  · rename_i q
    rw [not_or, not_or] at q
    obtain ⟨p, hp, hb⟩ := splitB_mem (c := 47) (by decide) hm
    have q3 := List.any_eq_false.1 (Bool.not_eq_true _ ▸ q.2.2) p hp
    cases p with
    | nil => cases hb
    | cons b r =>
      have hps : partS (b :: r) = true := by simpa using q3
      rw [partS_cons, Bool.not_eq_true', Bool.or_eq_false_iff] at hps
      exact absurd (by decide) (List.any_eq_false.1 hps.2 10 hb)
theorem out_no {n : Note} (h : checkS n = 0) : ∀ x ∈ outL n, (10 : UInt8) ∉ x := fun x hx => by
  unfold outL at hx
  rcases List.mem_append.1 hx with hx | hx
  · rcases List.mem_append.1 hx with hx | hx
    · obtain ⟨p, hp, hx⟩ := List.mem_flatMap.1 hx
      obtain ⟨h1, h2⟩ := check_lic h p hp
      rcases List.mem_cons.1 hx with rfl | hx
      · simp only [licH, List.mem_append, not_or]
        exact ⟨⟨⟨by decide, (name_no h1).2.2⟩, by decide⟩, (itoa_no (text_len h2).2.1).2⟩
      · exact lines_no _ x hx
    · obtain ⟨y, hy, rfl⟩ := List.mem_map.1 hx
      simp only [holdO, List.mem_append, not_or]
      exact ⟨by decide, hold_no (check_hold h y hy)⟩
  · obtain ⟨y, hy, rfl⟩ := List.mem_map.1 hx
    simp only [chgO, List.mem_append, not_or]
    exact ⟨by decide, path_no (check_chg h y hy)⟩

/-- What is read from line i on. -/
def parseAt (l : List (List UInt8)) (i : Nat) (n : Note) : Note × Int × Int := parseL l (l.length - i) i n
theorem at_step {l : List (List UInt8)} {i i' : Nat} {n n' : Note} (hi : i + 1 < l.length) (hs : stepS l i n = .inr (n', i')) (h1 : i < i') (h2 : i' < l.length) : parseAt l i n = parseAt l i' n' := by
  unfold parseAt
  obtain ⟨f, hf⟩ : ∃ f, l.length - i = f + 1 := ⟨l.length - i - 1, by omega⟩
  rw [hf, parseL_step hi, hs]
  exact parseL_fuel h2 (by omega) (Nat.le_refl _)
theorem at_end {l : List (List UInt8)} {i : Nat} {n : Note} (hi : i + 1 = l.length) (hl : l.getD i [] = []) (hc : checkS n = 0) : parseAt l i n = (n, 0, 0) := by
  unfold parseAt
  rw [show l.length - i = 0 + 1 by omega, parseL, if_neg (by omega), if_neg (by rw [hl]; simp), if_neg (by simp [hc])]

theorem beg_holdO (x : List UInt8) : begS (holdO x) (holdW ++ [32]) = true := beg_hold.2 (by
  have e : holdO x = holdW ++ 32 :: x := by simp [holdO]
  rw [e, cutB_app _ (by decide)]; rfl)
theorem beg_chgO (x : List UInt8) : begS (chgO x) (chgW ++ [32]) = true := beg_chg.2 (by
  have e : chgO x = chgW ++ 32 :: x := by simp [chgO]
  rw [e, cutB_app _ (by decide)]; rfl)
theorem nobeg_chgO (x : List UInt8) : begS (chgO x) (holdW ++ [32]) = false := by
  cases h : begS (chgO x) (holdW ++ [32]) with
  | false => rfl
  | true =>
    have h1 := beg_hold.1 h
    rw [beg_chg.1 (beg_chgO x)] at h1
    exact absurd (show _ = _ from congrArg Prod.fst (Option.some.inj h1)) (by simp only []; decide)
theorem cut_licH (p : List UInt8 × List UInt8) : cutB 32 (licH p) = some (licW0, p.1 ++ 32 :: Lib.itoa ((linesS p.2).length : Int)) := by
  have e : licH p = licW0 ++ 32 :: (p.1 ++ 32 :: Lib.itoa ((linesS p.2).length : Int)) := by simp [licH, licW, licW0]
  rw [e, cutB_app _ (by decide)]
theorem nobeg_licH (p : List UInt8 × List UInt8) : begS (licH p) (holdW ++ [32]) = false ∧ begS (licH p) (chgW ++ [32]) = false := by
  constructor
  · cases h : begS (licH p) (holdW ++ [32]) with
    | false => rfl
    | true =>
      have h1 := beg_hold.1 h
      rw [cut_licH] at h1
      exact absurd (show _ = _ from congrArg Prod.fst (Option.some.inj h1)) (by simp only []; decide)
  · cases h : begS (licH p) (chgW ++ [32]) with
    | false => rfl
    | true =>
      have h1 := beg_chg.1 h
      rw [cut_licH] at h1
      exact absurd (show _ = _ from congrArg Prod.fst (Option.some.inj h1)) (by simp only []; decide)
theorem licS_licH {p : List UInt8 × List UInt8} (h1 : isNameS p.1 = true) (h2 : checkTextS p.2 = 0) : licS (licH p) = (p.1, ((linesS p.2).length : Int)) := by
  have hd : (licH p).drop 8 = p.1 ++ 32 :: Lib.itoa ((linesS p.2).length : Int) := by simp [licH, licW]
  have hb : begS (licH p) licW = true := beg_lic.2 (by rw [cut_licH, hd])
  obtain ⟨n1, n2, _⟩ := name_no h1
  unfold licS licT
  rw [if_pos hb, hd, cutB_app _ n2]
  simp only []
  rw [if_neg n1, numS_itoa (text_len h2).2.1]

theorem step_hold {l : List (List UInt8)} {i : Nat} {n : Note} {x : List UInt8} (hl : l.getD i [] = holdO x) (hc : n.cs = []) : stepS l i n = .inr ({ n with hs := n.hs ++ [x] }, i + 1) := by
  unfold stepS
  simp only [hl]
  rw [if_neg (by rw [beg_holdO]; simp), if_pos (beg_holdO x), if_neg (by simp [hc])]
  rfl
theorem step_chg {l : List (List UInt8)} {i : Nat} {n : Note} {x : List UInt8} (hl : l.getD i [] = chgO x) : stepS l i n = .inr ({ n with cs := n.cs ++ [x] }, i + 1) := by
  unfold stepS
  simp only [hl]
  rw [if_neg (by rw [beg_chgO]; simp), if_neg (by rw [nobeg_chgO]; simp), if_pos (beg_chgO x)]
  rfl
theorem step_lic {l : List (List UInt8)} {i : Nat} {n : Note} {p : List UInt8 × List UInt8} (hl : l.getD i [] = licH p) (hh : n.hs = []) (hc : n.cs = []) (h1 : isNameS p.1 = true) (h2 : checkTextS p.2 = 0) (hx : (l.drop (i + 1)).take (linesS p.2).length = linesS p.2) (hlen : i + (linesS p.2).length + 1 < l.length) :
    stepS l i n = .inr ({ n with ls := n.ls ++ [p.1], ts := n.ts ++ [p.2] }, i + 1 + (linesS p.2).length) := by
  have ht : textL l (i + 1) (linesS p.2).length = p.2 := by unfold textL; rw [hx, join_lines]
  unfold stepS
  simp only [hl, licS_licH h1 h2, Int.toNat_natCast, ht]
  rw [if_neg (by omega), if_neg (by rw [(nobeg_licH p).1]; simp), if_neg (by rw [(nobeg_licH p).2]; simp), if_neg (by simp [hh, hc]), if_neg (by omega), if_neg]
  rintro ⟨q1, q2⟩
  rw [q2] at q1
  simp [linesS] at q1

theorem run_chg : ∀ (cs : List (List UInt8)) {l pre : List (List UInt8)} {n : Note}, l = pre ++ cs.map chgO ++ [[]] → parseAt l pre.length n = parseAt l (l.length - 1) { n with cs := n.cs ++ cs }
  | [], l, pre, n, h => by subst h; simp
  | x :: cs, l, pre, n, h => by
    have hg : l.getD pre.length [] = chgO x := by subst h; simp
    have hlen : l.length = pre.length + (cs.length + 1) + 1 := by subst h; simp; omega
    rw [at_step (by omega) (step_chg hg) (by omega) (by omega)]
    have := run_chg cs (l := l) (pre := pre ++ [chgO x]) (n := { n with cs := n.cs ++ [x] }) (by rw [h]; simp)
    simpa using this
theorem run_hold : ∀ (hs : List (List UInt8)) {l pre post : List (List UInt8)} {n : Note}, l = pre ++ hs.map holdO ++ post ++ [[]] → n.cs = [] → parseAt l pre.length n = parseAt l (pre.length + hs.length) { n with hs := n.hs ++ hs }
  | [], l, pre, post, n, h, hc => by simp
  | x :: hs, l, pre, post, n, h, hc => by
    have hg : l.getD pre.length [] = holdO x := by subst h; simp
    have hlen : l.length = pre.length + (hs.length + 1) + post.length + 1 := by subst h; simp; omega
    rw [at_step (by omega) (step_hold hg hc) (by omega) (by omega)]
    have := run_hold hs (l := l) (pre := pre ++ [holdO x]) (post := post) (n := { n with hs := n.hs ++ [x] }) (by rw [h]; simp) hc
    simp only [List.length_append, List.length_cons, List.length_nil, Nat.zero_add, List.append_assoc, List.cons_append, List.nil_append] at this
    rw [this, List.length_cons, show pre.length + 1 + hs.length = pre.length + (hs.length + 1) by omega]
theorem run_lic : ∀ (ps : List (List UInt8 × List UInt8)) {l pre post : List (List UInt8)} {n : Note}, l = pre ++ licsO ps ++ post ++ [[]] → (∀ p ∈ ps, isNameS p.1 = true ∧ checkTextS p.2 = 0) → n.hs = [] → n.cs = [] →
    parseAt l pre.length n = parseAt l (pre.length + (licsO ps).length) { n with ls := n.ls ++ ps.map Prod.fst, ts := n.ts ++ ps.map Prod.snd }
  | [], l, pre, post, n, h, hp, hh, hc => by simp [licsO]
  | p :: ps, l, pre, post, n, h, hp, hh, hc => by
    obtain ⟨h1, h2⟩ := hp p List.mem_cons_self
    have e : licsO (p :: ps) = licO p ++ licsO ps := rfl
    rw [e] at h ⊢
    have hg : l.getD pre.length [] = licH p := by subst h; simp [licO]
    have hll : (licO p).length = (linesS p.2).length + 1 := rfl
    have hlen : l.length = pre.length + ((linesS p.2).length + 1 + (licsO ps).length) + post.length + 1 := by
      subst h; simp only [List.length_append, List.length_cons, List.length_nil, hll]
    have hx : (l.drop (pre.length + 1)).take (linesS p.2).length = linesS p.2 := by
      have e2 : l = (pre ++ [licH p]) ++ (linesS p.2 ++ (licsO ps ++ post ++ [[]])) := by rw [h, licO]; simp
      rw [e2, List.drop_left' (by simp), List.take_left' rfl]
    rw [at_step (by omega) (step_lic hg hh hc h1 h2 hx (by omega)) (by omega) (by omega)]
    have := run_lic ps (l := l) (pre := pre ++ licO p) (post := post) (n := { n with ls := n.ls ++ [p.1], ts := n.ts ++ [p.2] }) (by rw [h]; simp) (fun q hq => hp q (List.mem_cons_of_mem _ hq)) hh hc
    simp only [List.length_append, hll, List.append_assoc, List.cons_append, List.nil_append] at this
    rw [show pre.length + 1 + (linesS p.2).length = pre.length + ((linesS p.2).length + 1) by omega, this, List.length_append, hll, List.map_cons, List.map_cons, Nat.add_assoc]
/-- What is written is read back. -/
theorem parse_fmt {n : Note} (h : checkS n = 0) (hl : (nl (outL n)).length ≤ 65536) : parseS (nl (outL n)) = (n, 0, 0) := by
  have hz := check_ok h
  unfold parseS
  rw [if_neg (by omega), splitB_nl (out_no h)]
  have e0 : outL n ++ [[]] = [] ++ licsO (n.ls.zip n.ts) ++ (n.hs.map holdO ++ n.cs.map chgO) ++ [[]] := by simp [outL]
  have e1 : outL n ++ [[]] = licsO (n.ls.zip n.ts) ++ n.hs.map holdO ++ n.cs.map chgO ++ [[]] := by simp [outL]
  have e2 : outL n ++ [[]] = (licsO (n.ls.zip n.ts) ++ n.hs.map holdO) ++ n.cs.map chgO ++ [[]] := by simp [outL]
  have r0 := run_lic (n.ls.zip n.ts) (n := .zero) e0 (check_lic h) rfl rfl
  have r1 := run_hold n.hs (n := ⟨n.ls, n.ts, [], []⟩) e1 rfl
  have r2 := run_chg n.cs (n := ⟨n.ls, n.ts, n.hs, []⟩) e2
  have m1 : (n.ls.zip n.ts).map Prod.fst = n.ls := List.map_fst_zip (by omega)
  have m2 : (n.ls.zip n.ts).map Prod.snd = n.ts := List.map_snd_zip (by omega)
  simp only [Note.zero, List.nil_append, List.length_nil, Nat.zero_add, m1, m2] at r0
  simp only [List.nil_append] at r1 r2
  rw [List.length_append, List.length_map] at r2
  have e : parseL (outL n ++ [[]]) (outL n ++ [[]]).length 0 .zero = parseAt (outL n ++ [[]]) 0 .zero := rfl
  rw [e]
  refine r0.trans (r1.trans (r2.trans (at_end ?_ ?_ h)))
  · simp
  · simp

/-! Back. -/
theorem step_err {l : List (List UInt8)} {i : Nat} {n : Note} {e : Int} (h : stepS l i n = .inl e) : e ≠ 0 := by
  unfold stepS at h
  simp only at h
  repeat' split at h
  all_goals first
    | (cases h; decide)
    | (cases h)
theorem licS_back {s : List UInt8} (h : ¬ (licS s).2 < 0) : s = licW ++ (licS s).1 ++ [32] ++ Lib.itoa (licS s).2 := by
  unfold licS at h ⊢
  split at h
  · rename_i hb
    rw [if_pos hb]
    have h1 := cutB_back (beg_lic.1 hb)
    unfold licT at h ⊢
    cases hc : cutB 32 (s.drop 8) with
    | none => rw [hc] at h; simp at h
    | some p =>
      obtain ⟨a, b⟩ := p
      rw [hc] at h
      simp only at h ⊢
      split at h
      · simp at h
      · rename_i ha
        rw [if_neg ha]
        have h2 := cutB_back hc
        have h3 := itoa_numS (s := b) (by simp only at h; omega)
        simp only
        rw [← h3]
        rw [h2] at h1
        rw [h1]
        simp [licW, licW0]
  · simp at h
theorem step_back {l : List (List UInt8)} {i i' : Nat} {n n' : Note} (hno : ∀ x ∈ l, (10 : UInt8) ∉ x) (hi : i + 1 < l.length) (ho : l.take i = outL n) (ht : n.ts.length = n.ls.length) (hs : stepS l i n = .inr (n', i')) :
    i < i' ∧ i' < l.length ∧ l.take i' = outL n' ∧ n'.ts.length = n'.ls.length := by
  have hg : l.getD i [] = l[i] := by simp [List.getElem?_eq_getElem (show i < l.length by omega)]
  have htk : l.take (i + 1) = outL n ++ [l[i]] := by rw [List.take_succ_eq_append_getElem (by omega), ho]
  unfold stepS at hs
  simp only [hg] at hs
  generalize hsl : l[i] = s at *
  split at hs
  · cases hs
  rename_i q0
  split at hs
  · rename_i q1
    split at hs
    · cases hs
    · rename_i q2
      cases hs
      refine ⟨by omega, hi, ?_, ht⟩
      have hc : n.cs = [] := Decidable.not_not.1 q2
      have h1 := cutB_back (beg_hold.1 q1)
      have h2 : s = holdO (s.drop 7) := h1.trans (by simp [holdO])
      rw [htk]
      conv => lhs; rw [h2]
      simp [outL, hc]
  rename_i q1
  split at hs
  · rename_i q2
    cases hs
    refine ⟨by omega, hi, ?_, ht⟩
    have h1 := cutB_back (beg_chg.1 q2)
    have h2 : s = chgO (s.drop 7) := h1.trans (by simp [chgO])
    rw [htk]
    conv => lhs; rw [h2]
    simp [outL]
  rename_i q2
  split at hs
  · cases hs
  rename_i q3
  split at hs
  · cases hs
  rename_i q4
  split at hs
  · cases hs
  rename_i q5
  rw [not_or] at q3
  have hh : n.hs = [] := Decidable.not_not.1 q3.1
  have hc : n.cs = [] := Decidable.not_not.1 q3.2
  have hk : ¬ (licS s).2 < 0 := fun hk => q0 ⟨hk, by simpa using q1, by simpa using q2⟩
  have hb := licS_back hk
  obtain ⟨k, ek⟩ := Int.eq_ofNat_of_zero_le (show 0 ≤ (licS s).2 by omega)
  generalize hp : licS s = p at *
  obtain ⟨a, kk⟩ := p
  simp only at hk hb ek q4 q5 hs
  subst ek
  simp only [Int.toNat_natCast] at hs q5
  cases hs
  have hLl : ((l.drop (i + 1)).take k).length = k := by rw [List.length_take, List.length_drop]; omega
  have hln : linesS (textL l (i + 1) k) = (l.drop (i + 1)).take k := by
    unfold textL at q5 ⊢
    refine lines_join (fun x hx => hno x (List.mem_of_mem_drop (List.mem_of_mem_take hx))) ?_
    rintro ⟨g1, g2⟩
    exact q5 ⟨by rw [hLl] at g1; omega, g2⟩
  refine ⟨by omega, by omega, ?_, by simp [ht]⟩
  have hO : licO (a, textL l (i + 1) k) = s :: (l.drop (i + 1)).take k := by
    unfold licO licH
    simp only
    rw [hln, hLl, ← hb]
  rw [List.take_add, htk]
  unfold outL
  simp only [hh, hc, List.map_nil, List.append_nil]
  rw [List.zip_append ht.symm]
  have : licsO (n.ls.zip n.ts ++ [a].zip [textL l (i + 1) k]) = licsO (n.ls.zip n.ts) ++ licO (a, textL l (i + 1) k) := by
    simp [licsO]
  rw [this, hO]
  simp
theorem run_back : ∀ {f i : Nat} {l : List (List UInt8)} {n m : Note} {k : Int}, (∀ x ∈ l, (10 : UInt8) ∉ x) → l.take i = outL n → n.ts.length = n.ls.length → i < l.length → l.length - i ≤ f → parseL l f i n = (m, k, 0) → l = outL m ++ [[]] ∧ checkS m = 0
  | 0, i, l, n, m, k, _, _, _, hi, hf, _ => by omega
  | f + 1, i, l, n, m, k, hno, ho, ht, hi, hf, hp => by
    by_cases hlt : i + 1 < l.length
    · rw [parseL_step hlt] at hp
      cases hs : stepS l i n with
      | inl e =>
        rw [hs] at hp
        simp only [Prod.mk.injEq] at hp
        exact absurd hp.2.2 (step_err hs)
      | inr q =>
        obtain ⟨n', i'⟩ := q
        rw [hs] at hp
        obtain ⟨g1, g2, g3, g4⟩ := step_back hno hlt ho ht hs
        exact run_back hno g3 g4 g2 (by omega) hp
    · rw [parseL, if_neg hlt] at hp
      split at hp
      · simp at hp
      rename_i h1
      split at hp
      · rename_i h2
        simp only [Prod.mk.injEq] at hp
        exact absurd hp.2.2 h2
      rename_i h2
      simp only [Prod.mk.injEq] at hp
      obtain ⟨rfl, _⟩ := hp
      refine ⟨?_, Decidable.not_not.1 h2⟩
      have h3 : l[i] = [] := by
        have := Decidable.not_not.1 h1
        simpa [List.getElem?_eq_getElem hi] using this
      rw [← ho, ← h3, ← List.take_succ_eq_append_getElem hi, List.take_of_length_le (by omega)]
/-- What is read is written as it was. -/
theorem fmt_parse {s : List UInt8} (h : (parseS s).2.2 = 0) : fmtS (parseS s).1 = (s, 0) := by
  unfold parseS at h ⊢
  split at h
  · cases h
  rename_i hs
  rw [if_neg hs]
  cases hp : parseL (splitB 10 s) (splitB 10 s).length 0 .zero with
  | mk m q =>
    obtain ⟨k, e⟩ := q
    rw [hp] at h
    simp only at h ⊢
    subst h
    obtain ⟨h1, h2⟩ := run_back (splitB_not 10 s) rfl rfl (List.length_pos_iff.2 (splitB_ne 10 s)) (by omega) hp
    unfold fmtS
    rw [if_neg (by simp [h2])]
    have h3 := nl_join (splitB_ne 10 s)
    rw [join_split, h1, nl_snoc] at h3
    have h4 := List.append_cancel_right (h3 : nl (outL m) ++ [10] = s ++ [10])
    rw [h4]
theorem parseL_err : ∀ {f i : Nat} {l : List (List UInt8)} {n m : Note} {k e : Int}, parseL l f i n = (m, k, e) → e ≠ 0 → m = .zero
  | 0, i, l, n, m, k, e, hp, h0 => by
    simp only [parseL, Prod.mk.injEq] at hp
    exact hp.1.symm
  | f + 1, i, l, n, m, k, e, hp, h0 => by
    by_cases hlt : i + 1 < l.length
    · rw [parseL_step hlt] at hp
      cases hs : stepS l i n with
      | inl e =>
        rw [hs] at hp
        simp only [Prod.mk.injEq] at hp
        exact hp.1.symm
      | inr q =>
        obtain ⟨n', i'⟩ := q
        rw [hs] at hp
        exact parseL_err hp h0
    · rw [parseL, if_neg hlt] at hp
      split at hp
      · simp only [Prod.mk.injEq] at hp; exact hp.1.symm
      split at hp
      · simp only [Prod.mk.injEq] at hp; exact hp.1.symm
      · simp only [Prod.mk.injEq] at hp; exact absurd hp.2.2.symm h0
theorem parse_err {s : List UInt8} (h : (parseS s).2.2 ≠ 0) : (parseS s).1 = .zero := by
  unfold parseS at h ⊢
  split
  · rfl
  · rename_i q
    rw [if_neg q] at h
    exact parseL_err (k := (parseL (splitB 10 s) (splitB 10 s).length 0 .zero).2.1) (e := (parseL (splitB 10 s) (splitB 10 s).length 0 .zero).2.2) rfl h
end Go.V
