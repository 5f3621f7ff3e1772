/- The function awake of chapter 42 returns true. No condition. -/
import Derived.Test.YtkifdjnbkkkhlaaGreatDoorVxM
import Derived.Test.YtkifdjnbkkkhlaaGreatDoorVSh
import Derived.Test.YtkifdjnbkkkhlaaGreatDoorVyT
import Derived.Test.YtkifdjnbkkkhlaaGreatDoorVhD
import Derived.Test.YtkifdjnbkkkhlaaGreatDoorVxRa
import Derived.Test.YtkifdjnbkkkhlaaGreatDoorVxRb
import Derived.Test.YtkifdjnbkkkhlaaGreatDoorVxRc
import Derived.Test.YtkifdjnbkkkhlaaGreatDoorVxRd
set_option linter.unusedSimpArgs false
set_option linter.unusedVariables false
set_option linter.constructorNameAsVariable false
set_option linter.deprecated false
namespace Go.V
open Go.Proofs
set_option maxRecDepth 100000
set_option linter.unusedSimpArgs false

theorem mu95 (t : Tmp) : cfg95.mu t = List.contains (α := Nat) [7] t := (rfl)
theorem mu61 (t : Tmp) : cfg61.mu t = List.contains (α := Nat) [] t := (rfl)

/-- slices.Clone at integers, written to later. -/
theorem c_cloneI {d : D} {cells : List D} {h : Heap} (hv : vels 1 d h = some cells) (h0 : 0 < cells.length) (hl : cells.length ≤ 1048576) (hn : ∀ c, vbin Tryz.prog .eql 46 c d .nilsl = some (.bool false)) :
    VCall Tryz.prog 95 [d] h fun r h' => r = .rs h.next 1 0 cells.length ∧ h' = h.new h.next (.row cells) := by
  refine VCall.of_fn (g := cfg95) mix Tryz.func95 ok95 rfl rfl ?_
  simp only [Tryz.f95, Option.getD_some]
  simp only [go_sem, Nat.reduceEqDiff, ↓reduceIte, hn, mu95, List.contains_cons, Nat.reduceBEq, vbuildSlice_zero elemT_46 zeroT_3 szT_3 rfl rfl (by omega : 0 < 1)]
  have hb : (cells.length) * 8 ≤ lim := by unfold lim; omega
  have hb2 : cells.length ≤ lim := by unfold lim; omega
  have : vappend Tryz.prog true h.next 46 (.sl 1 [] .full) d h = some (.rs h.next 1 0 cells.length, h.new h.next (.row cells)) := by
    simp only [vappend, elemT_46, zokT_3, szT_3, if_true, hv, Nat.div_one, vappendE, bytesT_3, List.length_nil, Nat.zero_add]
    rw [if_pos (by simp [hb, hb2]), if_neg (by omega)]
    simp
  simp only [this, go_sem]

theorem intsOk_spec : ∀ {xs : List (List D)}, intsOk xs = true → ∃ ks : List Int, xs = ks.map fun n => [.int .i64 n]
  | [], _ => ⟨[], rfl⟩
  | x :: xs, h => by
    simp only [intsOk, Bool.and_eq_true] at h
    obtain ⟨ks, rfl⟩ := intsOk_spec h.2
    have h1 := h.1
    split at h1
    · rename_i k n
      split at h1
      · exact ⟨n :: ks, rfl⟩
      · cases h1
    · cases h1

theorem fits_rel {M : Imm} {ρ : Ren} {n : Int} {v : Value} (h : rel M ρ (.int .i64 n) v) : v = .int .i64 n ∧ fits .i64 n := by
  simp only [rel] at h
  exact ⟨h.1, h.2⟩

/-- slices.Delete of one integer. -/
theorem c_delete {ks : List Int} {i : Nat} {id : Nat} {h : Heap} (hi : i < ks.length) (hl : ks.length ≤ 1048576) (hrow : h.at' id = some (.row (ks.map fun n => .int .i64 n))) :
    VCall Tryz.prog 103 [.rs id 1 0 ks.length, .int .i64 i, .int .i64 ((i + 1 : Nat) : Int)] h fun r h' => r = .rs id 1 0 (ks.length - 1) ∧ h' = h.set id (.row ((ks.take i ++ ks.drop (i + 1) ++ [0]).map fun n => .int .i64 n)) := by
  have := VCall.of_row (P := Tryz.prog) (f := 103) (α := Int) (enc := Value.int .i64) (dd := fun n => .int .i64 n) (fun M ρ x v hr => dd_int hr) (fun _ => rfl) (xs := ks) (ys := ks.take i ++ ks.drop (i + 1) ++ [0]) (m := ks.length - 1) (rest := [.int .i64 i, .int .i64 ((i + 1 : Nat) : Int)]) (id := id) (pre := []) (post := []) (h := h) (by kernel_rfl) (by simpa using hrow) (by omega) (by simp; omega) (by omega)
    (fun y hy => by
      simp only [List.mem_append, List.mem_singleton] at hy
      rcases hy with (hy | hy) | rfl
      · exact .inl (List.mem_of_mem_take hy)
      · exact .inl (List.mem_of_mem_drop hy)
      · exact .inr fun M ρ => rel_int (by unfold fits; decide))
    (fun blk o cap w M ρ va hH h1 h2 hr => by
      simp only [relL] at hr
      obtain ⟨v1, vs1, rfl, g1, v2, vs2, rfl, g2, rfl⟩ := hr
      obtain ⟨rfl, _⟩ := fits_rel g1
      obtain ⟨rfl, _⟩ := fits_rel g2
      have := Tryz.slices_Delete_int blk o cap i (i + 1) ks w hH h1 h2 (by omega) (by omega)
      simp only [Nat.add_sub_cancel_left, List.replicate_one] at this
      exact this)
  simpa using this

/-- conflict.without. -/
theorem c_without {ks : List Int} {d : D} {i : Nat} {h : Heap} (hi : i < ks.length) (hl : ks.length ≤ 1048576) (hv : vels 1 d h = some (ks.map fun n => .int .i64 n)) (hn : ∀ c, vbin Tryz.prog .eql 46 c d .nilsl = some (.bool false)) :
    VCall Tryz.prog 61 [d, .int .i64 i] h fun r h' => h' = h ∧ r = .sl 1 ((ks.eraseIdx i).map fun n => [.int .i64 n]) .no := by
  refine VCall.pure (by kernel_rfl) fun hok => VCall.freezeD ?_
  refine VCall.of_fn (g := cfg61) mix Tryz.func61 ok61 rfl rfl ?_
  simp only [Tryz.f61, Option.getD_some]
  simp only [go_sem, Nat.reduceEqDiff, ↓reduceIte, mu61]
  refine (c_cloneI hv (by simp; omega) (by simpa using hl) hn).mono ?_
  rintro r h2 ⟨rfl, rfl⟩
  have hw : IntKind.i64.wrap ((i : Int) + 1) = ((i + 1 : Nat) : Int) := wrap_succ (by unfold lim; omega)
  simp only [go_sem, Nat.reduceEqDiff, ↓reduceIte, hw, List.length_map]
  refine (c_delete hi hl (new_at _ _ _)).mono ?_
  rintro r h2 ⟨rfl, rfl⟩
  have her : ks.take i ++ ks.drop (i + 1) = ks.eraseIdx i := (List.eraseIdx_eq_take_drop_succ ks i).symm
  have hlen : (ks.eraseIdx i).length = ks.length - 1 := List.length_eraseIdx_of_lt hi
  refine ⟨h.next, _, set_at_same _ _ _, (((Ext.refl h).new (Nat.le_refl _) _).set (Nat.le_refl _) _).del (Nat.le_refl _), ?_⟩
  have hfz : frz h.next ((ks.take i ++ ks.drop (i + 1) ++ [0]).map fun n => .int .i64 n) (.rs h.next 1 0 (ks.length - 1)) = .sl 1 ((ks.eraseIdx i).map fun n => [.int .i64 n]) .no := by
    have hpl : ∀ x ∈ (ks.eraseIdx i).map (fun n => [D.int .i64 n]), x.length = 1 := fun x hx => by obtain ⟨n, _, rfl⟩ := List.mem_map.1 hx; rfl
    have hflat : ((ks.eraseIdx i).map fun n => [D.int .i64 n]).flatten = (ks.eraseIdx i).map fun n => D.int .i64 n := by
      generalize ks.eraseIdx i = l
      induction l with
      | nil => rfl
      | cons x l ih => simpa using ih
    simp only [frz]
    rw [her, if_pos (by simp [hlen])]
    simp only [Nat.mul_one, List.drop_zero, List.map_append]
    rw [List.take_append_of_le_length (by simp [hlen]), List.take_of_length_le (by simp [hlen])]
    have := chunks_flat hpl
    rw [List.length_map, hlen, hflat] at this
    rw [this]
  rw [hfz]
  refine ⟨?_, rfl⟩
  simp only [below, and_true]
  exact belowE_of fun x hx => by obtain ⟨n, _, rfl⟩ := List.mem_map.1 hx; exact ⟨trivial, trivial⟩

theorem flat_ints (ks : List Int) : (ks.map fun n => [D.int .i64 n]).flatten = ks.map fun n => D.int .i64 n := by
  induction ks with
  | nil => rfl
  | cons x l ih => simpa using ih

theorem chunks_ones : ∀ (n : Nat) (cs : List D), cs.length = n → (chunks 1 n cs).flatten = cs ∧ chunks 1 n cs = cs.map fun c => [c]
  | 0, cs, h => by
    have : cs = [] := List.length_eq_zero_iff.1 h
    subst this
    exact ⟨rfl, rfl⟩
  | n + 1, c :: cs, h => by
    obtain ⟨h1, h2⟩ := chunks_ones n cs (by simpa using h)
    simp only [chunks, List.take_succ_cons, List.take_zero, List.drop_succ_cons, List.drop_zero]
    exact ⟨by rw [List.flatten_cons, h1]; rfl, by rw [h2]; rfl⟩
  | n + 1, [], h => by simp at h

theorem eraseIdx_map {α β : Type} (f : α → β) : ∀ (l : List α) (i : Nat), (l.map f).eraseIdx i = (l.eraseIdx i).map f
  | [], _ => by simp
  | _ :: _, 0 => by simp
  | x :: l, i + 1 => by simp [eraseIdx_map f l i]

theorem ints_erase (ks : List Int) (i : Nat) : (ks.map fun n => [D.int .i64 n]).eraseIdx i = (ks.eraseIdx i).map fun n => [D.int .i64 n] := eraseIdx_map _ _ _

theorem libWithout_ok {args : List D} {d : D} {h : Heap} (hl : libWithout args h.at' = some d) : VCall Tryz.prog 61 args h fun a b => a = d ∧ b = h := by
  unfold libWithout at hl
  split at hl
  · rename_i x y
    split at hl
    · rename_i i
      split at hl
      · rename_i sz xs tk
        split at hl
        · rename_i hc
          simp only [Bool.and_eq_true, decide_eq_true_eq] at hc
          obtain ⟨⟨⟨⟨h1, h2⟩, h3⟩, h4⟩, h5⟩ := hc
          cases hl
          have e1 : sz = 1 := Nat.eq_of_beq_eq_true h1
          subst e1
          obtain ⟨ks, rfl⟩ := intsOk_spec h2
          rw [Nat.blt_eq, List.length_map] at h4
          have h5 := Nat.le_of_ble_eq_true h5
          rw [List.length_map] at h5
          obtain ⟨j, rfl⟩ := Int.eq_ofNat_of_zero_le h3
          simp only [Int.toNat_natCast] at h4 ⊢
          refine (c_without (d := .sl 1 (ks.map fun n => [.int .i64 n]) tk) h4 h5 (by simp only [vels, if_true, flat_ints]) (fun c => by rw [vbin_sl_nil (IsSl.mk tk) Tryz.underlying46]; rfl)).mono fun a b hab => ?_
          rw [ints_erase]
          exact ⟨hab.2, hab.1⟩
        · cases hl
      · rename_i id sz off n
        split at hl
        · rename_i cs hcs
          split at hl
          · rename_i hc
            simp only [Bool.and_eq_true, decide_eq_true_eq] at hc
            obtain ⟨⟨⟨⟨⟨⟨h1, h1'⟩, h2⟩, h2'⟩, h3⟩, h4⟩, h5⟩ := hc
            cases hl
            have e1 : sz = 1 := Nat.eq_of_beq_eq_true h1
            have e2 : off = 0 := Nat.eq_of_beq_eq_true h1'
            have e3 : cs.length = n := Nat.eq_of_beq_eq_true h2'
            subst e1 e2
            obtain ⟨ks, hk⟩ := intsOk_spec h2
            obtain ⟨g1, g2⟩ := chunks_ones n cs e3
            have hcs2 : cs = ks.map fun n => .int .i64 n := by rw [← g1, hk, flat_ints]
            have hkl : ks.length = n := by rw [← e3, hcs2, List.length_map]
            rw [Nat.blt_eq] at h4
            have h5 := Nat.le_of_ble_eq_true h5
            obtain ⟨j, rfl⟩ := Int.eq_ofNat_of_zero_le h3
            simp only [Int.toNat_natCast] at h4 ⊢
            refine (c_without (ks := ks) (d := .rs id 1 0 n) (by omega) (by omega) (by simp only [vels, if_true, hcs]; rw [if_pos (by omega), List.drop_zero, List.take_of_length_le (by omega), hcs2]) (fun c => vbin_rs_nil Tryz.underlying46)).mono fun a b hab => ?_
            rw [hk, ints_erase]
            exact ⟨hab.2, hab.1⟩
          · cases hl
        · cases hl
      · cases hl
    · cases hl
  · cases hl
end Go.V
namespace Go.V
open Go.Proofs
theorem lib_ok : LibOk Tryz.prog libF := fun g args h d he => by
  unfold libF at he
  split at he
  · rename_i hg
    have e : g = 108 := Nat.eq_of_beq_eq_true hg
    subst e
    exact libCount_ok (by kernel_rfl) (fun s c w => Tryz.strings_Count_one s c w) he h
  · split at he
    · rename_i hg
      have e : g = 109 := Nat.eq_of_beq_eq_true hg
      subst e
      exact libIndex_ok (by kernel_rfl) (fun s c w => Tryz.strings_Index_one s c w) he h
    · split at he
      · rename_i hg
        have e : g = 153 := Nat.eq_of_beq_eq_true hg
        subst e
        exact libTrim_ok (by kernel_rfl) (fun s c w h1 h2 h3 => Any.strings_Trim_laid Tryz.lays160 (by kernel_rfl) s c w h1 h2 h3) he h
      · split at he
        · rename_i hg
          have e : g = 61 := Nat.eq_of_beq_eq_true hg
          subst e
          exact libWithout_ok he
        · cases he
end Go.V
namespace Go.V
open Go.Proofs
set_option maxRecDepth 100000
theorem k0 : MemoOk Tryz.prog m0 := trivial
theorem k1 : MemoOk Tryz.prog m1 := MemoOk.add mix tab_ok lib_ok k0 rfl rfl r1
theorem k2 : MemoOk Tryz.prog m2 := MemoOk.add mix tab_ok lib_ok k1 rfl rfl r2
theorem k3 : MemoOk Tryz.prog m3 := MemoOk.add mix tab_ok lib_ok k2 rfl rfl r3
theorem k4 : MemoOk Tryz.prog m4 := MemoOk.add mix tab_ok lib_ok k3 rfl rfl r4
theorem k5 : MemoOk Tryz.prog m5 := MemoOk.add mix tab_ok lib_ok k4 rfl rfl r5
theorem k6 : MemoOk Tryz.prog m6 := MemoOk.add mix tab_ok lib_ok k5 rfl rfl r6
theorem k7 : MemoOk Tryz.prog m7 := MemoOk.add mix tab_ok lib_ok k6 rfl rfl r7
theorem k8 : MemoOk Tryz.prog m8 := MemoOk.add mix tab_ok lib_ok k7 rfl rfl r8
theorem k9 : MemoOk Tryz.prog m9 := MemoOk.add mix tab_ok lib_ok k8 rfl rfl r9
theorem k10 : MemoOk Tryz.prog m10 := MemoOk.add mix tab_ok lib_ok k9 rfl rfl r10
theorem k11 : MemoOk Tryz.prog m11 := MemoOk.add mix tab_ok lib_ok k10 rfl rfl r11
theorem k12 : MemoOk Tryz.prog m12 := MemoOk.add mix tab_ok lib_ok k11 rfl rfl r12
theorem k13 : MemoOk Tryz.prog m13 := MemoOk.add mix tab_ok lib_ok k12 rfl rfl r13
theorem k14 : MemoOk Tryz.prog m14 := MemoOk.add mix tab_ok lib_ok k13 rfl rfl r14
theorem k15 : MemoOk Tryz.prog m15 := MemoOk.add mix tab_ok lib_ok k14 rfl rfl r15
theorem k16 : MemoOk Tryz.prog m16 := MemoOk.add mix tab_ok lib_ok k15 rfl rfl r16
theorem k17 : MemoOk Tryz.prog m17 := MemoOk.add mix tab_ok lib_ok k16 rfl rfl r17
theorem k18 : MemoOk Tryz.prog m18 := MemoOk.add mix tab_ok lib_ok k17 rfl rfl r18
theorem k19 : MemoOk Tryz.prog m19 := MemoOk.add mix tab_ok lib_ok k18 rfl rfl r19
theorem k20 : MemoOk Tryz.prog m20 := MemoOk.add mix tab_ok lib_ok k19 rfl rfl r20
theorem k21 : MemoOk Tryz.prog m21 := MemoOk.add mix tab_ok lib_ok k20 rfl rfl r21
theorem k22 : MemoOk Tryz.prog m22 := MemoOk.add mix tab_ok lib_ok k21 rfl rfl r22
theorem k23 : MemoOk Tryz.prog m23 := MemoOk.add mix tab_ok lib_ok k22 rfl rfl r23
theorem k24 : MemoOk Tryz.prog m24 := MemoOk.add mix tab_ok lib_ok k23 rfl rfl r24
theorem k25 : MemoOk Tryz.prog m25 := MemoOk.add mix tab_ok lib_ok k24 rfl rfl r25
theorem k26 : MemoOk Tryz.prog m26 := MemoOk.add mix tab_ok lib_ok k25 rfl rfl r26
theorem k27 : MemoOk Tryz.prog m27 := MemoOk.add mix tab_ok lib_ok k26 rfl rfl r27
theorem k28 : MemoOk Tryz.prog m28 := MemoOk.add mix tab_ok lib_ok k27 rfl rfl r28
theorem k29 : MemoOk Tryz.prog m29 := MemoOk.add mix tab_ok lib_ok k28 rfl rfl r29
theorem k30 : MemoOk Tryz.prog m30 := MemoOk.add mix tab_ok lib_ok k29 rfl rfl r30
theorem k31 : MemoOk Tryz.prog m31 := MemoOk.add mix tab_ok lib_ok k30 rfl rfl r31
theorem k32 : MemoOk Tryz.prog m32 := MemoOk.add mix tab_ok lib_ok k31 rfl rfl r32
theorem k33 : MemoOk Tryz.prog m33 := MemoOk.add mix tab_ok lib_ok k32 rfl rfl r33
theorem k34 : MemoOk Tryz.prog m34 := MemoOk.add mix tab_ok lib_ok k33 rfl rfl r34
theorem k35 : MemoOk Tryz.prog m35 := MemoOk.add mix tab_ok lib_ok k34 rfl rfl r35
theorem k36 : MemoOk Tryz.prog m36 := MemoOk.add mix tab_ok lib_ok k35 rfl rfl r36
theorem k37 : MemoOk Tryz.prog m37 := MemoOk.add mix tab_ok lib_ok k36 rfl rfl r37
theorem k38 : MemoOk Tryz.prog m38 := MemoOk.add mix tab_ok lib_ok k37 rfl rfl r38
theorem k39 : MemoOk Tryz.prog m39 := MemoOk.add mix tab_ok lib_ok k38 rfl rfl r39
theorem k40 : MemoOk Tryz.prog m40 := MemoOk.add mix tab_ok lib_ok k39 rfl rfl r40
theorem k41 : MemoOk Tryz.prog m41 := MemoOk.add mix tab_ok lib_ok k40 rfl rfl r41
theorem k42 : MemoOk Tryz.prog m42 := MemoOk.add mix tab_ok lib_ok k41 rfl rfl r42
theorem k43 : MemoOk Tryz.prog m43 := MemoOk.add mix tab_ok lib_ok k42 rfl rfl r43
theorem k44 : MemoOk Tryz.prog m44 := MemoOk.add mix tab_ok lib_ok k43 rfl rfl r44
theorem k45 : MemoOk Tryz.prog m45 := MemoOk.add mix tab_ok lib_ok k44 rfl rfl r45
theorem k46 : MemoOk Tryz.prog m46 := MemoOk.add mix tab_ok lib_ok k45 rfl rfl r46
theorem k47 : MemoOk Tryz.prog m47 := MemoOk.add mix tab_ok lib_ok k46 rfl rfl r47
theorem k48 : MemoOk Tryz.prog m48 := MemoOk.add mix tab_ok lib_ok k47 rfl rfl r48
theorem k49 : MemoOk Tryz.prog m49 := MemoOk.add mix tab_ok lib_ok k48 rfl rfl r49
theorem k50 : MemoOk Tryz.prog m50 := MemoOk.add mix tab_ok lib_ok k49 rfl rfl r50
theorem k51 : MemoOk Tryz.prog m51 := MemoOk.add mix tab_ok lib_ok k50 rfl rfl r51
theorem k52 : MemoOk Tryz.prog m52 := MemoOk.add mix tab_ok lib_ok k51 rfl rfl r52
theorem k53 : MemoOk Tryz.prog m53 := MemoOk.add mix tab_ok lib_ok k52 rfl rfl r53
theorem k54 : MemoOk Tryz.prog m54 := MemoOk.add mix tab_ok lib_ok k53 rfl rfl r54
theorem k55 : MemoOk Tryz.prog m55 := MemoOk.add mix tab_ok lib_ok k54 rfl rfl r55
theorem k56 : MemoOk Tryz.prog m56 := MemoOk.add mix tab_ok lib_ok k55 rfl rfl r56
theorem k57 : MemoOk Tryz.prog m57 := MemoOk.add mix tab_ok lib_ok k56 rfl rfl r57
theorem k58 : MemoOk Tryz.prog m58 := MemoOk.add mix tab_ok lib_ok k57 rfl rfl r58
theorem k59 : MemoOk Tryz.prog m59 := MemoOk.add mix tab_ok lib_ok k58 rfl rfl r59
theorem k60 : MemoOk Tryz.prog m60 := MemoOk.add mix tab_ok lib_ok k59 rfl rfl r60
theorem k61 : MemoOk Tryz.prog m61 := MemoOk.add mix tab_ok lib_ok k60 rfl rfl r61
theorem k62 : MemoOk Tryz.prog m62 := MemoOk.add mix tab_ok lib_ok k61 rfl rfl r62
theorem k63 : MemoOk Tryz.prog m63 := MemoOk.add mix tab_ok lib_ok k62 rfl rfl r63
theorem k64 : MemoOk Tryz.prog m64 := MemoOk.add mix tab_ok lib_ok k63 rfl rfl r64
theorem k65 : MemoOk Tryz.prog m65 := MemoOk.add mix tab_ok lib_ok k64 rfl rfl r65
theorem k66 : MemoOk Tryz.prog m66 := MemoOk.add mix tab_ok lib_ok k65 rfl rfl r66
theorem k67 : MemoOk Tryz.prog m67 := MemoOk.add mix tab_ok lib_ok k66 rfl rfl r67
theorem k68 : MemoOk Tryz.prog m68 := MemoOk.add mix tab_ok lib_ok k67 rfl rfl r68
theorem k69 : MemoOk Tryz.prog m69 := MemoOk.add mix tab_ok lib_ok k68 rfl rfl r69
theorem k70 : MemoOk Tryz.prog m70 := MemoOk.add mix tab_ok lib_ok k69 rfl rfl r70
theorem k71 : MemoOk Tryz.prog m71 := MemoOk.add mix tab_ok lib_ok k70 rfl rfl r71
theorem k72 : MemoOk Tryz.prog m72 := MemoOk.add mix tab_ok lib_ok k71 rfl rfl r72
theorem k73 : MemoOk Tryz.prog m73 := MemoOk.add mix tab_ok lib_ok k72 rfl rfl r73
theorem k74 : MemoOk Tryz.prog m74 := MemoOk.add mix tab_ok lib_ok k73 rfl rfl r74
theorem k75 : MemoOk Tryz.prog m75 := MemoOk.add mix tab_ok lib_ok k74 rfl rfl r75
theorem k76 : MemoOk Tryz.prog m76 := MemoOk.add mix tab_ok lib_ok k75 rfl rfl r76
theorem k77 : MemoOk Tryz.prog m77 := MemoOk.add mix tab_ok lib_ok k76 rfl rfl r77
theorem k78 : MemoOk Tryz.prog m78 := MemoOk.add mix tab_ok lib_ok k77 rfl rfl r78
theorem k79 : MemoOk Tryz.prog m79 := MemoOk.add mix tab_ok lib_ok k78 rfl rfl r79
theorem k80 : MemoOk Tryz.prog m80 := MemoOk.add mix tab_ok lib_ok k79 rfl rfl r80
theorem k81 : MemoOk Tryz.prog m81 := MemoOk.add mix tab_ok lib_ok k80 rfl rfl r81
theorem k82 : MemoOk Tryz.prog m82 := MemoOk.add mix tab_ok lib_ok k81 rfl rfl r82
theorem k83 : MemoOk Tryz.prog m83 := MemoOk.add mix tab_ok lib_ok k82 rfl rfl r83
theorem k84 : MemoOk Tryz.prog m84 := MemoOk.add mix tab_ok lib_ok k83 rfl rfl r84
theorem k85 : MemoOk Tryz.prog m85 := MemoOk.add mix tab_ok lib_ok k84 rfl rfl r85
theorem k86 : MemoOk Tryz.prog m86 := MemoOk.add mix tab_ok lib_ok k85 rfl rfl r86
theorem k87 : MemoOk Tryz.prog m87 := MemoOk.add mix tab_ok lib_ok k86 rfl rfl r87
theorem k88 : MemoOk Tryz.prog m88 := MemoOk.add mix tab_ok lib_ok k87 rfl rfl r88
theorem k89 : MemoOk Tryz.prog m89 := MemoOk.add mix tab_ok lib_ok k88 rfl rfl r89
theorem k90 : MemoOk Tryz.prog m90 := MemoOk.add mix tab_ok lib_ok k89 rfl rfl r90
theorem k91 : MemoOk Tryz.prog m91 := MemoOk.add mix tab_ok lib_ok k90 rfl rfl r91
theorem k92 : MemoOk Tryz.prog m92 := MemoOk.add mix tab_ok lib_ok k91 rfl rfl r92
theorem k93 : MemoOk Tryz.prog m93 := MemoOk.add mix tab_ok lib_ok k92 rfl rfl r93
theorem k94 : MemoOk Tryz.prog m94 := MemoOk.add mix tab_ok lib_ok k93 rfl rfl r94
theorem k95 : MemoOk Tryz.prog m95 := MemoOk.add mix tab_ok lib_ok k94 rfl rfl r95
theorem k96 : MemoOk Tryz.prog m96 := MemoOk.add mix tab_ok lib_ok k95 rfl rfl r96
theorem k97 : MemoOk Tryz.prog m97 := MemoOk.add mix tab_ok lib_ok k96 rfl rfl r97
theorem k98 : MemoOk Tryz.prog m98 := MemoOk.add mix tab_ok lib_ok k97 rfl rfl r98
theorem k99 : MemoOk Tryz.prog m99 := MemoOk.add mix tab_ok lib_ok k98 rfl rfl r99
theorem k100 : MemoOk Tryz.prog m100 := MemoOk.add mix tab_ok lib_ok k99 rfl rfl r100
theorem k101 : MemoOk Tryz.prog m101 := MemoOk.add mix tab_ok lib_ok k100 rfl rfl r101
theorem k102 : MemoOk Tryz.prog m102 := MemoOk.add mix tab_ok lib_ok k101 rfl rfl r102
theorem k103 : MemoOk Tryz.prog m103 := MemoOk.add mix tab_ok lib_ok k102 rfl rfl r103
theorem k104 : MemoOk Tryz.prog m104 := MemoOk.add mix tab_ok lib_ok k103 rfl rfl r104
theorem k105 : MemoOk Tryz.prog m105 := MemoOk.add mix tab_ok lib_ok k104 rfl rfl r105
theorem k106 : MemoOk Tryz.prog m106 := MemoOk.add mix tab_ok lib_ok k105 rfl rfl r106
theorem k107 : MemoOk Tryz.prog m107 := MemoOk.add mix tab_ok lib_ok k106 rfl rfl r107
theorem k108 : MemoOk Tryz.prog m108 := MemoOk.add mix tab_ok lib_ok k107 rfl rfl r108
theorem k109 : MemoOk Tryz.prog m109 := MemoOk.add mix tab_ok lib_ok k108 rfl rfl r109
theorem k110 : MemoOk Tryz.prog m110 := MemoOk.add mix tab_ok lib_ok k109 rfl rfl r110
theorem k111 : MemoOk Tryz.prog m111 := MemoOk.add mix tab_ok lib_ok k110 rfl rfl r111
theorem k112 : MemoOk Tryz.prog m112 := MemoOk.add mix tab_ok lib_ok k111 rfl rfl r112
theorem k113 : MemoOk Tryz.prog m113 := MemoOk.add mix tab_ok lib_ok k112 rfl rfl r113
theorem k114 : MemoOk Tryz.prog m114 := MemoOk.add mix tab_ok lib_ok k113 rfl rfl r114
theorem k115 : MemoOk Tryz.prog m115 := MemoOk.add mix tab_ok lib_ok k114 rfl rfl r115
theorem k116 : MemoOk Tryz.prog m116 := MemoOk.add mix tab_ok lib_ok k115 rfl rfl r116
theorem k117 : MemoOk Tryz.prog m117 := MemoOk.add mix tab_ok lib_ok k116 rfl rfl r117
theorem k118 : MemoOk Tryz.prog m118 := MemoOk.add mix tab_ok lib_ok k117 rfl rfl r118
theorem k119 : MemoOk Tryz.prog m119 := MemoOk.add mix tab_ok lib_ok k118 rfl rfl r119
theorem k120 : MemoOk Tryz.prog m120 := MemoOk.add mix tab_ok lib_ok k119 rfl rfl r120
theorem k121 : MemoOk Tryz.prog m121 := MemoOk.add mix tab_ok lib_ok k120 rfl rfl r121
theorem k122 : MemoOk Tryz.prog m122 := MemoOk.add mix tab_ok lib_ok k121 rfl rfl r122
theorem k123 : MemoOk Tryz.prog m123 := MemoOk.add mix tab_ok lib_ok k122 rfl rfl r123
theorem k124 : MemoOk Tryz.prog m124 := MemoOk.add mix tab_ok lib_ok k123 rfl rfl r124
theorem k125 : MemoOk Tryz.prog m125 := MemoOk.add mix tab_ok lib_ok k124 rfl rfl r125
theorem k126 : MemoOk Tryz.prog m126 := MemoOk.add mix tab_ok lib_ok k125 rfl rfl r126
theorem k127 : MemoOk Tryz.prog m127 := MemoOk.add mix tab_ok lib_ok k126 rfl rfl r127
theorem k128 : MemoOk Tryz.prog m128 := MemoOk.add mix tab_ok lib_ok k127 rfl rfl r128
theorem k129 : MemoOk Tryz.prog m129 := MemoOk.add mix tab_ok lib_ok k128 rfl rfl r129
theorem k130 : MemoOk Tryz.prog m130 := MemoOk.add mix tab_ok lib_ok k129 rfl rfl r130
theorem k131 : MemoOk Tryz.prog m131 := MemoOk.add mix tab_ok lib_ok k130 rfl rfl r131
theorem k132 : MemoOk Tryz.prog m132 := MemoOk.add mix tab_ok lib_ok k131 rfl rfl r132
theorem k133 : MemoOk Tryz.prog m133 := MemoOk.add mix tab_ok lib_ok k132 rfl rfl r133
theorem k134 : MemoOk Tryz.prog m134 := MemoOk.add mix tab_ok lib_ok k133 rfl rfl r134
theorem k135 : MemoOk Tryz.prog m135 := MemoOk.add mix tab_ok lib_ok k134 rfl rfl r135
theorem k136 : MemoOk Tryz.prog m136 := MemoOk.add mix tab_ok lib_ok k135 rfl rfl r136
/-- awake returns true. -/
theorem awake_licitlaw42 (h : Heap) : VCall Tryz.prog 10 [] h fun a b => a = .bool true ∧ b = h := k136.1 h
end Go.V
