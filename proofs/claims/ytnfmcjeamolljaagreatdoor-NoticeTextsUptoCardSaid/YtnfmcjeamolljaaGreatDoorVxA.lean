/- The function awake of chapter 44 returns true. No condition. -/
import Derived.Test.YtnfmcjeamolljaaGreatDoorVxM
import Derived.Test.YtnfmcjeamolljaaGreatDoorVSh
import Derived.Test.YtnfmcjeamolljaaGreatDoorVxRa
import Derived.Test.YtnfmcjeamolljaaGreatDoorVxRb
import Derived.Test.YtnfmcjeamolljaaGreatDoorVxRc
import Derived.Test.YtnfmcjeamolljaaGreatDoorVxRd
set_option linter.unusedSimpArgs false
set_option linter.unusedVariables false
set_option linter.constructorNameAsVariable false
set_option linter.deprecated false
namespace Go.V
open Go.Proofs
theorem lib_ok : LibOk Tryz.prog libF := fun g args h r he => by
  unfold libF at he
  split at he
  · rename_i hg
    have e : g = 136 := Nat.eq_of_beq_eq_true hg
    subst e
    exact pureR_ok he fun d hd => libCount_ok (by kernel_rfl) (fun s c w => Tryz.strings_Count_one s c w) hd h
  · skip
    split at he
    · rename_i hg
      have e : g = 137 := Nat.eq_of_beq_eq_true hg
      subst e
      exact pureR_ok he fun d hd => libIndex_ok (by kernel_rfl) (fun s c w => Tryz.strings_Index_one s c w) hd h
    · skip
      split at he
      · rename_i hg
        have e : g = 189 := Nat.eq_of_beq_eq_true hg
        subst e
        exact pureR_ok he fun d hd => libIndex_ok (by kernel_rfl) (fun s c w => Tryz.stringslite_Index_one s c w) hd h
      · skip
        split at he
        · rename_i hg
          have e : g = 81 := Nat.eq_of_beq_eq_true hg
          subst e
          exact pureR_ok he fun d hd => libTrim_ok (by kernel_rfl) (fun s c w h1 h2 h3 => Any.strings_Trim_laid Tryz.lays160 (by kernel_rfl) s c w h1 h2 h3) hd h
        · skip
          split at he
          · rename_i hg
            have e : g = 75 := Nat.eq_of_beq_eq_true hg
            subst e
            exact libCopy_ok Tryz.lays240 Tryz.Builder_X72_240 (by kernel_rfl) he
          · skip
            cases he
end Go.V
namespace Go.V
open Go.Proofs
set_option maxRecDepth 100000
theorem k0 : MemoOk Tryz.prog m0 := trivial
theorem k1 : MemoOk Tryz.prog m1 := MemoOk.add mix tab_ok lib_ok k0 rfl rfl r1
theorem k2 : MemoOk Tryz.prog m2 := MemoOk.add mix tab_ok lib_ok k1 rfl rfl r2
theorem k3 : MemoOk Tryz.prog m3 := MemoOk.add mix tab_ok lib_ok k2 rfl rfl r3
theorem k4 : MemoOk Tryz.prog m4 := MemoOk.add mix tab_ok lib_ok k3 rfl rfl r4
theorem k5 : MemoOk Tryz.prog m5 := MemoOk.add mix tab_ok lib_ok k4 rfl rfl r5
theorem k6 : MemoOk Tryz.prog m6 := MemoOk.add mix tab_ok lib_ok k5 rfl rfl r6
theorem k7 : MemoOk Tryz.prog m7 := MemoOk.add mix tab_ok lib_ok k6 rfl rfl r7
theorem k8 : MemoOk Tryz.prog m8 := MemoOk.add mix tab_ok lib_ok k7 rfl rfl r8
theorem k9 : MemoOk Tryz.prog m9 := MemoOk.add mix tab_ok lib_ok k8 rfl rfl r9
theorem k10 : MemoOk Tryz.prog m10 := MemoOk.add mix tab_ok lib_ok k9 rfl rfl r10
theorem k11 : MemoOk Tryz.prog m11 := MemoOk.add mix tab_ok lib_ok k10 rfl rfl r11
theorem k12 : MemoOk Tryz.prog m12 := MemoOk.add mix tab_ok lib_ok k11 rfl rfl r12
theorem k13 : MemoOk Tryz.prog m13 := MemoOk.add mix tab_ok lib_ok k12 rfl rfl r13
theorem k14 : MemoOk Tryz.prog m14 := MemoOk.add mix tab_ok lib_ok k13 rfl rfl r14
theorem k15 : MemoOk Tryz.prog m15 := MemoOk.add mix tab_ok lib_ok k14 rfl rfl r15
theorem k16 : MemoOk Tryz.prog m16 := MemoOk.add mix tab_ok lib_ok k15 rfl rfl r16
theorem k17 : MemoOk Tryz.prog m17 := MemoOk.add mix tab_ok lib_ok k16 rfl rfl r17
theorem k18 : MemoOk Tryz.prog m18 := MemoOk.add mix tab_ok lib_ok k17 rfl rfl r18
theorem k19 : MemoOk Tryz.prog m19 := MemoOk.add mix tab_ok lib_ok k18 rfl rfl r19
theorem k20 : MemoOk Tryz.prog m20 := MemoOk.add mix tab_ok lib_ok k19 rfl rfl r20
theorem k21 : MemoOk Tryz.prog m21 := MemoOk.add mix tab_ok lib_ok k20 rfl rfl r21
theorem k22 : MemoOk Tryz.prog m22 := MemoOk.add mix tab_ok lib_ok k21 rfl rfl r22
theorem k23 : MemoOk Tryz.prog m23 := MemoOk.add mix tab_ok lib_ok k22 rfl rfl r23
theorem k24 : MemoOk Tryz.prog m24 := MemoOk.add mix tab_ok lib_ok k23 rfl rfl r24
theorem k25 : MemoOk Tryz.prog m25 := MemoOk.add mix tab_ok lib_ok k24 rfl rfl r25
theorem k26 : MemoOk Tryz.prog m26 := MemoOk.add mix tab_ok lib_ok k25 rfl rfl r26
theorem k27 : MemoOk Tryz.prog m27 := MemoOk.add mix tab_ok lib_ok k26 rfl rfl r27
theorem k28 : MemoOk Tryz.prog m28 := MemoOk.add mix tab_ok lib_ok k27 rfl rfl r28
theorem k29 : MemoOk Tryz.prog m29 := MemoOk.add mix tab_ok lib_ok k28 rfl rfl r29
/-- awake returns true. -/
theorem awake_licitlaw44 (h : Heap) : VCall Tryz.prog 7 [] h fun a b => a = .bool true ∧ b = h := k29.1 h
end Go.V
