/- The function awake of chapter 40 returns true. No condition. -/
import Derived.Test.YtkifdjnbkkkhlaaGreatDoorVxM
import Derived.Test.YtkifdjnbkkkhlaaGreatDoorVSh
import Derived.Test.YtkifdjnbkkkhlaaGreatDoorVxRa
import Derived.Test.YtkifdjnbkkkhlaaGreatDoorVxRb
import Derived.Test.YtkifdjnbkkkhlaaGreatDoorVxRc
import Derived.Test.YtkifdjnbkkkhlaaGreatDoorVxRd
set_option linter.unusedSimpArgs false
set_option linter.unusedVariables false
set_option linter.constructorNameAsVariable false
set_option linter.deprecated false
namespace Go.V
open Go.Proofs
theorem lib_ok : LibOk Tryz.prog libF := fun g args h d he => by
  unfold libF at he
  split at he
  · rename_i hg
    have e : g = 108 := Nat.eq_of_beq_eq_true hg
    subst e
    exact libCount_ok (by kernel_rfl) (fun s c w => Tryz.strings_Count_one s c w) he h
  · split at he
    · rename_i hg
      have e : g = 109 := Nat.eq_of_beq_eq_true hg
      subst e
      exact libIndex_ok (by kernel_rfl) (fun s c w => Tryz.strings_Index_one s c w) he h
    · split at he
      · rename_i hg
        have e : g = 153 := Nat.eq_of_beq_eq_true hg
        subst e
        exact libTrim_ok (by kernel_rfl) (fun s c w h1 h2 h3 => Any.strings_Trim_laid Tryz.lays160 (by kernel_rfl) s c w h1 h2 h3) he h
      · cases he
end Go.V
namespace Go.V
open Go.Proofs
set_option maxRecDepth 100000
theorem k0 : MemoOk Tryz.prog m0 := trivial
theorem k1 : MemoOk Tryz.prog m1 := MemoOk.add mix tab_ok lib_ok k0 rfl rfl r1
theorem k2 : MemoOk Tryz.prog m2 := MemoOk.add mix tab_ok lib_ok k1 rfl rfl r2
theorem k3 : MemoOk Tryz.prog m3 := MemoOk.add mix tab_ok lib_ok k2 rfl rfl r3
theorem k4 : MemoOk Tryz.prog m4 := MemoOk.add mix tab_ok lib_ok k3 rfl rfl r4
theorem k5 : MemoOk Tryz.prog m5 := MemoOk.add mix tab_ok lib_ok k4 rfl rfl r5
theorem k6 : MemoOk Tryz.prog m6 := MemoOk.add mix tab_ok lib_ok k5 rfl rfl r6
theorem k7 : MemoOk Tryz.prog m7 := MemoOk.add mix tab_ok lib_ok k6 rfl rfl r7
theorem k8 : MemoOk Tryz.prog m8 := MemoOk.add mix tab_ok lib_ok k7 rfl rfl r8
theorem k9 : MemoOk Tryz.prog m9 := MemoOk.add mix tab_ok lib_ok k8 rfl rfl r9
theorem k10 : MemoOk Tryz.prog m10 := MemoOk.add mix tab_ok lib_ok k9 rfl rfl r10
theorem k11 : MemoOk Tryz.prog m11 := MemoOk.add mix tab_ok lib_ok k10 rfl rfl r11
theorem k12 : MemoOk Tryz.prog m12 := MemoOk.add mix tab_ok lib_ok k11 rfl rfl r12
theorem k13 : MemoOk Tryz.prog m13 := MemoOk.add mix tab_ok lib_ok k12 rfl rfl r13
theorem k14 : MemoOk Tryz.prog m14 := MemoOk.add mix tab_ok lib_ok k13 rfl rfl r14
theorem k15 : MemoOk Tryz.prog m15 := MemoOk.add mix tab_ok lib_ok k14 rfl rfl r15
theorem k16 : MemoOk Tryz.prog m16 := MemoOk.add mix tab_ok lib_ok k15 rfl rfl r16
theorem k17 : MemoOk Tryz.prog m17 := MemoOk.add mix tab_ok lib_ok k16 rfl rfl r17
theorem k18 : MemoOk Tryz.prog m18 := MemoOk.add mix tab_ok lib_ok k17 rfl rfl r18
theorem k19 : MemoOk Tryz.prog m19 := MemoOk.add mix tab_ok lib_ok k18 rfl rfl r19
theorem k20 : MemoOk Tryz.prog m20 := MemoOk.add mix tab_ok lib_ok k19 rfl rfl r20
theorem k21 : MemoOk Tryz.prog m21 := MemoOk.add mix tab_ok lib_ok k20 rfl rfl r21
theorem k22 : MemoOk Tryz.prog m22 := MemoOk.add mix tab_ok lib_ok k21 rfl rfl r22
theorem k23 : MemoOk Tryz.prog m23 := MemoOk.add mix tab_ok lib_ok k22 rfl rfl r23
theorem k24 : MemoOk Tryz.prog m24 := MemoOk.add mix tab_ok lib_ok k23 rfl rfl r24
theorem k25 : MemoOk Tryz.prog m25 := MemoOk.add mix tab_ok lib_ok k24 rfl rfl r25
theorem k26 : MemoOk Tryz.prog m26 := MemoOk.add mix tab_ok lib_ok k25 rfl rfl r26
theorem k27 : MemoOk Tryz.prog m27 := MemoOk.add mix tab_ok lib_ok k26 rfl rfl r27
theorem k28 : MemoOk Tryz.prog m28 := MemoOk.add mix tab_ok lib_ok k27 rfl rfl r28
theorem k29 : MemoOk Tryz.prog m29 := MemoOk.add mix tab_ok lib_ok k28 rfl rfl r29
theorem k30 : MemoOk Tryz.prog m30 := MemoOk.add mix tab_ok lib_ok k29 rfl rfl r30
theorem k31 : MemoOk Tryz.prog m31 := MemoOk.add mix tab_ok lib_ok k30 rfl rfl r31
theorem k32 : MemoOk Tryz.prog m32 := MemoOk.add mix tab_ok lib_ok k31 rfl rfl r32
/-- awake returns true. -/
theorem awake_licitlaw40 (h : Heap) : VCall Tryz.prog 5 [] h fun a b => a = .bool true ∧ b = h := k32.1 h
theorem k33 : MemoOk Tryz.prog m33 := MemoOk.add mix tab_ok lib_ok k32 rfl rfl r33
theorem k34 : MemoOk Tryz.prog m34 := MemoOk.add mix tab_ok lib_ok k33 rfl rfl r34
theorem k35 : MemoOk Tryz.prog m35 := MemoOk.add mix tab_ok lib_ok k34 rfl rfl r35
theorem k36 : MemoOk Tryz.prog m36 := MemoOk.add mix tab_ok lib_ok k35 rfl rfl r36
theorem k37 : MemoOk Tryz.prog m37 := MemoOk.add mix tab_ok lib_ok k36 rfl rfl r37
theorem k38 : MemoOk Tryz.prog m38 := MemoOk.add mix tab_ok lib_ok k37 rfl rfl r38
theorem k39 : MemoOk Tryz.prog m39 := MemoOk.add mix tab_ok lib_ok k38 rfl rfl r39
theorem k40 : MemoOk Tryz.prog m40 := MemoOk.add mix tab_ok lib_ok k39 rfl rfl r40
theorem k41 : MemoOk Tryz.prog m41 := MemoOk.add mix tab_ok lib_ok k40 rfl rfl r41
theorem k42 : MemoOk Tryz.prog m42 := MemoOk.add mix tab_ok lib_ok k41 rfl rfl r42
theorem k43 : MemoOk Tryz.prog m43 := MemoOk.add mix tab_ok lib_ok k42 rfl rfl r43
theorem k44 : MemoOk Tryz.prog m44 := MemoOk.add mix tab_ok lib_ok k43 rfl rfl r44
theorem k45 : MemoOk Tryz.prog m45 := MemoOk.add mix tab_ok lib_ok k44 rfl rfl r45
theorem k46 : MemoOk Tryz.prog m46 := MemoOk.add mix tab_ok lib_ok k45 rfl rfl r46
theorem k47 : MemoOk Tryz.prog m47 := MemoOk.add mix tab_ok lib_ok k46 rfl rfl r47
theorem k48 : MemoOk Tryz.prog m48 := MemoOk.add mix tab_ok lib_ok k47 rfl rfl r48
theorem k49 : MemoOk Tryz.prog m49 := MemoOk.add mix tab_ok lib_ok k48 rfl rfl r49
theorem k50 : MemoOk Tryz.prog m50 := MemoOk.add mix tab_ok lib_ok k49 rfl rfl r50
theorem k51 : MemoOk Tryz.prog m51 := MemoOk.add mix tab_ok lib_ok k50 rfl rfl r51
theorem k52 : MemoOk Tryz.prog m52 := MemoOk.add mix tab_ok lib_ok k51 rfl rfl r52
theorem k53 : MemoOk Tryz.prog m53 := MemoOk.add mix tab_ok lib_ok k52 rfl rfl r53
theorem k54 : MemoOk Tryz.prog m54 := MemoOk.add mix tab_ok lib_ok k53 rfl rfl r54
theorem k55 : MemoOk Tryz.prog m55 := MemoOk.add mix tab_ok lib_ok k54 rfl rfl r55
theorem k56 : MemoOk Tryz.prog m56 := MemoOk.add mix tab_ok lib_ok k55 rfl rfl r56
theorem k57 : MemoOk Tryz.prog m57 := MemoOk.add mix tab_ok lib_ok k56 rfl rfl r57
end Go.V
