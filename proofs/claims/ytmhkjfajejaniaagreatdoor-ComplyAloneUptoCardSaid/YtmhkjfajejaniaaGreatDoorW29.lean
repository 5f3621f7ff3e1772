/- Library functions in the closed calls, and the function awake of chapter 40 returns true, part 1. No condition. -/
import Derived.Test.YtmhkjfajejaniaaGreatDoorW24
import Derived.Test.YtmhkjfajejaniaaGreatDoorW19
import Derived.Test.YtmhkjfajejaniaaGreatDoorW25
import Derived.Test.YtmhkjfajejaniaaGreatDoorW26
import Derived.Test.YtmhkjfajejaniaaGreatDoorW27
import Derived.Test.YtmhkjfajejaniaaGreatDoorW28
set_option linter.all false
namespace Go.V
open Go.Proofs
theorem qI:zWn Tryz.prog zDp:=fun g args h r he=>by
 unfold zDp at he;split at he
 ·rename_i hg;have e:g=130:=Nat.eq_of_beq_eq_true hg;subst e;exact zHE he fun d hd=>zH8 (by kernel_rfl) (fun s c w=>Tryz.strings_Count_one s c w) hd h
 ·skip
  split at he
  ·rename_i hg;have e:g=131:=Nat.eq_of_beq_eq_true hg;subst e;exact zHE he fun d hd=>zEU (by kernel_rfl) (fun s c w=>Tryz.strings_Index_one s c w) hd h
  ·skip
   split at he
   ·rename_i hg;have e:g=188:=Nat.eq_of_beq_eq_true hg;subst e;exact zHE he fun d hd=>zEU (by kernel_rfl) (fun s c w=>Tryz.stringslite_Index_one s c w) hd h
   ·skip
    split at he
    ·rename_i hg;have e:g=189:=Nat.eq_of_beq_eq_true hg;subst e;exact zHE he fun d hd=>zJt (by kernel_rfl) (fun s c w h0 h1 h2 h3=>zQP Tryz.lays160 (by kernel_rfl) s c w h0 h1 h2 h3) hd h
    ·skip
     cases he
set_option maxRecDepth 100000
theorem k0:zY Tryz.prog m0:=trivial
theorem k1:zY Tryz.prog m1:=zY.add mix qG qI k0 rfl rfl r1
theorem k2:zY Tryz.prog m2:=zY.add mix qG qI k1 rfl rfl r2
theorem k3:zY Tryz.prog m3:=zY.add mix qG qI k2 rfl rfl r3
theorem k4:zY Tryz.prog m4:=zY.add mix qG qI k3 rfl rfl r4
theorem k5:zY Tryz.prog m5:=zY.add mix qG qI k4 rfl rfl r5
theorem k6:zY Tryz.prog m6:=zY.add mix qG qI k5 rfl rfl r6
theorem k7:zY Tryz.prog m7:=zY.add mix qG qI k6 rfl rfl r7
theorem k8:zY Tryz.prog m8:=zY.add mix qG qI k7 rfl rfl r8
theorem k9:zY Tryz.prog m9:=zY.add mix qG qI k8 rfl rfl r9
theorem k10:zY Tryz.prog m10:=zY.add mix qG qI k9 rfl rfl r10
theorem k11:zY Tryz.prog m11:=zY.add mix qG qI k10 rfl rfl r11
theorem k12:zY Tryz.prog m12:=zY.add mix qG qI k11 rfl rfl r12
theorem k13:zY Tryz.prog m13:=zY.add mix qG qI k12 rfl rfl r13
theorem k14:zY Tryz.prog m14:=zY.add mix qG qI k13 rfl rfl r14
theorem k15:zY Tryz.prog m15:=zY.add mix qG qI k14 rfl rfl r15
theorem k16:zY Tryz.prog m16:=zY.add mix qG qI k15 rfl rfl r16
theorem k17:zY Tryz.prog m17:=zY.add mix qG qI k16 rfl rfl r17
theorem k18:zY Tryz.prog m18:=zY.add mix qG qI k17 rfl rfl r18
theorem k19:zY Tryz.prog m19:=zY.add mix qG qI k18 rfl rfl r19
theorem k20:zY Tryz.prog m20:=zY.add mix qG qI k19 rfl rfl r20
theorem k21:zY Tryz.prog m21:=zY.add mix qG qI k20 rfl rfl r21
theorem k22:zY Tryz.prog m22:=zY.add mix qG qI k21 rfl rfl r22
theorem k23:zY Tryz.prog m23:=zY.add mix qG qI k22 rfl rfl r23
theorem k24:zY Tryz.prog m24:=zY.add mix qG qI k23 rfl rfl r24
theorem k25:zY Tryz.prog m25:=zY.add mix qG qI k24 rfl rfl r25
theorem k26:zY Tryz.prog m26:=zY.add mix qG qI k25 rfl rfl r26
theorem k27:zY Tryz.prog m27:=zY.add mix qG qI k26 rfl rfl r27
theorem k28:zY Tryz.prog m28:=zY.add mix qG qI k27 rfl rfl r28
theorem k29:zY Tryz.prog m29:=zY.add mix qG qI k28 rfl rfl r29
theorem k30:zY Tryz.prog m30:=zY.add mix qG qI k29 rfl rfl r30
theorem k31:zY Tryz.prog m31:=zY.add mix qG qI k30 rfl rfl r31
theorem k32:zY Tryz.prog m32:=zY.add mix qG qI k31 rfl rfl r32
theorem zGy (h:Heap):zA Tryz.prog 8 [] h fun a b=>a= .bool true∧b=h:=k32.1 h
end Go.V
