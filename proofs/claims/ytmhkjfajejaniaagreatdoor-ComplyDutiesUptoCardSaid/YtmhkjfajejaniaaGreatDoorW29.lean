/- Library functions in the closed calls, and the function awake of chapter 40 returns true, part 1. No condition. -/
import Derived.Test.YtmhkjfajejaniaaGreatDoorW24
import Derived.Test.YtmhkjfajejaniaaGreatDoorW19
import Derived.Test.YtmhkjfajejaniaaGreatDoorW25
import Derived.Test.YtmhkjfajejaniaaGreatDoorW26
import Derived.Test.YtmhkjfajejaniaaGreatDoorW27
import Derived.Test.YtmhkjfajejaniaaGreatDoorW28
import Derived.Test.YtmhkjfajejaniaaGreatDoorW04
set_option linter.all false
namespace Go.V
open Go.Proofs
theorem qB:zWp Tryz.prog zDg:=fun g args h r he=>by
 unfold zDg at he;split at he
 ·rename_i hg;have e:g=130:=Nat.eq_of_beq_eq_true hg;subst e;exact zGw he fun d hd=>zHr (by kernel_rfl) (fun s c w=>Tryz.strings_Count_one s c w) hd h
 ·skip
  split at he
  ·rename_i hg;have e:g=131:=Nat.eq_of_beq_eq_true hg;subst e;exact zGw he fun d hd=>zEJ (by kernel_rfl) (fun s c w=>Tryz.strings_Index_one s c w) hd h
  ·skip
   split at he
   ·rename_i hg;have e:g=188:=Nat.eq_of_beq_eq_true hg;subst e;exact zGw he fun d hd=>zEJ (by kernel_rfl) (fun s c w=>Tryz.stringslite_Index_one s c w) hd h
   ·skip
    split at he
    ·rename_i hg;have e:g=189:=Nat.eq_of_beq_eq_true hg;subst e;exact zGw he fun d hd=>zJd (by kernel_rfl) (fun s c w h0 h1 h2 h3=>zQJ Tryz.lays160 (by kernel_rfl) s c w h0 h1 h2 h3) hd h
    ·skip
     cases he
set_option maxRecDepth 100000
theorem k0:za Tryz.prog m0:=trivial
theorem k1:za Tryz.prog m1:=za.add mix qA qB k0 rfl rfl r1
theorem k2:za Tryz.prog m2:=za.add mix qA qB k1 rfl rfl r2
theorem k3:za Tryz.prog m3:=za.add mix qA qB k2 rfl rfl r3
theorem k4:za Tryz.prog m4:=za.add mix qA qB k3 rfl rfl r4
theorem k5:za Tryz.prog m5:=za.add mix qA qB k4 rfl rfl r5
theorem k6:za Tryz.prog m6:=za.add mix qA qB k5 rfl rfl r6
theorem k7:za Tryz.prog m7:=za.add mix qA qB k6 rfl rfl r7
theorem k8:za Tryz.prog m8:=za.add mix qA qB k7 rfl rfl r8
theorem k9:za Tryz.prog m9:=za.add mix qA qB k8 rfl rfl r9
theorem k10:za Tryz.prog m10:=za.add mix qA qB k9 rfl rfl r10
theorem k11:za Tryz.prog m11:=za.add mix qA qB k10 rfl rfl r11
theorem k12:za Tryz.prog m12:=za.add mix qA qB k11 rfl rfl r12
theorem k13:za Tryz.prog m13:=za.add mix qA qB k12 rfl rfl r13
theorem k14:za Tryz.prog m14:=za.add mix qA qB k13 rfl rfl r14
theorem k15:za Tryz.prog m15:=za.add mix qA qB k14 rfl rfl r15
theorem k16:za Tryz.prog m16:=za.add mix qA qB k15 rfl rfl r16
theorem k17:za Tryz.prog m17:=za.add mix qA qB k16 rfl rfl r17
theorem k18:za Tryz.prog m18:=za.add mix qA qB k17 rfl rfl r18
theorem k19:za Tryz.prog m19:=za.add mix qA qB k18 rfl rfl r19
theorem k20:za Tryz.prog m20:=za.add mix qA qB k19 rfl rfl r20
theorem k21:za Tryz.prog m21:=za.add mix qA qB k20 rfl rfl r21
theorem k22:za Tryz.prog m22:=za.add mix qA qB k21 rfl rfl r22
theorem k23:za Tryz.prog m23:=za.add mix qA qB k22 rfl rfl r23
theorem k24:za Tryz.prog m24:=za.add mix qA qB k23 rfl rfl r24
theorem k25:za Tryz.prog m25:=za.add mix qA qB k24 rfl rfl r25
theorem k26:za Tryz.prog m26:=za.add mix qA qB k25 rfl rfl r26
theorem k27:za Tryz.prog m27:=za.add mix qA qB k26 rfl rfl r27
theorem k28:za Tryz.prog m28:=za.add mix qA qB k27 rfl rfl r28
theorem k29:za Tryz.prog m29:=za.add mix qA qB k28 rfl rfl r29
theorem k30:za Tryz.prog m30:=za.add mix qA qB k29 rfl rfl r30
theorem k31:za Tryz.prog m31:=za.add mix qA qB k30 rfl rfl r31
theorem k32:za Tryz.prog m32:=za.add mix qA qB k31 rfl rfl r32
theorem zGe (h:Heap):zA Tryz.prog 8 [] h fun a b=>a= .bool true∧b=h:=k32.1 h
open Go.RowKit (Below)
section
variable {w0:Base} {G:List Nat} {M:Imm} {ρ:Ren} {h:Heap} {w:World} {id:Nat} {cs:List D}
end
end Go.V
