/- Library functions in the closed calls, and the function awake of chapter 40 returns true, part 1. No condition. -/
import Derived.Test.YthcjhnmnhfgdiaaGreatDoorW23
import Derived.Test.YthcjhnmnhfgdiaaGreatDoorW24
import Derived.Test.YthcjhnmnhfgdiaaGreatDoorW25
import Derived.Test.YthcjhnmnhfgdiaaGreatDoorW26
set_option linter.all false
set_option maxHeartbeats 8000000
namespace Go.V
open Go.Proofs.Tryz
open Go.Proofs
def yO:JJ prog tu:=λg args h r a=>by
 unfold tu at a;split at a
 ·rename_i f;have e:g=174:=Nat.eq_of_beq_eq_true f;subst e;exact jo a λd b=>fD kr (λs c w=>Tryz.strings_Count_one s c w) b h
 ·skip
  split at a
  ·rename_i f;have e:g=175:=Nat.eq_of_beq_eq_true f;subst e;exact jo a λd b=>nT kr (λs c w=>Tryz.strings_Index_one s c w) b h
  ·skip
   split at a
   ·rename_i f;have e:g=248:=Nat.eq_of_beq_eq_true f;subst e;exact jo a λd b=>nT kr (λs c w=>Tryz.stringslite_Index_one s c w) b h
   ·skip
    split at a
    ·rename_i f;have e:g=249:=Nat.eq_of_beq_eq_true f;subst e;exact jo a λd b=>bF kr (λs c w h0 h1 i h3=>U4 Tryz.lays160 kr s c w h0 h1 i h3) b h
    ·skip
     cases a
set_option maxRecDepth 100000
def k0:zN prog m0:=trivial
def k1:zN prog m1:=zN.add mix yL yO k0 rfl rfl r1
def k2:zN prog m2:=zN.add mix yL yO k1 rfl rfl r2
def k3:zN prog m3:=zN.add mix yL yO k2 rfl rfl r3
def k4:zN prog m4:=zN.add mix yL yO k3 rfl rfl r4
def k5:zN prog m5:=zN.add mix yL yO k4 rfl rfl r5
def k6:zN prog m6:=zN.add mix yL yO k5 rfl rfl r6
def k7:zN prog m7:=zN.add mix yL yO k6 rfl rfl r7
def k8:zN prog m8:=zN.add mix yL yO k7 rfl rfl r8
def k9:zN prog m9:=zN.add mix yL yO k8 rfl rfl r9
def k10:zN prog m10:=zN.add mix yL yO k9 rfl rfl r10
def k11:zN prog m11:=zN.add mix yL yO k10 rfl rfl r11
def k12:zN prog m12:=zN.add mix yL yO k11 rfl rfl r12
def k13:zN prog m13:=zN.add mix yL yO k12 rfl rfl r13
def k14:zN prog m14:=zN.add mix yL yO k13 rfl rfl r14
def k15:zN prog m15:=zN.add mix yL yO k14 rfl rfl r15
def k16:zN prog m16:=zN.add mix yL yO k15 rfl rfl r16
def k17:zN prog m17:=zN.add mix yL yO k16 rfl rfl r17
def k18:zN prog m18:=zN.add mix yL yO k17 rfl rfl r18
def k19:zN prog m19:=zN.add mix yL yO k18 rfl rfl r19
def k20:zN prog m20:=zN.add mix yL yO k19 rfl rfl r20
def k21:zN prog m21:=zN.add mix yL yO k20 rfl rfl r21
def k22:zN prog m22:=zN.add mix yL yO k21 rfl rfl r22
def k23:zN prog m23:=zN.add mix yL yO k22 rfl rfl r23
def k24:zN prog m24:=zN.add mix yL yO k23 rfl rfl r24
def k25:zN prog m25:=zN.add mix yL yO k24 rfl rfl r25
def k26:zN prog m26:=zN.add mix yL yO k25 rfl rfl r26
def k27:zN prog m27:=zN.add mix yL yO k26 rfl rfl r27
def k28:zN prog m28:=zN.add mix yL yO k27 rfl rfl r28
def k29:zN prog m29:=zN.add mix yL yO k28 rfl rfl r29
def k30:zN prog m30:=zN.add mix yL yO k29 rfl rfl r30
def k31:zN prog m31:=zN.add mix yL yO k30 rfl rfl r31
def k32:zN prog m32:=zN.add mix yL yO k31 rfl rfl r32
def k33:zN prog m33:=zN.add mix yL yO k32 rfl rfl r33
def k34:zN prog m34:=zN.add mix yL yO k33 rfl rfl r34
def k35:zN prog m35:=zN.add mix yL yO k34 rfl rfl r35
def k36:zN prog m36:=zN.add mix yL yO k35 rfl rfl r36
def k37:zN prog m37:=zN.add mix yL yO k36 rfl rfl r37
def k38:zN prog m38:=zN.add mix yL yO k37 rfl rfl r38
def k39:zN prog m39:=zN.add mix yL yO k38 rfl rfl r39
def k40:zN prog m40:=zN.add mix yL yO k39 rfl rfl r40
def k41:zN prog m41:=zN.add mix yL yO k40 rfl rfl r41
def k42:zN prog m42:=zN.add mix yL yO k41 rfl rfl r42
def k43:zN prog m43:=zN.add mix yL yO k42 rfl rfl r43
def k44:zN prog m44:=zN.add mix yL yO k43 rfl rfl r44
def k45:zN prog m45:=zN.add mix yL yO k44 rfl rfl r45
def k46:zN prog m46:=zN.add mix yL yO k45 rfl rfl r46
def k47:zN prog m47:=zN.add mix yL yO k46 rfl rfl r47
def jT (h:Heap):zA prog 8 [] h λa b=>a= .bool true/\b=h:=k47.1 h
end Go.V
