/- Library functions in the closed calls, and the function awake of chapter 40 returns true, part 1. No condition. -/
import Derived.Test.YthcjhnmnhfgdiaaGreatDoorW23
import Derived.Test.YthcjhnmnhfgdiaaGreatDoorW24
import Derived.Test.YthcjhnmnhfgdiaaGreatDoorW25
import Derived.Test.YthcjhnmnhfgdiaaGreatDoorW26
set_option linter.all false
set_option maxHeartbeats 8000000
namespace Go.V
open Go.Proofs.Tryz
open Go.Proofs
def yO:II prog t6:=λg args h r a=>by
 unfold t6 at a;split at a
 ·rename_i f;have e:g=174:=Nat.eq_of_beq_eq_true f;subst e;exact hP a λd b=>fS kr (λs c w=>Tryz.strings_Count_one s c w) b h
 ·skip
  split at a
  ·rename_i f;have e:g=175:=Nat.eq_of_beq_eq_true f;subst e;exact hP a λd b=>nn kr (λs c w=>Tryz.strings_Index_one s c w) b h
  ·skip
   split at a
   ·rename_i f;have e:g=248:=Nat.eq_of_beq_eq_true f;subst e;exact hP a λd b=>nn kr (λs c w=>Tryz.stringslite_Index_one s c w) b h
   ·skip
    split at a
    ·rename_i f;have e:g=249:=Nat.eq_of_beq_eq_true f;subst e;exact hP a λd b=>bZ kr (λs c w h0 h1 i h3=>Tm Tryz.lays160 kr s c w h0 h1 i h3) b h
    ·skip
     cases a
set_option maxRecDepth 100000
def k0:zO prog m0:=trivial
def k1:zO prog m1:=zO.add mix yM yO k0 rfl rfl r1
def k2:zO prog m2:=zO.add mix yM yO k1 rfl rfl r2
def k3:zO prog m3:=zO.add mix yM yO k2 rfl rfl r3
def k4:zO prog m4:=zO.add mix yM yO k3 rfl rfl r4
def k5:zO prog m5:=zO.add mix yM yO k4 rfl rfl r5
def k6:zO prog m6:=zO.add mix yM yO k5 rfl rfl r6
def k7:zO prog m7:=zO.add mix yM yO k6 rfl rfl r7
def k8:zO prog m8:=zO.add mix yM yO k7 rfl rfl r8
def k9:zO prog m9:=zO.add mix yM yO k8 rfl rfl r9
def k10:zO prog m10:=zO.add mix yM yO k9 rfl rfl r10
def k11:zO prog m11:=zO.add mix yM yO k10 rfl rfl r11
def k12:zO prog m12:=zO.add mix yM yO k11 rfl rfl r12
def k13:zO prog m13:=zO.add mix yM yO k12 rfl rfl r13
def k14:zO prog m14:=zO.add mix yM yO k13 rfl rfl r14
def k15:zO prog m15:=zO.add mix yM yO k14 rfl rfl r15
def k16:zO prog m16:=zO.add mix yM yO k15 rfl rfl r16
def k17:zO prog m17:=zO.add mix yM yO k16 rfl rfl r17
def k18:zO prog m18:=zO.add mix yM yO k17 rfl rfl r18
def k19:zO prog m19:=zO.add mix yM yO k18 rfl rfl r19
def k20:zO prog m20:=zO.add mix yM yO k19 rfl rfl r20
def k21:zO prog m21:=zO.add mix yM yO k20 rfl rfl r21
def k22:zO prog m22:=zO.add mix yM yO k21 rfl rfl r22
def k23:zO prog m23:=zO.add mix yM yO k22 rfl rfl r23
def k24:zO prog m24:=zO.add mix yM yO k23 rfl rfl r24
def k25:zO prog m25:=zO.add mix yM yO k24 rfl rfl r25
def k26:zO prog m26:=zO.add mix yM yO k25 rfl rfl r26
def k27:zO prog m27:=zO.add mix yM yO k26 rfl rfl r27
def k28:zO prog m28:=zO.add mix yM yO k27 rfl rfl r28
def k29:zO prog m29:=zO.add mix yM yO k28 rfl rfl r29
def k30:zO prog m30:=zO.add mix yM yO k29 rfl rfl r30
def k31:zO prog m31:=zO.add mix yM yO k30 rfl rfl r31
def k32:zO prog m32:=zO.add mix yM yO k31 rfl rfl r32
def k33:zO prog m33:=zO.add mix yM yO k32 rfl rfl r33
def k34:zO prog m34:=zO.add mix yM yO k33 rfl rfl r34
def k35:zO prog m35:=zO.add mix yM yO k34 rfl rfl r35
def k36:zO prog m36:=zO.add mix yM yO k35 rfl rfl r36
def k37:zO prog m37:=zO.add mix yM yO k36 rfl rfl r37
def k38:zO prog m38:=zO.add mix yM yO k37 rfl rfl r38
def k39:zO prog m39:=zO.add mix yM yO k38 rfl rfl r39
def k40:zO prog m40:=zO.add mix yM yO k39 rfl rfl r40
def k41:zO prog m41:=zO.add mix yM yO k40 rfl rfl r41
def k42:zO prog m42:=zO.add mix yM yO k41 rfl rfl r42
def k43:zO prog m43:=zO.add mix yM yO k42 rfl rfl r43
def k44:zO prog m44:=zO.add mix yM yO k43 rfl rfl r44
def k45:zO prog m45:=zO.add mix yM yO k44 rfl rfl r45
def k46:zO prog m46:=zO.add mix yM yO k45 rfl rfl r46
def k47:zO prog m47:=zO.add mix yM yO k46 rfl rfl r47
def jq (h:Heap):zA prog 8 [] h λa b=>a= .bool true/\b=h:=k47.1 h
end Go.V
