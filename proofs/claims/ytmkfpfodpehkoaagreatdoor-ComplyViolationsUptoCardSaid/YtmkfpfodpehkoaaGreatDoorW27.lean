/- Library functions in the closed calls, and the function awake of chapter 40 returns true, part 1. No condition. -/
import Derived.Test.YtmkfpfodpehkoaaGreatDoorW23
import Derived.Test.YtmkfpfodpehkoaaGreatDoorW24
import Derived.Test.YtmkfpfodpehkoaaGreatDoorW25
import Derived.Test.YtmkfpfodpehkoaaGreatDoorW26
set_option linter.all false
set_option maxHeartbeats 8000000
namespace Go.V
open Go.Proofs.Tryz
open Go.Proofs
def tM:Ic prog fQ:=λg args h r a=>by
 unfold fQ at a;split at a
 ·rename_i f;have e:g=119:=yq f;subst e;exact Z1 a λd b=>Y4 kr (λs c w=>Tryz.strings_Count_one s c w) b h
 ·skip
  split at a
  ·rename_i f;have e:g=120:=yq f;subst e;exact Z1 a λd b=>dx kr (λs c w=>Tryz.strings_Index_one s c w) b h
  ·skip
   split at a
   ·rename_i f;have e:g=170:=yq f;subst e;exact Z1 a λd b=>dx kr (λs c w=>Tryz.stringslite_Index_one s c w) b h
   ·skip
    split at a
    ·rename_i f;have e:g=171:=yq f;subst e;exact Z1 a λd b=>Wk kr (λs c w h0 h1 i h3=>Nu Tryz.lays160 kr s c w h0 h1 i h3) b h
    ·skip
     cases a
set_option maxRecDepth 100000
def k0:qN prog m0:=trivial
def k1:qN prog m1:=qN.add mix tO tM k0 rfl rfl r1
def k2:qN prog m2:=qN.add mix tO tM k1 rfl rfl r2
def k3:qN prog m3:=qN.add mix tO tM k2 rfl rfl r3
def k4:qN prog m4:=qN.add mix tO tM k3 rfl rfl r4
def k5:qN prog m5:=qN.add mix tO tM k4 rfl rfl r5
def k6:qN prog m6:=qN.add mix tO tM k5 rfl rfl r6
def k7:qN prog m7:=qN.add mix tO tM k6 rfl rfl r7
def k8:qN prog m8:=qN.add mix tO tM k7 rfl rfl r8
def k9:qN prog m9:=qN.add mix tO tM k8 rfl rfl r9
def k10:qN prog m10:=qN.add mix tO tM k9 rfl rfl r10
def k11:qN prog m11:=qN.add mix tO tM k10 rfl rfl r11
def k12:qN prog m12:=qN.add mix tO tM k11 rfl rfl r12
def k13:qN prog m13:=qN.add mix tO tM k12 rfl rfl r13
def k14:qN prog m14:=qN.add mix tO tM k13 rfl rfl r14
def k15:qN prog m15:=qN.add mix tO tM k14 rfl rfl r15
def k16:qN prog m16:=qN.add mix tO tM k15 rfl rfl r16
def k17:qN prog m17:=qN.add mix tO tM k16 rfl rfl r17
def k18:qN prog m18:=qN.add mix tO tM k17 rfl rfl r18
def k19:qN prog m19:=qN.add mix tO tM k18 rfl rfl r19
def k20:qN prog m20:=qN.add mix tO tM k19 rfl rfl r20
def k21:qN prog m21:=qN.add mix tO tM k20 rfl rfl r21
def k22:qN prog m22:=qN.add mix tO tM k21 rfl rfl r22
def k23:qN prog m23:=qN.add mix tO tM k22 rfl rfl r23
def k24:qN prog m24:=qN.add mix tO tM k23 rfl rfl r24
def k25:qN prog m25:=qN.add mix tO tM k24 rfl rfl r25
def k26:qN prog m26:=qN.add mix tO tM k25 rfl rfl r26
def k27:qN prog m27:=qN.add mix tO tM k26 rfl rfl r27
def k28:qN prog m28:=qN.add mix tO tM k27 rfl rfl r28
def k29:qN prog m29:=qN.add mix tO tM k28 rfl rfl r29
def k30:qN prog m30:=qN.add mix tO tM k29 rfl rfl r30
def k31:qN prog m31:=qN.add mix tO tM k30 rfl rfl r31
def k32:qN prog m32:=qN.add mix tO tM k31 rfl rfl r32
def ZT(h:Heap):zB prog 5 [] h λa b=>a=.bool true/\b=h:=k32.1 h
end Go.V
