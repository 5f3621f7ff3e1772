/- Library functions in the closed calls, and the function awake of chapter 40 returns true, part 1. No condition. -/
import Derived.Test.YtkenagjlanhnmaaGreatDoorW23
import Derived.Test.YtkenagjlanhnmaaGreatDoorW24
import Derived.Test.YtkenagjlanhnmaaGreatDoorW25
import Derived.Test.YtkenagjlanhnmaaGreatDoorW26
import Derived.Test.YtkenagjlanhnmaaGreatDoorW27
set_option linter.all false
set_option maxHeartbeats 8000000
namespace Go.V
open Go.Proofs.Tryz
open Go.Proofs
def zy:Hp prog wU:=λg args h r a=>by
 unfold wU at a;split at a
 ·rename_i f;have e:g=158:=ye f;subst e;exact bh a λd b=>XY kr (λs c w=>Tryz.strings_Count_one s c w) b h
 ·skip
  split at a
  ·rename_i f;have e:g=159:=ye f;subst e;exact bh a λd b=>cN kr (λs c w=>Tryz.strings_Index_one s c w) b h
  ·skip
   split at a
   ·rename_i f;have e:g=213:=ye f;subst e;exact bh a λd b=>cN kr (λs c w=>Tryz.stringslite_Index_one s c w) b h
   ·skip
    split at a
    ·rename_i f;have e:g=214:=ye f;subst e;exact bh a λd b=>VF kr (λs c w h0 h1 i h3=>Mj Tryz.lays160 kr s c w h0 h1 i h3) b h
    ·skip
     split at a
     ·rename_i f;have e:g=35:=ye f;subst e;exact bh a λd b=>Ua b
     ·skip
      cases a
set_option maxRecDepth 100000
def k0:zN prog m0:=trivial
def k1:zN prog m1:=zN.add mix zz zy k0 rfl rfl r1
def k2:zN prog m2:=zN.add mix zz zy k1 rfl rfl r2
def k3:zN prog m3:=zN.add mix zz zy k2 rfl rfl r3
def k4:zN prog m4:=zN.add mix zz zy k3 rfl rfl r4
def k5:zN prog m5:=zN.add mix zz zy k4 rfl rfl r5
def k6:zN prog m6:=zN.add mix zz zy k5 rfl rfl r6
def k7:zN prog m7:=zN.add mix zz zy k6 rfl rfl r7
def k8:zN prog m8:=zN.add mix zz zy k7 rfl rfl r8
def k9:zN prog m9:=zN.add mix zz zy k8 rfl rfl r9
def k10:zN prog m10:=zN.add mix zz zy k9 rfl rfl r10
def k11:zN prog m11:=zN.add mix zz zy k10 rfl rfl r11
def k12:zN prog m12:=zN.add mix zz zy k11 rfl rfl r12
def k13:zN prog m13:=zN.add mix zz zy k12 rfl rfl r13
def k14:zN prog m14:=zN.add mix zz zy k13 rfl rfl r14
def k15:zN prog m15:=zN.add mix zz zy k14 rfl rfl r15
def k16:zN prog m16:=zN.add mix zz zy k15 rfl rfl r16
def k17:zN prog m17:=zN.add mix zz zy k16 rfl rfl r17
def k18:zN prog m18:=zN.add mix zz zy k17 rfl rfl r18
def k19:zN prog m19:=zN.add mix zz zy k18 rfl rfl r19
def k20:zN prog m20:=zN.add mix zz zy k19 rfl rfl r20
def k21:zN prog m21:=zN.add mix zz zy k20 rfl rfl r21
def k22:zN prog m22:=zN.add mix zz zy k21 rfl rfl r22
def k23:zN prog m23:=zN.add mix zz zy k22 rfl rfl r23
def k24:zN prog m24:=zN.add mix zz zy k23 rfl rfl r24
def k25:zN prog m25:=zN.add mix zz zy k24 rfl rfl r25
def k26:zN prog m26:=zN.add mix zz zy k25 rfl rfl r26
def k27:zN prog m27:=zN.add mix zz zy k26 rfl rfl r27
def k28:zN prog m28:=zN.add mix zz zy k27 rfl rfl r28
def k29:zN prog m29:=zN.add mix zz zy k28 rfl rfl r29
def k30:zN prog m30:=zN.add mix zz zy k29 rfl rfl r30
def k31:zN prog m31:=zN.add mix zz zy k30 rfl rfl r31
def k32:zN prog m32:=zN.add mix zz zy k31 rfl rfl r32
def k33:zN prog m33:=zN.add mix zz zy k32 rfl rfl r33
def k34:zN prog m34:=zN.add mix zz zy k33 rfl rfl r34
def k35:zN prog m35:=zN.add mix zz zy k34 rfl rfl r35
def k36:zN prog m36:=zN.add mix zz zy k35 rfl rfl r36
def k37:zN prog m37:=zN.add mix zz zy k36 rfl rfl r37
def k38:zN prog m38:=zN.add mix zz zy k37 rfl rfl r38
def k39:zN prog m39:=zN.add mix zz zy k38 rfl rfl r39
def k40:zN prog m40:=zN.add mix zz zy k39 rfl rfl r40
def k41:zN prog m41:=zN.add mix zz zy k40 rfl rfl r41
def k42:zN prog m42:=zN.add mix zz zy k41 rfl rfl r42
def k43:zN prog m43:=zN.add mix zz zy k42 rfl rfl r43
def k44:zN prog m44:=zN.add mix zz zy k43 rfl rfl r44
def k45:zN prog m45:=zN.add mix zz zy k44 rfl rfl r45
def k46:zN prog m46:=zN.add mix zz zy k45 rfl rfl r46
def k47:zN prog m47:=zN.add mix zz zy k46 rfl rfl r47
def k48:zN prog m48:=zN.add mix zz zy k47 rfl rfl r48
def k49:zN prog m49:=zN.add mix zz zy k48 rfl rfl r49
def k50:zN prog m50:=zN.add mix zz zy k49 rfl rfl r50
def k51:zN prog m51:=zN.add mix zz zy k50 rfl rfl r51
def k52:zN prog m52:=zN.add mix zz zy k51 rfl rfl r52
def k53:zN prog m53:=zN.add mix zz zy k52 rfl rfl r53
def k54:zN prog m54:=zN.add mix zz zy k53 rfl rfl r54
def k55:zN prog m55:=zN.add mix zz zy k54 rfl rfl r55
def k56:zN prog m56:=zN.add mix zz zy k55 rfl rfl r56
def k57:zN prog m57:=zN.add mix zz zy k56 rfl rfl r57
def k58:zN prog m58:=zN.add mix zz zy k57 rfl rfl r58
def k59:zN prog m59:=zN.add mix zz zy k58 rfl rfl r59
def k60:zN prog m60:=zN.add mix zz zy k59 rfl rfl r60
def k61:zN prog m61:=zN.add mix zz zy k60 rfl rfl r61
def k62:zN prog m62:=zN.add mix zz zy k61 rfl rfl r62
def k63:zN prog m63:=zN.add mix zz zy k62 rfl rfl r63
def k64:zN prog m64:=zN.add mix zz zy k63 rfl rfl r64
def k65:zN prog m65:=zN.add mix zz zy k64 rfl rfl r65
def k66:zN prog m66:=zN.add mix zz zy k65 rfl rfl r66
def k67:zN prog m67:=zN.add mix zz zy k66 rfl rfl r67
def k68:zN prog m68:=zN.add mix zz zy k67 rfl rfl r68
def k69:zN prog m69:=zN.add mix zz zy k68 rfl rfl r69
def k70:zN prog m70:=zN.add mix zz zy k69 rfl rfl r70
def k71:zN prog m71:=zN.add mix zz zy k70 rfl rfl r71
def k72:zN prog m72:=zN.add mix zz zy k71 rfl rfl r72
def k73:zN prog m73:=zN.add mix zz zy k72 rfl rfl r73
def k74:zN prog m74:=zN.add mix zz zy k73 rfl rfl r74
def k75:zN prog m75:=zN.add mix zz zy k74 rfl rfl r75
def k76:zN prog m76:=zN.add mix zz zy k75 rfl rfl r76
def k77:zN prog m77:=zN.add mix zz zy k76 rfl rfl r77
def k78:zN prog m78:=zN.add mix zz zy k77 rfl rfl r78
def k79:zN prog m79:=zN.add mix zz zy k78 rfl rfl r79
def k80:zN prog m80:=zN.add mix zz zy k79 rfl rfl r80
def k81:zN prog m81:=zN.add mix zz zy k80 rfl rfl r81
def k82:zN prog m82:=zN.add mix zz zy k81 rfl rfl r82
def k83:zN prog m83:=zN.add mix zz zy k82 rfl rfl r83
def k84:zN prog m84:=zN.add mix zz zy k83 rfl rfl r84
def k85:zN prog m85:=zN.add mix zz zy k84 rfl rfl r85
def k86:zN prog m86:=zN.add mix zz zy k85 rfl rfl r86
def k87:zN prog m87:=zN.add mix zz zy k86 rfl rfl r87
def k88:zN prog m88:=zN.add mix zz zy k87 rfl rfl r88
def k89:zN prog m89:=zN.add mix zz zy k88 rfl rfl r89
def k90:zN prog m90:=zN.add mix zz zy k89 rfl rfl r90
def k91:zN prog m91:=zN.add mix zz zy k90 rfl rfl r91
def k92:zN prog m92:=zN.add mix zz zy k91 rfl rfl r92
def k93:zN prog m93:=zN.add mix zz zy k92 rfl rfl r93
def k94:zN prog m94:=zN.add mix zz zy k93 rfl rfl r94
def k95:zN prog m95:=zN.add mix zz zy k94 rfl rfl r95
def k96:zN prog m96:=zN.add mix zz zy k95 rfl rfl r96
def k97:zN prog m97:=zN.add mix zz zy k96 rfl rfl r97
def k98:zN prog m98:=zN.add mix zz zy k97 rfl rfl r98
def k99:zN prog m99:=zN.add mix zz zy k98 rfl rfl r99
def zNd:zN prog zJC:=zN.add mix zz zy k99 rfl rfl zO5
def zNe:zN prog zJD:=zN.add mix zz zy zNd rfl rfl zO6
def zNf:zN prog zJE:=zN.add mix zz zy zNe rfl rfl zO7
def zNg:zN prog zJF:=zN.add mix zz zy zNf rfl rfl zO8
def zNh:zN prog zJG:=zN.add mix zz zy zNg rfl rfl zO9
def zNi:zN prog zJH:=zN.add mix zz zy zNh rfl rfl zPA
def zNj:zN prog zJI:=zN.add mix zz zy zNi rfl rfl zPB
def zNk:zN prog zJJ:=zN.add mix zz zy zNj rfl rfl zPC
def zNl:zN prog zJK:=zN.add mix zz zy zNk rfl rfl zPD
def zNm:zN prog zJL:=zN.add mix zz zy zNl rfl rfl zPE
def zNn:zN prog zJM:=zN.add mix zz zy zNm rfl rfl zPF
def zNo:zN prog zJN:=zN.add mix zz zy zNn rfl rfl zPG
def zNp:zN prog zJO:=zN.add mix zz zy zNo rfl rfl zPH
def zNq:zN prog zJP:=zN.add mix zz zy zNp rfl rfl zPI
def zNr:zN prog zJQ:=zN.add mix zz zy zNq rfl rfl zPJ
def zNs:zN prog zJR:=zN.add mix zz zy zNr rfl rfl zPK
def zNt:zN prog zJS:=zN.add mix zz zy zNs rfl rfl zPL
def zNu:zN prog zJT:=zN.add mix zz zy zNt rfl rfl zPM
def zNv:zN prog zJU:=zN.add mix zz zy zNu rfl rfl zPN
def zNw:zN prog zJV:=zN.add mix zz zy zNv rfl rfl zPO
def zNx:zN prog zJW:=zN.add mix zz zy zNw rfl rfl zPP
def zNy:zN prog zJX:=zN.add mix zz zy zNx rfl rfl zPQ
def zNz:zN prog zJY:=zN.add mix zz zy zNy rfl rfl zPR
def zN0:zN prog zJZ:=zN.add mix zz zy zNz rfl rfl zPS
def zN1:zN prog zJa:=zN.add mix zz zy zN0 rfl rfl zPT
def zN2:zN prog zJb:=zN.add mix zz zy zN1 rfl rfl zPU
def zN3:zN prog zJc:=zN.add mix zz zy zN2 rfl rfl zPV
def zN4:zN prog zJd:=zN.add mix zz zy zN3 rfl rfl zPW
def zN5:zN prog zJe:=zN.add mix zz zy zN4 rfl rfl zPX
def zN6:zN prog zJf:=zN.add mix zz zy zN5 rfl rfl zPY
def zN7:zN prog zJg:=zN.add mix zz zy zN6 rfl rfl zPZ
def zN8:zN prog zJh:=zN.add mix zz zy zN7 rfl rfl zPa
def zN9:zN prog zJi:=zN.add mix zz zy zN8 rfl rfl zPb
def zOA:zN prog zJj:=zN.add mix zz zy zN9 rfl rfl zPc
def zOB:zN prog zJk:=zN.add mix zz zy zOA rfl rfl zPd
def zOC:zN prog zJl:=zN.add mix zz zy zOB rfl rfl zPe
def zOD:zN prog zJm:=zN.add mix zz zy zOC rfl rfl zPf
def zOE:zN prog zJn:=zN.add mix zz zy zOD rfl rfl zPg
def zOF:zN prog zJo:=zN.add mix zz zy zOE rfl rfl zPh
def zOG:zN prog zJp:=zN.add mix zz zy zOF rfl rfl zPi
def zOH:zN prog zJq:=zN.add mix zz zy zOG rfl rfl zPj
def zOI:zN prog zJr:=zN.add mix zz zy zOH rfl rfl zPk
def zOJ:zN prog zJs:=zN.add mix zz zy zOI rfl rfl zPl
def zOK:zN prog zJt:=zN.add mix zz zy zOJ rfl rfl zPm
def zOL:zN prog zJu:=zN.add mix zz zy zOK rfl rfl zPn
def zOM:zN prog zJv:=zN.add mix zz zy zOL rfl rfl zPo
def zON:zN prog zJw:=zN.add mix zz zy zOM rfl rfl zPp
def zOO:zN prog zJx:=zN.add mix zz zy zON rfl rfl zPq
def zOP:zN prog zJy:=zN.add mix zz zy zOO rfl rfl zPr
def zOQ:zN prog zJz:=zN.add mix zz zy zOP rfl rfl zPs
def zOR:zN prog zJ0:=zN.add mix zz zy zOQ rfl rfl zPt
def zOS:zN prog zJ1:=zN.add mix zz zy zOR rfl rfl zPu
def zOT:zN prog zOU:=zN.add mix zz zy zOS rfl rfl zPv
def Z4(h:Heap):zE prog 8 [] h λa b=>a=.bool true/\b=h:=zOT.1 h
end Go.V
