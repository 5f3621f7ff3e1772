/- Closed calls of this program, evaluated by the kernel, part 4. No condition. -/
import Derived.Test.YtkenagjlanhnmaaGreatDoorW21
set_option linter.all false
set_option maxHeartbeats 8000000
namespace Go.V
open Go.Proofs
set_option maxRecDepth 100000
def r4:rI m3 en4:=rT
def r6:rI m5 en6:=rT
def r10:rI m9 zMY:=rT
def r14:rI m13 zMc:=rT
def r17:rI m16 zMf:=rT
def r18:rI m17 zMg:=rT
def r20:rI m19 zMi:=rT
def r24:rI m23 zMm:=rT
def r27:rI m26 zMp:=rT
def r28:rI m27 zMq:=rT
def r30:rI m29 zMs:=rT
def r35:rI m34 zMx:=rT
def r37:rI m36 zMz:=rT
def r39:rI m38 zM1:=rT
def r40:rI m39 zM2:=rT
def r42:rI m41 zM4:=rT
def r44:rI m43 zM6:=rT
def r55:rI m54 zNH:=rT
def r58:rI m57 zNK:=rT
def r60:rI m59 zNM:=rT
def r62:rI m61 zNO:=rT
def r66:rI m65 zNS:=rT
end Go.V
