/- Closed calls of this program, evaluated by the kernel, part 3. No condition. -/
import Derived.Test.YtkenagjlanhnmaaGreatDoorW21
set_option linter.all false
set_option maxHeartbeats 8000000
namespace Go.V
open Go.Proofs
set_option maxRecDepth 100000
def r3:rI m2 en3:=rT
def r5:rI m4 en5:=rT
def r8:rI m7 en8:=rT
def r12:rI m11 zMa:=rT
def r13:rI m12 zMb:=rT
def r15:rI m14 zMd:=rT
def r19:rI m18 zMh:=rT
def r21:rI m20 zMj:=rT
def r22:rI m21 zMk:=rT
def r23:rI m22 zMl:=rT
def r25:rI m24 zMn:=rT
def r31:rI m30 zMt:=rT
def r32:rI m31 zMu:=rT
def r49:rI m48 zNB:=rT
def r50:rI m49 zNC:=rT
def r52:rI m51 zNE:=rT
def r56:rI m55 zNI:=rT
def r57:rI m56 zNJ:=rT
def r59:rI m58 zNL:=rT
def r61:rI m60 zNN:=rT
def r64:rI m63 zNQ:=rT
def r67:rI m66 zNT:=rT
end Go.V
