/- Closed calls of this program, evaluated by the kernel, part 3. No condition. -/
import Derived.Test.YtkenagjlanhnmaaGreatDoorW21
set_option linter.all false
set_option maxHeartbeats 8000000
namespace Go.V
open Go.Proofs
set_option maxRecDepth 100000
def r3:rX m2 en3:=rq
def r5:rX m4 en5:=rq
def r8:rX m7 en8:=rq
def r12:rX m11 zOC:=rq
def r13:rX m12 zOD:=rq
def r15:rX m14 zOF:=rq
def r19:rX m18 zOJ:=rq
def r21:rX m20 zOL:=rq
def r22:rX m21 zOM:=rq
def r23:rX m22 zON:=rq
def r25:rX m24 zOP:=rq
def r31:rX m30 zOV:=rq
def r32:rX m31 zOW:=rq
def r49:rX m48 zOn:=rq
def r50:rX m49 zOo:=rq
def r52:rX m51 zOq:=rq
def r56:rX m55 zOu:=rq
def r57:rX m56 zOv:=rq
def r59:rX m58 zOx:=rq
def r61:rX m60 zOz:=rq
def r64:rX m63 zO2:=rq
def r67:rX m66 zO5:=rq
end Go.V
