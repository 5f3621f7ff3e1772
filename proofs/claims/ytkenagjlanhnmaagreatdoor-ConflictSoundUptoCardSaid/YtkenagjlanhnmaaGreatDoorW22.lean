/- Closed calls of this program, evaluated by the kernel, part 1. No condition. -/
import Derived.Test.YtkenagjlanhnmaaGreatDoorW21
set_option linter.all false
set_option maxHeartbeats 8000000
namespace Go.V
open Go.Proofs
set_option maxRecDepth 100000
def r1:rI m0 en1:=rT
def r7:rI m6 en7:=rT
def r11:rI m10 zMZ:=rT
def r26:rI m25 zMo:=rT
def r41:rI m40 zM3:=rT
def r43:rI m42 zM5:=rT
def r45:rI m44 zM7:=rT
def r46:rI m45 zM8:=rT
def r48:rI m47 zNA:=rT
def r53:rI m52 zNF:=rT
def r63:rI m62 zNP:=rT
def r65:rI m64 zNR:=rT
def r68:rI m67 zNU:=rT
def r69:rI m68 zNV:=rT
def r70:rI m69 zNW:=rT
def r71:rI m70 zOM:=rT
end Go.V
