/- Closed calls of this program, evaluated by the kernel, part 2. No condition. -/
import Derived.Test.YtkenagjlanhnmaaGreatDoorW21
set_option linter.all false
set_option maxHeartbeats 8000000
namespace Go.V
open Go.Proofs
set_option maxRecDepth 100000
def r2:rI m1 en2:=rT
def r9:rI m8 en9:=rT
def r16:rI m15 zMe:=rT
def r29:rI m28 zMr:=rT
def r33:rI m32 zMv:=rT
def r34:rI m33 zMw:=rT
def r36:rI m35 zMy:=rT
def r38:rI m37 zM0:=rT
def r47:rI m46 zM9:=rT
def r51:rI m50 zND:=rT
def r54:rI m53 zNG:=rT
end Go.V
