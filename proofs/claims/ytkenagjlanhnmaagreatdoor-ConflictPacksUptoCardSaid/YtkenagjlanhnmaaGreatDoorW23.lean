/- Closed calls of this program, evaluated by the kernel, part 2. No condition. -/
import Derived.Test.YtkenagjlanhnmaaGreatDoorW21
set_option linter.all false
set_option maxHeartbeats 8000000
namespace Go.V
open Go.Proofs
set_option maxRecDepth 100000
def r2:rX m1 en2:=rq
def r9:rX m8 en9:=rq
def r16:rX m15 zOG:=rq
def r29:rX m28 zOT:=rq
def r33:rX m32 zOX:=rq
def r34:rX m33 zOY:=rq
def r36:rX m35 zOa:=rq
def r38:rX m37 zOc:=rq
def r47:rX m46 zOl:=rq
def r51:rX m50 zOp:=rq
def r54:rX m53 zOs:=rq
end Go.V
