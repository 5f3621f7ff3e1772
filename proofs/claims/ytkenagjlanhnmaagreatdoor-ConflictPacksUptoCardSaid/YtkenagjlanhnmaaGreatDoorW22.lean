/- Closed calls of this program, evaluated by the kernel, part 1. No condition. -/
import Derived.Test.YtkenagjlanhnmaaGreatDoorW21
set_option linter.all false
set_option maxHeartbeats 8000000
namespace Go.V
open Go.Proofs
set_option maxRecDepth 100000
def r1:rX m0 en1:=rq
def r7:rX m6 en7:=rq
def r11:rX m10 zOB:=rq
def r26:rX m25 zOQ:=rq
def r41:rX m40 zOf:=rq
def r43:rX m42 zOh:=rq
def r45:rX m44 zOj:=rq
def r46:rX m45 zOk:=rq
def r48:rX m47 zOm:=rq
def r53:rX m52 zOr:=rq
def r63:rX m62 zO1:=rq
def r65:rX m64 zO3:=rq
def r68:rX m67 zO6:=rq
def r69:rX m68 zO7:=rq
def r70:rX m69 zO8:=rq
def r71:rX m70 zPy:=rq
end Go.V
