/- Closed calls of this program, evaluated by the kernel, part 4. No condition. -/
import Derived.Test.YtkenagjlanhnmaaGreatDoorW21
set_option linter.all false
set_option maxHeartbeats 8000000
namespace Go.V
open Go.Proofs
set_option maxRecDepth 100000
def r4:rX m3 en4:=rq
def r6:rX m5 en6:=rq
def r10:rX m9 zOA:=rq
def r14:rX m13 zOE:=rq
def r17:rX m16 zOH:=rq
def r18:rX m17 zOI:=rq
def r20:rX m19 zOK:=rq
def r24:rX m23 zOO:=rq
def r27:rX m26 zOR:=rq
def r28:rX m27 zOS:=rq
def r30:rX m29 zOU:=rq
def r35:rX m34 zOZ:=rq
def r37:rX m36 zOb:=rq
def r39:rX m38 zOd:=rq
def r40:rX m39 zOe:=rq
def r42:rX m41 zOg:=rq
def r44:rX m43 zOi:=rq
def r55:rX m54 zOt:=rq
def r58:rX m57 zOw:=rq
def r60:rX m59 zOy:=rq
def r62:rX m61 zO0:=rq
def r66:rX m65 zO4:=rq
end Go.V
