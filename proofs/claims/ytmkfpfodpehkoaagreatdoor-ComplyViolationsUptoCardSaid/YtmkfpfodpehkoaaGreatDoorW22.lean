/- A list of closed calls of this program and their results, part 1. No condition. -/
import Derived.Test.YtmkfpfodpehkoaaGreatDoorW18
set_option linter.all false
set_option maxHeartbeats 8000000
noncomputable section
namespace Go.V
def vA:D:=.agg [(.sl 4 [[(.str [97]),(.str [97]),(.int .i64 (1)),(.str [])],[(.str [98]),(.str [98]),(.int .i64 (1)),(.str [])]] .no),(.nilsl),(.sl 5 [[(.str [97]),(.int .i64 (1)),(.int .i64 (0)),(.int .i64 (4)),(.sl 1 [[(.str [97])]] .no)]] .no),(.nilsl)]
def vD:D:=.sl 1 [[(.sl 2 [[(.str [97]),(.str [])]] .no)]] .no
def vE:D:=.agg [ vD ,(.sl 1 [[(.str [97])]] .no)]
def vG:D:=.str [120,47,111,117,116]
def vB:D:=.sl 12 [[(.int .i64 (1)),(.str [120,47,102]),(.str []),(.int .i64 (0)),(.int .i64 (0)),(.int .i64 (0)),(.bool false),(.int .i64 (0)),(.str [97]),(.str []),(.nilsl),(.nilsl)],[(.int .i64 (0)),(.str [120,47,102]),vG,(.int .i64 (0)),(.int .i64 (0)),(.int .i64 (0)),(.bool false),(.int .i64 (0)),(.str []),(.str []),(.nilsl),(.nilsl)],[(.int .i64 (2)),(.str []),vG,(.int .i64 (0)),(.int .i64 (1)),(.int .i64 (0)),(.bool false),(.int .i64 (0)),(.str []),(.str []),(.nilsl),(.nilsl)]] .no
def vC:D:=.sl 12 [[(.int .i64 (1)),(.str [120,47,102]),(.str []),(.int .i64 (0)),(.int .i64 (0)),(.int .i64 (0)),(.bool false),(.int .i64 (0)),(.str [97]),(.str []),(.nilsl),(.nilsl)],[(.int .i64 (0)),(.str [120,47,102]),vG,(.int .i64 (0)),(.int .i64 (0)),(.int .i64 (0)),(.bool false),(.int .i64 (0)),(.str []),(.str []),(.nilsl),(.nilsl)],[(.int .i64 (2)),(.str []),vG,(.int .i64 (0)),(.int .i64 (1)),(.int .i64 (0)),(.bool false),(.int .i64 (0)),(.str []),(.str []),(.nilsl),(.nilsl)],[(.int .i64 (3)),(.str []),vG,(.int .i64 (0)),(.int .i64 (0)),(.int .i64 (0)),(.bool false),(.int .i64 (0)),(.str []),(.str []),(.nilsl),(.sl 1 [[(.str [98])]] .no)]] .no
def vF:D:=.agg [(.sl 1 [[ vD ]] .no),(.sl 1 [[vG]] .no),(.sl 4 [[(.str [97]),(.str [97]),(.int .i64 (1)),(.str [])],[(.str [98]),(.str [98]),(.int .i64 (1)),(.str [])]] .no),(.nilsl),(.sl 5 [[(.str [97]),(.int .i64 (1)),(.int .i64 (0)),(.int .i64 (4)),(.sl 1 [[(.str [97])]] .no)]] .no),(.nilsl)]
def vH:D:=.agg [(.int .i64 (4)),(.sl 1 [[(.int .i64 (2))],[(.int .i64 (3))]] .no)]
def vI:D:=.str [108,105,99,101,110,115,101,32,97,32,97,32,49,32,48,10,108,105,99,101,110,115,101,32,98,32,98,32,49,32,48,10,99,108,97,117,115,101,32,97,32,98,105,110,97,114,121,32,105,110,32,115,104,97,114,101,32,97,10]
def vJ:D:=.sl 1 [[(.int .i64 (0))],[(.int .i64 (1))],[(.int .i64 (2))]] .no
def vK:D:=.agg [ vD ,(.sl 1 [[(.str [98])]] .no)]
def vL:D:=.agg [(.int .i64 (3)),(.str []), vG ,(.int .i64 (0)),(.int .i64 (0)),(.int .i64 (0)),(.bool false),(.int .i64 (0)),(.str []),(.str []),(.nilsl),(.sl 1 [[(.str [98])]] .no)]
def vM:D:=.agg [(.int .i64 (1)),(.str [120,47,102]),(.str []),(.int .i64 (0)),(.int .i64 (0)),(.int .i64 (0)),(.bool false),(.int .i64 (0)),(.str [97]),(.str []),(.nilsl),(.nilsl)]
def vN:D:=.agg [(.int .i64 (0)),(.str [120,47,102]), vG ,(.int .i64 (0)),(.int .i64 (0)),(.int .i64 (0)),(.bool false),(.int .i64 (0)),(.str []),(.str []),(.nilsl),(.nilsl)]
def vO:D:=.agg [(.int .i64 (0)),(.str [97]),(.str []),(.nilsl)]
def vP:D:=.agg [(.int .i64 (2)),(.str []), vG ,(.int .i64 (0)),(.int .i64 (1)),(.int .i64 (0)),(.bool false),(.int .i64 (0)),(.str []),(.str []),(.nilsl),(.nilsl)]
open Go.Proofs
def fQ(g:FuncId)(args:List D)(hp:Nat->Option Obj):IR:=
 match Nat.beq g 119 with
 |true=>RH (Zt args)
 |false=>
  match Nat.beq g 120 with
  |true=>RH (ct args)
  |false=>
   match Nat.beq g 170 with
   |true=>RH (ct args)
   |false=>
    match Nat.beq g 171 with
    |true=>RH (Vy args)
    |false=>
     none
def pH(g:FuncId):Bool:=List.contains (α:=Nat) [16,96,49,43,17,7,9,125,126,124,45,89,42,95,281,283,184,147,185,12,14,21] g
def m0:kn:=[]
def m1:kn:=(136,([(.str [97])],.bool true))::m0
def m2:kn:=(136,([(.str [98])],.bool true))::m1
def m3:kn:=(42,([ vA ],.int .i64 (0)))::m2
def m4:kn:=(16,([ vI ],.tuple [ vA ,(.int .i64 (0)),(.int .i64 (0))]))::m3
def m5:kn:=(184,([(.str [120,47,102])],.int .i64 (0)))::m4
def m6:kn:=(185,([ vA ,(.str [97])],.tuple [(.agg [(.str [97]),(.str [97]),(.int .i64 (1)),(.str [])]),(.bool true)]))::m5
def m7:kn:=(147,([ vA , vO ],.int .i64 (0)))::m6
def m8:kn:=(146,([ vA , vM ],.int .i64 (0)))::m7
def m9:kn:=(184,([ vG ],.int .i64 (0)))::m8
def m10:kn:=(146,([ vA , vN ],.int .i64 (0)))::m9
def m11:kn:=(146,([ vA , vP ],.int .i64 (0)))::m10
def m12:kn:=(95,([ vA , vB ],.tuple [(.int .i64 (0)),(.int .i64 (0))]))::m11
def m13:kn:=(96,([ vA , vO ],.tuple [ vD ,(.int .i64 (0))]))::m12
def m14:kn:=(49,([ vA , vB ],.tuple [(.sl 1 [[ vD ]] .no),(.sl 1 [[ vG ]] .no),(.int .i64 (0))]))::m13
def m15:kn:=(43,([ vA , vB ],.tuple [ vF ,(.int .i64 (0))]))::m14
def m16:kn:=(17,([ vA , vB ,(.int .i64 (0))],.tuple [ vE ,(.int .i64 (0))]))::m15
def m17:kn:=(17,([ vA , vB ,(.int .i64 (1))],.tuple [ vK ,(.int .i64 (0))]))::m16
def m18:kn:=(21,([ vA , vB , vE ,(.bool false)],.int .i64 (0)))::m17
def m19:kn:=(281,([ vA ,(.agg [(.str [97]),(.str [])]),(.int .i64 (1)),(.int .i64 (0))],.sl 5 [[(.str [97]),(.int .i64 (1)),(.int .i64 (0)),(.int .i64 (4)),(.sl 1 [[(.str [97])]] .no)]] .no))::m18
def m20:kn:=(283,([ vA ,(.str [97]),(.str [97])],.bool false))::m19
def m21:kn:=(12,([ vA , vB , vE ],.tuple [(.bool true),(.int .i64 (0))]))::m20
def m22:kn:=(21,([ vA , vB , vK ,(.bool true)],.int .i64 (0)))::m21
def m23:kn:=(7,([ vA , vB , vK ],.tuple [(.sl 2 [[(.int .i64 (1)), vJ ]] .no),(.int .i64 (0))]))::m22
def m24:kn:=(185,([ vA ,(.str [98])],.tuple [(.agg [(.str [98]),(.str [98]),(.int .i64 (1)),(.str [])]),(.bool true)]))::m23
def m25:kn:=(146,([ vA , vL ],.int .i64 (0)))::m24
def m26:kn:=(95,([ vA , vC ],.tuple [(.int .i64 (0)),(.int .i64 (0))]))::m25
def m27:kn:=(49,([ vA , vC ],.tuple [(.sl 1 [[ vD ]] .no),(.sl 1 [[ vG ]] .no),(.int .i64 (0))]))::m26
def m28:kn:=(21,([ vA , vC , vE ,(.bool true)],.int .i64 (0)))::m27
def m29:kn:=(9,([ vA , vC , vE ],.tuple [ vH ,(.bool true),(.int .i64 (0))]))::m28
def m30:kn:=(14,([ vA , vC , vE , vH ],.int .i64 (0)))::m29
def m31:kn:=(14,([ vA , vC , vE ,(.agg [(.int .i64 (1)), vJ ])],.int .i64 (18)))::m30
def m32:kn:=(5,([],.bool true))::m31
end Go.V
end
