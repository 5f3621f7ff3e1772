/- A list of closed calls of this program and their results, part 1. No condition. -/
import Derived.Test.YtmhkjfajejaniaaGreatDoorW18
import Derived.Test.YtmhkjfajejaniaaGreatDoorW19
import Derived.KernelRfl
set_option linter.all false
noncomputable section
namespace Go.V
def vA:D:=.agg [(.sl 4 [[(.str [97]),(.str [97]),(.int .i64 (1)),(.str [])],[(.str [98]),(.str [98]),(.int .i64 (1)),(.str [])]] .no),(.nilsl),(.sl 5 [[(.str [97]),(.int .i64 (1)),(.int .i64 (0)),(.int .i64 (4)),(.sl 1 [[(.str [97])]] .no)]] .no),(.nilsl)]
def vD:D:=.sl 1 [[(.sl 2 [[(.str [97]),(.str [])]] .no)]] .no
def vE:D:=.agg [ vD ,(.sl 1 [[(.str [97])]] .no)]
def vG:D:=.str [120,47,111,117,116]
def vB:D:=.sl 12 [[(.int .i64 (1)),(.str [120,47,102]),(.str []),(.int .i64 (0)),(.int .i64 (0)),(.int .i64 (0)),(.bool false),(.int .i64 (0)),(.str [97]),(.str []),(.nilsl),(.nilsl)],[(.int .i64 (0)),(.str [120,47,102]),vG,(.int .i64 (0)),(.int .i64 (0)),(.int .i64 (0)),(.bool false),(.int .i64 (0)),(.str []),(.str []),(.nilsl),(.nilsl)],[(.int .i64 (2)),(.str []),vG,(.int .i64 (0)),(.int .i64 (1)),(.int .i64 (0)),(.bool false),(.int .i64 (0)),(.str []),(.str []),(.nilsl),(.nilsl)]] .no
def vC:D:=.sl 12 [[(.int .i64 (1)),(.str [120,47,102]),(.str []),(.int .i64 (0)),(.int .i64 (0)),(.int .i64 (0)),(.bool false),(.int .i64 (0)),(.str [97]),(.str []),(.nilsl),(.nilsl)],[(.int .i64 (0)),(.str [120,47,102]),vG,(.int .i64 (0)),(.int .i64 (0)),(.int .i64 (0)),(.bool false),(.int .i64 (0)),(.str []),(.str []),(.nilsl),(.nilsl)],[(.int .i64 (2)),(.str []),vG,(.int .i64 (0)),(.int .i64 (1)),(.int .i64 (0)),(.bool false),(.int .i64 (0)),(.str []),(.str []),(.nilsl),(.nilsl)],[(.int .i64 (3)),(.str []),vG,(.int .i64 (0)),(.int .i64 (0)),(.int .i64 (0)),(.bool false),(.int .i64 (0)),(.str []),(.str []),(.nilsl),(.sl 1 [[(.str [98])]] .no)]] .no
def vF:D:=.agg [(.sl 1 [[ vD ]] .no),(.sl 1 [[vG]] .no),(.sl 4 [[(.str [97]),(.str [97]),(.int .i64 (1)),(.str [])],[(.str [98]),(.str [98]),(.int .i64 (1)),(.str [])]] .no),(.nilsl),(.sl 5 [[(.str [97]),(.int .i64 (1)),(.int .i64 (0)),(.int .i64 (4)),(.sl 1 [[(.str [97])]] .no)]] .no),(.nilsl)]
def vH:D:=.agg [(.int .i64 (4)),(.sl 1 [[(.int .i64 (2))],[(.int .i64 (3))]] .no)]
def vI:D:=.str [108,105,99,101,110,115,101,32,97,32,97,32,49,32,48,10,108,105,99,101,110,115,101,32,98,32,98,32,49,32,48,10,99,108,97,117,115,101,32,97,32,98,105,110,97,114,121,32,105,110,32,115,104,97,114,101,32,97,10]
def vJ:D:=.sl 1 [[(.int .i64 (0))],[(.int .i64 (1))],[(.int .i64 (2))]] .no
def vK:D:=.agg [ vD ,(.sl 1 [[(.str [98])]] .no)]
def vL:D:=.agg [(.int .i64 (3)),(.str []), vG ,(.int .i64 (0)),(.int .i64 (0)),(.int .i64 (0)),(.bool false),(.int .i64 (0)),(.str []),(.str []),(.nilsl),(.sl 1 [[(.str [98])]] .no)]
def vM:D:=.agg [(.int .i64 (1)),(.str [120,47,102]),(.str []),(.int .i64 (0)),(.int .i64 (0)),(.int .i64 (0)),(.bool false),(.int .i64 (0)),(.str [97]),(.str []),(.nilsl),(.nilsl)]
def vN:D:=.agg [(.int .i64 (0)),(.str [120,47,102]), vG ,(.int .i64 (0)),(.int .i64 (0)),(.int .i64 (0)),(.bool false),(.int .i64 (0)),(.str []),(.str []),(.nilsl),(.nilsl)]
def vO:D:=.agg [(.int .i64 (0)),(.str [97]),(.str []),(.nilsl)]
def vP:D:=.agg [(.int .i64 (2)),(.str []), vG ,(.int .i64 (0)),(.int .i64 (1)),(.int .i64 (0)),(.bool false),(.int .i64 (0)),(.str []),(.str []),(.nilsl),(.nilsl)]
open Go.Proofs
def zDg (g:FuncId) (args:List D) (hp:Nat→Option Obj):zVd:=
 match Nat.beq g 130 with
 |true=>zMA (zGx args)
 |false=>
  match Nat.beq g 131 with
  |true=>zMA (zEz args)
  |false=>
   match Nat.beq g 188 with
   |true=>zMA (zEz args)
   |false=>
    match Nat.beq g 189 with
    |true=>zMA (zKr args)
    |false=>
     none
def wZ (g:FuncId):Bool:=List.contains (α:=Nat) [33,48,24,36,11,12,13,136,137,135,38,68,64,47,82,266,117,78,118,14,17,39] g
def m0:zCT:=[]
def m1:zCT:=(147,([(.str [97])], .bool true))::m0
def m2:zCT:=(147,([(.str [98])], .bool true))::m1
def m3:zCT:=(64,([ vA ], .int .i64 (0)))::m2
def m4:zCT:=(33,([ vI ], .tuple [ vA ,(.int .i64 (0)),(.int .i64 (0))]))::m3
def m5:zCT:=(117,([(.str [120,47,102])], .int .i64 (0)))::m4
def m6:zCT:=(118,([ vA ,(.str [97])], .tuple [(.agg [(.str [97]),(.str [97]),(.int .i64 (1)),(.str [])]),(.bool true)]))::m5
def m7:zCT:=(78,([ vA , vO ], .int .i64 (0)))::m6
def m8:zCT:=(77,([ vA , vM ], .int .i64 (0)))::m7
def m9:zCT:=(117,([ vG ], .int .i64 (0)))::m8
def m10:zCT:=(77,([ vA , vN ], .int .i64 (0)))::m9
def m11:zCT:=(77,([ vA , vP ], .int .i64 (0)))::m10
def m12:zCT:=(47,([ vA , vB ], .tuple [(.int .i64 (0)),(.int .i64 (0))]))::m11
def m13:zCT:=(48,([ vA , vO ], .tuple [ vD ,(.int .i64 (0))]))::m12
def m14:zCT:=(24,([ vA , vB ], .tuple [(.sl 1 [[ vD ]] .no),(.sl 1 [[ vG ]] .no),(.int .i64 (0))]))::m13
def m15:zCT:=(36,([ vA , vB ], .tuple [ vF ,(.int .i64 (0))]))::m14
def m16:zCT:=(11,([ vA , vB ,(.int .i64 (0))], .tuple [ vE ,(.int .i64 (0))]))::m15
def m17:zCT:=(11,([ vA , vB ,(.int .i64 (1))], .tuple [ vK ,(.int .i64 (0))]))::m16
def m18:zCT:=(39,([ vA , vB , vE ,(.bool false)], .int .i64 (0)))::m17
def m19:zCT:=(82,([ vA ,(.agg [(.str [97]),(.str [])]),(.int .i64 (1)),(.int .i64 (0))], .sl 5 [[(.str [97]),(.int .i64 (1)),(.int .i64 (0)),(.int .i64 (4)),(.sl 1 [[(.str [97])]] .no)]] .no))::m18
def m20:zCT:=(266,([ vA ,(.str [97]),(.str [97])], .bool false))::m19
def m21:zCT:=(14,([ vA , vB , vE ], .tuple [(.bool true),(.int .i64 (0))]))::m20
def m22:zCT:=(39,([ vA , vB , vK ,(.bool true)], .int .i64 (0)))::m21
def m23:zCT:=(12,([ vA , vB , vK ], .tuple [(.sl 2 [[(.int .i64 (1)), vJ ]] .no),(.int .i64 (0))]))::m22
def m24:zCT:=(118,([ vA ,(.str [98])], .tuple [(.agg [(.str [98]),(.str [98]),(.int .i64 (1)),(.str [])]),(.bool true)]))::m23
def m25:zCT:=(77,([ vA , vL ], .int .i64 (0)))::m24
def m26:zCT:=(47,([ vA , vC ], .tuple [(.int .i64 (0)),(.int .i64 (0))]))::m25
def m27:zCT:=(24,([ vA , vC ], .tuple [(.sl 1 [[ vD ]] .no),(.sl 1 [[ vG ]] .no),(.int .i64 (0))]))::m26
def m28:zCT:=(39,([ vA , vC , vE ,(.bool true)], .int .i64 (0)))::m27
def m29:zCT:=(13,([ vA , vC , vE ], .tuple [ vH ,(.bool true),(.int .i64 (0))]))::m28
def m30:zCT:=(17,([ vA , vC , vE , vH ], .int .i64 (0)))::m29
def m31:zCT:=(17,([ vA , vC , vE ,(.agg [(.int .i64 (1)), vJ ])], .int .i64 (18)))::m30
def m32:zCT:=(8,([], .bool true))::m31
end Go.V
end
