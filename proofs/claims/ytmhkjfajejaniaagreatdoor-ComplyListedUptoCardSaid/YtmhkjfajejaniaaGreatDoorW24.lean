/- A list of closed calls of this program and their results, part 1. No condition. -/
import Derived.Test.YtmhkjfajejaniaaGreatDoorW18
import Derived.Test.YtmhkjfajejaniaaGreatDoorW19
import Derived.KernelRfl
set_option linter.unusedSimpArgs false
set_option linter.unusedVariables false
set_option linter.constructorNameAsVariable false
set_option linter.deprecated false
namespace Go.V
noncomputable def vA:D:=.agg [(.sl 4 [[(.str [97]),(.str [97]),(.int .i64 (1)),(.str [])],[(.str [98]),(.str [98]),(.int .i64 (1)),(.str [])]] .no),(.nilsl),(.sl 5 [[(.str [97]),(.int .i64 (1)),(.int .i64 (0)),(.int .i64 (4)),(.sl 1 [[(.str [97])]] .no)]] .no),(.nilsl)]
noncomputable def vD:D:=.sl 1 [[(.sl 2 [[(.str [97]),(.str [])]] .no)]] .no
noncomputable def vE:D:=.agg [ vD ,(.sl 1 [[(.str [97])]] .no)]
noncomputable def vG:D:=.str [120,47,111,117,116]
noncomputable def vB:D:=.sl 12 [[(.int .i64 (1)),(.str [120,47,102]),(.str []),(.int .i64 (0)),(.int .i64 (0)),(.int .i64 (0)),(.bool false),(.int .i64 (0)),(.str [97]),(.str []),(.nilsl),(.nilsl)],[(.int .i64 (0)),(.str [120,47,102]),vG,(.int .i64 (0)),(.int .i64 (0)),(.int .i64 (0)),(.bool false),(.int .i64 (0)),(.str []),(.str []),(.nilsl),(.nilsl)],[(.int .i64 (2)),(.str []),vG,(.int .i64 (0)),(.int .i64 (1)),(.int .i64 (0)),(.bool false),(.int .i64 (0)),(.str []),(.str []),(.nilsl),(.nilsl)]] .no
noncomputable def vC:D:=.sl 12 [[(.int .i64 (1)),(.str [120,47,102]),(.str []),(.int .i64 (0)),(.int .i64 (0)),(.int .i64 (0)),(.bool false),(.int .i64 (0)),(.str [97]),(.str []),(.nilsl),(.nilsl)],[(.int .i64 (0)),(.str [120,47,102]),vG,(.int .i64 (0)),(.int .i64 (0)),(.int .i64 (0)),(.bool false),(.int .i64 (0)),(.str []),(.str []),(.nilsl),(.nilsl)],[(.int .i64 (2)),(.str []),vG,(.int .i64 (0)),(.int .i64 (1)),(.int .i64 (0)),(.bool false),(.int .i64 (0)),(.str []),(.str []),(.nilsl),(.nilsl)],[(.int .i64 (3)),(.str []),vG,(.int .i64 (0)),(.int .i64 (0)),(.int .i64 (0)),(.bool false),(.int .i64 (0)),(.str []),(.str []),(.nilsl),(.sl 1 [[(.str [98])]] .no)]] .no
noncomputable def vF:D:=.agg [(.sl 1 [[ vD ]] .no),(.sl 1 [[vG]] .no),(.sl 4 [[(.str [97]),(.str [97]),(.int .i64 (1)),(.str [])],[(.str [98]),(.str [98]),(.int .i64 (1)),(.str [])]] .no),(.nilsl),(.sl 5 [[(.str [97]),(.int .i64 (1)),(.int .i64 (0)),(.int .i64 (4)),(.sl 1 [[(.str [97])]] .no)]] .no),(.nilsl)]
noncomputable def vH:D:=.agg [(.int .i64 (4)),(.sl 1 [[(.int .i64 (2))],[(.int .i64 (3))]] .no)]
noncomputable def vI:D:=.str [108,105,99,101,110,115,101,32,97,32,97,32,49,32,48,10,108,105,99,101,110,115,101,32,98,32,98,32,49,32,48,10,99,108,97,117,115,101,32,97,32,98,105,110,97,114,121,32,105,110,32,115,104,97,114,101,32,97,10]
noncomputable def vJ:D:=.sl 1 [[(.int .i64 (0))],[(.int .i64 (1))],[(.int .i64 (2))]] .no
noncomputable def vK:D:=.agg [ vD ,(.sl 1 [[(.str [98])]] .no)]
noncomputable def vL:D:=.agg [(.int .i64 (3)),(.str []), vG ,(.int .i64 (0)),(.int .i64 (0)),(.int .i64 (0)),(.bool false),(.int .i64 (0)),(.str []),(.str []),(.nilsl),(.sl 1 [[(.str [98])]] .no)]
noncomputable def vM:D:=.agg [(.int .i64 (1)),(.str [120,47,102]),(.str []),(.int .i64 (0)),(.int .i64 (0)),(.int .i64 (0)),(.bool false),(.int .i64 (0)),(.str [97]),(.str []),(.nilsl),(.nilsl)]
noncomputable def vN:D:=.agg [(.int .i64 (0)),(.str [120,47,102]), vG ,(.int .i64 (0)),(.int .i64 (0)),(.int .i64 (0)),(.bool false),(.int .i64 (0)),(.str []),(.str []),(.nilsl),(.nilsl)]
noncomputable def vO:D:=.agg [(.int .i64 (0)),(.str [97]),(.str []),(.nilsl)]
noncomputable def vP:D:=.agg [(.int .i64 (2)),(.str []), vG ,(.int .i64 (0)),(.int .i64 (1)),(.int .i64 (0)),(.bool false),(.int .i64 (0)),(.str []),(.str []),(.nilsl),(.nilsl)]
open Go.Proofs
noncomputable def zDM (g:FuncId) (args:List D) (hp:Nat→Option Obj):zUk:=
 match Nat.beq g 130 with
 |true=>zLd (zGb args)
 |false=>
  match Nat.beq g 131 with
  |true=>zLd (zEc args)
  |false=>
   match Nat.beq g 188 with
   |true=>zLd (zEc args)
   |false=>
    match Nat.beq g 189 with
    |true=>zLd (zKV args)
    |false=>
     none
noncomputable def wR (g:FuncId):Bool:=List.contains (α:=Nat) [33,48,24,36,11,12,13,136,137,135,38,68,64,47,82,266,117,78,118,14,17,39] g
noncomputable def m0:zCA:=[]
noncomputable def m1:zCA:=(147,([(.str [97])], .bool true))::m0
noncomputable def m2:zCA:=(147,([(.str [98])], .bool true))::m1
noncomputable def m3:zCA:=(64,([ vA ], .int .i64 (0)))::m2
noncomputable def m4:zCA:=(33,([ vI ], .tuple [ vA ,(.int .i64 (0)),(.int .i64 (0))]))::m3
noncomputable def m5:zCA:=(117,([(.str [120,47,102])], .int .i64 (0)))::m4
noncomputable def m6:zCA:=(118,([ vA ,(.str [97])], .tuple [(.agg [(.str [97]),(.str [97]),(.int .i64 (1)),(.str [])]),(.bool true)]))::m5
noncomputable def m7:zCA:=(78,([ vA , vO ], .int .i64 (0)))::m6
noncomputable def m8:zCA:=(77,([ vA , vM ], .int .i64 (0)))::m7
noncomputable def m9:zCA:=(117,([ vG ], .int .i64 (0)))::m8
noncomputable def m10:zCA:=(77,([ vA , vN ], .int .i64 (0)))::m9
noncomputable def m11:zCA:=(77,([ vA , vP ], .int .i64 (0)))::m10
noncomputable def m12:zCA:=(47,([ vA , vB ], .tuple [(.int .i64 (0)),(.int .i64 (0))]))::m11
noncomputable def m13:zCA:=(48,([ vA , vO ], .tuple [ vD ,(.int .i64 (0))]))::m12
noncomputable def m14:zCA:=(24,([ vA , vB ], .tuple [(.sl 1 [[ vD ]] .no),(.sl 1 [[ vG ]] .no),(.int .i64 (0))]))::m13
noncomputable def m15:zCA:=(36,([ vA , vB ], .tuple [ vF ,(.int .i64 (0))]))::m14
noncomputable def m16:zCA:=(11,([ vA , vB ,(.int .i64 (0))], .tuple [ vE ,(.int .i64 (0))]))::m15
noncomputable def m17:zCA:=(11,([ vA , vB ,(.int .i64 (1))], .tuple [ vK ,(.int .i64 (0))]))::m16
noncomputable def m18:zCA:=(39,([ vA , vB , vE ,(.bool false)], .int .i64 (0)))::m17
noncomputable def m19:zCA:=(82,([ vA ,(.agg [(.str [97]),(.str [])]),(.int .i64 (1)),(.int .i64 (0))], .sl 5 [[(.str [97]),(.int .i64 (1)),(.int .i64 (0)),(.int .i64 (4)),(.sl 1 [[(.str [97])]] .no)]] .no))::m18
noncomputable def m20:zCA:=(266,([ vA ,(.str [97]),(.str [97])], .bool false))::m19
noncomputable def m21:zCA:=(14,([ vA , vB , vE ], .tuple [(.bool true),(.int .i64 (0))]))::m20
noncomputable def m22:zCA:=(39,([ vA , vB , vK ,(.bool true)], .int .i64 (0)))::m21
noncomputable def m23:zCA:=(12,([ vA , vB , vK ], .tuple [(.sl 2 [[(.int .i64 (1)), vJ ]] .no),(.int .i64 (0))]))::m22
noncomputable def m24:zCA:=(118,([ vA ,(.str [98])], .tuple [(.agg [(.str [98]),(.str [98]),(.int .i64 (1)),(.str [])]),(.bool true)]))::m23
noncomputable def m25:zCA:=(77,([ vA , vL ], .int .i64 (0)))::m24
noncomputable def m26:zCA:=(47,([ vA , vC ], .tuple [(.int .i64 (0)),(.int .i64 (0))]))::m25
noncomputable def m27:zCA:=(24,([ vA , vC ], .tuple [(.sl 1 [[ vD ]] .no),(.sl 1 [[ vG ]] .no),(.int .i64 (0))]))::m26
noncomputable def m28:zCA:=(39,([ vA , vC , vE ,(.bool true)], .int .i64 (0)))::m27
noncomputable def m29:zCA:=(13,([ vA , vC , vE ], .tuple [ vH ,(.bool true),(.int .i64 (0))]))::m28
noncomputable def m30:zCA:=(17,([ vA , vC , vE , vH ], .int .i64 (0)))::m29
noncomputable def m31:zCA:=(17,([ vA , vC , vE ,(.agg [(.int .i64 (1)), vJ ])], .int .i64 (18)))::m30
noncomputable def m32:zCA:=(8,([], .bool true))::m31
end Go.V
