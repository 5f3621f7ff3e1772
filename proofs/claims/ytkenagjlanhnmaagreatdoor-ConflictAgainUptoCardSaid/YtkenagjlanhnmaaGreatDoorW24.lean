/- Closed calls of this program, evaluated by the kernel, part 1. No condition. -/
import Derived.Test.YtkenagjlanhnmaaGreatDoorW22
set_option linter.all false
set_option maxHeartbeats 8000000
namespace Go.V
open Go.Proofs.Tryz
open Go.Proofs
set_option maxRecDepth 100000
def r1:(wP prog tab yh (wS wU m0) 1000 60 [] (.fn (.func 176) [] []) [(.str [97])] HT.emp).map (λr=>zb r.1 r.2.heap)=some (.bool true):=kr
def r5:(wP prog tab yh (wS wU m4) 1000 60 [] (.fn (.func 245) [] []) [(.str [120,47,102])] HT.emp).map (λr=>zb r.1 r.2.heap)=some (.int .i64 (0)):=kr
def r8:(wP prog tab yh (wS wU m7) 1000 60 [] (.fn (.func 207) [] []) [ vA , v8 ] HT.emp).map (λr=>zb r.1 r.2.heap)=some (.int .i64 (0)):=kr
def r14:(wP prog tab yh (wS wU m13) 1000 60 [] (.fn (.func 207) [] []) [ vA ,(.agg [(.int .i64 (2)),(.str []), vQ ,(.int .i64 (0)),(.int .i64 (1)),(.int .i64 (0)),(.bool false),(.int .i64 (0)),(.str []),(.str []),(.nilsl),(.nilsl)])] HT.emp).map (λr=>zb r.1 r.2.heap)=some (.int .i64 (0)):=kr
def r16:(wP prog tab yh (wS wU m15) 1000 60 [] (.fn (.func 148) [] []) [ vA , vB ] HT.emp).map (λr=>zb r.1 r.2.heap)=some vX :=kr
def r21:(wP prog tab yh (wS wU m20) 1000 60 [] (.fn (.func 74) [] []) [ vA , vB , vU ,(.bool true)] HT.emp).map (λr=>zb r.1 r.2.heap)=some (.int .i64 (0)):=kr
def r22:(wP prog tab yh (wS wU m21) 1000 60 [] (.fn (.func 364) [] []) [ vA ,(.agg [(.str [97]),(.str [])]),(.int .i64 (1)),(.int .i64 (0))] HT.emp).map (λr=>zb r.1 r.2.heap)=some vV :=kr
def r24:(wP prog tab yh (wS wU m23) 1000 60 [] (.fn (.func 90) [] []) [ vA , vB , vU ] HT.emp).map (λr=>zb r.1 r.2.heap)=some vS :=kr
def r35:(wP prog tab yh (wS wU m34) 1000 60 [] (.fn (.func 74) [] []) [ vA , vF , vU ,(.bool true)] HT.emp).map (λr=>zb r.1 r.2.heap)=some (.int .i64 (0)):=kr
def r36:(wP prog tab yh (wS wU m35) 1000 60 [] (.fn (.func 90) [] []) [ vA , vF , vU ] HT.emp).map (λr=>zb r.1 r.2.heap)=some vS :=kr
def r40:(wP prog tab yh (wS wU m39) 1000 60 [] (.fn (.func 47) [] []) [ vA , vB , vj ] HT.emp).map (λr=>zb r.1 r.2.heap)=some (.bool false):=kr
def r59:(wP prog tab yh (wS wU m58) 1000 60 [] (.fn (.func 74) [] []) [ vA , vD ,(.agg [ vK , vO ]),(.bool true)] HT.emp).map (λr=>zb r.1 r.2.heap)=some (.int .i64 (0)):=kr
def r60:(wP prog tab yh (wS wU m59) 1000 60 [] (.fn (.func 90) [] []) [ vA , vD ,(.agg [ vK , vO ])] HT.emp).map (λr=>zb r.1 r.2.heap)=some vS :=kr
def r67:(wP prog tab yh (wS wU m66) 1000 60 [] (.fn (.func 19) [] []) [ vA , vC ] HT.emp).map (λr=>zb r.1 r.2.heap)=some vp :=kr
def r70:(wP prog tab yh (wS wU m69) 1000 60 [] (.fn (.func 74) [] []) [ vA , vC ,(.agg [ vK , vP ]),(.bool true)] HT.emp).map (λr=>zb r.1 r.2.heap)=some (.int .i64 (0)):=kr
def r71:(wP prog tab yh (wS wU m70) 1000 60 [] (.fn (.func 90) [] []) [ vA , vC ,(.agg [ vK , vP ])] HT.emp).map (λr=>zb r.1 r.2.heap)=some (.tuple [ vY ,(.bool true),(.int .i64 (0))]):=kr
def r74:(wP prog tab yh (wS wU m73) 1000 60 [] (.fn (.func 14) [] []) [ vA , vC ] HT.emp).map (λr=>zb r.1 r.2.heap)=some (.tuple [(.agg [(.bool false),(.nilsl),(.nilsl), vM ]),(.int .i64 (0))]):=kr
def r93:(wP prog tab yh (wS wU m92) 1000 60 [] (.fn (.func 19) [] []) [ vA , vG ] HT.emp).map (λr=>zb r.1 r.2.heap)=some vp :=kr
def r96:(wP prog tab yh (wS wU m95) 1000 60 [] (.fn (.func 74) [] []) [ vA , vG ,(.agg [ vK , vP ]),(.bool true)] HT.emp).map (λr=>zb r.1 r.2.heap)=some (.int .i64 (0)):=kr
def r98:(wP prog tab yh (wS wU m97) 1000 60 [] (.fn (.func 74) [] []) [ vA , vG ,(.agg [ vK , vO ]),(.bool true)] HT.emp).map (λr=>zb r.1 r.2.heap)=some (.int .i64 (0)):=kr
def r99:(wP prog tab yh (wS wU m98) 1000 60 [] (.fn (.func 90) [] []) [ vA , vG ,(.agg [ vK , vO ])] HT.emp).map (λr=>zb r.1 r.2.heap)=some vS :=kr
def zPB:(wP prog tab yh (wS wU zJH) 1000 60 [] (.fn (.func 74) [] []) [ vA , vJ , v9 ,(.bool true)] HT.emp).map (λr=>zb r.1 r.2.heap)=some (.int .i64 (0)):=kr
def zPC:(wP prog tab yh (wS wU zJI) 1000 60 [] (.fn (.func 90) [] []) [ vA , vJ , v9 ] HT.emp).map (λr=>zb r.1 r.2.heap)=some vS :=kr
def zPL:(wP prog tab yh (wS wU zJR) 1000 60 [] (.fn (.func 74) [] []) [ vA , vH ,(.agg [ vK , vP ]),(.bool true)] HT.emp).map (λr=>zb r.1 r.2.heap)=some (.int .i64 (0)):=kr
def zPM:(wP prog tab yh (wS wU zJS) 1000 60 [] (.fn (.func 90) [] []) [ vA , vH ,(.agg [ vK , vP ])] HT.emp).map (λr=>zb r.1 r.2.heap)=some vS :=kr
def zPP:(wP prog tab yh (wS wU zJV) 1000 60 [] (.fn (.func 18) [] []) [ vA , vF ] HT.emp).map (λr=>zb r.1 r.2.heap)=some (.tuple [(.agg [(.nilsl),(.nilsl),(.nilsl)]),(.int .i64 (14))]):=kr
def zPQ:(wP prog tab yh (wS wU zJW) 1000 60 [] (.fn (.func 34) [] []) [ vB ,(.sl 1 [[(.int .i64 (2))]] .no)] HT.emp).map (λr=>zb r.1 r.2.heap)=some vd :=kr
def zPS:(wP prog tab yh (wS wU zJY) 1000 60 [] (.fn (.func 148) [] []) [ vA , vN ] HT.emp).map (λr=>zb r.1 r.2.heap)=some vX :=kr
def zPT:(wP prog tab yh (wS wU zJZ) 1000 60 [] (.fn (.func 87) [] []) [ vA , vN ] HT.emp).map (λr=>zb r.1 r.2.heap)=some (.tuple [(.nilsl),(.nilsl),(.int .i64 (0))]):=kr
def zPV:(wP prog tab yh (wS wU zJb) 1000 60 [] (.fn (.func 19) [] []) [ vA , vN ] HT.emp).map (λr=>zb r.1 r.2.heap)=some (.tuple [(.int .i64 (1)),(.int .i64 (0))]):=kr
def zPY:(wP prog tab yh (wS wU zJe) 1000 60 [] (.fn (.func 14) [] []) [ vA , vN ] HT.emp).map (λr=>zb r.1 r.2.heap)=some (.tuple [(.agg [(.bool true),(.nilsl),(.nilsl),(.nilsl)]),(.int .i64 (0))]):=kr
def zPa:(wP prog tab yh (wS wU zJg) 1000 60 [] (.fn (.func 13) [] []) [ vB , vT ] HT.emp).map (λr=>zb r.1 r.2.heap)=some (.tuple [ vC ,(.int .i64 (0))]):=kr
def zPb:(wP prog tab yh (wS wU zJh) 1000 60 [] (.fn (.func 123) [] []) [ vA , vC ,(.agg [ vK , vP ]), vY ] HT.emp).map (λr=>zb r.1 r.2.heap)=some (.int .i64 (0)):=kr
def zPe:(wP prog tab yh (wS wU zJk) 1000 60 [] (.fn (.func 74) [] []) [ vA , vE ,(.agg [(.nilsl), vO ]),(.bool false)] HT.emp).map (λr=>zb r.1 r.2.heap)=some (.int .i64 (0)):=kr
def zPf:(wP prog tab yh (wS wU zJl) 1000 60 [] (.fn (.func 33) [] []) [ vA , vE ,(.agg [(.nilsl), vO ])] HT.emp).map (λr=>zb r.1 r.2.heap)=some (.tuple [(.bool true),(.int .i64 (0))]):=kr
def zPg:(wP prog tab yh (wS wU zJm) 1000 60 [] (.fn (.func 74) [] []) [ vA , vG ,(.agg [ vK , vO ]),(.bool false)] HT.emp).map (λr=>zb r.1 r.2.heap)=some (.int .i64 (0)):=kr
def zPh:(wP prog tab yh (wS wU zJn) 1000 60 [] (.fn (.func 33) [] []) [ vA , vG ,(.agg [ vK , vO ])] HT.emp).map (λr=>zb r.1 r.2.heap)=some (.tuple [(.bool true),(.int .i64 (0))]):=kr
def zPk:(wP prog tab yh (wS wU zJq) 1000 60 [] (.fn (.func 74) [] []) [ vA , vH ,(.agg [ vK , vP ]),(.bool false)] HT.emp).map (λr=>zb r.1 r.2.heap)=some (.int .i64 (0)):=kr
def zPl:(wP prog tab yh (wS wU zJr) 1000 60 [] (.fn (.func 33) [] []) [ vA , vH ,(.agg [ vK , vP ])] HT.emp).map (λr=>zb r.1 r.2.heap)=some (.tuple [(.bool true),(.int .i64 (0))]):=kr
def zPn:(wP prog tab yh (wS wU zJt) 1000 60 [] (.fn (.func 34) [] []) [ vB ,(.nilsl)] HT.emp).map (λr=>zb r.1 r.2.heap)=some (.nilsl):=kr
def zPo:(wP prog tab yh (wS wU zJu) 1000 60 [] (.fn (.func 13) [] []) [ vB ,(.nilsl)] HT.emp).map (λr=>zb r.1 r.2.heap)=some (.tuple [(.nilsl),(.int .i64 (0))]):=kr
def zPp:(wP prog tab yh (wS wU zJv) 1000 60 [] (.fn (.func 148) [] []) [ vA ,(.nilsl)] HT.emp).map (λr=>zb r.1 r.2.heap)=some vX :=kr
def zPq:(wP prog tab yh (wS wU zJw) 1000 60 [] (.fn (.func 87) [] []) [ vA ,(.nilsl)] HT.emp).map (λr=>zb r.1 r.2.heap)=some (.tuple [(.nilsl),(.nilsl),(.int .i64 (0))]):=kr
def zPr:(wP prog tab yh (wS wU zJx) 1000 60 [] (.fn (.func 50) [] []) [ vA ,(.nilsl)] HT.emp).map (λr=>zb r.1 r.2.heap)=some (.tuple [(.agg [(.nilsl),(.nilsl), vR ,(.nilsl), vV ,(.nilsl)]),(.int .i64 (0))]):=kr
def zPt:(wP prog tab yh (wS wU zJz) 1000 60 [] (.fn (.func 32) [] []) [ vA ,(.nilsl),(.agg [(.bool false),(.nilsl),(.nilsl),(.nilsl)])] HT.emp).map (λr=>zb r.1 r.2.heap)=some (.int .i64 (18)):=kr
def zPv:(wP prog tab yh (wS wU zJ1) 1000 60 [] (.fn (.func 8) [] []) [] HT.emp).map (λr=>zb r.1 r.2.heap)=some (.bool true):=kr
end Go.V
