/- Closed calls of this program, evaluated by the kernel, part 3. No condition. -/
import Derived.Test.YtkenagjlanhnmaaGreatDoorW22
set_option linter.all false
set_option maxHeartbeats 8000000
namespace Go.V
open Go.Proofs.Tryz
open Go.Proofs
set_option maxRecDepth 100000
def r3:(wP prog tab yh (wS wU m2) 1000 60 [] (.fn (.func 69) [] []) [ vA ] HT.emp).map (λr=>zb r.1 r.2.heap)=some (.int .i64 (0)):=kr
def r10:(wP prog tab yh (wS wU m9) 1000 60 [] (.fn (.func 246) [] []) [ vA ,(.str [98])] HT.emp).map (λr=>zb r.1 r.2.heap)=some (.tuple [(.agg [(.str [98]),(.str [98]),(.int .i64 (1)),(.str [])]),(.bool true)]):=kr
def r11:(wP prog tab yh (wS wU m10) 1000 60 [] (.fn (.func 207) [] []) [ vA ,(.agg [(.int .i64 (3)),(.str []),(.str [121,47,111]),(.int .i64 (0)),(.int .i64 (0)),(.int .i64 (0)),(.bool false),(.int .i64 (0)),(.str []),(.str []),(.nilsl), vO ])] HT.emp).map (λr=>zb r.1 r.2.heap)=some (.int .i64 (0)):=kr
def r15:(wP prog tab yh (wS wU m14) 1000 60 [] (.fn (.func 207) [] []) [ vA ,(.agg [(.int .i64 (3)),(.str []), vQ ,(.int .i64 (0)),(.int .i64 (0)),(.int .i64 (0)),(.bool false),(.int .i64 (0)),(.str []),(.str []),(.nilsl), vO ])] HT.emp).map (λr=>zb r.1 r.2.heap)=some (.int .i64 (0)):=kr
def r17:(wP prog tab yh (wS wU m16) 1000 60 [] (.fn (.func 149) [] []) [ vA ,(.agg [(.int .i64 (0)),(.str [97]),(.str []),(.nilsl)])] HT.emp).map (λr=>zb r.1 r.2.heap)=some (.tuple [ vK ,(.int .i64 (0))]):=kr
def r18:(wP prog tab yh (wS wU m17) 1000 60 [] (.fn (.func 87) [] []) [ vA , vB ] HT.emp).map (λr=>zb r.1 r.2.heap)=some vg :=kr
def r23:(wP prog tab yh (wS wU m22) 1000 60 [] (.fn (.func 366) [] []) [ vA ,(.str [97]),(.str [97])] HT.emp).map (λr=>zb r.1 r.2.heap)=some (.bool false):=kr
def r25:(wP prog tab yh (wS wU m24) 1000 60 [] (.fn (.func 74) [] []) [ vA , vB ,(.agg [ vK , vP ]),(.bool true)] HT.emp).map (λr=>zb r.1 r.2.heap)=some (.int .i64 (0)):=kr
def r26:(wP prog tab yh (wS wU m25) 1000 60 [] (.fn (.func 90) [] []) [ vA , vB ,(.agg [ vK , vP ])] HT.emp).map (λr=>zb r.1 r.2.heap)=some (.tuple [(.agg [(.int .i64 (4)),(.sl 1 [[(.int .i64 (3))],[(.int .i64 (4))]] .no)]),(.bool true),(.int .i64 (0))]):=kr
def r39:(wP prog tab yh (wS wU m38) 1000 60 [] (.fn (.func 14) [] []) [ vA , vF ] HT.emp).map (λr=>zb r.1 r.2.heap)=some (.tuple [(.agg [(.bool true), vK , vP ,(.nilsl)]),(.int .i64 (0))]):=kr
def r49:(wP prog tab yh (wS wU m48) 1000 60 [] (.fn (.func 47) [] []) [ vA , vB , vn ] HT.emp).map (λr=>zb r.1 r.2.heap)=some (.bool false):=kr
def r61:(wP prog tab yh (wS wU m60) 1000 60 [] (.fn (.func 14) [] []) [ vA , vD ] HT.emp).map (λr=>zb r.1 r.2.heap)=some (.tuple [(.agg [(.bool true), vK , vO ,(.nilsl)]),(.int .i64 (0))]):=kr
def r75:(wP prog tab yh (wS wU m74) 1000 60 [] (.fn (.func 47) [] []) [ vA , vB , vT ] HT.emp).map (λr=>zb r.1 r.2.heap)=some (.bool true):=kr
def zO5:(wP prog tab yh (wS wU m99) 1000 60 [] (.fn (.func 14) [] []) [ vA , vG ] HT.emp).map (λr=>zb r.1 r.2.heap)=some (.tuple [(.agg [(.bool true), vK , vO ,(.nilsl)]),(.int .i64 (0))]):=kr
def zPR:(wP prog tab yh (wS wU zJX) 1000 60 [] (.fn (.func 13) [] []) [ vB ,(.sl 1 [[(.int .i64 (2))]] .no)] HT.emp).map (λr=>zb r.1 r.2.heap)=some (.tuple [ vd ,(.int .i64 (0))]):=kr
def zPU:(wP prog tab yh (wS wU zJa) 1000 60 [] (.fn (.func 50) [] []) [ vA , vN ] HT.emp).map (λr=>zb r.1 r.2.heap)=some (.tuple [(.agg [(.nilsl),(.nilsl), vR ,(.nilsl), vV ,(.nilsl)]),(.int .i64 (0))]):=kr
def zPW:(wP prog tab yh (wS wU zJc) 1000 60 [] (.fn (.func 74) [] []) [ vA , vN ,(.agg [(.sl 1 [] .no),(.sl 1 [] .no)]),(.bool true)] HT.emp).map (λr=>zb r.1 r.2.heap)=some (.int .i64 (0)):=kr
def zPX:(wP prog tab yh (wS wU zJd) 1000 60 [] (.fn (.func 90) [] []) [ vA , vN ,(.agg [(.sl 1 [] .no),(.sl 1 [] .no)])] HT.emp).map (λr=>zb r.1 r.2.heap)=some vS :=kr
def zPZ:(wP prog tab yh (wS wU zJf) 1000 60 [] (.fn (.func 21) [] []) [ vA , vB ] HT.emp).map (λr=>zb r.1 r.2.heap)=some (.tuple [(.sl 3 [[ vT , vM , ve ]] .no),(.int .i64 (0))]):=kr
def zPc:(wP prog tab yh (wS wU zJi) 1000 60 [] (.fn (.func 123) [] []) [ vA , vC ,(.agg [ vK , vO ]), vh ] HT.emp).map (λr=>zb r.1 r.2.heap)=some (.int .i64 (0)):=kr
def zPi:(wP prog tab yh (wS wU zJo) 1000 60 [] (.fn (.func 74) [] []) [ vA , vJ ,(.agg [ vK ,(.nilsl)]),(.bool false)] HT.emp).map (λr=>zb r.1 r.2.heap)=some (.int .i64 (0)):=kr
def zPj:(wP prog tab yh (wS wU zJp) 1000 60 [] (.fn (.func 33) [] []) [ vA , vJ ,(.agg [ vK ,(.nilsl)])] HT.emp).map (λr=>zb r.1 r.2.heap)=some (.tuple [(.bool true),(.int .i64 (0))]):=kr
def zPm:(wP prog tab yh (wS wU zJs) 1000 60 [] (.fn (.func 11) [] []) [ vA , vB ,(.agg [ vT , vM , ve ])] HT.emp).map (λr=>zb r.1 r.2.heap)=some (.int .i64 (0)):=kr
end Go.V
