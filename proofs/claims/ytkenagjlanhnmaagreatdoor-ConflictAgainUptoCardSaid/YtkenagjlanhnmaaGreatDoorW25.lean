/- Closed calls of this program, evaluated by the kernel, part 2. No condition. -/
import Derived.Test.YtkenagjlanhnmaaGreatDoorW22
set_option linter.all false
set_option maxHeartbeats 8000000
namespace Go.V
open Go.Proofs.Tryz
open Go.Proofs
set_option maxRecDepth 100000
def r2:(wP prog tab yh (wS wU m1) 1000 60 [] (.fn (.func 176) [] []) [(.str [98])] HT.emp).map (λr=>zb r.1 r.2.heap)=some (.bool true):=kr
def r6:(wP prog tab yh (wS wU m5) 1000 60 [] (.fn (.func 246) [] []) [ vA ,(.str [97])] HT.emp).map (λr=>zb r.1 r.2.heap)=some (.tuple [(.agg [(.str [97]),(.str [97]),(.int .i64 (1)),(.str [])]),(.bool true)]):=kr
def r7:(wP prog tab yh (wS wU m6) 1000 60 [] (.fn (.func 208) [] []) [ vA ,(.agg [(.int .i64 (0)),(.str [97]),(.str []),(.nilsl)])] HT.emp).map (λr=>zb r.1 r.2.heap)=some (.int .i64 (0)):=kr
def r9:(wP prog tab yh (wS wU m8) 1000 60 [] (.fn (.func 245) [] []) [(.str [121,47,111])] HT.emp).map (λr=>zb r.1 r.2.heap)=some (.int .i64 (0)):=kr
def r12:(wP prog tab yh (wS wU m11) 1000 60 [] (.fn (.func 245) [] []) [ vQ ] HT.emp).map (λr=>zb r.1 r.2.heap)=some (.int .i64 (0)):=kr
def r13:(wP prog tab yh (wS wU m12) 1000 60 [] (.fn (.func 207) [] []) [ vA ,(.agg [(.int .i64 (0)),(.str [120,47,102]), vQ ,(.int .i64 (0)),(.int .i64 (0)),(.int .i64 (0)),(.bool false),(.int .i64 (0)),(.str []),(.str []),(.nilsl),(.nilsl)])] HT.emp).map (λr=>zb r.1 r.2.heap)=some (.int .i64 (0)):=kr
def r19:(wP prog tab yh (wS wU m18) 1000 60 [] (.fn (.func 50) [] []) [ vA , vB ] HT.emp).map (λr=>zb r.1 r.2.heap)=some (.tuple [ vL ,(.int .i64 (0))]):=kr
def r27:(wP prog tab yh (wS wU m26) 1000 60 [] (.fn (.func 74) [] []) [ vA , vB ,(.agg [ vK , vO ]),(.bool true)] HT.emp).map (λr=>zb r.1 r.2.heap)=some (.int .i64 (0)):=kr
def r28:(wP prog tab yh (wS wU m27) 1000 60 [] (.fn (.func 90) [] []) [ vA , vB ,(.agg [ vK , vO ])] HT.emp).map (λr=>zb r.1 r.2.heap)=some (.tuple [(.agg [(.int .i64 (1)), vu ]),(.bool true),(.int .i64 (0))]):=kr
def r30:(wP prog tab yh (wS wU m29) 1000 60 [] (.fn (.func 34) [] []) [ vB , vj ] HT.emp).map (λr=>zb r.1 r.2.heap)=some vF :=kr
def r31:(wP prog tab yh (wS wU m30) 1000 60 [] (.fn (.func 148) [] []) [ vA , vF ] HT.emp).map (λr=>zb r.1 r.2.heap)=some vX :=kr
def r32:(wP prog tab yh (wS wU m31) 1000 60 [] (.fn (.func 87) [] []) [ vA , vF ] HT.emp).map (λr=>zb r.1 r.2.heap)=some vg :=kr
def r33:(wP prog tab yh (wS wU m32) 1000 60 [] (.fn (.func 50) [] []) [ vA , vF ] HT.emp).map (λr=>zb r.1 r.2.heap)=some (.tuple [ vL ,(.int .i64 (0))]):=kr
def r34:(wP prog tab yh (wS wU m33) 1000 60 [] (.fn (.func 19) [] []) [ vA , vF ] HT.emp).map (λr=>zb r.1 r.2.heap)=some vp :=kr
def r37:(wP prog tab yh (wS wU m36) 1000 60 [] (.fn (.func 74) [] []) [ vA , vF ,(.agg [ vK , vP ]),(.bool true)] HT.emp).map (λr=>zb r.1 r.2.heap)=some (.int .i64 (0)):=kr
def r38:(wP prog tab yh (wS wU m37) 1000 60 [] (.fn (.func 90) [] []) [ vA , vF ,(.agg [ vK , vP ])] HT.emp).map (λr=>zb r.1 r.2.heap)=some vS :=kr
def r41:(wP prog tab yh (wS wU m40) 1000 60 [] (.fn (.func 34) [] []) [ vB , vn ] HT.emp).map (λr=>zb r.1 r.2.heap)=some vI :=kr
def r42:(wP prog tab yh (wS wU m41) 1000 60 [] (.fn (.func 148) [] []) [ vA , vI ] HT.emp).map (λr=>zb r.1 r.2.heap)=some vX :=kr
def r43:(wP prog tab yh (wS wU m42) 1000 60 [] (.fn (.func 87) [] []) [ vA , vI ] HT.emp).map (λr=>zb r.1 r.2.heap)=some (.tuple [(.sl 1 [[ vK ]] .no),(.nilsl),(.int .i64 (0))]):=kr
def r44:(wP prog tab yh (wS wU m43) 1000 60 [] (.fn (.func 50) [] []) [ vA , vI ] HT.emp).map (λr=>zb r.1 r.2.heap)=some (.tuple [ vz ,(.int .i64 (0))]):=kr
def r45:(wP prog tab yh (wS wU m44) 1000 60 [] (.fn (.func 19) [] []) [ vA , vI ] HT.emp).map (λr=>zb r.1 r.2.heap)=some (.tuple [(.int .i64 (1)),(.int .i64 (0))]):=kr
def r46:(wP prog tab yh (wS wU m45) 1000 60 [] (.fn (.func 74) [] []) [ vA , vI , v9 ,(.bool true)] HT.emp).map (λr=>zb r.1 r.2.heap)=some (.int .i64 (0)):=kr
def r47:(wP prog tab yh (wS wU m46) 1000 60 [] (.fn (.func 90) [] []) [ vA , vI , v9 ] HT.emp).map (λr=>zb r.1 r.2.heap)=some vS :=kr
def r48:(wP prog tab yh (wS wU m47) 1000 60 [] (.fn (.func 14) [] []) [ vA , vI ] HT.emp).map (λr=>zb r.1 r.2.heap)=some (.tuple [(.agg [(.bool true), vK ,(.nilsl),(.nilsl)]),(.int .i64 (0))]):=kr
def r57:(wP prog tab yh (wS wU m56) 1000 60 [] (.fn (.func 74) [] []) [ vA , vD ,(.agg [ vK , vP ]),(.bool true)] HT.emp).map (λr=>zb r.1 r.2.heap)=some (.int .i64 (0)):=kr
def r58:(wP prog tab yh (wS wU m57) 1000 60 [] (.fn (.func 90) [] []) [ vA , vD ,(.agg [ vK , vP ])] HT.emp).map (λr=>zb r.1 r.2.heap)=some (.tuple [ vY ,(.bool true),(.int .i64 (0))]):=kr
def r63:(wP prog tab yh (wS wU m62) 1000 60 [] (.fn (.func 34) [] []) [ vB , vT ] HT.emp).map (λr=>zb r.1 r.2.heap)=some vC :=kr
def r64:(wP prog tab yh (wS wU m63) 1000 60 [] (.fn (.func 148) [] []) [ vA , vC ] HT.emp).map (λr=>zb r.1 r.2.heap)=some vX :=kr
def r65:(wP prog tab yh (wS wU m64) 1000 60 [] (.fn (.func 87) [] []) [ vA , vC ] HT.emp).map (λr=>zb r.1 r.2.heap)=some vg :=kr
def r66:(wP prog tab yh (wS wU m65) 1000 60 [] (.fn (.func 50) [] []) [ vA , vC ] HT.emp).map (λr=>zb r.1 r.2.heap)=some (.tuple [ vL ,(.int .i64 (0))]):=kr
def r68:(wP prog tab yh (wS wU m67) 1000 60 [] (.fn (.func 74) [] []) [ vA , vC , vU ,(.bool true)] HT.emp).map (λr=>zb r.1 r.2.heap)=some (.int .i64 (0)):=kr
def r69:(wP prog tab yh (wS wU m68) 1000 60 [] (.fn (.func 90) [] []) [ vA , vC , vU ] HT.emp).map (λr=>zb r.1 r.2.heap)=some vS :=kr
def r72:(wP prog tab yh (wS wU m71) 1000 60 [] (.fn (.func 74) [] []) [ vA , vC ,(.agg [ vK , vO ]),(.bool true)] HT.emp).map (λr=>zb r.1 r.2.heap)=some (.int .i64 (0)):=kr
def r73:(wP prog tab yh (wS wU m72) 1000 60 [] (.fn (.func 90) [] []) [ vA , vC ,(.agg [ vK , vO ])] HT.emp).map (λr=>zb r.1 r.2.heap)=some (.tuple [ vh ,(.bool true),(.int .i64 (0))]):=kr
def r76:(wP prog tab yh (wS wU m75) 1000 60 [] (.fn (.func 34) [] []) [ vB , vw ] HT.emp).map (λr=>zb r.1 r.2.heap)=some vE :=kr
def r77:(wP prog tab yh (wS wU m76) 1000 60 [] (.fn (.func 148) [] []) [ vA , vE ] HT.emp).map (λr=>zb r.1 r.2.heap)=some vX :=kr
def r78:(wP prog tab yh (wS wU m77) 1000 60 [] (.fn (.func 87) [] []) [ vA , vE ] HT.emp).map (λr=>zb r.1 r.2.heap)=some (.tuple [(.nilsl),(.sl 1 [[ vQ ]] .no),(.int .i64 (0))]):=kr
def r79:(wP prog tab yh (wS wU m78) 1000 60 [] (.fn (.func 50) [] []) [ vA , vE ] HT.emp).map (λr=>zb r.1 r.2.heap)=some (.tuple [(.agg [(.nilsl),(.sl 1 [[ vQ ]] .no), vR ,(.nilsl), vV ,(.nilsl)]),(.int .i64 (0))]):=kr
def r81:(wP prog tab yh (wS wU m80) 1000 60 [] (.fn (.func 74) [] []) [ vA , vE ,(.agg [(.sl 1 [] .no),(.sl 1 [[(.str [])]] .no)]),(.bool true)] HT.emp).map (λr=>zb r.1 r.2.heap)=some (.int .i64 (0)):=kr
def r82:(wP prog tab yh (wS wU m81) 1000 60 [] (.fn (.func 90) [] []) [ vA , vE ,(.agg [(.sl 1 [] .no),(.sl 1 [[(.str [])]] .no)])] HT.emp).map (λr=>zb r.1 r.2.heap)=some vS :=kr
def r85:(wP prog tab yh (wS wU m84) 1000 60 [] (.fn (.func 74) [] []) [ vA , vE ,(.agg [(.sl 1 [] .no), vO ]),(.bool true)] HT.emp).map (λr=>zb r.1 r.2.heap)=some (.int .i64 (0)):=kr
def r86:(wP prog tab yh (wS wU m85) 1000 60 [] (.fn (.func 90) [] []) [ vA , vE ,(.agg [(.sl 1 [] .no), vO ])] HT.emp).map (λr=>zb r.1 r.2.heap)=some vS :=kr
def r88:(wP prog tab yh (wS wU m87) 1000 60 [] (.fn (.func 47) [] []) [ vA , vB , vw ] HT.emp).map (λr=>zb r.1 r.2.heap)=some (.bool false):=kr
def r97:(wP prog tab yh (wS wU m96) 1000 60 [] (.fn (.func 90) [] []) [ vA , vG ,(.agg [ vK , vP ])] HT.emp).map (λr=>zb r.1 r.2.heap)=some (.tuple [ vq ,(.bool true),(.int .i64 (0))]):=kr
def zO9:(wP prog tab yh (wS wU zJF) 1000 60 [] (.fn (.func 50) [] []) [ vA , vJ ] HT.emp).map (λr=>zb r.1 r.2.heap)=some (.tuple [ vz ,(.int .i64 (0))]):=kr
def zPD:(wP prog tab yh (wS wU zJJ) 1000 60 [] (.fn (.func 14) [] []) [ vA , vJ ] HT.emp).map (λr=>zb r.1 r.2.heap)=some (.tuple [(.agg [(.bool true), vK ,(.nilsl),(.nilsl)]),(.int .i64 (0))]):=kr
def zPN:(wP prog tab yh (wS wU zJT) 1000 60 [] (.fn (.func 14) [] []) [ vA , vH ] HT.emp).map (λr=>zb r.1 r.2.heap)=some (.tuple [(.agg [(.bool true), vK , vP ,(.nilsl)]),(.int .i64 (0))]):=kr
def zPd:(wP prog tab yh (wS wU zJj) 1000 60 [] (.fn (.func 32) [] []) [ vA , vC ,(.agg [(.bool false),(.nilsl),(.nilsl), vM ])] HT.emp).map (λr=>zb r.1 r.2.heap)=some (.int .i64 (0)):=kr
def zPs:(wP prog tab yh (wS wU zJy) 1000 60 [] (.fn (.func 19) [] []) [ vA ,(.nilsl)] HT.emp).map (λr=>zb r.1 r.2.heap)=some (.tuple [(.int .i64 (1)),(.int .i64 (0))]):=kr
def zPu:(wP prog tab yh (wS wU zJ0) 1000 60 [] (.fn (.func 11) [] []) [ vA , vB ,(.agg [(.nilsl),(.nilsl),(.nilsl)])] HT.emp).map (λr=>zb r.1 r.2.heap)=some (.int .i64 (18)):=kr
end Go.V
