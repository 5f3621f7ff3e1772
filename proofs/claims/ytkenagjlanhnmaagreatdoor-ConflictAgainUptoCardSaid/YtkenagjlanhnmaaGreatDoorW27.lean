/- Closed calls of this program, evaluated by the kernel, part 4. No condition. -/
import Derived.Test.YtkenagjlanhnmaaGreatDoorW22
set_option linter.all false
set_option maxHeartbeats 8000000
namespace Go.V
open Go.Proofs.Tryz
open Go.Proofs
set_option maxRecDepth 100000
def r4:(wP prog tab yh (wS wU m3) 1000 60 [] (.fn (.func 26) [] []) [ vt ] HT.emp).map (λr=>zb r.1 r.2.heap)=some (.tuple [ vA ,(.int .i64 (0)),(.int .i64 (0))]):=kr
def r20:(wP prog tab yh (wS wU m19) 1000 60 [] (.fn (.func 19) [] []) [ vA , vB ] HT.emp).map (λr=>zb r.1 r.2.heap)=some vp :=kr
def r29:(wP prog tab yh (wS wU m28) 1000 60 [] (.fn (.func 14) [] []) [ vA , vB ] HT.emp).map (λr=>zb r.1 r.2.heap)=some (.tuple [ vZ ,(.int .i64 (0))]):=kr
def r50:(wP prog tab yh (wS wU m49) 1000 60 [] (.fn (.func 34) [] []) [ vB , vo ] HT.emp).map (λr=>zb r.1 r.2.heap)=some vD :=kr
def r51:(wP prog tab yh (wS wU m50) 1000 60 [] (.fn (.func 148) [] []) [ vA , vD ] HT.emp).map (λr=>zb r.1 r.2.heap)=some vX :=kr
def r52:(wP prog tab yh (wS wU m51) 1000 60 [] (.fn (.func 87) [] []) [ vA , vD ] HT.emp).map (λr=>zb r.1 r.2.heap)=some vg :=kr
def r53:(wP prog tab yh (wS wU m52) 1000 60 [] (.fn (.func 50) [] []) [ vA , vD ] HT.emp).map (λr=>zb r.1 r.2.heap)=some (.tuple [ vL ,(.int .i64 (0))]):=kr
def r54:(wP prog tab yh (wS wU m53) 1000 60 [] (.fn (.func 19) [] []) [ vA , vD ] HT.emp).map (λr=>zb r.1 r.2.heap)=some vp :=kr
def r55:(wP prog tab yh (wS wU m54) 1000 60 [] (.fn (.func 74) [] []) [ vA , vD , vU ,(.bool true)] HT.emp).map (λr=>zb r.1 r.2.heap)=some (.int .i64 (0)):=kr
def r56:(wP prog tab yh (wS wU m55) 1000 60 [] (.fn (.func 90) [] []) [ vA , vD , vU ] HT.emp).map (λr=>zb r.1 r.2.heap)=some vS :=kr
def r62:(wP prog tab yh (wS wU m61) 1000 60 [] (.fn (.func 47) [] []) [ vA , vB , vo ] HT.emp).map (λr=>zb r.1 r.2.heap)=some (.bool false):=kr
def r80:(wP prog tab yh (wS wU m79) 1000 60 [] (.fn (.func 19) [] []) [ vA , vE ] HT.emp).map (λr=>zb r.1 r.2.heap)=some vp :=kr
def r83:(wP prog tab yh (wS wU m82) 1000 60 [] (.fn (.func 74) [] []) [ vA , vE ,(.agg [(.sl 1 [] .no), vP ]),(.bool true)] HT.emp).map (λr=>zb r.1 r.2.heap)=some (.int .i64 (0)):=kr
def r84:(wP prog tab yh (wS wU m83) 1000 60 [] (.fn (.func 90) [] []) [ vA , vE ,(.agg [(.sl 1 [] .no), vP ])] HT.emp).map (λr=>zb r.1 r.2.heap)=some (.tuple [ vq ,(.bool true),(.int .i64 (0))]):=kr
def r87:(wP prog tab yh (wS wU m86) 1000 60 [] (.fn (.func 14) [] []) [ vA , vE ] HT.emp).map (λr=>zb r.1 r.2.heap)=some (.tuple [(.agg [(.bool true),(.nilsl), vO ,(.nilsl)]),(.int .i64 (0))]):=kr
def r89:(wP prog tab yh (wS wU m88) 1000 60 [] (.fn (.func 34) [] []) [ vB ,(.sl 1 [[(.int .i64 (0))],[(.int .i64 (3))],[(.int .i64 (4))]] .no)] HT.emp).map (λr=>zb r.1 r.2.heap)=some vG :=kr
def r90:(wP prog tab yh (wS wU m89) 1000 60 [] (.fn (.func 148) [] []) [ vA , vG ] HT.emp).map (λr=>zb r.1 r.2.heap)=some vX :=kr
def r91:(wP prog tab yh (wS wU m90) 1000 60 [] (.fn (.func 87) [] []) [ vA , vG ] HT.emp).map (λr=>zb r.1 r.2.heap)=some vg :=kr
def r92:(wP prog tab yh (wS wU m91) 1000 60 [] (.fn (.func 50) [] []) [ vA , vG ] HT.emp).map (λr=>zb r.1 r.2.heap)=some (.tuple [ vL ,(.int .i64 (0))]):=kr
def r94:(wP prog tab yh (wS wU m93) 1000 60 [] (.fn (.func 74) [] []) [ vA , vG , vU ,(.bool true)] HT.emp).map (λr=>zb r.1 r.2.heap)=some (.int .i64 (0)):=kr
def r95:(wP prog tab yh (wS wU m94) 1000 60 [] (.fn (.func 90) [] []) [ vA , vG , vU ] HT.emp).map (λr=>zb r.1 r.2.heap)=some vS :=kr
def zO6:(wP prog tab yh (wS wU zJC) 1000 60 [] (.fn (.func 34) [] []) [ vB ,(.sl 1 [[(.int .i64 (0))],[(.int .i64 (2))],[(.int .i64 (4))]] .no)] HT.emp).map (λr=>zb r.1 r.2.heap)=some vJ :=kr
def zO7:(wP prog tab yh (wS wU zJD) 1000 60 [] (.fn (.func 148) [] []) [ vA , vJ ] HT.emp).map (λr=>zb r.1 r.2.heap)=some vX :=kr
def zO8:(wP prog tab yh (wS wU zJE) 1000 60 [] (.fn (.func 87) [] []) [ vA , vJ ] HT.emp).map (λr=>zb r.1 r.2.heap)=some (.tuple [(.sl 1 [[ vK ]] .no),(.nilsl),(.int .i64 (0))]):=kr
def zPA:(wP prog tab yh (wS wU zJG) 1000 60 [] (.fn (.func 19) [] []) [ vA , vJ ] HT.emp).map (λr=>zb r.1 r.2.heap)=some (.tuple [(.int .i64 (1)),(.int .i64 (0))]):=kr
def zPE:(wP prog tab yh (wS wU zJK) 1000 60 [] (.fn (.func 34) [] []) [ vB , vu ] HT.emp).map (λr=>zb r.1 r.2.heap)=some vH :=kr
def zPF:(wP prog tab yh (wS wU zJL) 1000 60 [] (.fn (.func 148) [] []) [ vA , vH ] HT.emp).map (λr=>zb r.1 r.2.heap)=some vX :=kr
def zPG:(wP prog tab yh (wS wU zJM) 1000 60 [] (.fn (.func 87) [] []) [ vA , vH ] HT.emp).map (λr=>zb r.1 r.2.heap)=some vg :=kr
def zPH:(wP prog tab yh (wS wU zJN) 1000 60 [] (.fn (.func 50) [] []) [ vA , vH ] HT.emp).map (λr=>zb r.1 r.2.heap)=some (.tuple [ vL ,(.int .i64 (0))]):=kr
def zPI:(wP prog tab yh (wS wU zJO) 1000 60 [] (.fn (.func 19) [] []) [ vA , vH ] HT.emp).map (λr=>zb r.1 r.2.heap)=some vp :=kr
def zPJ:(wP prog tab yh (wS wU zJP) 1000 60 [] (.fn (.func 74) [] []) [ vA , vH , vU ,(.bool true)] HT.emp).map (λr=>zb r.1 r.2.heap)=some (.int .i64 (0)):=kr
def zPK:(wP prog tab yh (wS wU zJQ) 1000 60 [] (.fn (.func 90) [] []) [ vA , vH , vU ] HT.emp).map (λr=>zb r.1 r.2.heap)=some vS :=kr
def zPO:(wP prog tab yh (wS wU zJU) 1000 60 [] (.fn (.func 18) [] []) [ vA , vB ] HT.emp).map (λr=>zb r.1 r.2.heap)=some (.tuple [(.agg [ vT , vM , ve ]),(.int .i64 (0))]):=kr
end Go.V
