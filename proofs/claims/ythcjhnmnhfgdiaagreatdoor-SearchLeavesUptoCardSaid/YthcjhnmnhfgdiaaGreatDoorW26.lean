/- Closed calls of this program, evaluated by the kernel, part 4. No condition. -/
import Derived.Test.YthcjhnmnhfgdiaaGreatDoorW22
set_option linter.all false
set_option maxHeartbeats 8000000
namespace Go.V
open Go.Proofs.Tryz
open Go.Proofs
set_option maxRecDepth 100000
def r4:(tA prog tab qR (tc tu m3) 1000 60 [] (.fn (.func 24) [] []) [ vM ] HT.emp).map (λr=>zm r.1 r.2.heap)=some (.tuple [ vB ,(.int .i64 (0)),(.int .i64 (0))]):=by kernel_rfl
def r18:(tA prog tab qR (tc tu m17) 1000 60 [] (.fn (.func 63) [] []) [ vB , vA ] HT.emp).map (λr=>zm r.1 r.2.heap)=some (.tuple [(.int .i64 (2)),(.int .i64 (0))]):=by kernel_rfl
def r27:(tA prog tab qR (tc tu m26) 1000 60 [] (.fn (.func 19) [] []) [ vB , vA ] HT.emp).map (λr=>zm r.1 r.2.heap)=some (.tuple [ vU ,(.int .i64 (0))]):=by kernel_rfl
def r47:(tA prog tab qR (tc tu m46) 1000 60 [] (.fn (.func 8) [] []) [] HT.emp).map (λr=>zm r.1 r.2.heap)=some (.bool true):=by kernel_rfl
end Go.V
