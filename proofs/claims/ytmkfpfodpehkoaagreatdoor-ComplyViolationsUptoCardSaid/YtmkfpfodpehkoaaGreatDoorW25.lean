/- Closed calls of this program, evaluated by the kernel, part 3. No condition. -/
import Derived.Test.YtmkfpfodpehkoaaGreatDoorW22
set_option linter.all false
set_option maxHeartbeats 8000000
namespace Go.V
open Go.Proofs.Tryz
open Go.Proofs
set_option maxRecDepth 100000
def r3:(jZ prog tab pH (gI fQ m2) 1000 60 [] (.fn (.func 42) [] []) [ vA ] HT.emp).map (λr=>wN r.1 r.2.heap)=some (.int .i64 (0)):=kr
def r10:(jZ prog tab pH (gI fQ m9) 1000 60 [] (.fn (.func 146) [] []) [ vA , vN ] HT.emp).map (λr=>wN r.1 r.2.heap)=some (.int .i64 (0)):=kr
def r13:(jZ prog tab pH (gI fQ m12) 1000 60 [] (.fn (.func 96) [] []) [ vA , vO ] HT.emp).map (λr=>wN r.1 r.2.heap)=some (.tuple [ vD ,(.int .i64 (0))]):=kr
def r14:(jZ prog tab pH (gI fQ m13) 1000 60 [] (.fn (.func 49) [] []) [ vA , vB ] HT.emp).map (λr=>wN r.1 r.2.heap)=some (.tuple [(.sl 1 [[ vD ]] .no),(.sl 1 [[ vG ]] .no),(.int .i64 (0))]):=kr
def r17:(jZ prog tab pH (gI fQ m16) 1000 60 [] (.fn (.func 17) [] []) [ vA , vB ,(.int .i64 (1))] HT.emp).map (λr=>wN r.1 r.2.heap)=some (.tuple [ vK ,(.int .i64 (0))]):=kr
def r23:(jZ prog tab pH (gI fQ m22) 1000 60 [] (.fn (.func 7) [] []) [ vA , vB , vK ] HT.emp).map (λr=>wN r.1 r.2.heap)=some (.tuple [(.sl 2 [[(.int .i64 (1)), vJ ]] .no),(.int .i64 (0))]):=kr
def r32:(jZ prog tab pH (gI fQ m31) 1000 60 [] (.fn (.func 5) [] []) [] HT.emp).map (λr=>wN r.1 r.2.heap)=some (.bool true):=kr
end Go.V
