/- Closed calls of this program, evaluated by the kernel, part 1. No condition. -/
import Derived.Test.YtmkfpfodpehkoaaGreatDoorW22
set_option linter.all false
set_option maxHeartbeats 8000000
namespace Go.V
open Go.Proofs.Tryz
open Go.Proofs
set_option maxRecDepth 100000
def r1:(jZ prog tab pH (gI fQ m0) 1000 60 [] (.fn (.func 136) [] []) [(.str [97])] HT.emp).map (λr=>wN r.1 r.2.heap)=some (.bool true):=kr
def r5:(jZ prog tab pH (gI fQ m4) 1000 60 [] (.fn (.func 184) [] []) [(.str [120,47,102])] HT.emp).map (λr=>wN r.1 r.2.heap)=some (.int .i64 (0)):=kr
def r8:(jZ prog tab pH (gI fQ m7) 1000 60 [] (.fn (.func 146) [] []) [ vA , vM ] HT.emp).map (λr=>wN r.1 r.2.heap)=some (.int .i64 (0)):=kr
def r15:(jZ prog tab pH (gI fQ m14) 1000 60 [] (.fn (.func 43) [] []) [ vA , vB ] HT.emp).map (λr=>wN r.1 r.2.heap)=some (.tuple [ vF ,(.int .i64 (0))]):=kr
def r20:(jZ prog tab pH (gI fQ m19) 1000 60 [] (.fn (.func 283) [] []) [ vA ,(.str [97]),(.str [97])] HT.emp).map (λr=>wN r.1 r.2.heap)=some (.bool false):=kr
def r21:(jZ prog tab pH (gI fQ m20) 1000 60 [] (.fn (.func 12) [] []) [ vA , vB , vE ] HT.emp).map (λr=>wN r.1 r.2.heap)=some (.tuple [(.bool true),(.int .i64 (0))]):=kr
def r31:(jZ prog tab pH (gI fQ m30) 1000 60 [] (.fn (.func 14) [] []) [ vA , vC , vE ,(.agg [(.int .i64 (1)), vJ ])] HT.emp).map (λr=>wN r.1 r.2.heap)=some (.int .i64 (18)):=kr
end Go.V
