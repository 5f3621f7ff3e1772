/- Closed calls of this program, evaluated by the kernel, part 2. No condition. -/
import Derived.Test.YtmkfpfodpehkoaaGreatDoorW22
set_option linter.all false
set_option maxHeartbeats 8000000
namespace Go.V
open Go.Proofs.Tryz
open Go.Proofs
set_option maxRecDepth 100000
def r2:(jZ prog tab pH (gI fQ m1) 1000 60 [] (.fn (.func 136) [] []) [(.str [98])] HT.emp).map (λr=>wN r.1 r.2.heap)=some (.bool true):=kr
def r6:(jZ prog tab pH (gI fQ m5) 1000 60 [] (.fn (.func 185) [] []) [ vA ,(.str [97])] HT.emp).map (λr=>wN r.1 r.2.heap)=some (.tuple [(.agg [(.str [97]),(.str [97]),(.int .i64 (1)),(.str [])]),(.bool true)]):=kr
def r7:(jZ prog tab pH (gI fQ m6) 1000 60 [] (.fn (.func 147) [] []) [ vA , vO ] HT.emp).map (λr=>wN r.1 r.2.heap)=some (.int .i64 (0)):=kr
def r9:(jZ prog tab pH (gI fQ m8) 1000 60 [] (.fn (.func 184) [] []) [ vG ] HT.emp).map (λr=>wN r.1 r.2.heap)=some (.int .i64 (0)):=kr
def r11:(jZ prog tab pH (gI fQ m10) 1000 60 [] (.fn (.func 146) [] []) [ vA , vP ] HT.emp).map (λr=>wN r.1 r.2.heap)=some (.int .i64 (0)):=kr
def r12:(jZ prog tab pH (gI fQ m11) 1000 60 [] (.fn (.func 95) [] []) [ vA , vB ] HT.emp).map (λr=>wN r.1 r.2.heap)=some (.tuple [(.int .i64 (0)),(.int .i64 (0))]):=kr
def r16:(jZ prog tab pH (gI fQ m15) 1000 60 [] (.fn (.func 17) [] []) [ vA , vB ,(.int .i64 (0))] HT.emp).map (λr=>wN r.1 r.2.heap)=some (.tuple [ vE ,(.int .i64 (0))]):=kr
def r29:(jZ prog tab pH (gI fQ m28) 1000 60 [] (.fn (.func 9) [] []) [ vA , vC , vE ] HT.emp).map (λr=>wN r.1 r.2.heap)=some (.tuple [ vH ,(.bool true),(.int .i64 (0))]):=kr
end Go.V
