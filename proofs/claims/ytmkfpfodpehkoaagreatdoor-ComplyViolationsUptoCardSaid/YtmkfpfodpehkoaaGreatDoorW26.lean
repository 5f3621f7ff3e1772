/- Closed calls of this program, evaluated by the kernel, part 4. No condition. -/
import Derived.Test.YtmkfpfodpehkoaaGreatDoorW22
set_option linter.all false
set_option maxHeartbeats 8000000
namespace Go.V
open Go.Proofs.Tryz
open Go.Proofs
set_option maxRecDepth 100000
def r4:(jZ prog tab pH (gI fQ m3) 1000 60 [] (.fn (.func 16) [] []) [ vI ] HT.emp).map (λr=>wN r.1 r.2.heap)=some (.tuple [ vA ,(.int .i64 (0)),(.int .i64 (0))]):=kr
def r18:(jZ prog tab pH (gI fQ m17) 1000 60 [] (.fn (.func 21) [] []) [ vA , vB , vE ,(.bool false)] HT.emp).map (λr=>wN r.1 r.2.heap)=some (.int .i64 (0)):=kr
def r19:(jZ prog tab pH (gI fQ m18) 1000 60 [] (.fn (.func 281) [] []) [ vA ,(.agg [(.str [97]),(.str [])]),(.int .i64 (1)),(.int .i64 (0))] HT.emp).map (λr=>wN r.1 r.2.heap)=some (.sl 5 [[(.str [97]),(.int .i64 (1)),(.int .i64 (0)),(.int .i64 (4)),(.sl 1 [[(.str [97])]] .no)]] .no):=kr
def r22:(jZ prog tab pH (gI fQ m21) 1000 60 [] (.fn (.func 21) [] []) [ vA , vB , vK ,(.bool true)] HT.emp).map (λr=>wN r.1 r.2.heap)=some (.int .i64 (0)):=kr
def r24:(jZ prog tab pH (gI fQ m23) 1000 60 [] (.fn (.func 185) [] []) [ vA ,(.str [98])] HT.emp).map (λr=>wN r.1 r.2.heap)=some (.tuple [(.agg [(.str [98]),(.str [98]),(.int .i64 (1)),(.str [])]),(.bool true)]):=kr
def r25:(jZ prog tab pH (gI fQ m24) 1000 60 [] (.fn (.func 146) [] []) [ vA , vL ] HT.emp).map (λr=>wN r.1 r.2.heap)=some (.int .i64 (0)):=kr
def r26:(jZ prog tab pH (gI fQ m25) 1000 60 [] (.fn (.func 95) [] []) [ vA , vC ] HT.emp).map (λr=>wN r.1 r.2.heap)=some (.tuple [(.int .i64 (0)),(.int .i64 (0))]):=kr
def r27:(jZ prog tab pH (gI fQ m26) 1000 60 [] (.fn (.func 49) [] []) [ vA , vC ] HT.emp).map (λr=>wN r.1 r.2.heap)=some (.tuple [(.sl 1 [[ vD ]] .no),(.sl 1 [[ vG ]] .no),(.int .i64 (0))]):=kr
def r28:(jZ prog tab pH (gI fQ m27) 1000 60 [] (.fn (.func 21) [] []) [ vA , vC , vE ,(.bool true)] HT.emp).map (λr=>wN r.1 r.2.heap)=some (.int .i64 (0)):=kr
def r30:(jZ prog tab pH (gI fQ m29) 1000 60 [] (.fn (.func 14) [] []) [ vA , vC , vE , vH ] HT.emp).map (λr=>wN r.1 r.2.heap)=some (.int .i64 (0)):=kr
end Go.V
