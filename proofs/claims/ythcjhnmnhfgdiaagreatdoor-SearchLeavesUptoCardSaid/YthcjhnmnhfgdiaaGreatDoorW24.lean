/- Closed calls of this program, evaluated by the kernel, part 2. No condition. -/
import Derived.Test.YthcjhnmnhfgdiaaGreatDoorW22
set_option linter.all false
set_option maxHeartbeats 8000000
namespace Go.V
open Go.Proofs.Tryz
open Go.Proofs
set_option maxRecDepth 100000
def r2:(tA prog tab qR (tc tu m1) 1000 60 [] (.fn (.func 190) [] []) [(.str [98])] HT.emp).map (λr=>zm r.1 r.2.heap)=some (.bool true):=by kernel_rfl
def r6:(tA prog tab qR (tc tu m5) 1000 60 [] (.fn (.func 164) [] []) [ vB ,(.str [97])] HT.emp).map (λr=>zm r.1 r.2.heap)=some (.tuple [(.agg [(.str [97]),(.str [97]),(.int .i64 (1)),(.str [])]),(.bool true)]):=by kernel_rfl
def r7:(tA prog tab qR (tc tu m6) 1000 60 [] (.fn (.func 90) [] []) [ vB , vR ] HT.emp).map (λr=>zm r.1 r.2.heap)=some (.int .i64 (0)):=by kernel_rfl
def r9:(tA prog tab qR (tc tu m8) 1000 60 [] (.fn (.func 163) [] []) [ vJ ] HT.emp).map (λr=>zm r.1 r.2.heap)=some (.int .i64 (0)):=by kernel_rfl
def r11:(tA prog tab qR (tc tu m10) 1000 60 [] (.fn (.func 89) [] []) [ vB , vS ] HT.emp).map (λr=>zm r.1 r.2.heap)=some (.int .i64 (0)):=by kernel_rfl
def r12:(tA prog tab qR (tc tu m11) 1000 60 [] (.fn (.func 164) [] []) [ vB ,(.str [98])] HT.emp).map (λr=>zm r.1 r.2.heap)=some (.tuple [(.agg [(.str [98]),(.str [98]),(.int .i64 (1)),(.str [])]),(.bool true)]):=by kernel_rfl
def r14:(tA prog tab qR (tc tu m13) 1000 60 [] (.fn (.func 43) [] []) [ vB , vA ] HT.emp).map (λr=>zm r.1 r.2.heap)=some (.tuple [(.int .i64 (0)),(.int .i64 (0))]):=by kernel_rfl
def r19:(tA prog tab qR (tc tu m18) 1000 60 [] (.fn (.func 39) [] []) [ vB , vA , vK ,(.bool true)] HT.emp).map (λr=>zm r.1 r.2.heap)=some (.int .i64 (0)):=by kernel_rfl
def r20:(tA prog tab qR (tc tu m19) 1000 60 [] (.fn (.func 342) [] []) [ vB ,(.agg [(.str [97]),(.str [])]),(.int .i64 (1)),(.int .i64 (0))] HT.emp).map (λr=>zm r.1 r.2.heap)=some (.sl 5 [[(.str [97]),(.int .i64 (1)),(.int .i64 (0)),(.int .i64 (4)),(.sl 1 [[(.str [97])]] .no)]] .no):=by kernel_rfl
def r21:(tA prog tab qR (tc tu m20) 1000 60 [] (.fn (.func 344) [] []) [ vB ,(.str [97]),(.str [97])] HT.emp).map (λr=>zm r.1 r.2.heap)=some (.bool false):=by kernel_rfl
def r23:(tA prog tab qR (tc tu m22) 1000 60 [] (.fn (.func 39) [] []) [ vB , vA , vG ,(.bool true)] HT.emp).map (λr=>zm r.1 r.2.heap)=some (.int .i64 (0)):=by kernel_rfl
def r24:(tA prog tab qR (tc tu m23) 1000 60 [] (.fn (.func 84) [] []) [ vB , vA , vG ] HT.emp).map (λr=>zm r.1 r.2.heap)=some (.tuple [ vL ,(.bool true),(.int .i64 (0))]):=by kernel_rfl
def r36:(tA prog tab qR (tc tu m35) 1000 60 [] (.fn (.func 19) [] []) [ vB , vC ] HT.emp).map (λr=>zm r.1 r.2.heap)=some (.tuple [ vN ,(.int .i64 (0))]):=by kernel_rfl
def r43:(tA prog tab qR (tc tu m42) 1000 60 [] (.fn (.func 12) [] []) [ vB , vA , vU ] HT.emp).map (λr=>zm r.1 r.2.heap)=some (.int .i64 (0)):=by kernel_rfl
end Go.V
