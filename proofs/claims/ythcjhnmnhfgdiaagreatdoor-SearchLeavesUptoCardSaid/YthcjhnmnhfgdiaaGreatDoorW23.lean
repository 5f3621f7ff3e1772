/- Closed calls of this program, evaluated by the kernel, part 1. No condition. -/
import Derived.Test.YthcjhnmnhfgdiaaGreatDoorW22
set_option linter.all false
set_option maxHeartbeats 8000000
namespace Go.V
open Go.Proofs.Tryz
open Go.Proofs
set_option maxRecDepth 100000
def r1:(tA prog tab qR (tc tu m0) 1000 60 [] (.fn (.func 190) [] []) [(.str [97])] HT.emp).map (λr=>zm r.1 r.2.heap)=some (.bool true):=by kernel_rfl
def r5:(tA prog tab qR (tc tu m4) 1000 60 [] (.fn (.func 163) [] []) [(.str [120,47,102])] HT.emp).map (λr=>zm r.1 r.2.heap)=some (.int .i64 (0)):=by kernel_rfl
def r8:(tA prog tab qR (tc tu m7) 1000 60 [] (.fn (.func 89) [] []) [ vB , vP ] HT.emp).map (λr=>zm r.1 r.2.heap)=some (.int .i64 (0)):=by kernel_rfl
def r15:(tA prog tab qR (tc tu m14) 1000 60 [] (.fn (.func 44) [] []) [ vB , vR ] HT.emp).map (λr=>zm r.1 r.2.heap)=some (.tuple [ vD ,(.int .i64 (0))]):=by kernel_rfl
def r16:(tA prog tab qR (tc tu m15) 1000 60 [] (.fn (.func 20) [] []) [ vB , vA ] HT.emp).map (λr=>zm r.1 r.2.heap)=some (.tuple [(.sl 1 [[ vD ]] .no),(.sl 1 [[ vJ ]] .no),(.int .i64 (0))]):=by kernel_rfl
def r22:(tA prog tab qR (tc tu m21) 1000 60 [] (.fn (.func 84) [] []) [ vB , vA , vK ] HT.emp).map (λr=>zm r.1 r.2.heap)=some (.tuple [ vT ,(.bool false),(.int .i64 (0))]):=by kernel_rfl
def r32:(tA prog tab qR (tc tu m31) 1000 60 [] (.fn (.func 39) [] []) [ vB , vC , vK ,(.bool true)] HT.emp).map (λr=>zm r.1 r.2.heap)=some (.int .i64 (0)):=by kernel_rfl
def r34:(tA prog tab qR (tc tu m33) 1000 60 [] (.fn (.func 39) [] []) [ vB , vC , vG ,(.bool true)] HT.emp).map (λr=>zm r.1 r.2.heap)=some (.int .i64 (0)):=by kernel_rfl
def r35:(tA prog tab qR (tc tu m34) 1000 60 [] (.fn (.func 84) [] []) [ vB , vC , vG ] HT.emp).map (λr=>zm r.1 r.2.heap)=some (.tuple [ vT ,(.bool false),(.int .i64 (0))]):=by kernel_rfl
def r39:(tA prog tab qR (tc tu m38) 1000 60 [] (.fn (.func 18) [] []) [ vB , vC ] HT.emp).map (λr=>zm r.1 r.2.heap)=some (.tuple [(.int .i64 (1)),(.int .i64 (0))]):=by kernel_rfl
def r42:(tA prog tab qR (tc tu m41) 1000 60 [] (.fn (.func 66) [] []) [ vB , vA , vI , vH ] HT.emp).map (λr=>zm r.1 r.2.heap)=some (.int .i64 (0)):=by kernel_rfl
def r46:(tA prog tab qR (tc tu m45) 1000 60 [] (.fn (.func 12) [] []) [ vB , vA , vN ] HT.emp).map (λr=>zm r.1 r.2.heap)=some (.int .i64 (18)):=by kernel_rfl
end Go.V
