/- Closed calls of this program, evaluated by the kernel, part 3. No condition. -/
import Derived.Test.YthcjhnmnhfgdiaaGreatDoorW22
set_option linter.all false
set_option maxHeartbeats 8000000
namespace Go.V
open Go.Proofs.Tryz
open Go.Proofs
set_option maxRecDepth 100000
def r3:(tA prog tab qR (tc tu m2) 1000 60 [] (.fn (.func 59) [] []) [ vB ] HT.emp).map (λr=>zm r.1 r.2.heap)=some (.int .i64 (0)):=by kernel_rfl
def r10:(tA prog tab qR (tc tu m9) 1000 60 [] (.fn (.func 89) [] []) [ vB , vQ ] HT.emp).map (λr=>zm r.1 r.2.heap)=some (.int .i64 (0)):=by kernel_rfl
def r13:(tA prog tab qR (tc tu m12) 1000 60 [] (.fn (.func 89) [] []) [ vB , vO ] HT.emp).map (λr=>zm r.1 r.2.heap)=some (.int .i64 (0)):=by kernel_rfl
def r17:(tA prog tab qR (tc tu m16) 1000 60 [] (.fn (.func 116) [] []) [ vB , vA ] HT.emp).map (λr=>zm r.1 r.2.heap)=some (.tuple [ vF ,(.int .i64 (0))]):=by kernel_rfl
def r25:(tA prog tab qR (tc tu m24) 1000 60 [] (.fn (.func 39) [] []) [ vB , vA , vI ,(.bool true)] HT.emp).map (λr=>zm r.1 r.2.heap)=some (.int .i64 (0)):=by kernel_rfl
def r26:(tA prog tab qR (tc tu m25) 1000 60 [] (.fn (.func 84) [] []) [ vB , vA , vI ] HT.emp).map (λr=>zm r.1 r.2.heap)=some (.tuple [ vH ,(.bool true),(.int .i64 (0))]):=by kernel_rfl
def r28:(tA prog tab qR (tc tu m27) 1000 60 [] (.fn (.func 43) [] []) [ vB , vC ] HT.emp).map (λr=>zm r.1 r.2.heap)=some (.tuple [(.int .i64 (0)),(.int .i64 (0))]):=by kernel_rfl
def r29:(tA prog tab qR (tc tu m28) 1000 60 [] (.fn (.func 20) [] []) [ vB , vC ] HT.emp).map (λr=>zm r.1 r.2.heap)=some (.tuple [(.sl 1 [[ vD ]] .no),(.sl 1 [[ vJ ]] .no),(.int .i64 (0))]):=by kernel_rfl
def r30:(tA prog tab qR (tc tu m29) 1000 60 [] (.fn (.func 116) [] []) [ vB , vC ] HT.emp).map (λr=>zm r.1 r.2.heap)=some (.tuple [ vF ,(.int .i64 (0))]):=by kernel_rfl
def r31:(tA prog tab qR (tc tu m30) 1000 60 [] (.fn (.func 63) [] []) [ vB , vC ] HT.emp).map (λr=>zm r.1 r.2.heap)=some (.tuple [(.int .i64 (2)),(.int .i64 (0))]):=by kernel_rfl
def r33:(tA prog tab qR (tc tu m32) 1000 60 [] (.fn (.func 84) [] []) [ vB , vC , vK ] HT.emp).map (λr=>zm r.1 r.2.heap)=some (.tuple [ vT ,(.bool false),(.int .i64 (0))]):=by kernel_rfl
def r37:(tA prog tab qR (tc tu m36) 1000 60 [] (.fn (.func 39) [] []) [ vB , vC , vI ,(.bool true)] HT.emp).map (λr=>zm r.1 r.2.heap)=some (.int .i64 (0)):=by kernel_rfl
def r38:(tA prog tab qR (tc tu m37) 1000 60 [] (.fn (.func 84) [] []) [ vB , vC , vI ] HT.emp).map (λr=>zm r.1 r.2.heap)=some (.tuple [ vH ,(.bool true),(.int .i64 (0))]):=by kernel_rfl
def r40:(tA prog tab qR (tc tu m39) 1000 60 [] (.fn (.func 15) [] []) [ vE ] HT.emp).map (λr=>zm r.1 r.2.heap)=some (.sl 1 [[(.int .i64 (0))],[(.int .i64 (1))],[(.int .i64 (2))],[(.int .i64 (3))]] .no):=by kernel_rfl
def r41:(tA prog tab qR (tc tu m40) 1000 60 [] (.fn (.func 66) [] []) [ vB , vA , vG , vL ] HT.emp).map (λr=>zm r.1 r.2.heap)=some (.int .i64 (0)):=by kernel_rfl
def r44:(tA prog tab qR (tc tu m43) 1000 60 [] (.fn (.func 39) [] []) [ vB , vA , vG ,(.bool false)] HT.emp).map (λr=>zm r.1 r.2.heap)=some (.int .i64 (0)):=by kernel_rfl
def r45:(tA prog tab qR (tc tu m44) 1000 60 [] (.fn (.func 17) [] []) [ vB , vA , vG ] HT.emp).map (λr=>zm r.1 r.2.heap)=some (.tuple [(.bool false),(.int .i64 (0))]):=by kernel_rfl
end Go.V
