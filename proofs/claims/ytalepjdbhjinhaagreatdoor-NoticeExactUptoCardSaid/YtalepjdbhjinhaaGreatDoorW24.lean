/- Closed calls of this program, evaluated by the kernel, part 1. No condition. -/
import Derived.Test.YtalepjdbhjinhaaGreatDoorW23
set_option linter.all false
namespace Go.V
open Go.Proofs
set_option maxRecDepth 100000
theorem r1:(zBy Tryz.prog tab wU (zCr zCe m0) 1000 60 [] (.fn (.func 140) [] []) [(.str [97])] HT.emp).map (fun r=>z8 r.1 r.2.heap)=some (.bool true):=by kernel_rfl
theorem r5:(zBy Tryz.prog tab wU (zCr zCe m4) 1000 60 [] (.fn (.func 14) [] []) [ vA ,(.str [97])] HT.emp).map (fun r=>z8 r.1 r.2.heap)=some (.tuple [(.agg [(.str [97]),(.str [97]),(.int .i64 (1)),(.str [107,101,101,112,32,116,104,105,115])]),(.bool true)]):=by kernel_rfl
theorem r6:(zBy Tryz.prog tab wU (zCr zCe m5) 1000 60 [] (.fn (.func 196) [] []) [ vA , vO ] HT.emp).map (fun r=>z8 r.1 r.2.heap)=some (.int .i64 (0)):=by kernel_rfl
theorem r8:(zBy Tryz.prog tab wU (zCr zCe m7) 1000 60 [] (.fn (.func 62) [] []) [ vK ] HT.emp).map (fun r=>z8 r.1 r.2.heap)=some (.int .i64 (0)):=by kernel_rfl
theorem r9:(zBy Tryz.prog tab wU (zCr zCe m8) 1000 60 [] (.fn (.func 195) [] []) [ vA , vN ] HT.emp).map (fun r=>z8 r.1 r.2.heap)=some (.int .i64 (0)):=by kernel_rfl
theorem r14:(zBy Tryz.prog tab wU (zCr zCe m13) 1000 60 [] (.fn (.func 74) [] []) [ vA , vB ] HT.emp).map (fun r=>z8 r.1 r.2.heap)=some (.tuple [ vH ,(.int .i64 (0))]):=by kernel_rfl
theorem r20:(zBy Tryz.prog tab wU (zCr zCe m19) 1000 60 [] (.fn (.func 26) [] []) [ vE ] HT.emp).map (fun r=>z8 r.1 r.2.heap)=some (.int .i64 (0)):=by kernel_rfl
theorem r21:(zBy Tryz.prog tab wU (zCr zCe m20) 1000 60 [] (.fn (.func 8) [] []) [ vA , vB , vF , vI , vK ] HT.emp).map (fun r=>z8 r.1 r.2.heap)=some (.tuple [ vE ,(.int .i64 (0))]):=by kernel_rfl
end Go.V
