/- Closed calls of this program, evaluated by the kernel, part 1. No condition. -/
import Derived.Test.YtmhkjfajejaniaaGreatDoorW24
set_option linter.all false
namespace Go.V
open Go.Proofs
set_option maxRecDepth 100000
theorem r1:(zCL Tryz.prog tab wW (zC5 zDb m0) 1000 60 [] (.fn (.func 147) [] []) [(.str [97])] HT.emp).map (fun r=>z8 r.1 r.2.heap)=some (.bool true):=by kernel_rfl
theorem r5:(zCL Tryz.prog tab wW (zC5 zDb m4) 1000 60 [] (.fn (.func 117) [] []) [(.str [120,47,102])] HT.emp).map (fun r=>z8 r.1 r.2.heap)=some (.int .i64 (0)):=by kernel_rfl
theorem r8:(zCL Tryz.prog tab wW (zC5 zDb m7) 1000 60 [] (.fn (.func 77) [] []) [ vA , vM ] HT.emp).map (fun r=>z8 r.1 r.2.heap)=some (.int .i64 (0)):=by kernel_rfl
theorem r15:(zCL Tryz.prog tab wW (zC5 zDb m14) 1000 60 [] (.fn (.func 36) [] []) [ vA , vB ] HT.emp).map (fun r=>z8 r.1 r.2.heap)=some (.tuple [ vF ,(.int .i64 (0))]):=by kernel_rfl
theorem r20:(zCL Tryz.prog tab wW (zC5 zDb m19) 1000 60 [] (.fn (.func 266) [] []) [ vA ,(.str [97]),(.str [97])] HT.emp).map (fun r=>z8 r.1 r.2.heap)=some (.bool false):=by kernel_rfl
theorem r21:(zCL Tryz.prog tab wW (zC5 zDb m20) 1000 60 [] (.fn (.func 14) [] []) [ vA , vB , vE ] HT.emp).map (fun r=>z8 r.1 r.2.heap)=some (.tuple [(.bool true),(.int .i64 (0))]):=by kernel_rfl
theorem r31:(zCL Tryz.prog tab wW (zC5 zDb m30) 1000 60 [] (.fn (.func 17) [] []) [ vA , vC , vE ,(.agg [(.int .i64 (1)), vJ ])] HT.emp).map (fun r=>z8 r.1 r.2.heap)=some (.int .i64 (18)):=by kernel_rfl
end Go.V
