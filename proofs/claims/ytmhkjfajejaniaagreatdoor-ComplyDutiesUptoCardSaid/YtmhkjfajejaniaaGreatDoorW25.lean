/- Closed calls of this program, evaluated by the kernel, part 1. No condition. -/
import Derived.Test.YtmhkjfajejaniaaGreatDoorW24
set_option linter.all false
namespace Go.V
open Go.Proofs
set_option maxRecDepth 100000
theorem r1:(zCO Tryz.prog tab wZ (zDC zDg m0) 1000 60 [] (.fn (.func 147) [] []) [(.str [97])] HT.emp).map (fun r=>yA r.1 r.2.heap)=some (.bool true):=by kernel_rfl
theorem r5:(zCO Tryz.prog tab wZ (zDC zDg m4) 1000 60 [] (.fn (.func 117) [] []) [(.str [120,47,102])] HT.emp).map (fun r=>yA r.1 r.2.heap)=some (.int .i64 (0)):=by kernel_rfl
theorem r8:(zCO Tryz.prog tab wZ (zDC zDg m7) 1000 60 [] (.fn (.func 77) [] []) [ vA , vM ] HT.emp).map (fun r=>yA r.1 r.2.heap)=some (.int .i64 (0)):=by kernel_rfl
theorem r15:(zCO Tryz.prog tab wZ (zDC zDg m14) 1000 60 [] (.fn (.func 36) [] []) [ vA , vB ] HT.emp).map (fun r=>yA r.1 r.2.heap)=some (.tuple [ vF ,(.int .i64 (0))]):=by kernel_rfl
theorem r20:(zCO Tryz.prog tab wZ (zDC zDg m19) 1000 60 [] (.fn (.func 266) [] []) [ vA ,(.str [97]),(.str [97])] HT.emp).map (fun r=>yA r.1 r.2.heap)=some (.bool false):=by kernel_rfl
theorem r21:(zCO Tryz.prog tab wZ (zDC zDg m20) 1000 60 [] (.fn (.func 14) [] []) [ vA , vB , vE ] HT.emp).map (fun r=>yA r.1 r.2.heap)=some (.tuple [(.bool true),(.int .i64 (0))]):=by kernel_rfl
theorem r31:(zCO Tryz.prog tab wZ (zDC zDg m30) 1000 60 [] (.fn (.func 17) [] []) [ vA , vC , vE ,(.agg [(.int .i64 (1)), vJ ])] HT.emp).map (fun r=>yA r.1 r.2.heap)=some (.int .i64 (18)):=by kernel_rfl
end Go.V
