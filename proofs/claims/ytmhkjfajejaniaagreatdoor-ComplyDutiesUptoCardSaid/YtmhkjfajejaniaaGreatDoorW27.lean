/- Closed calls of this program, evaluated by the kernel, part 3. No condition. -/
import Derived.Test.YtmhkjfajejaniaaGreatDoorW24
set_option linter.all false
namespace Go.V
open Go.Proofs
set_option maxRecDepth 100000
theorem r3:(zCO Tryz.prog tab wZ (zDC zDg m2) 1000 60 [] (.fn (.func 64) [] []) [ vA ] HT.emp).map (fun r=>yA r.1 r.2.heap)=some (.int .i64 (0)):=by kernel_rfl
theorem r10:(zCO Tryz.prog tab wZ (zDC zDg m9) 1000 60 [] (.fn (.func 77) [] []) [ vA , vN ] HT.emp).map (fun r=>yA r.1 r.2.heap)=some (.int .i64 (0)):=by kernel_rfl
theorem r13:(zCO Tryz.prog tab wZ (zDC zDg m12) 1000 60 [] (.fn (.func 48) [] []) [ vA , vO ] HT.emp).map (fun r=>yA r.1 r.2.heap)=some (.tuple [ vD ,(.int .i64 (0))]):=by kernel_rfl
theorem r14:(zCO Tryz.prog tab wZ (zDC zDg m13) 1000 60 [] (.fn (.func 24) [] []) [ vA , vB ] HT.emp).map (fun r=>yA r.1 r.2.heap)=some (.tuple [(.sl 1 [[ vD ]] .no),(.sl 1 [[ vG ]] .no),(.int .i64 (0))]):=by kernel_rfl
theorem r17:(zCO Tryz.prog tab wZ (zDC zDg m16) 1000 60 [] (.fn (.func 11) [] []) [ vA , vB ,(.int .i64 (1))] HT.emp).map (fun r=>yA r.1 r.2.heap)=some (.tuple [ vK ,(.int .i64 (0))]):=by kernel_rfl
theorem r23:(zCO Tryz.prog tab wZ (zDC zDg m22) 1000 60 [] (.fn (.func 12) [] []) [ vA , vB , vK ] HT.emp).map (fun r=>yA r.1 r.2.heap)=some (.tuple [(.sl 2 [[(.int .i64 (1)), vJ ]] .no),(.int .i64 (0))]):=by kernel_rfl
theorem r32:(zCO Tryz.prog tab wZ (zDC zDg m31) 1000 60 [] (.fn (.func 8) [] []) [] HT.emp).map (fun r=>yA r.1 r.2.heap)=some (.bool true):=by kernel_rfl
end Go.V
