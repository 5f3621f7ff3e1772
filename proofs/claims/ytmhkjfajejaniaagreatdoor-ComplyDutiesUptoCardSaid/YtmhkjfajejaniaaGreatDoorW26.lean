/- Closed calls of this program, evaluated by the kernel, part 2. No condition. -/
import Derived.Test.YtmhkjfajejaniaaGreatDoorW24
set_option linter.all false
namespace Go.V
open Go.Proofs
set_option maxRecDepth 100000
theorem r2:(zCO Tryz.prog tab wZ (zDC zDg m1) 1000 60 [] (.fn (.func 147) [] []) [(.str [98])] HT.emp).map (fun r=>yA r.1 r.2.heap)=some (.bool true):=by kernel_rfl
theorem r6:(zCO Tryz.prog tab wZ (zDC zDg m5) 1000 60 [] (.fn (.func 118) [] []) [ vA ,(.str [97])] HT.emp).map (fun r=>yA r.1 r.2.heap)=some (.tuple [(.agg [(.str [97]),(.str [97]),(.int .i64 (1)),(.str [])]),(.bool true)]):=by kernel_rfl
theorem r7:(zCO Tryz.prog tab wZ (zDC zDg m6) 1000 60 [] (.fn (.func 78) [] []) [ vA , vO ] HT.emp).map (fun r=>yA r.1 r.2.heap)=some (.int .i64 (0)):=by kernel_rfl
theorem r9:(zCO Tryz.prog tab wZ (zDC zDg m8) 1000 60 [] (.fn (.func 117) [] []) [ vG ] HT.emp).map (fun r=>yA r.1 r.2.heap)=some (.int .i64 (0)):=by kernel_rfl
theorem r11:(zCO Tryz.prog tab wZ (zDC zDg m10) 1000 60 [] (.fn (.func 77) [] []) [ vA , vP ] HT.emp).map (fun r=>yA r.1 r.2.heap)=some (.int .i64 (0)):=by kernel_rfl
theorem r12:(zCO Tryz.prog tab wZ (zDC zDg m11) 1000 60 [] (.fn (.func 47) [] []) [ vA , vB ] HT.emp).map (fun r=>yA r.1 r.2.heap)=some (.tuple [(.int .i64 (0)),(.int .i64 (0))]):=by kernel_rfl
theorem r16:(zCO Tryz.prog tab wZ (zDC zDg m15) 1000 60 [] (.fn (.func 11) [] []) [ vA , vB ,(.int .i64 (0))] HT.emp).map (fun r=>yA r.1 r.2.heap)=some (.tuple [ vE ,(.int .i64 (0))]):=by kernel_rfl
theorem r29:(zCO Tryz.prog tab wZ (zDC zDg m28) 1000 60 [] (.fn (.func 13) [] []) [ vA , vC , vE ] HT.emp).map (fun r=>yA r.1 r.2.heap)=some (.tuple [ vH ,(.bool true),(.int .i64 (0))]):=by kernel_rfl
end Go.V
