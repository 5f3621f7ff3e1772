/- Closed calls of this program, evaluated by the kernel, part 4. No condition. -/
import Derived.Test.YtalepjdbhjinhaaGreatDoorW23
set_option linter.all false
namespace Go.V
open Go.Proofs
set_option maxRecDepth 100000
theorem r4:(zCV Tryz.prog tab wt (zDT zDH m3) 1000 60 [] (.fn (.func 62) [] []) [(.str [120,47,102])] HT.emp).map (fun r=>yI r.1 r.2.heap)=some (.int .i64 (0)):=by kernel_rfl
theorem r7:(zCV Tryz.prog tab wt (zDT zDH m6) 1000 60 [] (.fn (.func 195) [] []) [ vA , vM ] HT.emp).map (fun r=>yI r.1 r.2.heap)=some (.int .i64 (0)):=by kernel_rfl
theorem r12:(zCV Tryz.prog tab wt (zDT zDH m11) 1000 60 [] (.fn (.func 135) [] []) [ vA , vO ] HT.emp).map (fun r=>yI r.1 r.2.heap)=some (.tuple [ vQ ,(.int .i64 (0))]):=by kernel_rfl
theorem r13:(zCV Tryz.prog tab wt (zDT zDH m12) 1000 60 [] (.fn (.func 86) [] []) [ vA , vB ] HT.emp).map (fun r=>yI r.1 r.2.heap)=some (.tuple [(.sl 1 [[ vQ ]] .no),(.sl 1 [[ vK ]] .no),(.int .i64 (0))]):=by kernel_rfl
theorem r16:(zCV Tryz.prog tab wt (zDT zDH m15) 1000 60 [] (.fn (.func 39) [] []) [ vA , vB , vF ,(.bool true)] HT.emp).map (fun r=>yI r.1 r.2.heap)=some (.int .i64 (0)):=by kernel_rfl
theorem r17:(zCV Tryz.prog tab wt (zDT zDH m16) 1000 60 [] (.fn (.func 94) [] []) [ vA ,(.agg [(.str [97]),(.str [])]),(.int .i64 (1)),(.int .i64 (0))] HT.emp).map (fun r=>yI r.1 r.2.heap)=some (.sl 5 [[(.str [97]),(.int .i64 (1)),(.int .i64 (0)),(.int .i64 (0)),(.nilsl)],[(.str [97]),(.int .i64 (1)),(.int .i64 (0)),(.int .i64 (1)),(.nilsl)]] .no):=by kernel_rfl
theorem r19:(zCV Tryz.prog tab wt (zDT zDH m18) 1000 60 [] (.fn (.func 35) [] []) [ vA , vB , vF , vI , vK ] HT.emp).map (fun r=>yI r.1 r.2.heap)=some vR :=by kernel_rfl
theorem r23:(zCV Tryz.prog tab wt (zDT zDH m22) 1000 60 [] (.fn (.func 31) [] []) [ vJ ] HT.emp).map (fun r=>yI r.1 r.2.heap)=some (.tuple [ vE ,(.int .i64 (0)),(.int .i64 (0))]):=by kernel_rfl
theorem r26:(zCV Tryz.prog tab wt (zDT zDH m25) 1000 60 [] (.fn (.func 22) [] []) [ vA , vC , vF , vG , vK ,(.agg [(.nilsl),(.nilsl),(.nilsl),(.nilsl)])] HT.emp).map (fun r=>yI r.1 r.2.heap)=some vR :=by kernel_rfl
end Go.V
