/- Closed calls of this program, evaluated by the kernel, part 1. No condition. -/
import Derived.Test.YtalepjdbhjinhaaGreatDoorW23
set_option linter.all false
namespace Go.V
open Go.Proofs
set_option maxRecDepth 100000
theorem r1:(zCV Tryz.prog tab wt (zDT zDH m0) 1000 60 [] (.fn (.func 140) [] []) [(.str [97])] HT.emp).map (fun r=>yI r.1 r.2.heap)=some (.bool true):=by kernel_rfl
theorem r5:(zCV Tryz.prog tab wt (zDT zDH m4) 1000 60 [] (.fn (.func 14) [] []) [ vA ,(.str [97])] HT.emp).map (fun r=>yI r.1 r.2.heap)=some (.tuple [(.agg [(.str [97]),(.str [97]),(.int .i64 (1)),(.str [107,101,101,112,32,116,104,105,115])]),(.bool true)]):=by kernel_rfl
theorem r6:(zCV Tryz.prog tab wt (zDT zDH m5) 1000 60 [] (.fn (.func 196) [] []) [ vA , vO ] HT.emp).map (fun r=>yI r.1 r.2.heap)=some (.int .i64 (0)):=by kernel_rfl
theorem r8:(zCV Tryz.prog tab wt (zDT zDH m7) 1000 60 [] (.fn (.func 62) [] []) [ vK ] HT.emp).map (fun r=>yI r.1 r.2.heap)=some (.int .i64 (0)):=by kernel_rfl
theorem r9:(zCV Tryz.prog tab wt (zDT zDH m8) 1000 60 [] (.fn (.func 195) [] []) [ vA , vN ] HT.emp).map (fun r=>yI r.1 r.2.heap)=some (.int .i64 (0)):=by kernel_rfl
theorem r14:(zCV Tryz.prog tab wt (zDT zDH m13) 1000 60 [] (.fn (.func 74) [] []) [ vA , vB ] HT.emp).map (fun r=>yI r.1 r.2.heap)=some (.tuple [ vH ,(.int .i64 (0))]):=by kernel_rfl
theorem r20:(zCV Tryz.prog tab wt (zDT zDH m19) 1000 60 [] (.fn (.func 26) [] []) [ vE ] HT.emp).map (fun r=>yI r.1 r.2.heap)=some (.int .i64 (0)):=by kernel_rfl
theorem r21:(zCV Tryz.prog tab wt (zDT zDH m20) 1000 60 [] (.fn (.func 8) [] []) [ vA , vB , vF , vI , vK ] HT.emp).map (fun r=>yI r.1 r.2.heap)=some (.tuple [ vE ,(.int .i64 (0))]):=by kernel_rfl
end Go.V
