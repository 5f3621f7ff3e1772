/- Closed calls of this program, evaluated by the kernel, part 2. No condition. -/
import Derived.Test.YtalepjdbhjinhaaGreatDoorW23
set_option linter.all false
namespace Go.V
open Go.Proofs
set_option maxRecDepth 100000
theorem r2:(zCV Tryz.prog tab wt (zDT zDH m1) 1000 60 [] (.fn (.func 42) [] []) [ vA ] HT.emp).map (fun r=>yI r.1 r.2.heap)=some (.int .i64 (0)):=by kernel_rfl
theorem r10:(zCV Tryz.prog tab wt (zDT zDH m9) 1000 60 [] (.fn (.func 195) [] []) [ vA , vP ] HT.emp).map (fun r=>yI r.1 r.2.heap)=some (.int .i64 (0)):=by kernel_rfl
theorem r11:(zCV Tryz.prog tab wt (zDT zDH m10) 1000 60 [] (.fn (.func 134) [] []) [ vA , vB ] HT.emp).map (fun r=>yI r.1 r.2.heap)=some (.tuple [(.int .i64 (0)),(.int .i64 (0))]):=by kernel_rfl
theorem r15:(zCV Tryz.prog tab wt (zDT zDH m14) 1000 60 [] (.fn (.func 30) [] []) [ vA , vB ,(.int .i64 (0))] HT.emp).map (fun r=>yI r.1 r.2.heap)=some (.tuple [ vF ,(.int .i64 (0))]):=by kernel_rfl
theorem r27:(zCV Tryz.prog tab wt (zDT zDH m26) 1000 60 [] (.fn (.func 21) [] []) [ vE , vE ] HT.emp).map (fun r=>yI r.1 r.2.heap)=some (.tuple [ vE ,(.int .i64 (0))]):=by kernel_rfl
end Go.V
