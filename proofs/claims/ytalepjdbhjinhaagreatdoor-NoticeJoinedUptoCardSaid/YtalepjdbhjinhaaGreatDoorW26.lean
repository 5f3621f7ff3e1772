/- Closed calls of this program, evaluated by the kernel, part 3. No condition. -/
import Derived.Test.YtalepjdbhjinhaaGreatDoorW23
set_option linter.all false
namespace Go.V
open Go.Proofs
set_option maxRecDepth 100000
theorem r3:(zCV Tryz.prog tab wt (zDT zDH m2) 1000 60 [] (.fn (.func 29) [] []) [ vL ] HT.emp).map (fun r=>yI r.1 r.2.heap)=some (.tuple [ vA ,(.int .i64 (0)),(.int .i64 (0))]):=by kernel_rfl
theorem r18:(zCV Tryz.prog tab wt (zDT zDH m17) 1000 60 [] (.fn (.func 10) [] []) [ vA , vB , vF ] HT.emp).map (fun r=>yI r.1 r.2.heap)=some vR :=by kernel_rfl
theorem r22:(zCV Tryz.prog tab wt (zDT zDH m21) 1000 60 [] (.fn (.func 23) [] []) [ vE ] HT.emp).map (fun r=>yI r.1 r.2.heap)=some (.tuple [ vJ ,(.int .i64 (0))]):=by kernel_rfl
theorem r24:(zCV Tryz.prog tab wt (zDT zDH m23) 1000 60 [] (.fn (.func 10) [] []) [ vA , vC , vF ] HT.emp).map (fun r=>yI r.1 r.2.heap)=some vR :=by kernel_rfl
theorem r25:(zCV Tryz.prog tab wt (zDT zDH m24) 1000 60 [] (.fn (.func 35) [] []) [ vA , vC , vF , vG , vK ] HT.emp).map (fun r=>yI r.1 r.2.heap)=some vR :=by kernel_rfl
theorem r28:(zCV Tryz.prog tab wt (zDT zDH m27) 1000 60 [] (.fn (.func 26) [] []) [(.agg [(.nilsl),(.nilsl),(.sl 1 [[(.str [])]] .no),(.nilsl)])] HT.emp).map (fun r=>yI r.1 r.2.heap)=some (.int .i64 (4)):=by kernel_rfl
theorem r29:(zCV Tryz.prog tab wt (zDT zDH m28) 1000 60 [] (.fn (.func 6) [] []) [] HT.emp).map (fun r=>yI r.1 r.2.heap)=some (.bool true):=by kernel_rfl
end Go.V
