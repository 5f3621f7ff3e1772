/- Closed calls of this program, evaluated by the kernel, part 4. No condition. -/
import Derived.Test.YtmhkjfajejaniaaGreatDoorW24
set_option linter.all false
namespace Go.V
open Go.Proofs
set_option maxRecDepth 100000
theorem r4:(zCO Tryz.prog tab wZ (zDC zDg m3) 1000 60 [] (.fn (.func 33) [] []) [ vI ] HT.emp).map (fun r=>yA r.1 r.2.heap)=some (.tuple [ vA ,(.int .i64 (0)),(.int .i64 (0))]):=by kernel_rfl
theorem r18:(zCO Tryz.prog tab wZ (zDC zDg m17) 1000 60 [] (.fn (.func 39) [] []) [ vA , vB , vE ,(.bool false)] HT.emp).map (fun r=>yA r.1 r.2.heap)=some (.int .i64 (0)):=by kernel_rfl
theorem r19:(zCO Tryz.prog tab wZ (zDC zDg m18) 1000 60 [] (.fn (.func 82) [] []) [ vA ,(.agg [(.str [97]),(.str [])]),(.int .i64 (1)),(.int .i64 (0))] HT.emp).map (fun r=>yA r.1 r.2.heap)=some (.sl 5 [[(.str [97]),(.int .i64 (1)),(.int .i64 (0)),(.int .i64 (4)),(.sl 1 [[(.str [97])]] .no)]] .no):=by kernel_rfl
theorem r22:(zCO Tryz.prog tab wZ (zDC zDg m21) 1000 60 [] (.fn (.func 39) [] []) [ vA , vB , vK ,(.bool true)] HT.emp).map (fun r=>yA r.1 r.2.heap)=some (.int .i64 (0)):=by kernel_rfl
theorem r24:(zCO Tryz.prog tab wZ (zDC zDg m23) 1000 60 [] (.fn (.func 118) [] []) [ vA ,(.str [98])] HT.emp).map (fun r=>yA r.1 r.2.heap)=some (.tuple [(.agg [(.str [98]),(.str [98]),(.int .i64 (1)),(.str [])]),(.bool true)]):=by kernel_rfl
theorem r25:(zCO Tryz.prog tab wZ (zDC zDg m24) 1000 60 [] (.fn (.func 77) [] []) [ vA , vL ] HT.emp).map (fun r=>yA r.1 r.2.heap)=some (.int .i64 (0)):=by kernel_rfl
theorem r26:(zCO Tryz.prog tab wZ (zDC zDg m25) 1000 60 [] (.fn (.func 47) [] []) [ vA , vC ] HT.emp).map (fun r=>yA r.1 r.2.heap)=some (.tuple [(.int .i64 (0)),(.int .i64 (0))]):=by kernel_rfl
theorem r27:(zCO Tryz.prog tab wZ (zDC zDg m26) 1000 60 [] (.fn (.func 24) [] []) [ vA , vC ] HT.emp).map (fun r=>yA r.1 r.2.heap)=some (.tuple [(.sl 1 [[ vD ]] .no),(.sl 1 [[ vG ]] .no),(.int .i64 (0))]):=by kernel_rfl
theorem r28:(zCO Tryz.prog tab wZ (zDC zDg m27) 1000 60 [] (.fn (.func 39) [] []) [ vA , vC , vE ,(.bool true)] HT.emp).map (fun r=>yA r.1 r.2.heap)=some (.int .i64 (0)):=by kernel_rfl
theorem r30:(zCO Tryz.prog tab wZ (zDC zDg m29) 1000 60 [] (.fn (.func 17) [] []) [ vA , vC , vE , vH ] HT.emp).map (fun r=>yA r.1 r.2.heap)=some (.int .i64 (0)):=by kernel_rfl
end Go.V
