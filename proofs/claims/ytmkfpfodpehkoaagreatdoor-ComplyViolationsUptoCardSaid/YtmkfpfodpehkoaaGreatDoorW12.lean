/- From the contract of the law to the row, part 3. No condition. -/
import Derived.Test.YtmkfpfodpehkoaaGreatDoorW07
import Derived.Test.YtmkfpfodpehkoaaGreatDoorW08
import Derived.Test.YtmkfpfodpehkoaaGreatDoorW09
import Derived.Test.YtmkfpfodpehkoaaGreatDoorW10
import Derived.Test.YtmkfpfodpehkoaaGreatDoorW11
set_option linter.all false
set_option maxHeartbeats 8000000
namespace Go.Proofs.YtmkfpfodpehkoaaGreatDoor.VJ
open Go.ChangeShapes Go.WideShapes Go.ChangeAt Go.RowKit Go.V
theorem closed:joinedFacts Tryz.pinned.checked.prog 3 Tryz.f3 (Rows.OpenSpec.upto Rows.complyViolationsSpec).bare Rows.complyViolationsUptoRow=true:=by
 unfold joinedFacts;rw[closedB1,closedB2,closedB3,closedB4]
 kernel_rfl
theorem said(goal:Goal):Rows.ComplyViolationsUptoSaid:=
 OpenClaim.holds_of_cond 3 Tryz.f3 rfl rfl rfl rfl rfl rfl rfl ⟨rfl,rfl,rfl,rfl,rfl⟩ rfl rfl rfl rfl rfl kr Tryz.func3 closed
  (of_decide_eq_true kr) (by unfold Func.isWrapper;first|(rw[ip (by decide +kernel)];kernel_rfl)|(rw[iq (by decide +kernel)];exact⟨rfl,rfl⟩))
  (λos a H enc _ F=>by rw[OpenClaim.pre_eq_preRow];exact lifted goal os a H enc F)
end Go.Proofs.YtmkfpfodpehkoaaGreatDoor.VJ
