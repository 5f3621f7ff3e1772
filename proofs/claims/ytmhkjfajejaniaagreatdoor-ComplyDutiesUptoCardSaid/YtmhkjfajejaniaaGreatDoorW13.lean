/- From the contract of the law to the row, part 3. No condition. -/
import Derived.Test.YtmhkjfajejaniaaGreatDoorW08
import Derived.Test.YtmhkjfajejaniaaGreatDoorW09
import Derived.Test.YtmhkjfajejaniaaGreatDoorW10
import Derived.Test.YtmhkjfajejaniaaGreatDoorW11
import Derived.Test.YtmhkjfajejaniaaGreatDoorW12
set_option linter.all false
namespace Go.Proofs.YtmhkjfajejaniaaGreatDoor.VJ
open Go.ChangeShapes Go.WideShapes Go.ChangeAt Go.RowKit Go.V
theorem closed:joinedFacts Tryz.pinned.checked.prog 7 Tryz.f7 (Rows.OpenSpec.upto Rows.complyDutiesSpec).bare Rows.complyDutiesUptoRow=true:=by
 unfold joinedFacts;rw[closedB1,closedB2,closedB3,closedB4]
 kernel_rfl
theorem said (goal:Goal):Rows.ComplyDutiesUptoSaid:=
 OpenClaim.holds_of_cond 7 Tryz.f7 rfl rfl rfl rfl rfl rfl rfl ⟨rfl,rfl,rfl,rfl,rfl⟩ rfl rfl rfl rfl rfl (by kernel_rfl) Tryz.func7 closed
  (of_decide_eq_true (by kernel_rfl)) (by unfold Func.isWrapper;first|(rw[if_pos (by decide +kernel)];kernel_rfl)|(rw[if_neg (by decide +kernel)];exact⟨rfl,rfl⟩))
  (fun os started H enc _ F=>by rw[OpenClaim.pre_eq_preRow];exact lifted goal os started H enc F)
end Go.Proofs.YtmhkjfajejaniaaGreatDoor.VJ
