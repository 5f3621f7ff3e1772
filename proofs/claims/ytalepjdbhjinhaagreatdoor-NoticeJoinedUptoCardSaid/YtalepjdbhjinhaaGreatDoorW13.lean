/- From the contract of the law to the row, part 3. No condition. -/
import Derived.Test.YtalepjdbhjinhaaGreatDoorW08
import Derived.Test.YtalepjdbhjinhaaGreatDoorW09
import Derived.Test.YtalepjdbhjinhaaGreatDoorW10
import Derived.Test.YtalepjdbhjinhaaGreatDoorW11
import Derived.Test.YtalepjdbhjinhaaGreatDoorW12
set_option linter.all false
namespace Go.Proofs.YtalepjdbhjinhaaGreatDoor.VJ
open Go.ChangeShapes Go.WideShapes Go.ChangeAt Go.RowKit Go.V
theorem closed:joinedFacts Tryz.pinned.checked.prog 4 Tryz.f4 (Rows.OpenSpec.upto Rows.noticeJoinedSpec).bare Rows.noticeJoinedUptoRow=true:=by
 unfold joinedFacts;rw[closedB1,closedB2,closedB3,closedB4]
 kernel_rfl
theorem said (goal:Goal):Rows.NoticeJoinedUptoSaid:=
 OpenClaim.holds_of_cond 4 Tryz.f4 rfl rfl rfl rfl rfl rfl rfl ⟨rfl,rfl,rfl,rfl,rfl⟩ rfl rfl rfl rfl rfl (by kernel_rfl) Tryz.func4 closed
  (of_decide_eq_true (by kernel_rfl)) (by unfold Func.isWrapper;first|(rw[if_pos (by decide +kernel)];kernel_rfl)|(rw[if_neg (by decide +kernel)];exact⟨rfl,rfl⟩))
  (fun os started H enc _ F=>by rw[OpenClaim.pre_eq_preRow];exact lifted goal os started H enc F)
end Go.Proofs.YtalepjdbhjinhaaGreatDoor.VJ
