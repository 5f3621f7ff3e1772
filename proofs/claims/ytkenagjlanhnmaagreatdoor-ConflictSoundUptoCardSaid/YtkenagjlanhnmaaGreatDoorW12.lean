/- From the contract of the law to the row, part 3. No condition. -/
import Derived.Test.YtkenagjlanhnmaaGreatDoorW07
import Derived.Test.YtkenagjlanhnmaaGreatDoorW08
import Derived.Test.YtkenagjlanhnmaaGreatDoorW09
import Derived.Test.YtkenagjlanhnmaaGreatDoorW10
import Derived.Test.YtkenagjlanhnmaaGreatDoorW11
set_option linter.all false
set_option maxHeartbeats 8000000
namespace Go.Proofs.YtkenagjlanhnmaaGreatDoor.VJ
open Go.ChangeShapes Go.WideShapes Go.ChangeAt Go.RowKit Go.V
theorem closed:joinedFacts Tryz.pinned.checked.prog 4 Tryz.f4 (Rows.OpenSpec.upto Rows.conflictSoundSpec).bare Rows.conflictSoundUptoRow=true:=by
 unfold joinedFacts;rw[closedB1,closedB2,closedB3,closedB4]
 kernel_rfl
theorem said(goal:Goal):Rows.ConflictSoundUptoSaid:=
 OpenClaim.holds_of_cond 4 Tryz.f4 rfl rfl rfl rfl rfl rfl rfl ⟨rfl,rfl,rfl,rfl,rfl⟩ rfl rfl rfl rfl rfl kr Tryz.func4 closed
  (of_decide_eq_true kr) (by unfold Func.isWrapper;first|(rw[ip (by decide +kernel)];kernel_rfl)|(rw[iq (by decide +kernel)];exact⟨rfl,rfl⟩))
  (λb a H enc _ F=>by rw[OpenClaim.pre_eq_preRow];exact lifted goal b a H enc F)
end Go.Proofs.YtkenagjlanhnmaaGreatDoor.VJ
