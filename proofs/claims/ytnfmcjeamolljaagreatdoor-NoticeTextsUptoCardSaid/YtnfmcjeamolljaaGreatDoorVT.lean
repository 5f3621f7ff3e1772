/- From the law's contract to the row. No condition. -/
import Derived.Test.YtnfmcjeamolljaaGreatDoorVS
import Derived.Test.YtnfmcjeamolljaaGreatDoorVBa
import Derived.Test.YtnfmcjeamolljaaGreatDoorVBb
import Derived.Test.YtnfmcjeamolljaaGreatDoorVBc
import Derived.Test.YtnfmcjeamolljaaGreatDoorVBd
set_option linter.unusedSimpArgs false
set_option linter.unusedVariables false
set_option linter.constructorNameAsVariable false
set_option linter.deprecated false
namespace Go.Proofs.YtnfmcjeamolljaaGreatDoor.VJ
open Go.ChangeShapes Go.WideShapes Go.ChangeAt Go.RowKit Go.V
theorem closed : joinedFacts Tryz.pinned.checked.prog 3 Tryz.f3 (Rows.OpenSpec.upto Rows.noticeTextsSpec).bare Rows.noticeTextsUptoRow = true := by
  unfold joinedFacts
  rw [closedB1, closedB2, closedB3, closedB4]
  kernel_rfl

theorem said (goal : Goal) : Rows.NoticeTextsUptoSaid :=
  OpenClaim.holds_of_cond 3 Tryz.f3 rfl rfl rfl rfl rfl rfl rfl ⟨rfl, rfl, rfl, rfl, rfl⟩ rfl rfl rfl rfl rfl (by kernel_rfl) Tryz.func3 closed
    (of_decide_eq_true (by kernel_rfl)) (by unfold Func.isWrapper; first | (rw [if_pos (by decide +kernel)]; kernel_rfl) | (rw [if_neg (by decide +kernel)]; exact ⟨rfl, rfl⟩))
    (fun os started H enc _ F => by rw [OpenClaim.pre_eq_preRow]; exact lifted goal os started H enc F)

end Go.Proofs.YtnfmcjeamolljaaGreatDoor.VJ
