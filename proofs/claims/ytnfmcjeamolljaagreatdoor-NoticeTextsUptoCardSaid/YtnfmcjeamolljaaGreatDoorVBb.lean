/- Whether the law reaches functions that are not followed. No condition. -/
import Derived.Test.YtnfmcjeamolljaaGreatDoorVS
set_option linter.unusedSimpArgs false
set_option linter.unusedVariables false
set_option linter.constructorNameAsVariable false
set_option linter.deprecated false
namespace Go.Proofs.YtnfmcjeamolljaaGreatDoor.VJ
open Go.ChangeShapes Go.WideShapes Go.ChangeAt Go.RowKit Go.V
theorem closedB2 : Tryz.pinned.checked.prog.unfollowed 3 = Rows.noticeTextsUptoRow.unfollowed := by kernel_rfl
end Go.Proofs.YtnfmcjeamolljaaGreatDoor.VJ
