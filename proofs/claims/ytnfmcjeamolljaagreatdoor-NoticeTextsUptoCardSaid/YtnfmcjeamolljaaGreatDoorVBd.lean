/- The variables that the law's code names. No condition. -/
import Derived.Test.YtnfmcjeamolljaaGreatDoorVS
set_option linter.unusedSimpArgs false
set_option linter.unusedVariables false
set_option linter.constructorNameAsVariable false
set_option linter.deprecated false
namespace Go.Proofs.YtnfmcjeamolljaaGreatDoor.VJ
open Go.ChangeShapes Go.WideShapes Go.ChangeAt Go.RowKit Go.V
theorem closedB4 : Tryz.pinned.checked.prog.varsNamed 3 = Rows.noticeTextsUptoRow.named := by kernel_rfl
end Go.Proofs.YtnfmcjeamolljaaGreatDoor.VJ
