/- What the card asks of the row beside its statement. No condition. -/
import Derived.Test.YtnfmcjeamolljaaGreatDoorVS
set_option linter.unusedSimpArgs false
set_option linter.unusedVariables false
set_option linter.constructorNameAsVariable false
set_option linter.deprecated false
namespace Go.Proofs.YtnfmcjeamolljaaGreatDoor.VJ
open Go.ChangeShapes Go.WideShapes Go.ChangeAt Go.RowKit Go.V
theorem goes : false = Rows.noticeTextsUptoRow.goesBy Tryz.pinned.checked.prog := by kernel_rfl
theorem wfText : Rows.noticeTextsUptoRow.wfByText (Rows.OpenSpec.upto Rows.noticeTextsSpec) = true := by kernel_rfl
end Go.Proofs.YtnfmcjeamolljaaGreatDoor.VJ
