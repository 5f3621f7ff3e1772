/- From the contract of the law to the row, part 5. No condition. -/
import Derived.Test.YtmhkjfajejaniaaGreatDoorW07
set_option linter.unusedSimpArgs false
set_option linter.unusedVariables false
set_option linter.constructorNameAsVariable false
set_option linter.deprecated false
namespace Go.Proofs.YtmhkjfajejaniaaGreatDoor.VJ
open Go.ChangeShapes Go.WideShapes Go.ChangeAt Go.RowKit Go.V
theorem goes:false=Rows.complyListedUptoRow.goesBy Tryz.pinned.checked.prog:=by kernel_rfl
theorem wfText:Rows.complyListedUptoRow.wfByText (Rows.OpenSpec.upto Rows.complyListedSpec)=true:=by kernel_rfl
end Go.Proofs.YtmhkjfajejaniaaGreatDoor.VJ
