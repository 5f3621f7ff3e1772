/- From the contract of the law to the row, part 5. No condition. -/
import Derived.Test.YtmhkjfajejaniaaGreatDoorW07
set_option linter.all false
namespace Go.Proofs.YtmhkjfajejaniaaGreatDoor.VJ
open Go.ChangeShapes Go.WideShapes Go.ChangeAt Go.RowKit Go.V
theorem goes:false=Rows.complyDutiesUptoRow.goesBy Tryz.pinned.checked.prog:=by kernel_rfl
theorem wfText:Rows.complyDutiesUptoRow.wfByText (Rows.OpenSpec.upto Rows.complyDutiesSpec)=true:=by kernel_rfl
end Go.Proofs.YtmhkjfajejaniaaGreatDoor.VJ
