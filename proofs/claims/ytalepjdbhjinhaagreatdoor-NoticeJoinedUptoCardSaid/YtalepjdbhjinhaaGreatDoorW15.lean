/- From the contract of the law to the row, part 5. No condition. -/
import Derived.Test.YtalepjdbhjinhaaGreatDoorW07
set_option linter.all false
namespace Go.Proofs.YtalepjdbhjinhaaGreatDoor.VJ
open Go.ChangeShapes Go.WideShapes Go.ChangeAt Go.RowKit Go.V
theorem goes:false=Rows.noticeJoinedUptoRow.goesBy Tryz.pinned.checked.prog:=by kernel_rfl
theorem wfText:Rows.noticeJoinedUptoRow.wfByText (Rows.OpenSpec.upto Rows.noticeJoinedSpec)=true:=by kernel_rfl
end Go.Proofs.YtalepjdbhjinhaaGreatDoor.VJ
