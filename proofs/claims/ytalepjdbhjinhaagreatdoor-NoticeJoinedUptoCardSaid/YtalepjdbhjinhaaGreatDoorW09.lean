/- What the law reaches of the program, part 1. No condition. -/
import Derived.Test.YtalepjdbhjinhaaGreatDoorW07
set_option linter.all false
namespace Go.Proofs.YtalepjdbhjinhaaGreatDoor.VJ
open Go.ChangeShapes Go.WideShapes Go.ChangeAt Go.RowKit Go.V
theorem closedB1:Tryz.pinned.checked.prog.inPlace 4=Rows.noticeJoinedUptoRow.inPlace:=by kernel_rfl
end Go.Proofs.YtalepjdbhjinhaaGreatDoor.VJ
