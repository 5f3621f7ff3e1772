/- What the law reaches of the program, part 2. No condition. -/
import Derived.Test.YtalepjdbhjinhaaGreatDoorW07
set_option linter.all false
namespace Go.Proofs.YtalepjdbhjinhaaGreatDoor.VJ
open Go.ChangeShapes Go.WideShapes Go.ChangeAt Go.RowKit Go.V
theorem closedB2:Tryz.pinned.checked.prog.unfollowed 4=Rows.noticeJoinedUptoRow.unfollowed:=by kernel_rfl
end Go.Proofs.YtalepjdbhjinhaaGreatDoor.VJ
