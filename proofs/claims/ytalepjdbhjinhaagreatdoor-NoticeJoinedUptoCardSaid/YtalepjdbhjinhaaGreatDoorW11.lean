/- What the law reaches of the program, part 3. No condition. -/
import Derived.Test.YtalepjdbhjinhaaGreatDoorW07
set_option linter.all false
namespace Go.Proofs.YtalepjdbhjinhaaGreatDoor.VJ
open Go.ChangeShapes Go.WideShapes Go.ChangeAt Go.RowKit Go.V
theorem closedB3:Tryz.pinned.checked.prog.recurses 4=Rows.noticeJoinedUptoRow.recurses:=by kernel_rfl
end Go.Proofs.YtalepjdbhjinhaaGreatDoor.VJ
