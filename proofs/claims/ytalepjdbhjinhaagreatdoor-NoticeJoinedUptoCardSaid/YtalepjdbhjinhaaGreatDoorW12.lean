/- What the law reaches of the program, part 4. No condition. -/
import Derived.Test.YtalepjdbhjinhaaGreatDoorW07
set_option linter.all false
namespace Go.Proofs.YtalepjdbhjinhaaGreatDoor.VJ
open Go.ChangeShapes Go.WideShapes Go.ChangeAt Go.RowKit Go.V
theorem closedB4:Tryz.pinned.checked.prog.varsNamed 4=Rows.noticeJoinedUptoRow.named:=by kernel_rfl
end Go.Proofs.YtalepjdbhjinhaaGreatDoor.VJ
