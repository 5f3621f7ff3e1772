/- What the law reaches of the program, part 3. No condition. -/
import Derived.Test.YtmhkjfajejaniaaGreatDoorW07
set_option linter.all false
namespace Go.Proofs.YtmhkjfajejaniaaGreatDoor.VJ
open Go.ChangeShapes Go.WideShapes Go.ChangeAt Go.RowKit Go.V
theorem closedB3:Tryz.pinned.checked.prog.recurses 7=Rows.complyDutiesUptoRow.recurses:=by kernel_rfl
end Go.Proofs.YtmhkjfajejaniaaGreatDoor.VJ
