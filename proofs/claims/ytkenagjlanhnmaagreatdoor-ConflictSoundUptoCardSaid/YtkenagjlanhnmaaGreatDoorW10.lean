/- What the law reaches of the program, part 3. No condition. -/
import Derived.Test.YtkenagjlanhnmaaGreatDoorW06
set_option linter.all false
set_option maxHeartbeats 8000000
namespace Go.Proofs.YtkenagjlanhnmaaGreatDoor.VJ
open Go.ChangeShapes Go.WideShapes Go.ChangeAt Go.RowKit Go.V
theorem closedB3:Tryz.pinned.checked.prog.recurses 4=Rows.conflictSoundUptoRow.recurses:=kr
end Go.Proofs.YtkenagjlanhnmaaGreatDoor.VJ
