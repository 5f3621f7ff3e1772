/- From the contract of the law to the row, part 6. No condition. -/
import Derived.Test.YtkenagjlanhnmaaGreatDoorW12
import Derived.Test.YtkenagjlanhnmaaGreatDoorW13
import Derived.Test.YtkenagjlanhnmaaGreatDoorW14
set_option linter.all false
set_option maxHeartbeats 8000000
namespace Go.Proofs.YtkenagjlanhnmaaGreatDoor.VJ
open Go.ChangeShapes Go.WideShapes Go.ChangeAt Go.RowKit Go.V
theorem card(goal:Goal):Rows.ConflictSoundUptoCardSaid:=
 Claim7.holds_tied_plain_at .later [] _ _ _ _ (said goal) (λ_ h=>by cases h) wfText (λ_ h=>by cases h) conflictSoundUpto_row_tie rfl ⟨rfl,rfl⟩ kr rfl plainLooks goes
end Go.Proofs.YtkenagjlanhnmaaGreatDoor.VJ
