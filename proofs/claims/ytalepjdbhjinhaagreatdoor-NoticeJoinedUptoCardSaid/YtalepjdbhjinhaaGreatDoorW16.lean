/- From the contract of the law to the row, part 6. No condition. -/
import Derived.Test.YtalepjdbhjinhaaGreatDoorW13
import Derived.Test.YtalepjdbhjinhaaGreatDoorW14
import Derived.Test.YtalepjdbhjinhaaGreatDoorW15
set_option linter.all false
namespace Go.Proofs.YtalepjdbhjinhaaGreatDoor.VJ
open Go.ChangeShapes Go.WideShapes Go.ChangeAt Go.RowKit Go.V
theorem card (goal:Goal):Rows.NoticeJoinedUptoCardSaid:=
 Claim7.holds_tied_plain_at .later [] _ _ _ _ (said goal) (fun _ h=>by cases h) wfText (fun _ h=>by cases h) noticeJoinedUpto_row_tie rfl ⟨rfl,rfl⟩ (by kernel_rfl) rfl plainLooks goes
end Go.Proofs.YtalepjdbhjinhaaGreatDoor.VJ
