/- From the contract of the law to the row, part 6. No condition. -/
import Derived.Test.YtmhkjfajejaniaaGreatDoorW13
import Derived.Test.YtmhkjfajejaniaaGreatDoorW14
import Derived.Test.YtmhkjfajejaniaaGreatDoorW15
set_option linter.all false
namespace Go.Proofs.YtmhkjfajejaniaaGreatDoor.VJ
open Go.ChangeShapes Go.WideShapes Go.ChangeAt Go.RowKit Go.V
theorem card (goal:Goal):Rows.ComplyDutiesUptoCardSaid:=
 Claim7.holds_tied_plain_at .later [] _ _ _ _ (said goal) (fun _ h=>by cases h) wfText (fun _ h=>by cases h) complyDutiesUpto_row_tie rfl ⟨rfl,rfl⟩ (by kernel_rfl) rfl plainLooks goes
end Go.Proofs.YtmhkjfajejaniaaGreatDoor.VJ
