/- From the contract of the law to the row, part 6. No condition. -/
import Derived.Test.YtmkfpfodpehkoaaGreatDoorW12
import Derived.Test.YtmkfpfodpehkoaaGreatDoorW13
import Derived.Test.YtmkfpfodpehkoaaGreatDoorW14
set_option linter.all false
set_option maxHeartbeats 8000000
namespace Go.Proofs.YtmkfpfodpehkoaaGreatDoor.VJ
open Go.ChangeShapes Go.WideShapes Go.ChangeAt Go.RowKit Go.V
theorem card(goal:Goal):Rows.ComplyViolationsUptoCardSaid:=
 Claim7.holds_tied_plain_at .later [] _ _ _ _ (said goal) (λ_ h=>by cases h) wfText (λ_ h=>by cases h) complyViolationsUpto_row_tie rfl ⟨rfl,rfl⟩ kr rfl plainLooks goes
end Go.Proofs.YtmkfpfodpehkoaaGreatDoor.VJ
