/- Parse returns the notice, or the line and the error, that the definition specifies, for any text: the law NoticeParses returns true. Condition: the argument holds at most 1048576 letters. -/
import Derived.Test.YtnfmcjeamolljaaGreatDoorVT
import Derived.Test.YtnfmcjeamolljaaGreatDoorVU
import Derived.Test.YtnfmcjeamolljaaGreatDoorVV
import Derived.Test.YtnfmcjeamolljaaGreatDoorVrg
set_option linter.unusedSimpArgs false
set_option linter.unusedVariables false
set_option linter.constructorNameAsVariable false
set_option linter.deprecated false
namespace Go.Proofs.YtnfmcjeamolljaaGreatDoor.VJ
open Go.ChangeShapes Go.WideShapes Go.ChangeAt Go.RowKit Go.V
theorem card (goal : Goal) : Rows.NoticeParsesUptoCardSaid :=
  Claim7.holds_tied_plain_at .later [] _ _ _ _ (said goal) (fun _ h => by cases h) wfText (fun _ h => by cases h) noticeParsesUpto_row_tie rfl ⟨rfl, rfl⟩ (by kernel_rfl) rfl plainLooks goes
end Go.Proofs.YtnfmcjeamolljaaGreatDoor.VJ
namespace Go.Proofs.YtnfmcjeamolljaaGreatDoor
open Go.V VJ

/-- The law's function returns true. -/
theorem goal : VJ.Goal := by
  intro das h
  rw [Tryz.params4] at h
  match das, h with
  | [x], h =>
    simp only [ShpAll, agT_9] at h
    obtain ⟨⟨k, cs, h1, rfl⟩, _⟩ := h
    obtain ⟨s, e, hs⟩ := shp_str Tryz.underlying9 h1
    cases e
    exact c_NoticeParses hs Heap.emp
  | [], h => exact h.elim
  | _ :: _ :: _, h => exact h.2.elim

/-- Parse returns the notice, or the line and the error, that the definition specifies, for any text. -/
theorem notice_parses : Rows.NoticeParsesUptoCardSaid := VJ.card goal

#print axioms notice_parses
end Go.Proofs.YtnfmcjeamolljaaGreatDoor
