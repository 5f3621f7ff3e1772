/- Check, Format and Merge return the errors, texts and notices that the definitions specify: the law NoticeTexts returns true. Condition: the arguments hold together at most 1048576 values and letters. -/
import Derived.Test.YtnfmcjeamolljaaGreatDoorVT
import Derived.Test.YtnfmcjeamolljaaGreatDoorVU
import Derived.Test.YtnfmcjeamolljaaGreatDoorVV
import Derived.Test.YtnfmcjeamolljaaGreatDoorVrg
set_option linter.unusedSimpArgs false
set_option linter.unusedVariables false
set_option linter.constructorNameAsVariable false
set_option linter.deprecated false
namespace Go.Proofs.YtnfmcjeamolljaaGreatDoor.VJ
open Go.ChangeShapes Go.WideShapes Go.ChangeAt Go.RowKit Go.V
theorem card (goal : Goal) : Rows.NoticeTextsUptoCardSaid :=
  Claim7.holds_tied_plain_at .later [] _ _ _ _ (said goal) (fun _ h => by cases h) wfText (fun _ h => by cases h) noticeTextsUpto_row_tie rfl ⟨rfl, rfl⟩ (by kernel_rfl) rfl plainLooks goes
end Go.Proofs.YtnfmcjeamolljaaGreatDoor.VJ
namespace Go.Proofs.YtnfmcjeamolljaaGreatDoor
open Go.V VJ

/-- The law's function returns true. -/
theorem goal : VJ.Goal := by
  intro das h
  rw [Tryz.params3] at h
  match das, h with
  | [x, y], h =>
    simp only [ShpAll, agT_24] at h
    obtain ⟨⟨k, cs, h1, rfl⟩, ⟨k2, cs2, h2, rfl⟩, _⟩ := h
    obtain ⟨n, hn, hs⟩ := shp_note h1
    obtain ⟨m, hm, ht⟩ := shp_note h2
    exact c_NoticeTexts hn hm hs ht Heap.emp
  | [], h => exact h.elim
  | [_], h => exact h.2.elim
  | _ :: _ :: _ :: _, h => exact h.2.2.elim

/-- Check, Format and Merge return the errors, texts and notices that the definitions specify. -/
theorem notice_texts : Rows.NoticeTextsUptoCardSaid := VJ.card goal

#print axioms notice_texts
end Go.Proofs.YtnfmcjeamolljaaGreatDoor
