/- Without licenses in the catalog each shipping is violated, and nothing else can be: the law ComplyEmpty returns true. Condition: the arguments hold together at most 1048576 values and letters. -/
import Derived.Test.YtkifdjnbkkkhlaaGreatDoorVT
import Derived.Test.YtkifdjnbkkkhlaaGreatDoorVU
import Derived.Test.YtkifdjnbkkkhlaaGreatDoorVV
import Derived.Test.YtkifdjnbkkkhlaaGreatDoorVq
set_option linter.unusedSimpArgs false
set_option linter.unusedVariables false
set_option linter.constructorNameAsVariable false
set_option linter.deprecated false
namespace Go.Proofs.YtkifdjnbkkkhlaaGreatDoor.VJ
open Go.ChangeShapes Go.WideShapes Go.ChangeAt Go.RowKit Go.V
theorem card (goal : Goal) : Rows.ComplyEmptyUptoCardSaid :=
  Claim7.holds_tied_plain_at .later [] _ _ _ _ (said goal) (fun _ h => by cases h) wfText (fun _ h => by cases h) complyEmptyUpto_row_tie rfl ⟨rfl, rfl⟩ (by kernel_rfl) rfl plainLooks goes
end Go.Proofs.YtkifdjnbkkkhlaaGreatDoor.VJ
namespace Go.Proofs.YtkifdjnbkkkhlaaGreatDoor
open Go.V VJ

theorem bytes_of : ∀ {ys : List (List D)}, (∀ y ∈ ys, ∃ n, y = [D.int .u8 n] ∧ fits .u8 n) → ∃ os, ys = bytesD os ∧ ∀ n ∈ os, n < 256
  | [], _ => ⟨[], rfl, fun n hn => by cases hn⟩
  | y :: ys, h => by
    obtain ⟨n, rfl, hn⟩ := h y (by simp)
    obtain ⟨os, rfl, hk⟩ := bytes_of (ys := ys) fun z hz => h z (List.mem_cons_of_mem _ hz)
    rw [fits_iff] at hn
    simp [IntKind.min, IntKind.max, IntKind.signed, IntKind.bits] at hn
    obtain ⟨m, rfl⟩ := Int.eq_ofNat_of_zero_le hn.1
    refine ⟨m :: os, rfl, fun q hq => ?_⟩
    rcases List.mem_cons.1 hq with rfl | hq
    · omega
    · exact hk q hq

/-- The law's function returns true. -/
theorem goal : VJ.Goal := by
  intro das h
  rw [Tryz.params3] at h
  match das, h with
  | [x], h =>
    simp only [ShpAll, agT_22] at h
    obtain ⟨⟨k, cs, h1, rfl⟩, _⟩ := h
    obtain ⟨d, xs, j, e, hj, hs, _, hl, hx⟩ := shp_sl Tryz.underlying22 szT_5 h1
    cases e
    obtain ⟨os, rfl, hk⟩ := bytes_of fun y hyy => shp_int Tryz.underlying5 (hx y hyy)
    rw [bytesD_length] at hl
    exact c_ComplyEmpty hk hs hl Heap.emp
  | [], h => exact h.elim
  | _ :: _ :: _, h => exact h.2.elim

/-- Without licenses in the catalog, each shipping is violated, and nothing else can be. -/
theorem comply_empty : Rows.ComplyEmptyUptoCardSaid := VJ.card goal

#print axioms comply_empty
end Go.Proofs.YtkifdjnbkkkhlaaGreatDoor
