/- conflict.Part returns the facts with the given indices, or the specified error, for any case and indices: the law ConflictParts returns true. Condition: the arguments hold together at most 1048576 values and letters. -/
import Derived.Test.YtkifdjnbkkkhlaaGreatDoorVT
import Derived.Test.YtkifdjnbkkkhlaaGreatDoorVU
import Derived.Test.YtkifdjnbkkkhlaaGreatDoorVV
import Derived.Test.YtkifdjnbkkkhlaaGreatDoorVz
import Derived.Test.YtkifdjnbkkkhlaaGreatDoorVxA
set_option linter.unusedSimpArgs false
set_option linter.unusedVariables false
set_option linter.constructorNameAsVariable false
set_option linter.deprecated false
namespace Go.Proofs.YtkifdjnbkkkhlaaGreatDoor.VJ
open Go.ChangeShapes Go.WideShapes Go.ChangeAt Go.RowKit Go.V
theorem card (goal : Goal) : Rows.ConflictPartsUptoCardSaid :=
  Claim7.holds_tied_plain_at .later [] _ _ _ _ (said goal) (fun _ h => by cases h) wfText (fun _ h => by cases h) conflictPartsUpto_row_tie rfl ⟨rfl, rfl⟩ (by kernel_rfl) rfl plainLooks goes
end Go.Proofs.YtkifdjnbkkkhlaaGreatDoor.VJ
namespace Go.Proofs.YtkifdjnbkkkhlaaGreatDoor
open Go.V VJ

theorem ints_of : ∀ {ys : List (List D)}, (∀ y ∈ ys, ∃ n, y = [D.int .i64 n] ∧ fits .i64 n) → ∃ ks, ys = ints ks ∧ ∀ n ∈ ks, fits .i64 n
  | [], _ => ⟨[], rfl, fun n hn => by cases hn⟩
  | y :: ys, h => by
    obtain ⟨n, rfl, hn⟩ := h y (by simp)
    obtain ⟨ks, rfl, hk⟩ := ints_of (ys := ys) fun z hz => h z (List.mem_cons_of_mem _ hz)
    exact ⟨n :: ks, rfl, fun m hm => by
      rcases List.mem_cons.1 hm with rfl | hm
      · exact hn
      · exact hk m hm⟩

/-- The law's function returns true. -/
theorem goal : VJ.Goal := by
  intro das h
  rw [Tryz.params4] at h
  match das, h with
  | [x, f], h =>
    simp only [ShpAll, agT_25, agT_46] at h
    obtain ⟨⟨k, cs, h1, rfl⟩, ⟨k2, cs2, h2, rfl⟩, _⟩ := h
    obtain ⟨d, xs, j, e, hj, hs, _, hl, hx⟩ := shp_sl Tryz.underlying25 szT_31 h1
    cases e
    obtain ⟨d2, ys, j2, e2, hj2, hs2, _, hl2, hy⟩ := shp_sl Tryz.underlying46 szT_3 h2
    cases e2
    obtain ⟨ks, rfl, hk⟩ := ints_of fun y hyy => shp_int Tryz.underlying3 (hy y hyy)
    rw [ints_length] at hl2
    exact c_law hs hx hs2 hl2 hk awake_licitlaw42 Heap.emp
  | [], h => exact h.elim
  | [_], h => exact h.2.elim
  | _ :: _ :: _ :: _, h => exact h.2.2.elim

/-- Part returns the facts with the given indices, or the specified error. -/
theorem conflict_parts : Rows.ConflictPartsUptoCardSaid := VJ.card goal

#print axioms conflict_parts
end Go.Proofs.YtkifdjnbkkkhlaaGreatDoor
