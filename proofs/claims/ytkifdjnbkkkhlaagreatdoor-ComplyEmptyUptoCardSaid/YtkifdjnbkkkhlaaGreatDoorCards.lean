/-
  DERIVED. GIVEN WITH THE SEED: THE CARDS: each row of YtkifdjnbkkkhlaaGreatDoorRows.lean that lists a variable, with what it lists TIED to the program's text (the seventh form; the later family's looks); each row that meets fmt, with fmt's text TOLD by the authors' own Lean function (tested against real Go, not proved from fmt's source: count such statements apart). THE CARD IS WHAT COUNTS. Prove the row's statement (the work); the ties are given (YtkifdjnbkkkhlaaGreatDoorTie.lean); close each card by the builder's one call (the guide's Derived/Test/ToyasCard.lean, 'card_holds'). Laid BY PROGRAM, IN A SANDBOX (cutbox-door.mjs). By AI agents, Wed Nov 11 2026. No macro, syntax, notation, axiom, sorry.
-/
import Derived.Test.YtkifdjnbkkkhlaaGreatDoorRows
import GoSem.ClaimSeven
namespace Go.Proofs.YtkifdjnbkkkhlaaGreatDoor
namespace Rows

/-- THE TIED CARD OF 'licitlaw40.ComplyEmpty'. -/
def complyEmptyCard : Claim7 := { stood := { row := complyEmptyRow, standIns := [], harness := (true, "1b80f118b7201e4e4a250afe3a078395bc29287040c8069b679321edbedefa0e"), looks := true }, kinds := [], alts := [], laidByText := true, laidKinds := [.data, .data, .data, .data, .sentinel, .sentinel, .pinned], laidTests := true, laidLooks := .later }
def ComplyEmptyCardSaid : Prop := Claim7.holds Tryz.pinned (.plain (OpenSpec.ofChange complyEmptySpec)) complyEmptyCard

/-- THE TIED CARD OF 'licitlaw42.ConflictParts'. -/
def conflictPartsCard : Claim7 := { stood := { row := conflictPartsRow, standIns := [], harness := (true, "1b80f118b7201e4e4a250afe3a078395bc29287040c8069b679321edbedefa0e"), looks := true }, kinds := [], alts := [], laidByText := true, laidKinds := [.data, .data, .data, .data, .sentinel, .sentinel, .pinned], laidTests := true, laidLooks := .later }
def ConflictPartsCardSaid : Prop := Claim7.holds Tryz.pinned (.plain (OpenSpec.ofChange conflictPartsSpec)) conflictPartsCard

/-- THE SECOND FORM's CARD OF 'licitlaw40.ComplyEmpty'. -/
def complyEmptyUptoCard : Claim7 := { stood := { row := complyEmptyUptoRow, standIns := [], harness := (true, "1b80f118b7201e4e4a250afe3a078395bc29287040c8069b679321edbedefa0e"), looks := true }, kinds := [], alts := [], laidByText := true, laidKinds := [.data, .data, .data, .data, .sentinel, .sentinel, .pinned], laidTests := true, laidLooks := .later }
def ComplyEmptyUptoCardSaid : Prop := Claim7.holds Tryz.pinned (.plain (OpenSpec.upto complyEmptySpec)) complyEmptyUptoCard

/-- THE SECOND FORM's CARD OF 'licitlaw42.ConflictParts'. -/
def conflictPartsUptoCard : Claim7 := { stood := { row := conflictPartsUptoRow, standIns := [], harness := (true, "1b80f118b7201e4e4a250afe3a078395bc29287040c8069b679321edbedefa0e"), looks := true }, kinds := [], alts := [], laidByText := true, laidKinds := [.data, .data, .data, .data, .sentinel, .sentinel, .pinned], laidTests := true, laidLooks := .later }
def ConflictPartsUptoCardSaid : Prop := Claim7.holds Tryz.pinned (.plain (OpenSpec.upto conflictPartsSpec)) conflictPartsUptoCard
end Rows
end Go.Proofs.YtkifdjnbkkkhlaaGreatDoor
