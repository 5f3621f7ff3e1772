/-
  DERIVED. GIVEN WITH THE SEED: THE CARDS: each row of YtmkfpfodpehkoaaGreatDoorRows.lean that lists a variable, with what it lists TIED to the program's text (the seventh form; the later family's looks); each row that meets fmt, with fmt's text TOLD by the authors' own Lean function (tested against real Go, not proved from fmt's source: count such statements apart). THE CARD IS WHAT COUNTS. Prove the row's statement (the work); the ties are given (YtmkfpfodpehkoaaGreatDoorTie.lean); close each card by the builder's one call (the guide's Derived/Test/ToyasCard.lean, 'card_holds'). Laid BY PROGRAM, IN A SANDBOX (cutbox-door.mjs). By AI agents, Wed Nov 11 2026. No macro, syntax, notation, axiom, sorry.
-/
import Derived.Test.YtmkfpfodpehkoaaGreatDoorRows
import GoSem.ClaimSeven
namespace Go.Proofs.YtmkfpfodpehkoaaGreatDoor
namespace Rows

/-- THE TIED CARD OF 'licitlaw40.ComplyViolations'. -/
def complyViolationsCard : Claim7 := { stood := { row := complyViolationsRow, standIns := [], harness := (true, "48bc0582f4e7e410000d5bd55a8945aebe9462bcbe67f72709fd272e049f9a3c"), looks := true }, kinds := [], alts := [], laidByText := true, laidKinds := [.data, .data, .data, .data, .sentinel, .sentinel, .pinned], laidTests := true, laidLooks := .later }
def ComplyViolationsCardSaid : Prop := Claim7.holds Tryz.pinned (.plain (OpenSpec.ofChange complyViolationsSpec)) complyViolationsCard

/-- THE TIED CARD OF 'licitlaw40.ComplyChecks'. -/
def complyChecksCard : Claim7 := { stood := { row := complyChecksRow, standIns := [], harness := (true, "48bc0582f4e7e410000d5bd55a8945aebe9462bcbe67f72709fd272e049f9a3c"), looks := true }, kinds := [], alts := [], laidByText := true, laidKinds := [.data, .data, .data, .data, .sentinel, .sentinel, .pinned], laidTests := true, laidLooks := .later }
def ComplyChecksCardSaid : Prop := Claim7.holds Tryz.pinned (.plain (OpenSpec.ofChange complyChecksSpec)) complyChecksCard

/-- THE SECOND FORM's CARD OF 'licitlaw40.ComplyViolations'. -/
def complyViolationsUptoCard : Claim7 := { stood := { row := complyViolationsUptoRow, standIns := [], harness := (true, "48bc0582f4e7e410000d5bd55a8945aebe9462bcbe67f72709fd272e049f9a3c"), looks := true }, kinds := [], alts := [], laidByText := true, laidKinds := [.data, .data, .data, .data, .sentinel, .sentinel, .pinned], laidTests := true, laidLooks := .later }
def ComplyViolationsUptoCardSaid : Prop := Claim7.holds Tryz.pinned (.plain (OpenSpec.upto complyViolationsSpec)) complyViolationsUptoCard

/-- THE SECOND FORM's CARD OF 'licitlaw40.ComplyChecks'. -/
def complyChecksUptoCard : Claim7 := { stood := { row := complyChecksUptoRow, standIns := [], harness := (true, "48bc0582f4e7e410000d5bd55a8945aebe9462bcbe67f72709fd272e049f9a3c"), looks := true }, kinds := [], alts := [], laidByText := true, laidKinds := [.data, .data, .data, .data, .sentinel, .sentinel, .pinned], laidTests := true, laidLooks := .later }
def ComplyChecksUptoCardSaid : Prop := Claim7.holds Tryz.pinned (.plain (OpenSpec.upto complyChecksSpec)) complyChecksUptoCard
end Rows
end Go.Proofs.YtmkfpfodpehkoaaGreatDoor
