/-
  DERIVED. GIVEN WITH THE SEED: THE CARDS: each row of YtmhkjfajejaniaaGreatDoorRows.lean that lists a variable, with what it lists TIED to the program's text (the seventh form; the later family's looks); each row that meets fmt, with fmt's text TOLD by the authors' own Lean function (tested against real Go, not proved from fmt's source: count such statements apart). THE CARD IS WHAT COUNTS. Prove the row's statement (the work); the ties are given (YtmhkjfajejaniaaGreatDoorTie.lean); close each card by the builder's one call (the guide's Derived/Test/ToyasCard.lean, 'card_holds'). Laid BY PROGRAM, IN A SANDBOX (cutbox-door.mjs). By AI agents, Wed Nov 11 2026. No macro, syntax, notation, axiom, sorry.
-/
import Derived.Test.YtmhkjfajejaniaaGreatDoorRows
import GoSem.ClaimSeven
namespace Go.Proofs.YtmhkjfajejaniaaGreatDoor
namespace Rows

/-- THE TIED CARD OF 'licitlaw40.ComplyListed'. -/
def complyListedCard : Claim7 := { stood := { row := complyListedRow, standIns := [], harness := (true, "4ea66966b29c9723466a7a69180eff915642a9cb9b2cec156d66806c401b56d4"), looks := true }, kinds := [], alts := [], laidByText := true, laidKinds := [.data, .data, .data, .data, .sentinel, .sentinel, .pinned], laidTests := true, laidLooks := .later }
def ComplyListedCardSaid : Prop := Claim7.holds Tryz.pinned (.plain (OpenSpec.ofChange complyListedSpec)) complyListedCard

/-- THE TIED CARD OF 'licitlaw40.ComplyDecides'. -/
def complyDecidesCard : Claim7 := { stood := { row := complyDecidesRow, standIns := [], harness := (true, "4ea66966b29c9723466a7a69180eff915642a9cb9b2cec156d66806c401b56d4"), looks := true }, kinds := [], alts := [], laidByText := true, laidKinds := [.data, .data, .data, .data, .sentinel, .sentinel, .pinned], laidTests := true, laidLooks := .later }
def ComplyDecidesCardSaid : Prop := Claim7.holds Tryz.pinned (.plain (OpenSpec.ofChange complyDecidesSpec)) complyDecidesCard

/-- THE TIED CARD OF 'licitlaw40.ComplyAlone'. -/
def complyAloneCard : Claim7 := { stood := { row := complyAloneRow, standIns := [], harness := (true, "4ea66966b29c9723466a7a69180eff915642a9cb9b2cec156d66806c401b56d4"), looks := true }, kinds := [], alts := [], laidByText := true, laidKinds := [.data, .data, .data, .data, .sentinel, .sentinel, .pinned], laidTests := true, laidLooks := .later }
def ComplyAloneCardSaid : Prop := Claim7.holds Tryz.pinned (.plain (OpenSpec.ofChange complyAloneSpec)) complyAloneCard

/-- THE TIED CARD OF 'licitlaw40.ComplyMonotone'. -/
def complyMonotoneCard : Claim7 := { stood := { row := complyMonotoneRow, standIns := [], harness := (true, "4ea66966b29c9723466a7a69180eff915642a9cb9b2cec156d66806c401b56d4"), looks := true }, kinds := [], alts := [], laidByText := true, laidKinds := [.data, .data, .data, .data, .sentinel, .sentinel, .pinned], laidTests := true, laidLooks := .later }
def ComplyMonotoneCardSaid : Prop := Claim7.holds Tryz.pinned (.plain (OpenSpec.ofChange complyMonotoneSpec)) complyMonotoneCard

/-- THE TIED CARD OF 'licitlaw40.ComplyDuties'. -/
def complyDutiesCard : Claim7 := { stood := { row := complyDutiesRow, standIns := [], harness := (true, "4ea66966b29c9723466a7a69180eff915642a9cb9b2cec156d66806c401b56d4"), looks := true }, kinds := [], alts := [], laidByText := true, laidKinds := [.data, .data, .data, .data, .sentinel, .sentinel, .pinned], laidTests := true, laidLooks := .later }
def ComplyDutiesCardSaid : Prop := Claim7.holds Tryz.pinned (.plain (OpenSpec.ofChange complyDutiesSpec)) complyDutiesCard

/-- THE SECOND FORM's CARD OF 'licitlaw40.ComplyListed'. -/
def complyListedUptoCard : Claim7 := { stood := { row := complyListedUptoRow, standIns := [], harness := (true, "4ea66966b29c9723466a7a69180eff915642a9cb9b2cec156d66806c401b56d4"), looks := true }, kinds := [], alts := [], laidByText := true, laidKinds := [.data, .data, .data, .data, .sentinel, .sentinel, .pinned], laidTests := true, laidLooks := .later }
def ComplyListedUptoCardSaid : Prop := Claim7.holds Tryz.pinned (.plain (OpenSpec.upto complyListedSpec)) complyListedUptoCard

/-- THE SECOND FORM's CARD OF 'licitlaw40.ComplyDecides'. -/
def complyDecidesUptoCard : Claim7 := { stood := { row := complyDecidesUptoRow, standIns := [], harness := (true, "4ea66966b29c9723466a7a69180eff915642a9cb9b2cec156d66806c401b56d4"), looks := true }, kinds := [], alts := [], laidByText := true, laidKinds := [.data, .data, .data, .data, .sentinel, .sentinel, .pinned], laidTests := true, laidLooks := .later }
def ComplyDecidesUptoCardSaid : Prop := Claim7.holds Tryz.pinned (.plain (OpenSpec.upto complyDecidesSpec)) complyDecidesUptoCard

/-- THE SECOND FORM's CARD OF 'licitlaw40.ComplyAlone'. -/
def complyAloneUptoCard : Claim7 := { stood := { row := complyAloneUptoRow, standIns := [], harness := (true, "4ea66966b29c9723466a7a69180eff915642a9cb9b2cec156d66806c401b56d4"), looks := true }, kinds := [], alts := [], laidByText := true, laidKinds := [.data, .data, .data, .data, .sentinel, .sentinel, .pinned], laidTests := true, laidLooks := .later }
def ComplyAloneUptoCardSaid : Prop := Claim7.holds Tryz.pinned (.plain (OpenSpec.upto complyAloneSpec)) complyAloneUptoCard

/-- THE SECOND FORM's CARD OF 'licitlaw40.ComplyMonotone'. -/
def complyMonotoneUptoCard : Claim7 := { stood := { row := complyMonotoneUptoRow, standIns := [], harness := (true, "4ea66966b29c9723466a7a69180eff915642a9cb9b2cec156d66806c401b56d4"), looks := true }, kinds := [], alts := [], laidByText := true, laidKinds := [.data, .data, .data, .data, .sentinel, .sentinel, .pinned], laidTests := true, laidLooks := .later }
def ComplyMonotoneUptoCardSaid : Prop := Claim7.holds Tryz.pinned (.plain (OpenSpec.upto complyMonotoneSpec)) complyMonotoneUptoCard

/-- THE SECOND FORM's CARD OF 'licitlaw40.ComplyDuties'. -/
def complyDutiesUptoCard : Claim7 := { stood := { row := complyDutiesUptoRow, standIns := [], harness := (true, "4ea66966b29c9723466a7a69180eff915642a9cb9b2cec156d66806c401b56d4"), looks := true }, kinds := [], alts := [], laidByText := true, laidKinds := [.data, .data, .data, .data, .sentinel, .sentinel, .pinned], laidTests := true, laidLooks := .later }
def ComplyDutiesUptoCardSaid : Prop := Claim7.holds Tryz.pinned (.plain (OpenSpec.upto complyDutiesSpec)) complyDutiesUptoCard
end Rows
end Go.Proofs.YtmhkjfajejaniaaGreatDoor
