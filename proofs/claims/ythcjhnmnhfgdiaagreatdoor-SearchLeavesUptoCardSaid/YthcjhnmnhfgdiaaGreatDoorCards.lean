/-
  DERIVED. GIVEN WITH THE SEED: THE CARDS: each row of YthcjhnmnhfgdiaaGreatDoorRows.lean that lists a variable, with what it lists TIED to the program's text (the seventh form; the later family's looks); each row that meets fmt, with fmt's text TOLD by the authors' own Lean function (tested against real Go, not proved from fmt's source: count such statements apart). THE CARD IS WHAT COUNTS. Prove the row's statement (the work); the ties are given (YthcjhnmnhfgdiaaGreatDoorTie.lean); close each card by the builder's one call (the guide's Derived/Test/ToyasCard.lean, 'card_holds'). Laid BY PROGRAM, IN A SANDBOX (cutbox-door.mjs). By AI agents, Wed Nov 11 2026. No macro, syntax, notation, axiom, sorry.
-/
import Derived.Test.YthcjhnmnhfgdiaaGreatDoorRows
import GoSem.ClaimSeven
namespace Go.Proofs.YthcjhnmnhfgdiaaGreatDoor
namespace Rows

/-- THE TIED CARD OF 'licitlaw41.SearchChecks'. -/
def searchChecksCard : Claim7 := { stood := { row := searchChecksRow, standIns := [], harness := (true, "123bb1af897bcfa489abc86a9875f5830d02afea64d9895561fb2af7e74197f3"), looks := true }, kinds := [], alts := [], laidByText := true, laidKinds := [.data, .data, .data, .data, .sentinel, .sentinel, .pinned], laidTests := true, laidLooks := .later }
def SearchChecksCardSaid : Prop := Claim7.holds Tryz.pinned (.plain (OpenSpec.ofChange searchChecksSpec)) searchChecksCard

/-- THE TIED CARD OF 'licitlaw41.SearchSound'. -/
def searchSoundCard : Claim7 := { stood := { row := searchSoundRow, standIns := [], harness := (true, "123bb1af897bcfa489abc86a9875f5830d02afea64d9895561fb2af7e74197f3"), looks := true }, kinds := [], alts := [], laidByText := true, laidKinds := [.data, .data, .data, .data, .sentinel, .sentinel, .pinned], laidTests := true, laidLooks := .later }
def SearchSoundCardSaid : Prop := Claim7.holds Tryz.pinned (.plain (OpenSpec.ofChange searchSoundSpec)) searchSoundCard

/-- THE TIED CARD OF 'licitlaw41.SearchCore'. -/
def searchCoreCard : Claim7 := { stood := { row := searchCoreRow, standIns := [], harness := (true, "123bb1af897bcfa489abc86a9875f5830d02afea64d9895561fb2af7e74197f3"), looks := true }, kinds := [], alts := [], laidByText := true, laidKinds := [.data, .data, .data, .data, .sentinel, .sentinel, .pinned], laidTests := true, laidLooks := .later }
def SearchCoreCardSaid : Prop := Claim7.holds Tryz.pinned (.plain (OpenSpec.ofChange searchCoreSpec)) searchCoreCard

/-- THE TIED CARD OF 'licitlaw41.SearchMonotone'. -/
def searchMonotoneCard : Claim7 := { stood := { row := searchMonotoneRow, standIns := [], harness := (true, "123bb1af897bcfa489abc86a9875f5830d02afea64d9895561fb2af7e74197f3"), looks := true }, kinds := [], alts := [], laidByText := true, laidKinds := [.data, .data, .data, .data, .sentinel, .sentinel, .pinned], laidTests := true, laidLooks := .later }
def SearchMonotoneCardSaid : Prop := Claim7.holds Tryz.pinned (.plain (OpenSpec.ofChange searchMonotoneSpec)) searchMonotoneCard

/-- THE TIED CARD OF 'licitlaw41.SearchLeaves'. -/
def searchLeavesCard : Claim7 := { stood := { row := searchLeavesRow, standIns := [], harness := (true, "123bb1af897bcfa489abc86a9875f5830d02afea64d9895561fb2af7e74197f3"), looks := true }, kinds := [], alts := [], laidByText := true, laidKinds := [.data, .data, .data, .data, .sentinel, .sentinel, .pinned], laidTests := true, laidLooks := .later }
def SearchLeavesCardSaid : Prop := Claim7.holds Tryz.pinned (.plain (OpenSpec.ofChange searchLeavesSpec)) searchLeavesCard

/-- THE SECOND FORM's CARD OF 'licitlaw41.SearchChecks'. -/
def searchChecksUptoCard : Claim7 := { stood := { row := searchChecksUptoRow, standIns := [], harness := (true, "123bb1af897bcfa489abc86a9875f5830d02afea64d9895561fb2af7e74197f3"), looks := true }, kinds := [], alts := [], laidByText := true, laidKinds := [.data, .data, .data, .data, .sentinel, .sentinel, .pinned], laidTests := true, laidLooks := .later }
def SearchChecksUptoCardSaid : Prop := Claim7.holds Tryz.pinned (.plain (OpenSpec.upto searchChecksSpec)) searchChecksUptoCard

/-- THE SECOND FORM's CARD OF 'licitlaw41.SearchSound'. -/
def searchSoundUptoCard : Claim7 := { stood := { row := searchSoundUptoRow, standIns := [], harness := (true, "123bb1af897bcfa489abc86a9875f5830d02afea64d9895561fb2af7e74197f3"), looks := true }, kinds := [], alts := [], laidByText := true, laidKinds := [.data, .data, .data, .data, .sentinel, .sentinel, .pinned], laidTests := true, laidLooks := .later }
def SearchSoundUptoCardSaid : Prop := Claim7.holds Tryz.pinned (.plain (OpenSpec.upto searchSoundSpec)) searchSoundUptoCard

/-- THE SECOND FORM's CARD OF 'licitlaw41.SearchCore'. -/
def searchCoreUptoCard : Claim7 := { stood := { row := searchCoreUptoRow, standIns := [], harness := (true, "123bb1af897bcfa489abc86a9875f5830d02afea64d9895561fb2af7e74197f3"), looks := true }, kinds := [], alts := [], laidByText := true, laidKinds := [.data, .data, .data, .data, .sentinel, .sentinel, .pinned], laidTests := true, laidLooks := .later }
def SearchCoreUptoCardSaid : Prop := Claim7.holds Tryz.pinned (.plain (OpenSpec.upto searchCoreSpec)) searchCoreUptoCard

/-- THE SECOND FORM's CARD OF 'licitlaw41.SearchMonotone'. -/
def searchMonotoneUptoCard : Claim7 := { stood := { row := searchMonotoneUptoRow, standIns := [], harness := (true, "123bb1af897bcfa489abc86a9875f5830d02afea64d9895561fb2af7e74197f3"), looks := true }, kinds := [], alts := [], laidByText := true, laidKinds := [.data, .data, .data, .data, .sentinel, .sentinel, .pinned], laidTests := true, laidLooks := .later }
def SearchMonotoneUptoCardSaid : Prop := Claim7.holds Tryz.pinned (.plain (OpenSpec.upto searchMonotoneSpec)) searchMonotoneUptoCard

/-- THE SECOND FORM's CARD OF 'licitlaw41.SearchLeaves'. -/
def searchLeavesUptoCard : Claim7 := { stood := { row := searchLeavesUptoRow, standIns := [], harness := (true, "123bb1af897bcfa489abc86a9875f5830d02afea64d9895561fb2af7e74197f3"), looks := true }, kinds := [], alts := [], laidByText := true, laidKinds := [.data, .data, .data, .data, .sentinel, .sentinel, .pinned], laidTests := true, laidLooks := .later }
def SearchLeavesUptoCardSaid : Prop := Claim7.holds Tryz.pinned (.plain (OpenSpec.upto searchLeavesSpec)) searchLeavesUptoCard
end Rows
end Go.Proofs.YthcjhnmnhfgdiaaGreatDoor
