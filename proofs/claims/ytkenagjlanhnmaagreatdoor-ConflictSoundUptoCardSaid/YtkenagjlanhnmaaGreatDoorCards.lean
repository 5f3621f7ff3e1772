/-
  DERIVED. GIVEN WITH THE SEED: THE CARDS: each row of YtkenagjlanhnmaaGreatDoorRows.lean that lists a variable, with what it lists TIED to the program's text (the seventh form; the later family's looks); each row that meets fmt, with fmt's text TOLD by the authors' own Lean function (tested against real Go, not proved from fmt's source: count such statements apart). THE CARD IS WHAT COUNTS. Prove the row's statement (the work); the ties are given (YtkenagjlanhnmaaGreatDoorTie.lean); close each card by the builder's one call (the guide's Derived/Test/ToyasCard.lean, 'card_holds'). Laid BY PROGRAM, IN A SANDBOX (cutbox-door.mjs). By AI agents, Wed Nov 11 2026. No macro, syntax, notation, axiom, sorry.
-/
import Derived.Test.YtkenagjlanhnmaaGreatDoorRows
import GoSem.ClaimSeven
namespace Go.Proofs.YtkenagjlanhnmaaGreatDoor
namespace Rows

/-- THE TIED CARD OF 'licitlaw42.ConflictChecks'. -/
def conflictChecksCard : Claim7 := { stood := { row := conflictChecksRow, standIns := [], harness := (true, "5a38446364b7b31a32cbe5ed70330e5550da935f95cb8c55d6d9da35cf5615df"), looks := true }, kinds := [], alts := [], laidByText := true, laidKinds := [.data, .data, .data, .data, .sentinel, .sentinel, .pinned], laidTests := true, laidLooks := .later }
def ConflictChecksCardSaid : Prop := Claim7.holds Tryz.pinned (.plain (OpenSpec.ofChange conflictChecksSpec)) conflictChecksCard

/-- THE TIED CARD OF 'licitlaw42.ConflictSound'. -/
def conflictSoundCard : Claim7 := { stood := { row := conflictSoundRow, standIns := [], harness := (true, "5a38446364b7b31a32cbe5ed70330e5550da935f95cb8c55d6d9da35cf5615df"), looks := true }, kinds := [], alts := [], laidByText := true, laidKinds := [.data, .data, .data, .data, .sentinel, .sentinel, .pinned], laidTests := true, laidLooks := .later }
def ConflictSoundCardSaid : Prop := Claim7.holds Tryz.pinned (.plain (OpenSpec.ofChange conflictSoundSpec)) conflictSoundCard

/-- THE TIED CARD OF 'licitlaw42.ConflictAgain'. -/
def conflictAgainCard : Claim7 := { stood := { row := conflictAgainRow, standIns := [], harness := (true, "5a38446364b7b31a32cbe5ed70330e5550da935f95cb8c55d6d9da35cf5615df"), looks := true }, kinds := [], alts := [], laidByText := true, laidKinds := [.data, .data, .data, .data, .sentinel, .sentinel, .pinned], laidTests := true, laidLooks := .later }
def ConflictAgainCardSaid : Prop := Claim7.holds Tryz.pinned (.plain (OpenSpec.ofChange conflictAgainSpec)) conflictAgainCard

/-- THE TIED CARD OF 'licitlaw42.ConflictPacks'. -/
def conflictPacksCard : Claim7 := { stood := { row := conflictPacksRow, standIns := [], harness := (true, "5a38446364b7b31a32cbe5ed70330e5550da935f95cb8c55d6d9da35cf5615df"), looks := true }, kinds := [], alts := [], laidByText := true, laidKinds := [.data, .data, .data, .data, .sentinel, .sentinel, .pinned], laidTests := true, laidLooks := .later }
def ConflictPacksCardSaid : Prop := Claim7.holds Tryz.pinned (.plain (OpenSpec.ofChange conflictPacksSpec)) conflictPacksCard

/-- THE TIED CARD OF 'licitlaw42.ConflictKinds'. -/
def conflictKindsCard : Claim7 := { stood := { row := conflictKindsRow, standIns := [], harness := (true, "5a38446364b7b31a32cbe5ed70330e5550da935f95cb8c55d6d9da35cf5615df"), looks := true }, kinds := [], alts := [], laidByText := true, laidKinds := [.data, .data, .data, .data, .sentinel, .sentinel, .pinned], laidTests := true, laidLooks := .later }
def ConflictKindsCardSaid : Prop := Claim7.holds Tryz.pinned (.plain (OpenSpec.ofChange conflictKindsSpec)) conflictKindsCard

/-- THE SECOND FORM's CARD OF 'licitlaw42.ConflictChecks'. -/
def conflictChecksUptoCard : Claim7 := { stood := { row := conflictChecksUptoRow, standIns := [], harness := (true, "5a38446364b7b31a32cbe5ed70330e5550da935f95cb8c55d6d9da35cf5615df"), looks := true }, kinds := [], alts := [], laidByText := true, laidKinds := [.data, .data, .data, .data, .sentinel, .sentinel, .pinned], laidTests := true, laidLooks := .later }
def ConflictChecksUptoCardSaid : Prop := Claim7.holds Tryz.pinned (.plain (OpenSpec.upto conflictChecksSpec)) conflictChecksUptoCard

/-- THE SECOND FORM's CARD OF 'licitlaw42.ConflictSound'. -/
def conflictSoundUptoCard : Claim7 := { stood := { row := conflictSoundUptoRow, standIns := [], harness := (true, "5a38446364b7b31a32cbe5ed70330e5550da935f95cb8c55d6d9da35cf5615df"), looks := true }, kinds := [], alts := [], laidByText := true, laidKinds := [.data, .data, .data, .data, .sentinel, .sentinel, .pinned], laidTests := true, laidLooks := .later }
def ConflictSoundUptoCardSaid : Prop := Claim7.holds Tryz.pinned (.plain (OpenSpec.upto conflictSoundSpec)) conflictSoundUptoCard

/-- THE SECOND FORM's CARD OF 'licitlaw42.ConflictAgain'. -/
def conflictAgainUptoCard : Claim7 := { stood := { row := conflictAgainUptoRow, standIns := [], harness := (true, "5a38446364b7b31a32cbe5ed70330e5550da935f95cb8c55d6d9da35cf5615df"), looks := true }, kinds := [], alts := [], laidByText := true, laidKinds := [.data, .data, .data, .data, .sentinel, .sentinel, .pinned], laidTests := true, laidLooks := .later }
def ConflictAgainUptoCardSaid : Prop := Claim7.holds Tryz.pinned (.plain (OpenSpec.upto conflictAgainSpec)) conflictAgainUptoCard

/-- THE SECOND FORM's CARD OF 'licitlaw42.ConflictPacks'. -/
def conflictPacksUptoCard : Claim7 := { stood := { row := conflictPacksUptoRow, standIns := [], harness := (true, "5a38446364b7b31a32cbe5ed70330e5550da935f95cb8c55d6d9da35cf5615df"), looks := true }, kinds := [], alts := [], laidByText := true, laidKinds := [.data, .data, .data, .data, .sentinel, .sentinel, .pinned], laidTests := true, laidLooks := .later }
def ConflictPacksUptoCardSaid : Prop := Claim7.holds Tryz.pinned (.plain (OpenSpec.upto conflictPacksSpec)) conflictPacksUptoCard

/-- THE SECOND FORM's CARD OF 'licitlaw42.ConflictKinds'. -/
def conflictKindsUptoCard : Claim7 := { stood := { row := conflictKindsUptoRow, standIns := [], harness := (true, "5a38446364b7b31a32cbe5ed70330e5550da935f95cb8c55d6d9da35cf5615df"), looks := true }, kinds := [], alts := [], laidByText := true, laidKinds := [.data, .data, .data, .data, .sentinel, .sentinel, .pinned], laidTests := true, laidLooks := .later }
def ConflictKindsUptoCardSaid : Prop := Claim7.holds Tryz.pinned (.plain (OpenSpec.upto conflictKindsSpec)) conflictKindsUptoCard
end Rows
end Go.Proofs.YtkenagjlanhnmaaGreatDoor
