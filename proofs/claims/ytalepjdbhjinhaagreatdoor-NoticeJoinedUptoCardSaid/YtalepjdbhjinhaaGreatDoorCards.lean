/-
  DERIVED. GIVEN WITH THE SEED: THE CARDS: each row of YtalepjdbhjinhaaGreatDoorRows.lean that lists a variable, with what it lists TIED to the program's text (the seventh form; the later family's looks); each row that meets fmt, with fmt's text TOLD by the authors' own Lean function (tested against real Go, not proved from fmt's source: count such statements apart). THE CARD IS WHAT COUNTS. Prove the row's statement (the work); the ties are given (YtalepjdbhjinhaaGreatDoorTie.lean); close each card by the builder's one call (the guide's Derived/Test/ToyasCard.lean, 'card_holds'). Laid BY PROGRAM, IN A SANDBOX (cutbox-door.mjs). By AI agents, Wed Nov 11 2026. No macro, syntax, notation, axiom, sorry.
-/
import Derived.Test.YtalepjdbhjinhaaGreatDoorRows
import GoSem.ClaimSeven
namespace Go.Proofs.YtalepjdbhjinhaaGreatDoor
namespace Rows

/-- THE TIED CARD OF 'licitlaw44.NoticeExact'. -/
def noticeExactCard : Claim7 := { stood := { row := noticeExactRow, standIns := [], harness := (true, "5a95b67ca265b89e6e3862a149d0010a187d9572f1d7f601cd57b7a17b51b05f"), looks := true }, kinds := [], alts := [], laidByText := true, laidKinds := [.data, .data, .data, .data, .sentinel, .sentinel, .pinned], laidTests := true, laidLooks := .later }
def NoticeExactCardSaid : Prop := Claim7.holds Tryz.pinned (.plain (OpenSpec.ofChange noticeExactSpec)) noticeExactCard

/-- THE TIED CARD OF 'licitlaw44.NoticeJoined'. -/
def noticeJoinedCard : Claim7 := { stood := { row := noticeJoinedRow, standIns := [], harness := (true, "5a95b67ca265b89e6e3862a149d0010a187d9572f1d7f601cd57b7a17b51b05f"), looks := true }, kinds := [], alts := [], laidByText := true, laidKinds := [.data, .data, .data, .data, .sentinel, .sentinel, .pinned], laidTests := true, laidLooks := .later }
def NoticeJoinedCardSaid : Prop := Claim7.holds Tryz.pinned (.plain (OpenSpec.ofChange noticeJoinedSpec)) noticeJoinedCard

/-- THE TIED CARD OF 'licitlaw44.NoticeFulfils'. -/
def noticeFulfilsCard : Claim7 := { stood := { row := noticeFulfilsRow, standIns := [], harness := (true, "5a95b67ca265b89e6e3862a149d0010a187d9572f1d7f601cd57b7a17b51b05f"), looks := true }, kinds := [], alts := [], laidByText := true, laidKinds := [.data, .data, .data, .data, .sentinel, .sentinel, .pinned], laidTests := true, laidLooks := .later }
def NoticeFulfilsCardSaid : Prop := Claim7.holds Tryz.pinned (.plain (OpenSpec.ofChange noticeFulfilsSpec)) noticeFulfilsCard

/-- THE SECOND FORM's CARD OF 'licitlaw44.NoticeExact'. -/
def noticeExactUptoCard : Claim7 := { stood := { row := noticeExactUptoRow, standIns := [], harness := (true, "5a95b67ca265b89e6e3862a149d0010a187d9572f1d7f601cd57b7a17b51b05f"), looks := true }, kinds := [], alts := [], laidByText := true, laidKinds := [.data, .data, .data, .data, .sentinel, .sentinel, .pinned], laidTests := true, laidLooks := .later }
def NoticeExactUptoCardSaid : Prop := Claim7.holds Tryz.pinned (.plain (OpenSpec.upto noticeExactSpec)) noticeExactUptoCard

/-- THE SECOND FORM's CARD OF 'licitlaw44.NoticeJoined'. -/
def noticeJoinedUptoCard : Claim7 := { stood := { row := noticeJoinedUptoRow, standIns := [], harness := (true, "5a95b67ca265b89e6e3862a149d0010a187d9572f1d7f601cd57b7a17b51b05f"), looks := true }, kinds := [], alts := [], laidByText := true, laidKinds := [.data, .data, .data, .data, .sentinel, .sentinel, .pinned], laidTests := true, laidLooks := .later }
def NoticeJoinedUptoCardSaid : Prop := Claim7.holds Tryz.pinned (.plain (OpenSpec.upto noticeJoinedSpec)) noticeJoinedUptoCard

/-- THE SECOND FORM's CARD OF 'licitlaw44.NoticeFulfils'. -/
def noticeFulfilsUptoCard : Claim7 := { stood := { row := noticeFulfilsUptoRow, standIns := [], harness := (true, "5a95b67ca265b89e6e3862a149d0010a187d9572f1d7f601cd57b7a17b51b05f"), looks := true }, kinds := [], alts := [], laidByText := true, laidKinds := [.data, .data, .data, .data, .sentinel, .sentinel, .pinned], laidTests := true, laidLooks := .later }
def NoticeFulfilsUptoCardSaid : Prop := Claim7.holds Tryz.pinned (.plain (OpenSpec.upto noticeFulfilsSpec)) noticeFulfilsUptoCard
end Rows
end Go.Proofs.YtalepjdbhjinhaaGreatDoor
