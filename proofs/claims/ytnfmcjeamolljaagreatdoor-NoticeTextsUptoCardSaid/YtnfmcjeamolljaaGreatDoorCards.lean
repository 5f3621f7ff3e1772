/-
  DERIVED. GIVEN WITH THE SEED: THE CARDS: each row of YtnfmcjeamolljaaGreatDoorRows.lean that lists a variable, with what it lists TIED to the program's text (the seventh form; the later family's looks); each row that meets fmt, with fmt's text TOLD by the authors' own Lean function (tested against real Go, not proved from fmt's source: count such statements apart). THE CARD IS WHAT COUNTS. Prove the row's statement (the work); the ties are given (YtnfmcjeamolljaaGreatDoorTie.lean); close each card by the builder's one call (the guide's Derived/Test/ToyasCard.lean, 'card_holds'). Laid BY PROGRAM, IN A SANDBOX (cutbox-door.mjs). By AI agents, Wed Nov 11 2026. No macro, syntax, notation, axiom, sorry.
-/
import Derived.Test.YtnfmcjeamolljaaGreatDoorRows
import GoSem.ClaimSeven
namespace Go.Proofs.YtnfmcjeamolljaaGreatDoor
namespace Rows

/-- THE TIED CARD OF 'licitlaw44.NoticeTexts'. -/
def noticeTextsCard : Claim7 := { stood := { row := noticeTextsRow, standIns := [], harness := (true, "31344ce209a27381332ccf58342f3dabaf6d93c43cf40d9f8855e0320cbb4f2c"), looks := true }, kinds := [], alts := [], laidByText := true, laidKinds := [.data, .data, .data, .data, .sentinel, .sentinel, .pinned], laidTests := true, laidLooks := .later }
def NoticeTextsCardSaid : Prop := Claim7.holds Tryz.pinned (.plain (OpenSpec.ofChange noticeTextsSpec)) noticeTextsCard

/-- THE TIED CARD OF 'licitlaw44.NoticeParses'. -/
def noticeParsesCard : Claim7 := { stood := { row := noticeParsesRow, standIns := [], harness := (true, "31344ce209a27381332ccf58342f3dabaf6d93c43cf40d9f8855e0320cbb4f2c"), looks := true }, kinds := [], alts := [], laidByText := true, laidKinds := [.data, .data, .data, .data, .sentinel, .sentinel, .pinned], laidTests := true, laidLooks := .later }
def NoticeParsesCardSaid : Prop := Claim7.holds Tryz.pinned (.plain (OpenSpec.ofChange noticeParsesSpec)) noticeParsesCard

/-- THE TIED CARD OF 'licitlaw44.NoticeReturns'. -/
def noticeReturnsCard : Claim7 := { stood := { row := noticeReturnsRow, standIns := [], harness := (true, "31344ce209a27381332ccf58342f3dabaf6d93c43cf40d9f8855e0320cbb4f2c"), looks := true }, kinds := [], alts := [], laidByText := true, laidKinds := [.data, .data, .data, .data, .sentinel, .sentinel, .pinned], laidTests := true, laidLooks := .later }
def NoticeReturnsCardSaid : Prop := Claim7.holds Tryz.pinned (.plain (OpenSpec.ofChange noticeReturnsSpec)) noticeReturnsCard

/-- THE TIED CARD OF 'licitlaw44.NoticeMerges'. -/
def noticeMergesCard : Claim7 := { stood := { row := noticeMergesRow, standIns := [], harness := (true, "31344ce209a27381332ccf58342f3dabaf6d93c43cf40d9f8855e0320cbb4f2c"), looks := true }, kinds := [], alts := [], laidByText := true, laidKinds := [.data, .data, .data, .data, .sentinel, .sentinel, .pinned], laidTests := true, laidLooks := .later }
def NoticeMergesCardSaid : Prop := Claim7.holds Tryz.pinned (.plain (OpenSpec.ofChange noticeMergesSpec)) noticeMergesCard

/-- THE SECOND FORM's CARD OF 'licitlaw44.NoticeTexts'. -/
def noticeTextsUptoCard : Claim7 := { stood := { row := noticeTextsUptoRow, standIns := [], harness := (true, "31344ce209a27381332ccf58342f3dabaf6d93c43cf40d9f8855e0320cbb4f2c"), looks := true }, kinds := [], alts := [], laidByText := true, laidKinds := [.data, .data, .data, .data, .sentinel, .sentinel, .pinned], laidTests := true, laidLooks := .later }
def NoticeTextsUptoCardSaid : Prop := Claim7.holds Tryz.pinned (.plain (OpenSpec.upto noticeTextsSpec)) noticeTextsUptoCard

/-- THE SECOND FORM's CARD OF 'licitlaw44.NoticeParses'. -/
def noticeParsesUptoCard : Claim7 := { stood := { row := noticeParsesUptoRow, standIns := [], harness := (true, "31344ce209a27381332ccf58342f3dabaf6d93c43cf40d9f8855e0320cbb4f2c"), looks := true }, kinds := [], alts := [], laidByText := true, laidKinds := [.data, .data, .data, .data, .sentinel, .sentinel, .pinned], laidTests := true, laidLooks := .later }
def NoticeParsesUptoCardSaid : Prop := Claim7.holds Tryz.pinned (.plain (OpenSpec.upto noticeParsesSpec)) noticeParsesUptoCard

/-- THE SECOND FORM's CARD OF 'licitlaw44.NoticeReturns'. -/
def noticeReturnsUptoCard : Claim7 := { stood := { row := noticeReturnsUptoRow, standIns := [], harness := (true, "31344ce209a27381332ccf58342f3dabaf6d93c43cf40d9f8855e0320cbb4f2c"), looks := true }, kinds := [], alts := [], laidByText := true, laidKinds := [.data, .data, .data, .data, .sentinel, .sentinel, .pinned], laidTests := true, laidLooks := .later }
def NoticeReturnsUptoCardSaid : Prop := Claim7.holds Tryz.pinned (.plain (OpenSpec.upto noticeReturnsSpec)) noticeReturnsUptoCard

/-- THE SECOND FORM's CARD OF 'licitlaw44.NoticeMerges'. -/
def noticeMergesUptoCard : Claim7 := { stood := { row := noticeMergesUptoRow, standIns := [], harness := (true, "31344ce209a27381332ccf58342f3dabaf6d93c43cf40d9f8855e0320cbb4f2c"), looks := true }, kinds := [], alts := [], laidByText := true, laidKinds := [.data, .data, .data, .data, .sentinel, .sentinel, .pinned], laidTests := true, laidLooks := .later }
def NoticeMergesUptoCardSaid : Prop := Claim7.holds Tryz.pinned (.plain (OpenSpec.upto noticeMergesSpec)) noticeMergesUptoCard
end Rows
end Go.Proofs.YtnfmcjeamolljaaGreatDoor
