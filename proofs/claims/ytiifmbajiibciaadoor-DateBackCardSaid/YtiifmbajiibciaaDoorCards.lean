/-
  DERIVED. GIVEN WITH THE SEED: THE CARDS: each row of YtiifmbajiibciaaDoorRows.lean that lists a variable, with what it lists TIED to the program's text (the seventh form; the later family's looks); each row that meets fmt, with fmt's text TOLD by the authors' own Lean function (tested against real Go, not proved from fmt's source: count such statements apart). THE CARD IS WHAT COUNTS. Prove the row's statement (the work); the ties are given (YtiifmbajiibciaaDoorTie.lean); close each card by the builder's one call (the guide's Derived/Test/ToyasCard.lean, 'card_holds'). Laid BY PROGRAM, IN A SANDBOX (cutbox-door.mjs). By AI agents, Wed Nov 11 2026. No macro, syntax, notation, axiom, sorry.
-/
import Derived.Test.YtiifmbajiibciaaDoorRows
import GoSem.ClaimSeven
namespace Go.Proofs.YtiifmbajiibciaaDoor
namespace Rows

/-- THE TIED CARD OF 'mandolinelaw06.DateOf'. -/
def dateOfCard : Claim7 := { stood := { row := dateOfRow, standIns := [], harness := (true, "1fb2a48c770161d22139fbfaebed098244c17105a964e74918cd349cb334185d"), looks := true }, kinds := [], alts := [], laidByText := true, laidKinds := [.data, .data, .data, .data, .sentinel, .sentinel, .pinned], laidTests := true, laidLooks := .later }
def DateOfCardSaid : Prop := Claim7.holds Tryd.pinned (.plain (OpenSpec.ofChange dateOfSpec)) dateOfCard

/-- THE TIED CARD OF 'mandolinelaw06.DateTicks'. -/
def dateTicksCard : Claim7 := { stood := { row := dateTicksRow, standIns := [], harness := (true, "1fb2a48c770161d22139fbfaebed098244c17105a964e74918cd349cb334185d"), looks := true }, kinds := [], alts := [], laidByText := true, laidKinds := [.data, .data, .data, .data, .sentinel, .sentinel, .pinned], laidTests := true, laidLooks := .later }
def DateTicksCardSaid : Prop := Claim7.holds Tryd.pinned (.plain (OpenSpec.ofChange dateTicksSpec)) dateTicksCard

/-- THE TIED CARD OF 'mandolinelaw06.DateTexts'. -/
def dateTextsCard : Claim7 := { stood := { row := dateTextsRow, standIns := [], harness := (true, "1fb2a48c770161d22139fbfaebed098244c17105a964e74918cd349cb334185d"), looks := true }, kinds := [], alts := [], laidByText := true, laidKinds := [.data, .data, .data, .data, .sentinel, .sentinel, .pinned], laidTests := true, laidLooks := .later }
def DateTextsCardSaid : Prop := Claim7.holds Tryd.pinned (.plain (OpenSpec.ofChange dateTextsSpec)) dateTextsCard

/-- THE TIED CARD OF 'mandolinelaw06.DateParses'. -/
def dateParsesCard : Claim7 := { stood := { row := dateParsesRow, standIns := [], harness := (true, "1fb2a48c770161d22139fbfaebed098244c17105a964e74918cd349cb334185d"), looks := true }, kinds := [], alts := [], laidByText := true, laidKinds := [.data, .data, .data, .data, .sentinel, .sentinel, .pinned], laidTests := true, laidLooks := .later }
def DateParsesCardSaid : Prop := Claim7.holds Tryd.pinned (.plain (OpenSpec.ofChange dateParsesSpec)) dateParsesCard

/-- THE TIED CARD OF 'mandolinelaw06.DateLeaps'. -/
def dateLeapsCard : Claim7 := { stood := { row := dateLeapsRow, standIns := [], harness := (true, "1fb2a48c770161d22139fbfaebed098244c17105a964e74918cd349cb334185d"), looks := true }, kinds := [], alts := [], laidByText := true, laidKinds := [.data, .data, .data, .data, .sentinel, .sentinel, .pinned], laidTests := true, laidLooks := .later }
def DateLeapsCardSaid : Prop := Claim7.holds Tryd.pinned (.plain (OpenSpec.ofChange dateLeapsSpec)) dateLeapsCard

/-- THE TIED CARD OF 'mandolinelaw06.DateNext'. -/
def dateNextCard : Claim7 := { stood := { row := dateNextRow, standIns := [], harness := (true, "1fb2a48c770161d22139fbfaebed098244c17105a964e74918cd349cb334185d"), looks := true }, kinds := [], alts := [], laidByText := true, laidKinds := [.data, .data, .data, .data, .sentinel, .sentinel, .pinned], laidTests := true, laidLooks := .later }
def DateNextCardSaid : Prop := Claim7.holds Tryd.pinned (.plain (OpenSpec.ofChange dateNextSpec)) dateNextCard

/-- THE TIED CARD OF 'mandolinelaw06.DateBack'. -/
def dateBackCard : Claim7 := { stood := { row := dateBackRow, standIns := [], harness := (true, "1fb2a48c770161d22139fbfaebed098244c17105a964e74918cd349cb334185d"), looks := true }, kinds := [], alts := [], laidByText := true, laidKinds := [.data, .data, .data, .data, .sentinel, .sentinel, .pinned], laidTests := true, laidLooks := .later }
def DateBackCardSaid : Prop := Claim7.holds Tryd.pinned (.plain (OpenSpec.ofChange dateBackSpec)) dateBackCard

/-- THE SECOND FORM's CARD OF 'mandolinelaw06.DateOf'. -/
def dateOfUptoCard : Claim7 := { stood := { row := dateOfUptoRow, standIns := [], harness := (true, "1fb2a48c770161d22139fbfaebed098244c17105a964e74918cd349cb334185d"), looks := true }, kinds := [], alts := [], laidByText := true, laidKinds := [.data, .data, .data, .data, .sentinel, .sentinel, .pinned], laidTests := true, laidLooks := .later }
def DateOfUptoCardSaid : Prop := Claim7.holds Tryd.pinned (.plain (OpenSpec.upto dateOfSpec)) dateOfUptoCard

/-- THE SECOND FORM's CARD OF 'mandolinelaw06.DateTicks'. -/
def dateTicksUptoCard : Claim7 := { stood := { row := dateTicksUptoRow, standIns := [], harness := (true, "1fb2a48c770161d22139fbfaebed098244c17105a964e74918cd349cb334185d"), looks := true }, kinds := [], alts := [], laidByText := true, laidKinds := [.data, .data, .data, .data, .sentinel, .sentinel, .pinned], laidTests := true, laidLooks := .later }
def DateTicksUptoCardSaid : Prop := Claim7.holds Tryd.pinned (.plain (OpenSpec.upto dateTicksSpec)) dateTicksUptoCard

/-- THE SECOND FORM's CARD OF 'mandolinelaw06.DateTexts'. -/
def dateTextsUptoCard : Claim7 := { stood := { row := dateTextsUptoRow, standIns := [], harness := (true, "1fb2a48c770161d22139fbfaebed098244c17105a964e74918cd349cb334185d"), looks := true }, kinds := [], alts := [], laidByText := true, laidKinds := [.data, .data, .data, .data, .sentinel, .sentinel, .pinned], laidTests := true, laidLooks := .later }
def DateTextsUptoCardSaid : Prop := Claim7.holds Tryd.pinned (.plain (OpenSpec.upto dateTextsSpec)) dateTextsUptoCard

/-- THE SECOND FORM's CARD OF 'mandolinelaw06.DateParses'. -/
def dateParsesUptoCard : Claim7 := { stood := { row := dateParsesUptoRow, standIns := [], harness := (true, "1fb2a48c770161d22139fbfaebed098244c17105a964e74918cd349cb334185d"), looks := true }, kinds := [], alts := [], laidByText := true, laidKinds := [.data, .data, .data, .data, .sentinel, .sentinel, .pinned], laidTests := true, laidLooks := .later }
def DateParsesUptoCardSaid : Prop := Claim7.holds Tryd.pinned (.plain (OpenSpec.upto dateParsesSpec)) dateParsesUptoCard

/-- THE SECOND FORM's CARD OF 'mandolinelaw06.DateLeaps'. -/
def dateLeapsUptoCard : Claim7 := { stood := { row := dateLeapsUptoRow, standIns := [], harness := (true, "1fb2a48c770161d22139fbfaebed098244c17105a964e74918cd349cb334185d"), looks := true }, kinds := [], alts := [], laidByText := true, laidKinds := [.data, .data, .data, .data, .sentinel, .sentinel, .pinned], laidTests := true, laidLooks := .later }
def DateLeapsUptoCardSaid : Prop := Claim7.holds Tryd.pinned (.plain (OpenSpec.upto dateLeapsSpec)) dateLeapsUptoCard

/-- THE SECOND FORM's CARD OF 'mandolinelaw06.DateNext'. -/
def dateNextUptoCard : Claim7 := { stood := { row := dateNextUptoRow, standIns := [], harness := (true, "1fb2a48c770161d22139fbfaebed098244c17105a964e74918cd349cb334185d"), looks := true }, kinds := [], alts := [], laidByText := true, laidKinds := [.data, .data, .data, .data, .sentinel, .sentinel, .pinned], laidTests := true, laidLooks := .later }
def DateNextUptoCardSaid : Prop := Claim7.holds Tryd.pinned (.plain (OpenSpec.upto dateNextSpec)) dateNextUptoCard

/-- THE SECOND FORM's CARD OF 'mandolinelaw06.DateBack'. -/
def dateBackUptoCard : Claim7 := { stood := { row := dateBackUptoRow, standIns := [], harness := (true, "1fb2a48c770161d22139fbfaebed098244c17105a964e74918cd349cb334185d"), looks := true }, kinds := [], alts := [], laidByText := true, laidKinds := [.data, .data, .data, .data, .sentinel, .sentinel, .pinned], laidTests := true, laidLooks := .later }
def DateBackUptoCardSaid : Prop := Claim7.holds Tryd.pinned (.plain (OpenSpec.upto dateBackSpec)) dateBackUptoCard
end Rows
end Go.Proofs.YtiifmbajiibciaaDoor
