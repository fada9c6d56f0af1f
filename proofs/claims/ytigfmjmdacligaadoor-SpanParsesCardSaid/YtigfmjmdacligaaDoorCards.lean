/-
  DERIVED. GIVEN WITH THE SEED: THE CARDS: each row of YtigfmjmdacligaaDoorRows.lean that lists a variable, with what it lists TIED to the program's text (the seventh form; the later family's looks); each row that meets fmt, with fmt's text TOLD by the authors' own Lean function (tested against real Go, not proved from fmt's source: count such statements apart). THE CARD IS WHAT COUNTS. Prove the row's statement (the work); the ties are given (YtigfmjmdacligaaDoorTie.lean); close each card by the builder's one call (the guide's Derived/Test/ToyasCard.lean, 'card_holds'). Laid BY PROGRAM, IN A SANDBOX (cutbox-door.mjs). By AI agents, Wed Nov 11 2026. No macro, syntax, notation, axiom, sorry.
-/
import Derived.Test.YtigfmjmdacligaaDoorRows
import GoSem.ClaimSeven
namespace Go.Proofs.YtigfmjmdacligaaDoor
namespace Rows

/-- THE TIED CARD OF 'mandolinelaw01.SpanRight'. -/
def spanRightCard : Claim7 := { stood := { row := spanRightRow, standIns := [], harness := (true, "96a06a8982a3ef2c40a4a06f25ac2c5bb9afa248c878fcfeedf16dd36a4e7436"), looks := true }, kinds := [], alts := [], laidByText := true, laidKinds := [.data, .data, .data, .sentinel, .sentinel], laidTests := true, laidLooks := .later }
def SpanRightCardSaid : Prop := Claim7.holds Tryd.pinned (.plain (OpenSpec.ofChange spanRightSpec)) spanRightCard

/-- THE TIED CARD OF 'mandolinelaw01.SpanMeets'. -/
def spanMeetsCard : Claim7 := { stood := { row := spanMeetsRow, standIns := [], harness := (true, "96a06a8982a3ef2c40a4a06f25ac2c5bb9afa248c878fcfeedf16dd36a4e7436"), looks := true }, kinds := [], alts := [], laidByText := true, laidKinds := [.data, .data, .data, .sentinel, .sentinel], laidTests := true, laidLooks := .later }
def SpanMeetsCardSaid : Prop := Claim7.holds Tryd.pinned (.plain (OpenSpec.ofChange spanMeetsSpec)) spanMeetsCard

/-- THE TIED CARD OF 'mandolinelaw01.SpanJoins'. -/
def spanJoinsCard : Claim7 := { stood := { row := spanJoinsRow, standIns := [], harness := (true, "96a06a8982a3ef2c40a4a06f25ac2c5bb9afa248c878fcfeedf16dd36a4e7436"), looks := true }, kinds := [], alts := [], laidByText := true, laidKinds := [.data, .data, .data, .sentinel, .sentinel], laidTests := true, laidLooks := .later }
def SpanJoinsCardSaid : Prop := Claim7.holds Tryd.pinned (.plain (OpenSpec.ofChange spanJoinsSpec)) spanJoinsCard

/-- THE TIED CARD OF 'mandolinelaw01.SpanCuts'. -/
def spanCutsCard : Claim7 := { stood := { row := spanCutsRow, standIns := [], harness := (true, "96a06a8982a3ef2c40a4a06f25ac2c5bb9afa248c878fcfeedf16dd36a4e7436"), looks := true }, kinds := [], alts := [], laidByText := true, laidKinds := [.data, .data, .data, .sentinel, .sentinel], laidTests := true, laidLooks := .later }
def SpanCutsCardSaid : Prop := Claim7.holds Tryd.pinned (.plain (OpenSpec.ofChange spanCutsSpec)) spanCutsCard

/-- THE TIED CARD OF 'mandolinelaw01.SpanAligns'. -/
def spanAlignsCard : Claim7 := { stood := { row := spanAlignsRow, standIns := [], harness := (true, "96a06a8982a3ef2c40a4a06f25ac2c5bb9afa248c878fcfeedf16dd36a4e7436"), looks := true }, kinds := [], alts := [], laidByText := true, laidKinds := [.data, .data, .data, .sentinel, .sentinel], laidTests := true, laidLooks := .later }
def SpanAlignsCardSaid : Prop := Claim7.holds Tryd.pinned (.plain (OpenSpec.ofChange spanAlignsSpec)) spanAlignsCard

/-- THE TIED CARD OF 'mandolinelaw01.SpanTexts'. -/
def spanTextsCard : Claim7 := { stood := { row := spanTextsRow, standIns := [], harness := (true, "96a06a8982a3ef2c40a4a06f25ac2c5bb9afa248c878fcfeedf16dd36a4e7436"), looks := true }, kinds := [], alts := [], laidByText := true, laidKinds := [.data, .data, .data, .sentinel, .sentinel], laidTests := true, laidLooks := .later }
def SpanTextsCardSaid : Prop := Claim7.holds Tryd.pinned (.plain (OpenSpec.ofChange spanTextsSpec)) spanTextsCard

/-- THE TIED CARD OF 'mandolinelaw01.SpanParses'. -/
def spanParsesCard : Claim7 := { stood := { row := spanParsesRow, standIns := [], harness := (true, "96a06a8982a3ef2c40a4a06f25ac2c5bb9afa248c878fcfeedf16dd36a4e7436"), looks := true }, kinds := [], alts := [], laidByText := true, laidKinds := [.data, .data, .data, .sentinel, .sentinel], laidTests := true, laidLooks := .later }
def SpanParsesCardSaid : Prop := Claim7.holds Tryd.pinned (.plain (OpenSpec.ofChange spanParsesSpec)) spanParsesCard

/-- THE TIED CARD OF 'mandolinelaw01.SpanBytes'. -/
def spanBytesCard : Claim7 := { stood := { row := spanBytesRow, standIns := [], harness := (true, "96a06a8982a3ef2c40a4a06f25ac2c5bb9afa248c878fcfeedf16dd36a4e7436"), looks := true }, kinds := [], alts := [], laidByText := true, laidKinds := [.data, .data, .data, .sentinel, .sentinel], laidTests := true, laidLooks := .later }
def SpanBytesCardSaid : Prop := Claim7.holds Tryd.pinned (.plain (OpenSpec.ofChange spanBytesSpec)) spanBytesCard

/-- THE TIED CARD OF 'mandolinelaw01.SpanWhole'. -/
def spanWholeCard : Claim7 := { stood := { row := spanWholeRow, standIns := [], harness := (true, "96a06a8982a3ef2c40a4a06f25ac2c5bb9afa248c878fcfeedf16dd36a4e7436"), looks := true }, kinds := [], alts := [], laidByText := true, laidKinds := [.data, .data, .data, .sentinel, .sentinel], laidTests := true, laidLooks := .later }
def SpanWholeCardSaid : Prop := Claim7.holds Tryd.pinned (.plain (OpenSpec.ofChange spanWholeSpec)) spanWholeCard

/-- THE SECOND FORM's CARD OF 'mandolinelaw01.SpanRight'. -/
def spanRightUptoCard : Claim7 := { stood := { row := spanRightUptoRow, standIns := [], harness := (true, "96a06a8982a3ef2c40a4a06f25ac2c5bb9afa248c878fcfeedf16dd36a4e7436"), looks := true }, kinds := [], alts := [], laidByText := true, laidKinds := [.data, .data, .data, .sentinel, .sentinel], laidTests := true, laidLooks := .later }
def SpanRightUptoCardSaid : Prop := Claim7.holds Tryd.pinned (.plain (OpenSpec.upto spanRightSpec)) spanRightUptoCard

/-- THE SECOND FORM's CARD OF 'mandolinelaw01.SpanMeets'. -/
def spanMeetsUptoCard : Claim7 := { stood := { row := spanMeetsUptoRow, standIns := [], harness := (true, "96a06a8982a3ef2c40a4a06f25ac2c5bb9afa248c878fcfeedf16dd36a4e7436"), looks := true }, kinds := [], alts := [], laidByText := true, laidKinds := [.data, .data, .data, .sentinel, .sentinel], laidTests := true, laidLooks := .later }
def SpanMeetsUptoCardSaid : Prop := Claim7.holds Tryd.pinned (.plain (OpenSpec.upto spanMeetsSpec)) spanMeetsUptoCard

/-- THE SECOND FORM's CARD OF 'mandolinelaw01.SpanJoins'. -/
def spanJoinsUptoCard : Claim7 := { stood := { row := spanJoinsUptoRow, standIns := [], harness := (true, "96a06a8982a3ef2c40a4a06f25ac2c5bb9afa248c878fcfeedf16dd36a4e7436"), looks := true }, kinds := [], alts := [], laidByText := true, laidKinds := [.data, .data, .data, .sentinel, .sentinel], laidTests := true, laidLooks := .later }
def SpanJoinsUptoCardSaid : Prop := Claim7.holds Tryd.pinned (.plain (OpenSpec.upto spanJoinsSpec)) spanJoinsUptoCard

/-- THE SECOND FORM's CARD OF 'mandolinelaw01.SpanCuts'. -/
def spanCutsUptoCard : Claim7 := { stood := { row := spanCutsUptoRow, standIns := [], harness := (true, "96a06a8982a3ef2c40a4a06f25ac2c5bb9afa248c878fcfeedf16dd36a4e7436"), looks := true }, kinds := [], alts := [], laidByText := true, laidKinds := [.data, .data, .data, .sentinel, .sentinel], laidTests := true, laidLooks := .later }
def SpanCutsUptoCardSaid : Prop := Claim7.holds Tryd.pinned (.plain (OpenSpec.upto spanCutsSpec)) spanCutsUptoCard

/-- THE SECOND FORM's CARD OF 'mandolinelaw01.SpanAligns'. -/
def spanAlignsUptoCard : Claim7 := { stood := { row := spanAlignsUptoRow, standIns := [], harness := (true, "96a06a8982a3ef2c40a4a06f25ac2c5bb9afa248c878fcfeedf16dd36a4e7436"), looks := true }, kinds := [], alts := [], laidByText := true, laidKinds := [.data, .data, .data, .sentinel, .sentinel], laidTests := true, laidLooks := .later }
def SpanAlignsUptoCardSaid : Prop := Claim7.holds Tryd.pinned (.plain (OpenSpec.upto spanAlignsSpec)) spanAlignsUptoCard

/-- THE SECOND FORM's CARD OF 'mandolinelaw01.SpanTexts'. -/
def spanTextsUptoCard : Claim7 := { stood := { row := spanTextsUptoRow, standIns := [], harness := (true, "96a06a8982a3ef2c40a4a06f25ac2c5bb9afa248c878fcfeedf16dd36a4e7436"), looks := true }, kinds := [], alts := [], laidByText := true, laidKinds := [.data, .data, .data, .sentinel, .sentinel], laidTests := true, laidLooks := .later }
def SpanTextsUptoCardSaid : Prop := Claim7.holds Tryd.pinned (.plain (OpenSpec.upto spanTextsSpec)) spanTextsUptoCard

/-- THE SECOND FORM's CARD OF 'mandolinelaw01.SpanParses'. -/
def spanParsesUptoCard : Claim7 := { stood := { row := spanParsesUptoRow, standIns := [], harness := (true, "96a06a8982a3ef2c40a4a06f25ac2c5bb9afa248c878fcfeedf16dd36a4e7436"), looks := true }, kinds := [], alts := [], laidByText := true, laidKinds := [.data, .data, .data, .sentinel, .sentinel], laidTests := true, laidLooks := .later }
def SpanParsesUptoCardSaid : Prop := Claim7.holds Tryd.pinned (.plain (OpenSpec.upto spanParsesSpec)) spanParsesUptoCard

/-- THE SECOND FORM's CARD OF 'mandolinelaw01.SpanBytes'. -/
def spanBytesUptoCard : Claim7 := { stood := { row := spanBytesUptoRow, standIns := [], harness := (true, "96a06a8982a3ef2c40a4a06f25ac2c5bb9afa248c878fcfeedf16dd36a4e7436"), looks := true }, kinds := [], alts := [], laidByText := true, laidKinds := [.data, .data, .data, .sentinel, .sentinel], laidTests := true, laidLooks := .later }
def SpanBytesUptoCardSaid : Prop := Claim7.holds Tryd.pinned (.plain (OpenSpec.upto spanBytesSpec)) spanBytesUptoCard

/-- THE SECOND FORM's CARD OF 'mandolinelaw01.SpanWhole'. -/
def spanWholeUptoCard : Claim7 := { stood := { row := spanWholeUptoRow, standIns := [], harness := (true, "96a06a8982a3ef2c40a4a06f25ac2c5bb9afa248c878fcfeedf16dd36a4e7436"), looks := true }, kinds := [], alts := [], laidByText := true, laidKinds := [.data, .data, .data, .sentinel, .sentinel], laidTests := true, laidLooks := .later }
def SpanWholeUptoCardSaid : Prop := Claim7.holds Tryd.pinned (.plain (OpenSpec.upto spanWholeSpec)) spanWholeUptoCard
end Rows
end Go.Proofs.YtigfmjmdacligaaDoor
