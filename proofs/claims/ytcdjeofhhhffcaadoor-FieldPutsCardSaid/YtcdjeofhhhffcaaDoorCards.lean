/-
  DERIVED. GIVEN WITH THE SEED: THE CARDS: each row of YtcdjeofhhhffcaaDoorRows.lean that lists a variable, with what it lists TIED to the program's text (the seventh form; the later family's looks); each row that meets fmt, with fmt's text TOLD by the authors' own Lean function (tested against real Go, not proved from fmt's source: count such statements apart). THE CARD IS WHAT COUNTS. Prove the row's statement (the work); the ties are given (YtcdjeofhhhffcaaDoorTie.lean); close each card by the builder's one call (the guide's Derived/Test/ToyasCard.lean, 'card_holds'). Laid BY PROGRAM, IN A SANDBOX (cutbox-door.mjs). By AI agents, Wed Nov 11 2026. No macro, syntax, notation, axiom, sorry.
-/
import Derived.Test.YtcdjeofhhhffcaaDoorRows
import GoSem.ClaimSeven
namespace Go.Proofs.YtcdjeofhhhffcaaDoor
namespace Rows

/-- THE TIED CARD OF 'mandolinelaw07.FieldItems'. -/
def fieldItemsCard : Claim7 := { stood := { row := fieldItemsRow, standIns := [], harness := (true, "99ab4bd66121cce185791fe2e4a161062fca4c370fcb7146936f9de60a307c6b"), looks := false }, kinds := [], alts := [], laidByText := true, laidKinds := [.data, .pinned], laidTests := true, laidLooks := .later }
def FieldItemsCardSaid : Prop := Claim7.holds Tryd.pinned (.plain (OpenSpec.ofChange fieldItemsSpec)) fieldItemsCard

/-- THE TIED CARD OF 'mandolinelaw07.FieldRight'. -/
def fieldRightCard : Claim7 := { stood := { row := fieldRightRow, standIns := [], harness := (true, "99ab4bd66121cce185791fe2e4a161062fca4c370fcb7146936f9de60a307c6b"), looks := false }, kinds := [], alts := [], laidByText := true, laidKinds := [.data, .pinned], laidTests := true, laidLooks := .later }
def FieldRightCardSaid : Prop := Claim7.holds Tryd.pinned (.plain (OpenSpec.ofChange fieldRightSpec)) fieldRightCard

/-- THE TIED CARD OF 'mandolinelaw07.FieldParses'. -/
def fieldParsesCard : Claim7 := { stood := { row := fieldParsesRow, standIns := [], harness := (true, "99ab4bd66121cce185791fe2e4a161062fca4c370fcb7146936f9de60a307c6b"), looks := false }, kinds := [], alts := [], laidByText := true, laidKinds := [.data, .pinned], laidTests := true, laidLooks := .later }
def FieldParsesCardSaid : Prop := Claim7.holds Tryd.pinned (.plain (OpenSpec.ofChange fieldParsesSpec)) fieldParsesCard

/-- THE TIED CARD OF 'mandolinelaw07.FieldGets'. -/
def fieldGetsCard : Claim7 := { stood := { row := fieldGetsRow, standIns := [], harness := (true, "99ab4bd66121cce185791fe2e4a161062fca4c370fcb7146936f9de60a307c6b"), looks := false }, kinds := [], alts := [], laidByText := true, laidKinds := [.data, .pinned], laidTests := true, laidLooks := .later }
def FieldGetsCardSaid : Prop := Claim7.holds Tryd.pinned (.plain (OpenSpec.ofChange fieldGetsSpec)) fieldGetsCard

/-- THE TIED CARD OF 'mandolinelaw07.FieldPuts'. -/
def fieldPutsCard : Claim7 := { stood := { row := fieldPutsRow, standIns := [], harness := (true, "99ab4bd66121cce185791fe2e4a161062fca4c370fcb7146936f9de60a307c6b"), looks := false }, kinds := [], alts := [], laidByText := true, laidKinds := [.data, .pinned], laidTests := true, laidLooks := .later }
def FieldPutsCardSaid : Prop := Claim7.holds Tryd.pinned (.plain (OpenSpec.ofChange fieldPutsSpec)) fieldPutsCard

/-- THE TIED CARD OF 'mandolinelaw07.FieldBack'. -/
def fieldBackCard : Claim7 := { stood := { row := fieldBackRow, standIns := [], harness := (true, "99ab4bd66121cce185791fe2e4a161062fca4c370fcb7146936f9de60a307c6b"), looks := false }, kinds := [], alts := [], laidByText := true, laidKinds := [.data, .pinned], laidTests := true, laidLooks := .later }
def FieldBackCardSaid : Prop := Claim7.holds Tryd.pinned (.plain (OpenSpec.ofChange fieldBackSpec)) fieldBackCard

/-- THE TIED CARD OF 'mandolinelaw07.FieldSets'. -/
def fieldSetsCard : Claim7 := { stood := { row := fieldSetsRow, standIns := [], harness := (true, "99ab4bd66121cce185791fe2e4a161062fca4c370fcb7146936f9de60a307c6b"), looks := false }, kinds := [], alts := [], laidByText := true, laidKinds := [.data, .pinned], laidTests := true, laidLooks := .later }
def FieldSetsCardSaid : Prop := Claim7.holds Tryd.pinned (.plain (OpenSpec.ofChange fieldSetsSpec)) fieldSetsCard

/-- THE TIED CARD OF 'mandolinelaw07.FieldCase'. -/
def fieldCaseCard : Claim7 := { stood := { row := fieldCaseRow, standIns := [], harness := (true, "99ab4bd66121cce185791fe2e4a161062fca4c370fcb7146936f9de60a307c6b"), looks := false }, kinds := [], alts := [], laidByText := true, laidKinds := [.data, .pinned], laidTests := true, laidLooks := .later }
def FieldCaseCardSaid : Prop := Claim7.holds Tryd.pinned (.plain (OpenSpec.ofChange fieldCaseSpec)) fieldCaseCard

/-- THE SECOND FORM's CARD OF 'mandolinelaw07.FieldItems'. -/
def fieldItemsUptoCard : Claim7 := { stood := { row := fieldItemsUptoRow, standIns := [], harness := (true, "99ab4bd66121cce185791fe2e4a161062fca4c370fcb7146936f9de60a307c6b"), looks := false }, kinds := [], alts := [], laidByText := true, laidKinds := [.data, .pinned], laidTests := true, laidLooks := .later }
def FieldItemsUptoCardSaid : Prop := Claim7.holds Tryd.pinned (.plain (OpenSpec.upto fieldItemsSpec)) fieldItemsUptoCard

/-- THE SECOND FORM's CARD OF 'mandolinelaw07.FieldRight'. -/
def fieldRightUptoCard : Claim7 := { stood := { row := fieldRightUptoRow, standIns := [], harness := (true, "99ab4bd66121cce185791fe2e4a161062fca4c370fcb7146936f9de60a307c6b"), looks := false }, kinds := [], alts := [], laidByText := true, laidKinds := [.data, .pinned], laidTests := true, laidLooks := .later }
def FieldRightUptoCardSaid : Prop := Claim7.holds Tryd.pinned (.plain (OpenSpec.upto fieldRightSpec)) fieldRightUptoCard

/-- THE SECOND FORM's CARD OF 'mandolinelaw07.FieldParses'. -/
def fieldParsesUptoCard : Claim7 := { stood := { row := fieldParsesUptoRow, standIns := [], harness := (true, "99ab4bd66121cce185791fe2e4a161062fca4c370fcb7146936f9de60a307c6b"), looks := false }, kinds := [], alts := [], laidByText := true, laidKinds := [.data, .pinned], laidTests := true, laidLooks := .later }
def FieldParsesUptoCardSaid : Prop := Claim7.holds Tryd.pinned (.plain (OpenSpec.upto fieldParsesSpec)) fieldParsesUptoCard

/-- THE SECOND FORM's CARD OF 'mandolinelaw07.FieldGets'. -/
def fieldGetsUptoCard : Claim7 := { stood := { row := fieldGetsUptoRow, standIns := [], harness := (true, "99ab4bd66121cce185791fe2e4a161062fca4c370fcb7146936f9de60a307c6b"), looks := false }, kinds := [], alts := [], laidByText := true, laidKinds := [.data, .pinned], laidTests := true, laidLooks := .later }
def FieldGetsUptoCardSaid : Prop := Claim7.holds Tryd.pinned (.plain (OpenSpec.upto fieldGetsSpec)) fieldGetsUptoCard

/-- THE SECOND FORM's CARD OF 'mandolinelaw07.FieldPuts'. -/
def fieldPutsUptoCard : Claim7 := { stood := { row := fieldPutsUptoRow, standIns := [], harness := (true, "99ab4bd66121cce185791fe2e4a161062fca4c370fcb7146936f9de60a307c6b"), looks := false }, kinds := [], alts := [], laidByText := true, laidKinds := [.data, .pinned], laidTests := true, laidLooks := .later }
def FieldPutsUptoCardSaid : Prop := Claim7.holds Tryd.pinned (.plain (OpenSpec.upto fieldPutsSpec)) fieldPutsUptoCard

/-- THE SECOND FORM's CARD OF 'mandolinelaw07.FieldBack'. -/
def fieldBackUptoCard : Claim7 := { stood := { row := fieldBackUptoRow, standIns := [], harness := (true, "99ab4bd66121cce185791fe2e4a161062fca4c370fcb7146936f9de60a307c6b"), looks := false }, kinds := [], alts := [], laidByText := true, laidKinds := [.data, .pinned], laidTests := true, laidLooks := .later }
def FieldBackUptoCardSaid : Prop := Claim7.holds Tryd.pinned (.plain (OpenSpec.upto fieldBackSpec)) fieldBackUptoCard

/-- THE SECOND FORM's CARD OF 'mandolinelaw07.FieldSets'. -/
def fieldSetsUptoCard : Claim7 := { stood := { row := fieldSetsUptoRow, standIns := [], harness := (true, "99ab4bd66121cce185791fe2e4a161062fca4c370fcb7146936f9de60a307c6b"), looks := false }, kinds := [], alts := [], laidByText := true, laidKinds := [.data, .pinned], laidTests := true, laidLooks := .later }
def FieldSetsUptoCardSaid : Prop := Claim7.holds Tryd.pinned (.plain (OpenSpec.upto fieldSetsSpec)) fieldSetsUptoCard

/-- THE SECOND FORM's CARD OF 'mandolinelaw07.FieldCase'. -/
def fieldCaseUptoCard : Claim7 := { stood := { row := fieldCaseUptoRow, standIns := [], harness := (true, "99ab4bd66121cce185791fe2e4a161062fca4c370fcb7146936f9de60a307c6b"), looks := false }, kinds := [], alts := [], laidByText := true, laidKinds := [.data, .pinned], laidTests := true, laidLooks := .later }
def FieldCaseUptoCardSaid : Prop := Claim7.holds Tryd.pinned (.plain (OpenSpec.upto fieldCaseSpec)) fieldCaseUptoCard
end Rows
end Go.Proofs.YtcdjeofhhhffcaaDoor
