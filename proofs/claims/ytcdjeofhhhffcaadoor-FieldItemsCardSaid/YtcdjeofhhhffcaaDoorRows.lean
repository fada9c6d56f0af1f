/-
  NARROWER THAN 'FOR EVERY INPUT', by the rows' own cells (each row's printed sentence says how): FieldItems: laid · FieldRight: laid · FieldParses: laid · FieldGets: laid · FieldPuts: laid · FieldBack: laid · FieldSets: laid · FieldCase: laid.
  DERIVED. THE GIVEN ROWS OF THIS SEAT. 8 by the template 'for every input the law returns true; each argument reads behind the call as it read before'; 0 by the template 'total and deterministic' (their statements: YtcdjeofhhhffcaaDoorTotals.lean).
  GIVEN WITH THE SEED: the statements are not yours to turn. If you find one false, say at which input.
  Laid BY PROGRAM, IN A SANDBOX (cutbox-rows.mjs): the forced cells as the released guide's own fill.sh prints them over the translation 03b889e5d422b1f7… (all of the seat's roots in one cut). By AI agents, Wed Nov 11 2026. No macro, syntax, notation, axiom, sorry.
-/
import Derived.Test.YtcdjeofhhhffcaaDoorChecked
import GoSem.PinnedTables
import GoSem.Claim
import GoSem.ClaimJoined
import GoSem.ClaimMapViews
import Derived.JoinedTies
import Derived.KernelRfl
namespace Go.Proofs.YtcdjeofhhhffcaaDoor
/- THE CELL 'sum', in the pinned program and in every row, IS THE sha256 OF THE DUMP (.gsa) THAT YtcdjeofhhhffcaaDoorProg.lean LOADS. Nothing in Lean hashes anything: it is a label: what it is worth is what the hold of that sum in a sandbox is worth. -/
noncomputable def Tryd.pinned : Pinned := { name := "ytcdjeofhhhffcaadoor", sum := "03b889e5d422b1f7bd12232aeadce903031609d75f0513445ed80927dd2ae8cf", checked := Tryd.checked }
namespace Rows
def none {H : Type} : Left H := { results := [], args := [] }

/- WHAT THE LISTED PACKAGE-LEVEL VARIABLES READ AS WHEN THE CALL BEGINS. Each datum BY PROGRAM (the guide's laid-datum.mjs) off the statement by which the dump's own 'gosem.cut.vars' lays the variable. In a bare row this is a premise. The card (YtcdjeofhhhffcaaDoorCards.lean) ties it to the program's text. -/
def laid_unicode_utf8_acceptRanges {H : Type} : DataW H := .agg [.agg [.lit (.int .u8 128), .lit (.int .u8 191)], .agg [.lit (.int .u8 160), .lit (.int .u8 191)], .agg [.lit (.int .u8 128), .lit (.int .u8 159)], .agg [.lit (.int .u8 144), .lit (.int .u8 191)], .agg [.lit (.int .u8 128), .lit (.int .u8 143)], .agg [.lit (.int .u8 0), .lit (.int .u8 0)], .agg [.lit (.int .u8 0), .lit (.int .u8 0)], .agg [.lit (.int .u8 0), .lit (.int .u8 0)], .agg [.lit (.int .u8 0), .lit (.int .u8 0)], .agg [.lit (.int .u8 0), .lit (.int .u8 0)], .agg [.lit (.int .u8 0), .lit (.int .u8 0)], .agg [.lit (.int .u8 0), .lit (.int .u8 0)], .agg [.lit (.int .u8 0), .lit (.int .u8 0)], .agg [.lit (.int .u8 0), .lit (.int .u8 0)], .agg [.lit (.int .u8 0), .lit (.int .u8 0)], .agg [.lit (.int .u8 0), .lit (.int .u8 0)]]
/-- One of Go's own tables, pinned by name: the form's constant. -/
def laid_unicode_utf8_first : DataW Unit := Go.Pinned.utf8First

/-- 'mandolinelaw07.FieldItems': WHATEVER THE INPUT: true; the input reads as it did. -/
def fieldItemsSpec : ChangeSpec := { name := "fieldItems", fn := fun _ => fun
  | [d1, d2] => { results := [.lit (.bool true)], args := [d1, d2] }
  | _ => none }
def fieldItemsRow : OpenClaim := { program := "ytcdjeofhhhffcaadoor", sum := "03b889e5d422b1f7bd12232aeadce903031609d75f0513445ed80927dd2ae8cf", func := "mandoline/mandolinelaw07.FieldItems", spec := "fieldItems", inPlace := ["internal/bytealg.IndexByteString", "internal/bytealg.IndexString"], unfollowed := true, recurses := true, named := ["internal/bytealg.MaxLen", "unicode/utf8.first", "unicode/utf8.acceptRanges"], apart := false, laid := [("unicode/utf8.acceptRanges", laid_unicode_utf8_acceptRanges), ("unicode/utf8.first", laid_unicode_utf8_first)] }
def FieldItemsSaid : Prop := fieldItemsRow.holds Tryd.pinned (OpenSpec.ofChange fieldItemsSpec)

/-- ITS FALSE NEIGHBOUR: 'it returns false'. Refute it at one input. -/
def fieldItemsWrong : ChangeSpec := { name := "fieldItems", fn := fun _ => fun
  | [d1, d2] => { results := [.lit (.bool false)], args := [d1, d2] }
  | _ => none }
def FieldItemsWrongFalsely : Prop := fieldItemsRow.holds Tryd.pinned (OpenSpec.ofChange fieldItemsWrong)

/-- 'mandolinelaw07.FieldRight': WHATEVER THE INPUT: true; the input reads as it did. -/
def fieldRightSpec : ChangeSpec := { name := "fieldRight", fn := fun _ => fun
  | [d] => { results := [.lit (.bool true)], args := [d] }
  | _ => none }
def fieldRightRow : OpenClaim := { program := "ytcdjeofhhhffcaadoor", sum := "03b889e5d422b1f7bd12232aeadce903031609d75f0513445ed80927dd2ae8cf", func := "mandoline/mandolinelaw07.FieldRight", spec := "fieldRight", inPlace := ["internal/bytealg.IndexByteString", "internal/bytealg.IndexString"], unfollowed := true, recurses := true, named := ["internal/bytealg.MaxLen", "unicode/utf8.first", "unicode/utf8.acceptRanges"], apart := false, laid := [("unicode/utf8.acceptRanges", laid_unicode_utf8_acceptRanges), ("unicode/utf8.first", laid_unicode_utf8_first)] }
def FieldRightSaid : Prop := fieldRightRow.holds Tryd.pinned (OpenSpec.ofChange fieldRightSpec)

/-- ITS FALSE NEIGHBOUR: 'it returns false'. Refute it at one input. -/
def fieldRightWrong : ChangeSpec := { name := "fieldRight", fn := fun _ => fun
  | [d] => { results := [.lit (.bool false)], args := [d] }
  | _ => none }
def FieldRightWrongFalsely : Prop := fieldRightRow.holds Tryd.pinned (OpenSpec.ofChange fieldRightWrong)

/-- 'mandolinelaw07.FieldParses': WHATEVER THE INPUT: true; the input reads as it did. -/
def fieldParsesSpec : ChangeSpec := { name := "fieldParses", fn := fun _ => fun
  | [d] => { results := [.lit (.bool true)], args := [d] }
  | _ => none }
def fieldParsesRow : OpenClaim := { program := "ytcdjeofhhhffcaadoor", sum := "03b889e5d422b1f7bd12232aeadce903031609d75f0513445ed80927dd2ae8cf", func := "mandoline/mandolinelaw07.FieldParses", spec := "fieldParses", inPlace := ["internal/bytealg.IndexByteString", "internal/bytealg.IndexString"], unfollowed := true, recurses := true, named := ["internal/bytealg.MaxLen", "unicode/utf8.first", "unicode/utf8.acceptRanges"], apart := false, laid := [("unicode/utf8.acceptRanges", laid_unicode_utf8_acceptRanges), ("unicode/utf8.first", laid_unicode_utf8_first)] }
def FieldParsesSaid : Prop := fieldParsesRow.holds Tryd.pinned (OpenSpec.ofChange fieldParsesSpec)

/-- ITS FALSE NEIGHBOUR: 'it returns false'. Refute it at one input. -/
def fieldParsesWrong : ChangeSpec := { name := "fieldParses", fn := fun _ => fun
  | [d] => { results := [.lit (.bool false)], args := [d] }
  | _ => none }
def FieldParsesWrongFalsely : Prop := fieldParsesRow.holds Tryd.pinned (OpenSpec.ofChange fieldParsesWrong)

/-- 'mandolinelaw07.FieldGets': WHATEVER THE INPUT: true; the input reads as it did. -/
def fieldGetsSpec : ChangeSpec := { name := "fieldGets", fn := fun _ => fun
  | [d1, d2] => { results := [.lit (.bool true)], args := [d1, d2] }
  | _ => none }
def fieldGetsRow : OpenClaim := { program := "ytcdjeofhhhffcaadoor", sum := "03b889e5d422b1f7bd12232aeadce903031609d75f0513445ed80927dd2ae8cf", func := "mandoline/mandolinelaw07.FieldGets", spec := "fieldGets", inPlace := ["internal/bytealg.IndexByteString", "internal/bytealg.IndexString"], unfollowed := true, recurses := true, named := ["internal/bytealg.MaxLen", "unicode/utf8.first", "unicode/utf8.acceptRanges"], apart := false, laid := [("unicode/utf8.acceptRanges", laid_unicode_utf8_acceptRanges), ("unicode/utf8.first", laid_unicode_utf8_first)] }
def FieldGetsSaid : Prop := fieldGetsRow.holds Tryd.pinned (OpenSpec.ofChange fieldGetsSpec)

/-- ITS FALSE NEIGHBOUR: 'it returns false'. Refute it at one input. -/
def fieldGetsWrong : ChangeSpec := { name := "fieldGets", fn := fun _ => fun
  | [d1, d2] => { results := [.lit (.bool false)], args := [d1, d2] }
  | _ => none }
def FieldGetsWrongFalsely : Prop := fieldGetsRow.holds Tryd.pinned (OpenSpec.ofChange fieldGetsWrong)

/-- 'mandolinelaw07.FieldPuts': WHATEVER THE INPUT: true; the input reads as it did. -/
def fieldPutsSpec : ChangeSpec := { name := "fieldPuts", fn := fun _ => fun
  | [d] => { results := [.lit (.bool true)], args := [d] }
  | _ => none }
def fieldPutsRow : OpenClaim := { program := "ytcdjeofhhhffcaadoor", sum := "03b889e5d422b1f7bd12232aeadce903031609d75f0513445ed80927dd2ae8cf", func := "mandoline/mandolinelaw07.FieldPuts", spec := "fieldPuts", inPlace := ["internal/bytealg.IndexByteString", "internal/bytealg.IndexString", "internal/abi.NoEscape"], unfollowed := true, recurses := true, named := ["internal/bytealg.MaxLen", "unicode/utf8.first", "unicode/utf8.acceptRanges"], apart := false, laid := [("unicode/utf8.acceptRanges", laid_unicode_utf8_acceptRanges), ("unicode/utf8.first", laid_unicode_utf8_first)] }
def FieldPutsSaid : Prop := fieldPutsRow.holds Tryd.pinned (OpenSpec.ofChange fieldPutsSpec)

/-- ITS FALSE NEIGHBOUR: 'it returns false'. Refute it at one input. -/
def fieldPutsWrong : ChangeSpec := { name := "fieldPuts", fn := fun _ => fun
  | [d] => { results := [.lit (.bool false)], args := [d] }
  | _ => none }
def FieldPutsWrongFalsely : Prop := fieldPutsRow.holds Tryd.pinned (OpenSpec.ofChange fieldPutsWrong)

/-- 'mandolinelaw07.FieldBack': WHATEVER THE INPUT: true; the input reads as it did. -/
def fieldBackSpec : ChangeSpec := { name := "fieldBack", fn := fun _ => fun
  | [d1, d2, d3] => { results := [.lit (.bool true)], args := [d1, d2, d3] }
  | _ => none }
def fieldBackRow : OpenClaim := { program := "ytcdjeofhhhffcaadoor", sum := "03b889e5d422b1f7bd12232aeadce903031609d75f0513445ed80927dd2ae8cf", func := "mandoline/mandolinelaw07.FieldBack", spec := "fieldBack", inPlace := ["internal/bytealg.IndexByteString", "internal/bytealg.IndexString", "internal/abi.NoEscape"], unfollowed := true, recurses := true, named := ["internal/bytealg.MaxLen", "unicode/utf8.first", "unicode/utf8.acceptRanges"], apart := false, laid := [("unicode/utf8.acceptRanges", laid_unicode_utf8_acceptRanges), ("unicode/utf8.first", laid_unicode_utf8_first)] }
def FieldBackSaid : Prop := fieldBackRow.holds Tryd.pinned (OpenSpec.ofChange fieldBackSpec)

/-- ITS FALSE NEIGHBOUR: 'it returns false'. Refute it at one input. -/
def fieldBackWrong : ChangeSpec := { name := "fieldBack", fn := fun _ => fun
  | [d1, d2, d3] => { results := [.lit (.bool false)], args := [d1, d2, d3] }
  | _ => none }
def FieldBackWrongFalsely : Prop := fieldBackRow.holds Tryd.pinned (OpenSpec.ofChange fieldBackWrong)

/-- 'mandolinelaw07.FieldSets': WHATEVER THE INPUT: true; the input reads as it did. -/
def fieldSetsSpec : ChangeSpec := { name := "fieldSets", fn := fun _ => fun
  | [d1, d2, d3] => { results := [.lit (.bool true)], args := [d1, d2, d3] }
  | _ => none }
def fieldSetsRow : OpenClaim := { program := "ytcdjeofhhhffcaadoor", sum := "03b889e5d422b1f7bd12232aeadce903031609d75f0513445ed80927dd2ae8cf", func := "mandoline/mandolinelaw07.FieldSets", spec := "fieldSets", inPlace := ["internal/bytealg.IndexByteString", "internal/bytealg.IndexString"], unfollowed := true, recurses := true, named := ["internal/bytealg.MaxLen", "unicode/utf8.first", "unicode/utf8.acceptRanges"], apart := false, laid := [("unicode/utf8.acceptRanges", laid_unicode_utf8_acceptRanges), ("unicode/utf8.first", laid_unicode_utf8_first)] }
def FieldSetsSaid : Prop := fieldSetsRow.holds Tryd.pinned (OpenSpec.ofChange fieldSetsSpec)

/-- ITS FALSE NEIGHBOUR: 'it returns false'. Refute it at one input. -/
def fieldSetsWrong : ChangeSpec := { name := "fieldSets", fn := fun _ => fun
  | [d1, d2, d3] => { results := [.lit (.bool false)], args := [d1, d2, d3] }
  | _ => none }
def FieldSetsWrongFalsely : Prop := fieldSetsRow.holds Tryd.pinned (OpenSpec.ofChange fieldSetsWrong)

/-- 'mandolinelaw07.FieldCase': WHATEVER THE INPUT: true; the input reads as it did. -/
def fieldCaseSpec : ChangeSpec := { name := "fieldCase", fn := fun _ => fun
  | [d1, d2, d3] => { results := [.lit (.bool true)], args := [d1, d2, d3] }
  | _ => none }
def fieldCaseRow : OpenClaim := { program := "ytcdjeofhhhffcaadoor", sum := "03b889e5d422b1f7bd12232aeadce903031609d75f0513445ed80927dd2ae8cf", func := "mandoline/mandolinelaw07.FieldCase", spec := "fieldCase", inPlace := ["internal/bytealg.IndexByteString", "internal/bytealg.IndexString"], unfollowed := true, recurses := true, named := ["internal/bytealg.MaxLen", "unicode/utf8.first", "unicode/utf8.acceptRanges"], apart := false, laid := [("unicode/utf8.acceptRanges", laid_unicode_utf8_acceptRanges), ("unicode/utf8.first", laid_unicode_utf8_first)] }
def FieldCaseSaid : Prop := fieldCaseRow.holds Tryd.pinned (OpenSpec.ofChange fieldCaseSpec)

/-- ITS FALSE NEIGHBOUR: 'it returns false'. Refute it at one input. -/
def fieldCaseWrong : ChangeSpec := { name := "fieldCase", fn := fun _ => fun
  | [d1, d2, d3] => { results := [.lit (.bool false)], args := [d1, d2, d3] }
  | _ => none }
def FieldCaseWrongFalsely : Prop := fieldCaseRow.holds Tryd.pinned (OpenSpec.ofChange fieldCaseWrong)

/- THE SECOND FORM. 'bulk': how many values and letters a reading holds, each counted each time it is reached (what is shared counts as often as it is met; a slice's spare places count too). A statement '..UptoSaid' is the law's where the arguments, and the package variables that the reading takes, are together of bulk at most 1048576: NARROWER than '..Said'. Prove '..Said' where nothing that the law and all that it calls make is longer than what came in: it says more and counts as full. Else prove '..UptoSaid'. A law counts once. -/
mutual
def uptoBulk {H : Type} : DataW H → Nat
  | .lit (.string bytes) => bytes.length + 1
  | .lit _ => 1
  | .nil => 1
  | .ptr d => uptoBulk d + 1
  | .slice elems spare => uptoBulkAll elems + uptoBulkAll spare + 1
  | .agg parts => uptoBulkAll parts + 1
  | .iface _ d => uptoBulk d + 1
  | .map entries => uptoBulkEntries entries + 1
  | .held _ => 1
def uptoBulkAll {H : Type} : List (DataW H) → Nat
  | [] => 0
  | d :: r => uptoBulk d + uptoBulkAll r
def uptoBulkEntries {H : Type} : List (Lit × DataW H) → Nat
  | [] => 0
  | x :: r => uptoBulkEntry x + uptoBulkEntries r
def uptoBulkEntry {H : Type} : Lit × DataW H → Nat
  | (.string bytes, d) => bytes.length + uptoBulk d + 1
  | (_, d) => uptoBulk d + 1
 end
def uptoSmall : (H : Type) → List (DataW H) → Bool := fun _ ds => decide (uptoBulkAll ds ≤ 1048576)
def OpenSpec.upto (s : _root_.Go.ChangeSpec) : _root_.Go.OpenSpec := { _root_.Go.OpenSpec.ofChange s with cond := some uptoSmall }

/-- 'mandolinelaw07.FieldItems', WHERE WHAT IT READS IS OF BULK AT MOST 1048576: true; the input reads as it did. -/
def fieldItemsUptoRow : OpenClaim := { program := "ytcdjeofhhhffcaadoor", sum := "03b889e5d422b1f7bd12232aeadce903031609d75f0513445ed80927dd2ae8cf", func := "mandoline/mandolinelaw07.FieldItems", spec := "fieldItems", inPlace := ["internal/bytealg.IndexByteString", "internal/bytealg.IndexString"], unfollowed := true, recurses := true, named := ["internal/bytealg.MaxLen", "unicode/utf8.first", "unicode/utf8.acceptRanges"], apart := false, laid := [("unicode/utf8.acceptRanges", laid_unicode_utf8_acceptRanges), ("unicode/utf8.first", laid_unicode_utf8_first)], narrowed := true }
def FieldItemsUptoSaid : Prop := fieldItemsUptoRow.holds Tryd.pinned (OpenSpec.upto fieldItemsSpec)

/-- 'mandolinelaw07.FieldRight', WHERE WHAT IT READS IS OF BULK AT MOST 1048576: true; the input reads as it did. -/
def fieldRightUptoRow : OpenClaim := { program := "ytcdjeofhhhffcaadoor", sum := "03b889e5d422b1f7bd12232aeadce903031609d75f0513445ed80927dd2ae8cf", func := "mandoline/mandolinelaw07.FieldRight", spec := "fieldRight", inPlace := ["internal/bytealg.IndexByteString", "internal/bytealg.IndexString"], unfollowed := true, recurses := true, named := ["internal/bytealg.MaxLen", "unicode/utf8.first", "unicode/utf8.acceptRanges"], apart := false, laid := [("unicode/utf8.acceptRanges", laid_unicode_utf8_acceptRanges), ("unicode/utf8.first", laid_unicode_utf8_first)], narrowed := true }
def FieldRightUptoSaid : Prop := fieldRightUptoRow.holds Tryd.pinned (OpenSpec.upto fieldRightSpec)

/-- 'mandolinelaw07.FieldParses', WHERE WHAT IT READS IS OF BULK AT MOST 1048576: true; the input reads as it did. -/
def fieldParsesUptoRow : OpenClaim := { program := "ytcdjeofhhhffcaadoor", sum := "03b889e5d422b1f7bd12232aeadce903031609d75f0513445ed80927dd2ae8cf", func := "mandoline/mandolinelaw07.FieldParses", spec := "fieldParses", inPlace := ["internal/bytealg.IndexByteString", "internal/bytealg.IndexString"], unfollowed := true, recurses := true, named := ["internal/bytealg.MaxLen", "unicode/utf8.first", "unicode/utf8.acceptRanges"], apart := false, laid := [("unicode/utf8.acceptRanges", laid_unicode_utf8_acceptRanges), ("unicode/utf8.first", laid_unicode_utf8_first)], narrowed := true }
def FieldParsesUptoSaid : Prop := fieldParsesUptoRow.holds Tryd.pinned (OpenSpec.upto fieldParsesSpec)

/-- 'mandolinelaw07.FieldGets', WHERE WHAT IT READS IS OF BULK AT MOST 1048576: true; the input reads as it did. -/
def fieldGetsUptoRow : OpenClaim := { program := "ytcdjeofhhhffcaadoor", sum := "03b889e5d422b1f7bd12232aeadce903031609d75f0513445ed80927dd2ae8cf", func := "mandoline/mandolinelaw07.FieldGets", spec := "fieldGets", inPlace := ["internal/bytealg.IndexByteString", "internal/bytealg.IndexString"], unfollowed := true, recurses := true, named := ["internal/bytealg.MaxLen", "unicode/utf8.first", "unicode/utf8.acceptRanges"], apart := false, laid := [("unicode/utf8.acceptRanges", laid_unicode_utf8_acceptRanges), ("unicode/utf8.first", laid_unicode_utf8_first)], narrowed := true }
def FieldGetsUptoSaid : Prop := fieldGetsUptoRow.holds Tryd.pinned (OpenSpec.upto fieldGetsSpec)

/-- 'mandolinelaw07.FieldPuts', WHERE WHAT IT READS IS OF BULK AT MOST 1048576: true; the input reads as it did. -/
def fieldPutsUptoRow : OpenClaim := { program := "ytcdjeofhhhffcaadoor", sum := "03b889e5d422b1f7bd12232aeadce903031609d75f0513445ed80927dd2ae8cf", func := "mandoline/mandolinelaw07.FieldPuts", spec := "fieldPuts", inPlace := ["internal/bytealg.IndexByteString", "internal/bytealg.IndexString", "internal/abi.NoEscape"], unfollowed := true, recurses := true, named := ["internal/bytealg.MaxLen", "unicode/utf8.first", "unicode/utf8.acceptRanges"], apart := false, laid := [("unicode/utf8.acceptRanges", laid_unicode_utf8_acceptRanges), ("unicode/utf8.first", laid_unicode_utf8_first)], narrowed := true }
def FieldPutsUptoSaid : Prop := fieldPutsUptoRow.holds Tryd.pinned (OpenSpec.upto fieldPutsSpec)

/-- 'mandolinelaw07.FieldBack', WHERE WHAT IT READS IS OF BULK AT MOST 1048576: true; the input reads as it did. -/
def fieldBackUptoRow : OpenClaim := { program := "ytcdjeofhhhffcaadoor", sum := "03b889e5d422b1f7bd12232aeadce903031609d75f0513445ed80927dd2ae8cf", func := "mandoline/mandolinelaw07.FieldBack", spec := "fieldBack", inPlace := ["internal/bytealg.IndexByteString", "internal/bytealg.IndexString", "internal/abi.NoEscape"], unfollowed := true, recurses := true, named := ["internal/bytealg.MaxLen", "unicode/utf8.first", "unicode/utf8.acceptRanges"], apart := false, laid := [("unicode/utf8.acceptRanges", laid_unicode_utf8_acceptRanges), ("unicode/utf8.first", laid_unicode_utf8_first)], narrowed := true }
def FieldBackUptoSaid : Prop := fieldBackUptoRow.holds Tryd.pinned (OpenSpec.upto fieldBackSpec)

/-- 'mandolinelaw07.FieldSets', WHERE WHAT IT READS IS OF BULK AT MOST 1048576: true; the input reads as it did. -/
def fieldSetsUptoRow : OpenClaim := { program := "ytcdjeofhhhffcaadoor", sum := "03b889e5d422b1f7bd12232aeadce903031609d75f0513445ed80927dd2ae8cf", func := "mandoline/mandolinelaw07.FieldSets", spec := "fieldSets", inPlace := ["internal/bytealg.IndexByteString", "internal/bytealg.IndexString"], unfollowed := true, recurses := true, named := ["internal/bytealg.MaxLen", "unicode/utf8.first", "unicode/utf8.acceptRanges"], apart := false, laid := [("unicode/utf8.acceptRanges", laid_unicode_utf8_acceptRanges), ("unicode/utf8.first", laid_unicode_utf8_first)], narrowed := true }
def FieldSetsUptoSaid : Prop := fieldSetsUptoRow.holds Tryd.pinned (OpenSpec.upto fieldSetsSpec)

/-- 'mandolinelaw07.FieldCase', WHERE WHAT IT READS IS OF BULK AT MOST 1048576: true; the input reads as it did. -/
def fieldCaseUptoRow : OpenClaim := { program := "ytcdjeofhhhffcaadoor", sum := "03b889e5d422b1f7bd12232aeadce903031609d75f0513445ed80927dd2ae8cf", func := "mandoline/mandolinelaw07.FieldCase", spec := "fieldCase", inPlace := ["internal/bytealg.IndexByteString", "internal/bytealg.IndexString"], unfollowed := true, recurses := true, named := ["internal/bytealg.MaxLen", "unicode/utf8.first", "unicode/utf8.acceptRanges"], apart := false, laid := [("unicode/utf8.acceptRanges", laid_unicode_utf8_acceptRanges), ("unicode/utf8.first", laid_unicode_utf8_first)], narrowed := true }
def FieldCaseUptoSaid : Prop := fieldCaseUptoRow.holds Tryd.pinned (OpenSpec.upto fieldCaseSpec)

end Rows
end Go.Proofs.YtcdjeofhhhffcaaDoor
