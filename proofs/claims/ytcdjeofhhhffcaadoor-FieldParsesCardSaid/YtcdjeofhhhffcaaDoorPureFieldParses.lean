/- FieldParses, in plain words: the program and the document find the same block at a text's begin, or the same reason for none. Texts are no longer than the form's reach. -/
import Derived.Test.YtcdjeofhhhffcaaDoorX0
import Derived.Test.YtcdjeofhhhffcaaDoorX14
import Derived.Test.YtcdjeofhhhffcaaDoorPureParse
import Derived.Test.YtcdjeofhhhffcaaDoorPureAlive
namespace Go.Proofs.YtcdjeofhhhffcaaDoor.Pure
open Go Go.RowKit Go.Proofs.YtcdjeofhhhffcaaDoor Go.Proofs.YtcdjeofhhhffcaaDoor.X Go.Proofs.YtcdjeofhhhffcaaDoorW.PrintWords
set_option linter.unusedVariables false
set_option linter.unusedSimpArgs false
theorem FieldParses (a0 : ByteArray) (g0 : a0.size ≤ reachBytes) : ∃ k, mandolinelaw07_FieldParses.f k a0 = some true := by
  refine Ev.ends ?_
  unfold mandolinelaw07_FieldParses.f
  refine Ev.bind alive_ok ?_
  simp only [if_true]
  by_cases h : (a0.size : Int) > 66000
  · simp only [h, if_true]
    exact Ev.const rfl
  · simp only [h, if_false]
    refine Ev.bind (field_Parse_f a0 (by omega)) ?_
    refine Ev.bind (ref_Parse_f a0 (by omega)) ?_
    refine Ev.bind (Same_refl _ (by have := parseL_len a0.data.toList (a0.size + 1) 0 [] (by simp); omega)) ?_
    simp only [if_true, beq_self_eq_true]
    exact Ev.const rfl
end Go.Proofs.YtcdjeofhhhffcaaDoor.Pure
