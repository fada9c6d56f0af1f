/- FieldRight, in plain words: the program and the document agree on which fields may be. Texts are no longer than the form's reach. -/
import Derived.Test.YtcdjeofhhhffcaaDoorX0
import Derived.Test.YtcdjeofhhhffcaaDoorX11
import Derived.Test.YtcdjeofhhhffcaaDoorPureAlive
namespace Go.Proofs.YtcdjeofhhhffcaaDoor.Pure
open Go Go.RowKit Go.Proofs.YtcdjeofhhhffcaaDoor Go.Proofs.YtcdjeofhhhffcaaDoor.X Go.Proofs.YtcdjeofhhhffcaaDoorW.PrintWords
set_option linter.unusedVariables false
set_option linter.unusedSimpArgs false
theorem FieldRight (a0 : S33) (g0 : (a0.f0.size ≤ reachBytes) ∧ (a0.f1.size ≤ reachBytes)) : ∃ k, mandolinelaw07_FieldRight.f k a0.f0 a0.f1 = some true := by
  have r : reachBytes = 140737488351232 := rfl
  refine Ev.ends ?_
  unfold mandolinelaw07_FieldRight.f
  refine Ev.bind alive_ok ?_
  simp only [if_true]
  obtain ⟨g, hg, _⟩ := law_great_f [a0.f0, a0.f1] (by simp) (by intro x hx; simp at hx; rcases hx with rfl | rfl <;> omega)
  refine Ev.bind hg ?_
  cases g with
  | true => exact Ev.const rfl
  | false =>
    simp only [Bool.false_eq_true, if_false]
    refine Ev.bind (field_Right_f a0.f0 a0.f1 (by omega) (by omega)) ?_
    refine Ev.bind (ref_Right_f a0.f0 a0.f1 (by omega) (by omega)) ?_
    exact Ev.const (by simp)
end Go.Proofs.YtcdjeofhhhffcaaDoor.Pure
