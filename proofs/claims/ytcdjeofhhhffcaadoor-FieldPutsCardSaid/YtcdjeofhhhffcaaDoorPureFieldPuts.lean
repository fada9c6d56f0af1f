/- FieldPuts, in plain words: the program and the document put the same block, or tell the same reason for none. Texts are no longer than the form's reach. -/
import Derived.Test.YtcdjeofhhhffcaaDoorX0
import Derived.Test.YtcdjeofhhhffcaaDoorX17
import Derived.Test.YtcdjeofhhhffcaaDoorPurePut
import Derived.Test.YtcdjeofhhhffcaaDoorPureAlive
namespace Go.Proofs.YtcdjeofhhhffcaaDoor.Pure
open Go Go.RowKit Go.Proofs.YtcdjeofhhhffcaaDoor Go.Proofs.YtcdjeofhhhffcaaDoor.X Go.Proofs.YtcdjeofhhhffcaaDoorW.PrintWords
set_option linter.unusedVariables false
set_option linter.unusedSimpArgs false
theorem FieldPuts (a0 : List S33) (g0 : a0.length * 32 ≤ reachBytes ∧ ∀ a3 ∈ a0, (a3.f0.size ≤ reachBytes) ∧ (a3.f1.size ≤ reachBytes)) : ∃ k, mandolinelaw07_FieldPuts.f k a0 = some true := by
  have r : reachBytes = 140737488351232 := rfl
  refine Ev.ends ?_
  unfold mandolinelaw07_FieldPuts.f
  refine Ev.bind alive_ok ?_
  simp only [if_true]
  obtain ⟨g, hg, hg'⟩ := ref_Great_f a0 (by omega) (fun x hx => by have := g0.2 x hx; omega)
  refine Ev.bind hg ?_
  cases g with
  | true => exact Ev.const rfl
  | false =>
    obtain ⟨h1, h2⟩ := hg' rfl
    simp only [Bool.false_eq_true, if_false]
    refine Ev.bind (field_Put_f a0 (by omega)) ?_
    refine Ev.bind (ref_Put_f a0 (by omega)) ?_
    simp only [if_true, beq_self_eq_true]
    exact Ev.const rfl
end Go.Proofs.YtcdjeofhhhffcaaDoor.Pure
