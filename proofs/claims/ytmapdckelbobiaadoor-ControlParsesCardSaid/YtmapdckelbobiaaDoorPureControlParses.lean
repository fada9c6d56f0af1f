/- ControlParses, in plain words: both read values as one rule. Texts are no longer than the form's reach. -/
import Derived.Test.YtmapdckelbobiaaDoorX0
import Derived.Test.YtmapdckelbobiaaDoorX8
import Derived.Test.YtmapdckelbobiaaDoorX14
import Derived.Test.YtmapdckelbobiaaDoorPureAwake
import Derived.Test.YtmapdckelbobiaaDoorPureParse
namespace Go.Proofs.YtmapdckelbobiaaDoor.Pure
open Go Go.RowKit Go.Proofs.YtmapdckelbobiaaDoor Go.Proofs.YtmapdckelbobiaaDoor.X Go.Proofs.YtmapdckelbobiaaDoorW.PrintWords
set_option linter.unusedVariables false
set_option linter.unusedSimpArgs false
theorem same_refl (r : R7) : mandolinelaw09_same.f r.1 r.2.1 r.2.2.1 r.2.2.2.1 r.2.2.2.2.1 r.2.2.2.2.2.1 r.2.2.2.2.2.2 r.1 r.2.1 r.2.2.1 r.2.2.2.1 r.2.2.2.2.1 r.2.2.2.2.2.1 r.2.2.2.2.2.2 = some true := by
  unfold mandolinelaw09_same.f
  simp
theorem ControlParses (a0 : List ByteArray) (g0 : a0.length * 16 ≤ reachBytes ∧ ∀ a3 ∈ a0, a3.size ≤ reachBytes) : ∃ k, mandolinelaw09_ControlParses.f k a0 = some true := by
  have r : reachBytes = 140737488351232 := rfl
  refine Ev.ends ?_
  unfold mandolinelaw09_ControlParses.f
  refine Ev.bind awake_ok ?_
  simp only [if_true]
  obtain ⟨g, hg, hg'⟩ := Great_f a0 (by omega) (fun x hx => by have := g0.2 x hx; omega)
  refine Ev.bind hg ?_
  refine Ev.step (fun k => by rw [mandolinelaw09_ControlParses.j0]) ?_
  cases g with
  | true => exact Ev.pos rfl (Ev.bind awake_ok (Ev.const rfl))
  | false =>
    have hb := hg' rfl
    have hl := bulk_len a0
    have hs : ∀ x ∈ a0, x.size ≤ 1000 := fun x hx => by have := bulk_mem hx; omega
    refine Ev.neg (by decide) ?_
    simp only [Option.bind_some, List.nil_append]
    refine Ev.pos (by simp; omega) ?_
    refine Ev.bind (Parse_f a0 hs) ?_
    refine Ev.bind (ref_Parse_f a0 hs (by omega)) ?_
    rw [same_refl]
    exact Ev.const rfl
end Go.Proofs.YtmapdckelbobiaaDoor.Pure
