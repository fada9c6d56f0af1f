/- ControlAge, in plain words: both read a text's age alike, and it lies within 0 and 2^40. Texts are no longer than the form's reach. -/
import Derived.Test.YtmapdckelbobiaaDoorX0
import Derived.Test.YtmapdckelbobiaaDoorX17
import Derived.Test.YtmapdckelbobiaaDoorPureAwake
namespace Go.Proofs.YtmapdckelbobiaaDoor.Pure
open Go Go.RowKit Go.Proofs.YtmapdckelbobiaaDoor Go.Proofs.YtmapdckelbobiaaDoor.X Go.Proofs.YtmapdckelbobiaaDoorW.PrintWords
set_option linter.unusedVariables false
set_option linter.unusedSimpArgs false
theorem ControlAge (a0 : ByteArray) (g0 : a0.size ≤ reachBytes) : ∃ k, mandolinelaw09_ControlAge.f k a0 = some true := by
  have r : reachBytes = 140737488351232 := rfl
  refine Ev.ends ?_
  unfold mandolinelaw09_ControlAge.f
  refine Ev.bind awake_ok ?_
  simp only [if_true]
  refine Ev.step (fun k => by rw [mandolinelaw09_ControlAge.j0]) ?_
  by_cases h : decide ((a0.size : Int) > 300) = true
  · refine Ev.pos h ?_
    exact Ev.bind awake_ok (Ev.const rfl)
  · refine Ev.neg h ?_
    refine Ev.bind (Age_f a0 (by omega)) ?_
    refine Ev.bind (ref_Age_f a0 (by omega)) ?_
    simp only [if_true]
    unfold ageL
    cases hn : numF (trimL a0.data.toList) with
    | none => exact Ev.const rfl
    | some m =>
      have := numF_bound hn
      refine Ev.pos this.1 (Ev.const ?_)
      exact congrArg some (decide_eq_true this.2)
end Go.Proofs.YtmapdckelbobiaaDoor.Pure
