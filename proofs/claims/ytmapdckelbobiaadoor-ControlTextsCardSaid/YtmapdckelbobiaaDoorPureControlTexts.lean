/- ControlTexts, in plain words: both tell a rule by one text. Numbers are 64 bits wide. -/
import Derived.Test.YtmapdckelbobiaaDoorX0
import Derived.Test.YtmapdckelbobiaaDoorX14
import Derived.Test.YtmapdckelbobiaaDoorX16
import Derived.Test.YtmapdckelbobiaaDoorPureAwake
import Derived.Test.YtmapdckelbobiaaDoorPureTexts
namespace Go.Proofs.YtmapdckelbobiaaDoor.Pure
open Go Go.RowKit Go.Proofs.YtmapdckelbobiaaDoor Go.Proofs.YtmapdckelbobiaaDoor.X Go.Proofs.YtmapdckelbobiaaDoorW.PrintWords
set_option linter.unusedVariables false
set_option linter.unusedSimpArgs false
theorem ControlTexts (a0 : S29) (g0 : ((Lit.int .i64 a0.f0).wf = true) ∧ ((Lit.int .i64 a0.f1).wf = true) ∧ ((Lit.int .i64 a0.f2).wf = true) ∧ ((Lit.int .i64 a0.f3).wf = true) ∧ (True) ∧ (True) ∧ (True)) : ∃ k, mandolinelaw09_ControlTexts.f k a0.f0 a0.f1 a0.f2 a0.f3 a0.f4 a0.f5 a0.f6 = some true := by
  refine Ev.ends ?_
  unfold mandolinelaw09_ControlTexts.f
  refine Ev.bind awake_ok ?_
  simp only [if_true, mandolinelaw09_own.f, Option.bind_some]
  refine Ev.bind (control_Text_f _ _ _ _ _ _ _) ?_
  refine Ev.bind (ref_Text_f _ _ _ _ _ _ _) ?_
  exact Ev.const (by simp)
end Go.Proofs.YtmapdckelbobiaaDoor.Pure
