/- DateTicks, in plain words: both texts tell the tick of any day's second, or that there is none, alike. Numbers are 64 bits wide. -/
import Derived.Test.YtiifmbajiibciaaDoorX0
import Derived.Test.YtiifmbajiibciaaDoorX12
import Derived.Test.YtiifmbajiibciaaDoorPureAwake
namespace Go.Proofs.YtiifmbajiibciaaDoor.Pure
open Go Go.RowKit Go.Proofs.YtiifmbajiibciaaDoor Go.Proofs.YtiifmbajiibciaaDoor.X Go.Proofs.YtiifmbajiibciaaDoorW.PrintWords
set_option linter.unusedVariables false
set_option linter.unusedSimpArgs false
theorem DateTicks (a0 : S32) (a1 : Int) (g0 : ((Lit.int .i64 a0.f0).wf = true) ∧ ((Lit.int .i64 a0.f1).wf = true) ∧ ((Lit.int .i64 a0.f2).wf = true) ∧ ((Lit.int .i64 a0.f3).wf = true)) (g1 : (Lit.int .i64 a1).wf = true) : ∃ k, mandolinelaw06_DateTicks.f k a0.f0 a0.f1 a0.f2 a0.f3 a1 = some true := by
  refine Ev.ends ?_
  unfold mandolinelaw06_DateTicks.f
  refine Ev.bind wakes_ok ?_
  simp only [if_true]
  refine Ev.bind (tick_p _ _ _ _ _) (Ev.bind (tick_r _ _ _ _ _) (Ev.const ?_))
  simp
end Go.Proofs.YtiifmbajiibciaaDoor.Pure
