/- DateLeaps, in plain words: both texts tell alike whether any year has a day more. Numbers are 64 bits wide. -/
import Derived.Test.YtiifmbajiibciaaDoorX0
import Derived.Test.YtiifmbajiibciaaDoorX17
import Derived.Test.YtiifmbajiibciaaDoorPureAwake
namespace Go.Proofs.YtiifmbajiibciaaDoor.Pure
open Go Go.RowKit Go.Proofs.YtiifmbajiibciaaDoor Go.Proofs.YtiifmbajiibciaaDoor.X Go.Proofs.YtiifmbajiibciaaDoorW.PrintWords
set_option linter.unusedVariables false
set_option linter.unusedSimpArgs false
theorem DateLeaps (a0 : Int) (g0 : (Lit.int .i64 a0).wf = true) : ∃ k, mandolinelaw06_DateLeaps.f k a0 = some true := by
  refine Ev.ends ?_
  unfold mandolinelaw06_DateLeaps.f
  refine Ev.bind wakes_ok ?_
  simp only [if_true, leap_p, leap_r, Option.bind_some]
  exact Ev.const (by simp)
end Go.Proofs.YtiifmbajiibciaaDoor.Pure
