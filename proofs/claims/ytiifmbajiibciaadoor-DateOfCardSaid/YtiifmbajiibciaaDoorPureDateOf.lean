/- DateOf, in plain words: both texts tell the day of any tick, and its second, alike. Numbers are 64 bits wide. -/
import Derived.Test.YtiifmbajiibciaaDoorX0
import Derived.Test.YtiifmbajiibciaaDoorX10
import Derived.Test.YtiifmbajiibciaaDoorPureAwake
namespace Go.Proofs.YtiifmbajiibciaaDoor.Pure
open Go Go.RowKit Go.Proofs.YtiifmbajiibciaaDoor Go.Proofs.YtiifmbajiibciaaDoor.X Go.Proofs.YtiifmbajiibciaaDoorW.PrintWords
set_option linter.unusedVariables false
set_option linter.unusedSimpArgs false
theorem DateOf (a0 : Int) (g0 : (Lit.int .i64 a0).wf = true) : ∃ k, mandolinelaw06_DateOf.f k a0 = some true := by
  refine Ev.ends ?_
  unfold mandolinelaw06_DateOf.f
  refine Ev.bind wakes_ok ?_
  simp only [if_true]
  by_cases h : 0 ≤ a0 ∧ a0 ≤ 253402300799
  · obtain ⟨y, m, d, _, e2, e3⟩ := of_ok a0 h.1 h.2
    refine Ev.bind e2 (Ev.bind e3 (Ev.const ?_))
    simp [mandolinelaw06_same.f]
  · obtain ⟨e2, e3⟩ := of_bad a0 h
    refine Ev.bind e2 (Ev.bind e3 (Ev.const ?_))
    simp [mandolinelaw06_same.f]
end Go.Proofs.YtiifmbajiibciaaDoor.Pure
