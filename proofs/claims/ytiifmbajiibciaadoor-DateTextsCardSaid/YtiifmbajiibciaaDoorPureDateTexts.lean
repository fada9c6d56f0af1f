/- DateTexts, in plain words: both texts tell any tick alike, and what is told is read as it was. Numbers are 64 bits wide. -/
import Derived.Test.YtiifmbajiibciaaDoorX0
import Derived.Test.YtiifmbajiibciaaDoorX14
import Derived.Test.YtiifmbajiibciaaDoorPureAwake
import Derived.Test.YtiifmbajiibciaaDoorPureParse
namespace Go.Proofs.YtiifmbajiibciaaDoor.Pure
open Go Go.RowKit Go.Proofs.YtiifmbajiibciaaDoor Go.Proofs.YtiifmbajiibciaaDoor.X Go.Proofs.YtiifmbajiibciaaDoorW.PrintWords
set_option linter.unusedVariables false
set_option linter.unusedSimpArgs false
theorem DateTexts (a0 : Int) (g0 : (Lit.int .i64 a0).wf = true) : ∃ k, mandolinelaw06_DateTexts.f k a0 = some true := by
  refine Ev.ends ?_
  unfold mandolinelaw06_DateTexts.f
  refine Ev.bind wakes_ok ?_
  simp only [if_true]
  by_cases h : 0 ≤ a0 ∧ a0 ≤ 253402300799
  · obtain ⟨x, hx⟩ := isText h.1 h.2
    refine Ev.bind hx.told.1 (Ev.bind hx.told.2 ?_)
    simp only [if_true]
    refine Ev.bind (parse_good hx) (Ev.const ?_)
    simp
  · obtain ⟨e1, e2⟩ := text_bad h
    refine Ev.bind e1 (Ev.bind e2 ?_)
    simp only [if_true, show ¬ ((1 : Int) = 0) by decide, if_false]
    exact Ev.const (by simp)
end Go.Proofs.YtiifmbajiibciaaDoor.Pure
