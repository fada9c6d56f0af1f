/- DateParses, in plain words: both texts read any text alike, and a text that is read is told again. Texts are no longer than memory. -/
import Derived.Test.YtiifmbajiibciaaDoorX0
import Derived.Test.YtiifmbajiibciaaDoorX17
import Derived.Test.YtiifmbajiibciaaDoorPureAwake
import Derived.Test.YtiifmbajiibciaaDoorPureParse
namespace Go.Proofs.YtiifmbajiibciaaDoor.Pure
open Go Go.RowKit Go.Proofs.YtiifmbajiibciaaDoor Go.Proofs.YtiifmbajiibciaaDoor.X Go.Proofs.YtiifmbajiibciaaDoorW.PrintWords
set_option linter.unusedVariables false
set_option linter.unusedSimpArgs false
theorem DateParses (a0 : ByteArray) (g0 : a0.size ≤ reachBytes) : ∃ k, mandolinelaw06_DateParses.f k a0 = some true := by
  refine Ev.ends ?_
  unfold mandolinelaw06_DateParses.f
  refine Ev.bind wakes_ok ?_
  simp only [if_true]
  by_cases hs : (a0.size : Int) > 100
  · simp only [hs, if_true]
    exact Ev.const rfl
  simp only [hs, if_false]
  by_cases h : ∃ t, IsText t a0
  · obtain ⟨t, ht⟩ := h
    refine Ev.bind (parse_good ht) (Ev.bind (rparse_good ht) ?_)
    simp only [if_true]
    refine Ev.bind ht.told.1 (Ev.const ?_)
    simp
  · have h' : ∀ t, ¬ IsText t a0 := fun t ht => h ⟨t, ht⟩
    refine Ev.bind (parse_bad h') (Ev.bind (rparse_bad h') (Ev.const ?_))
    simp
end Go.Proofs.YtiifmbajiibciaaDoor.Pure
