/- DateBack, in plain words: the tick of a tick's day and second is that tick. Numbers are 64 bits wide. -/
import Derived.Test.YtiifmbajiibciaaDoorX0
import Derived.Test.YtiifmbajiibciaaDoorX19
import Derived.Test.YtiifmbajiibciaaDoorPureAwake
namespace Go.Proofs.YtiifmbajiibciaaDoor.Pure
open Go Go.RowKit Go.Proofs.YtiifmbajiibciaaDoor Go.Proofs.YtiifmbajiibciaaDoor.X Go.Proofs.YtiifmbajiibciaaDoorW.PrintWords
set_option linter.unusedVariables false
set_option linter.unusedSimpArgs false
theorem DateBack (a0 : Int) (a1 : Int) (g0 : (Lit.int .i64 a0).wf = true) (g1 : (Lit.int .i64 a1).wf = true) : ∃ k, mandolinelaw06_DateBack.f k a0 a1 = some true := by
  refine Ev.ends ?_
  unfold mandolinelaw06_DateBack.f
  refine Ev.bind wakes_ok ?_
  simp only [if_true]
  by_cases h : a0 < 0 ∨ a0 > 253402300799
  · simp only [h, if_true]
    exact Ev.const rfl
  simp only [h, if_false]
  obtain ⟨y, m, d, e1, e2, _⟩ := of_ok a0 (by omega) (by omega)
  refine Ev.bind e2 ?_
  have ht : Ev (fun k => mandolinelaw06_DateBack.fin k a0 a1 (y, (m : Int), d, (4 + a0 / 86400) % 7, a0 % 86400)) true := by
    unfold mandolinelaw06_DateBack.fin
    have := tick_p y m d a1 (a0 % 86400)
    rw [e1.tick (by omega) (by omega)] at this
    refine Ev.bind this (Ev.const ?_)
    have e : a0 / 86400 * 86400 + a0 % 86400 = a0 := by omega
    simp [e]
  unfold mandolinelaw06_DateBack.day
  have s0 : 0 ≤ a0 % 86400 ∧ a0 % 86400 ≤ 86399 := by omega
  simp only [s0, and_self, if_true]
  by_cases h2 : (m : Int) = 2 ∧ d = 29
  · have hl : leap y = true := by
      have := e1.d2
      rw [h2.1, h2.2] at this
      unfold dm lp at this
      cases hl : leap y with
      | true => rfl
      | false => rw [hl] at this; simp at this
    simp only [h2, and_self, if_true, leap_p, hl, Option.bind_some]
    rw [h2.1, h2.2] at ht
    exact ht
  · simp only [h2, if_false]
    exact ht
end Go.Proofs.YtiifmbajiibciaaDoor.Pure
