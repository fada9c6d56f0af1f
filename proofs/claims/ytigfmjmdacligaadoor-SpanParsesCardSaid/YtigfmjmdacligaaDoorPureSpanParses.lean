/- SpanParses, in plain words. -/
import Derived.Test.YtigfmjmdacligaaDoorX0
import Derived.Test.YtigfmjmdacligaaDoorX26
import Derived.Test.YtigfmjmdacligaaDoorPureParse2
namespace Go.Proofs.YtigfmjmdacligaaDoor.Pure
open Go Go.RowKit Go.Proofs.YtigfmjmdacligaaDoor Go.Proofs.YtigfmjmdacligaaDoor.X Go.Proofs.YtigfmjmdacligaaDoorW.PrintWords Go.Proofs.YtigfmjmdacligaaDoorW.PrintMore
set_option linter.unusedVariables false
set_option linter.unusedSimpArgs false
theorem SpanParses (a0 : ByteArray) (g0 : a0.size ≤ reachBytes) : ∃ k, mandolinelaw01_SpanParses.f k a0 = some true := by
  refine Ev.rounds ?_
  unfold mandolinelaw01_SpanParses.f
  refine Ev.bind awake_ok ?_
  simp only [if_true]
  refine Ev.step (fun k => by rw [mandolinelaw01_SpanParses.j0]) ?_
  by_cases hz : (a0.size : Int) > 100
  · have e : decide ((a0.size : Int) > 100) = true := decide_eq_true hz
    simp only [e, if_true]
    exact Ev.bind awake_ok (Ev.now _)
  · have e : decide ((a0.size : Int) > 100) = false := decide_eq_false hz
    have hs : a0.size ≤ 1000 := by omega
    simp only [e, Bool.false_eq_true, if_false]
    by_cases hx : ∃ a b, R a b = true ∧ Tx a b = a0.data.toList
    · obtain ⟨a, b, h1, h2⟩ := hx
      simp only [span_Parse_in h1 hs h2, Option.bind_some]
      refine Ev.bind (ref_Parse_in h1 hs h2) ?_
      simp only [beq_self_eq_true, Bool.and_self, if_true, span_Text_eq, Option.bind_some, toList_data, bs_list, h2]
      exact Ev.now _
    · have hx' : ∀ a b, R a b = true → Tx a b ≠ a0.data.toList := fun a b h1 h2 => hx ⟨a, b, h1, h2⟩
      simp only [span_Parse_out hs hx', Option.bind_some]
      refine Ev.bind (ref_Parse_out hs hx') ?_
      exact Ev.const (by simp)
end Go.Proofs.YtigfmjmdacligaaDoor.Pure
