/- SpanJoins, in plain words. -/
import Derived.Test.YtigfmjmdacligaaDoorX0
import Derived.Test.YtigfmjmdacligaaDoorX3
import Derived.Test.YtigfmjmdacligaaDoorX4
import Derived.Test.YtigfmjmdacligaaDoorX15
import Derived.Test.YtigfmjmdacligaaDoorX16
import Derived.Test.YtigfmjmdacligaaDoorPureSpanMeets
namespace Go.Proofs.YtigfmjmdacligaaDoor.Pure
open Go Go.RowKit Go.Proofs.YtigfmjmdacligaaDoor Go.Proofs.YtigfmjmdacligaaDoor.X Go.Proofs.YtigfmjmdacligaaDoorW.PrintWords Go.Proofs.YtigfmjmdacligaaDoorW.PrintMore
set_option linter.unusedVariables false
set_option linter.unusedSimpArgs false
def To (a b c d : Int) : Bool := R a b && (R c d && decide (mx a c ≤ mn b d))
theorem span_Touch_eq (a b c d : Int) : span_Touch.f a b c d = some (To a b c d) := by
  unfold span_Touch.f To
  rw [span_Right_eq, span_Right_eq, Option.bind_some, Option.bind_some]
  cases R a b <;> cases R c d <;> simp
theorem To_comm (a b c d : Int) : To a b c d = To c d a b := by
  unfold To
  rw [mx_comm a c, mn_comm b d]
  cases R a b <;> cases R c d <;> simp
theorem ref_Touch_eq (a b c d : Int) : mandolineref01_Touch.f a b c d = some (To a b c d) := by
  unfold mandolineref01_Touch.f To
  rw [ref_Right_eq, ref_Right_eq, Option.bind_some, Option.bind_some]
  cases h1 : R a b <;> cases h2 : R c d <;> simp
  have k1 := R_iff.1 h1
  have k2 := R_iff.1 h2
  by_cases h : a ≤ d
  · rw [if_pos h]
    unfold mx mn
    by_cases h3 : c ≤ b
    · simp only [h3, decide_true, Option.some.injEq]
      symm
      rw [decide_eq_true_eq]
      split <;> split <;> omega
    · simp only [h3, decide_false, Option.some.injEq]
      symm
      rw [decide_eq_false_iff_not]
      split <;> split <;> omega
  · rw [if_neg h]
    unfold mx mn
    simp only [Option.some.injEq]
    symm
    rw [decide_eq_false_iff_not]
    split <;> split <;> omega
def Jo (a b c d : Int) : Int × Int × Bool := if To a b c d = true then (mn a c, mx b d, true) else (0, 0, false)
theorem span_Join_eq (a b c d : Int) : span_Join.f a b c d = some (Jo a b c d) := by
  unfold span_Join.f Jo
  rw [span_Touch_eq, Option.bind_some]
  split <;> rfl
theorem ref_Join_eq (a b c d : Int) : mandolineref01_Join.f a b c d = some (Jo a b c d) := by
  unfold mandolineref01_Join.f Jo
  rw [ref_Touch_eq, Option.bind_some]
  split
  · unfold mn mx
    split <;> split <;> simp_all <;> omega
  · rfl
theorem Jo_comm (a b c d : Int) : Jo a b c d = Jo c d a b := by
  unfold Jo
  rw [To_comm a b, mn_comm a c, mx_comm b d]
theorem Jo_ok (a b c d : Int) : (Jo a b c d).2.2 = To a b c d := by
  unfold Jo
  cases To a b c d <;> rfl
theorem SpanJoins (a0 : S23) (a1 : S23) (g0 : ((Lit.int .i64 a0.f0).wf = true) ∧ ((Lit.int .i64 a0.f1).wf = true)) (g1 : ((Lit.int .i64 a1.f0).wf = true) ∧ ((Lit.int .i64 a1.f1).wf = true)) : ∃ k, mandolinelaw01_SpanJoins.f k a0.f0 a0.f1 a1.f0 a1.f1 = some true := by
  refine Ev.rounds ?_
  unfold mandolinelaw01_SpanJoins.f
  simp only [span_Join_eq, ref_Join_eq, Option.bind_some]
  refine Ev.bind awake_ok ?_
  rw [Jo_comm a1.f0 a1.f1]
  exact Ev.const (by simp only [span_Touch_eq, To_comm a1.f0 a1.f1, Option.bind_some, beq_self_eq_true, Bool.and_self, if_true, Jo_ok])
end Go.Proofs.YtigfmjmdacligaaDoor.Pure
