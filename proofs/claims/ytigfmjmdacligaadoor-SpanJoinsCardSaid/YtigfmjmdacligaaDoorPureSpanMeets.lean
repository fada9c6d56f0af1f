/- SpanMeets, in plain words. -/
import Derived.Test.YtigfmjmdacligaaDoorX0
import Derived.Test.YtigfmjmdacligaaDoorX3
import Derived.Test.YtigfmjmdacligaaDoorX12
import Derived.Test.YtigfmjmdacligaaDoorX13
import Derived.Test.YtigfmjmdacligaaDoorX14
import Derived.Test.YtigfmjmdacligaaDoorPureBase
namespace Go.Proofs.YtigfmjmdacligaaDoor.Pure
open Go Go.RowKit Go.Proofs.YtigfmjmdacligaaDoor Go.Proofs.YtigfmjmdacligaaDoor.X Go.Proofs.YtigfmjmdacligaaDoorW.PrintWords Go.Proofs.YtigfmjmdacligaaDoorW.PrintMore
set_option linter.unusedVariables false
set_option linter.unusedSimpArgs false
/-- What both have. -/
def Mt (a b c d : Int) : Int × Int × Bool := if R a b = true ∧ R c d = true ∧ mx a c < mn b d then (mx a c, mn b d, true) else (0, 0, false)
theorem span_Meet_eq (a b c d : Int) : span_Meet.f a b c d = some (Mt a b c d) := by
  unfold span_Meet.f Mt
  rw [span_Right_eq, span_Right_eq, Option.bind_some, Option.bind_some]
  cases R a b <;> cases R c d <;> simp
  split
  · rw [if_neg (by omega)]
  · rw [if_pos (by omega)]
theorem mx_comm (a b : Int) : mx a b = mx b a := by unfold mx; split <;> split <;> omega
theorem mn_comm (a b : Int) : mn a b = mn b a := by unfold mn; split <;> split <;> omega
theorem Mt_comm (a b c d : Int) : Mt a b c d = Mt c d a b := by
  unfold Mt
  rw [mx_comm a c, mn_comm b d]
  cases R a b <;> cases R c d <;> simp
theorem ref_Meet_j1 (a b c d x y : Int) : Ev (fun k => mandolineref01_Meet.j1 k a b c d x y) (if R a b = true ∧ R c d = true ∧ x < y then (x, y, true) else (0, 0, false)) := by
  refine Ev.step (fun k => by rw [mandolineref01_Meet.j1]) ?_
  refine Ev.const ?_
  rw [ref_Right_eq, ref_Right_eq, Option.bind_some, Option.bind_some]
  cases R a b <;> cases R c d <;> simp
  split
  · rw [if_neg (by omega)]
  · rw [if_pos (by omega)]
theorem ref_Meet_f (a b c d : Int) : Ev (fun k => mandolineref01_Meet.f k a b c d) (Mt a b c d) := by
  have key : ∀ x, x = mx a c → Ev (fun k => mandolineref01_Meet.j0 k a b c d x b) (Mt a b c d) := by
    intro x hx
    refine Ev.step (fun k => by rw [mandolineref01_Meet.j0]) ?_
    unfold Mt
    by_cases h : d < b
    · simp only [h, if_true]
      have e : mn b d = d := by unfold mn; rw [if_pos h]
      rw [e, ← hx]
      exact ref_Meet_j1 a b c d x d
    · simp only [h, if_false]
      have e : mn b d = b := by unfold mn; rw [if_neg h]
      rw [e, ← hx]
      exact ref_Meet_j1 a b c d x b
  unfold mandolineref01_Meet.f
  by_cases h : c > a
  · simp only [h, if_true]
    exact key c (by unfold mx; rw [if_pos h])
  · simp only [h, if_false]
    exact key a (by unfold mx; rw [if_neg h])
def Wi (a b c d : Int) : Bool := R a b && (R c d && (decide (a = b) || (decide (c ≤ a) && decide (b ≤ d))))
theorem span_Within_eq (a b c d : Int) : span_Within.f a b c d = some (Wi a b c d) := by
  unfold span_Within.f Wi
  rw [span_Right_eq, span_Right_eq, Option.bind_some, Option.bind_some]
  cases R a b <;> cases R c d <;> simp
  split
  · simp_all
  · split
    · simp_all
    · simp_all
      omega
theorem ref_Within_eq (a b c d : Int) : mandolineref01_Within.f a b c d = some (Wi a b c d) := by
  unfold mandolineref01_Within.f Wi
  rw [ref_Right_eq, ref_Right_eq, Option.bind_some, Option.bind_some]
  cases R a b <;> cases R c d <;> simp
  split
  · simp_all
  · split
    · simp_all
    · simp_all
      omega
theorem SpanMeets (a0 : S23) (a1 : S23) (g0 : ((Lit.int .i64 a0.f0).wf = true) ∧ ((Lit.int .i64 a0.f1).wf = true)) (g1 : ((Lit.int .i64 a1.f0).wf = true) ∧ ((Lit.int .i64 a1.f1).wf = true)) : ∃ k, mandolinelaw01_SpanMeets.f k a0.f0 a0.f1 a1.f0 a1.f1 = some true := by
  refine Ev.rounds ?_
  unfold mandolinelaw01_SpanMeets.f
  simp only [span_Meet_eq, Option.bind_some]
  refine Ev.bind (ref_Meet_f _ _ _ _) ?_
  refine Ev.bind awake_ok ?_
  rw [Mt_comm a1.f0 a1.f1]
  exact Ev.const (by simp only [span_Within_eq, ref_Within_eq, Option.bind_some, beq_self_eq_true, Bool.and_self, if_true])
end Go.Proofs.YtigfmjmdacligaaDoor.Pure
