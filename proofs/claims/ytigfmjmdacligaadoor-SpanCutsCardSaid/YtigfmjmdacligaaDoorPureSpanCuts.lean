/- SpanCuts, in plain words. -/
import Derived.Test.YtigfmjmdacligaaDoorX0
import Derived.Test.YtigfmjmdacligaaDoorX17
import Derived.Test.YtigfmjmdacligaaDoorX18
import Derived.Test.YtigfmjmdacligaaDoorPureOps
namespace Go.Proofs.YtigfmjmdacligaaDoor.Pure
open Go Go.RowKit Go.Proofs.YtigfmjmdacligaaDoor Go.Proofs.YtigfmjmdacligaaDoor.X Go.Proofs.YtigfmjmdacligaaDoorW.PrintWords Go.Proofs.YtigfmjmdacligaaDoorW.PrintMore
set_option linter.unusedVariables false
set_option linter.unusedSimpArgs false
theorem ref_Cut_eq (a b p : Int) : mandolineref01_Cut.f a b p = some (Cu a b p) := by
  unfold mandolineref01_Cut.f Cu
  rw [ref_Right_eq, Option.bind_some]
  split
  · rename_i h
    have := R_iff.1 h
    split
    · rw [if_neg (by omega)]
    · split <;> rfl
  · rfl
theorem Cu_join (a b p : Int) (h : R a b = true) : Jo (Cu a b p).1 (Cu a b p).2.1 (Cu a b p).2.2.1 (Cu a b p).2.2.2 = (a, b, true) := by
  have h' := R_iff.1 h
  have key : ∀ m, a ≤ m → m ≤ b → Jo a m m b = (a, b, true) := by
    intro m h1 h2
    have r1 : R a m = true := R_iff.2 ⟨by omega, by omega, by omega⟩
    have r2 : R m b = true := R_iff.2 ⟨by omega, by omega, by omega⟩
    have t : To a m m b = true := by
      unfold To mx mn
      rw [r1, r2]
      simp only [Bool.true_and, decide_eq_true_eq]
      split <;> split <;> omega
    unfold Jo
    rw [if_pos t]
    unfold mn mx
    split <;> split <;> simp <;> omega
  unfold Cu
  rw [if_pos h]
  split
  · exact key a (by omega) (by omega)
  · split
    · exact key b (by omega) (by omega)
    · exact key p (by omega) (by omega)
theorem SpanCuts (a0 : S23) (a1 : Int) (g0 : ((Lit.int .i64 a0.f0).wf = true) ∧ ((Lit.int .i64 a0.f1).wf = true)) (g1 : (Lit.int .i64 a1).wf = true) : ∃ k, mandolinelaw01_SpanCuts.f k a0.f0 a0.f1 a1 = some true := by
  refine Ev.rounds ?_
  unfold mandolinelaw01_SpanCuts.f
  simp only [span_Cut_eq, ref_Cut_eq, span_Join_eq, Option.bind_some]
  refine Ev.bind awake_ok ?_
  refine Ev.const ?_
  simp only [beq_self_eq_true, Bool.and_self, if_true, ref_Right_eq, Option.bind_some]
  cases h : R a0.f0 a0.f1 with
  | false => simp
  | true =>
    rw [Cu_join _ _ _ h]
    simp
end Go.Proofs.YtigfmjmdacligaaDoor.Pure
