/- SpanTexts, in plain words. -/
import Derived.Test.YtigfmjmdacligaaDoorX0
import Derived.Test.YtigfmjmdacligaaDoorX23
import Derived.Test.YtigfmjmdacligaaDoorPureParse
namespace Go.Proofs.YtigfmjmdacligaaDoor.Pure
open Go Go.RowKit Go.Proofs.YtigfmjmdacligaaDoor Go.Proofs.YtigfmjmdacligaaDoor.X Go.Proofs.YtigfmjmdacligaaDoorW.PrintWords Go.Proofs.YtigfmjmdacligaaDoorW.PrintMore
set_option linter.unusedVariables false
set_option linter.unusedSimpArgs false
theorem Tx_inj {a b c d : Int} (h : R a b = true) (e : Tx c d = Tx a b) : c = a ∧ d = b := by
  by_cases h2 : R c d = true
  · have hl := Tx_len a b
    have p1 := span_Parse_in (s := bs (Tx a b)) h (by rw [bs_size]; omega) (bs_list _).symm
    have p2 := span_Parse_in (s := bs (Tx a b)) h2 (by rw [bs_size]; omega) (by rw [bs_list]; exact e)
    rw [p1] at p2
    have := Option.some.inj p2
    simp only [Prod.mk.injEq] at this
    exact ⟨this.1.symm, this.2.1.symm⟩
  · exfalso
    unfold Tx at e
    rw [if_neg h2] at e
    exact Tx_ne h e.symm
theorem Texts_j0 (a b c d : Int) : Ev (fun k => mandolinelaw01_SpanTexts.j0 k (bs (Tx a b)) false a b c d) true := by
  refine Ev.step (fun k => by rw [mandolinelaw01_SpanTexts.j0]) ?_
  have hl := Tx_len a b
  cases h : R a b with
  | true =>
    have p1 := span_Parse_in (s := bs (Tx a b)) h (by rw [bs_size]; omega) (bs_list _).symm
    simp only [Bool.false_eq_true, if_false, p1, Option.bind_some, ref_Right_eq, h, if_true, beq_self_eq_true, Bool.and_self, span_Text_eq, toList_data, bs_list]
    refine Ev.const (congrArg some ?_)
    by_cases e : Tx c d = Tx a b
    · obtain ⟨rfl, rfl⟩ := Tx_inj h e
      simp
    · have e1 : (Tx c d == Tx a b) = false := beq_eq_false_iff_ne.2 e
      have e2 : (a == c && b == d) = false := by
        rw [Bool.and_eq_false_iff]
        by_cases hc : a = c
        · right
          rw [beq_eq_false_iff_ne]
          rintro rfl
          exact e (by rw [hc])
        · left
          exact beq_eq_false_iff_ne.2 hc
      rw [e1, e2]
      rfl
  | false =>
    have e : Tx a b = [] := by unfold Tx; rw [h]; rfl
    have p2 := span_Parse_out (s := bs (Tx a b)) (by rw [bs_size]; omega) (fun x y hx hy => by
      rw [bs_list, e] at hy
      exact Tx_ne hx hy)
    simp only [Bool.false_eq_true, if_false, p2, Option.bind_some, ref_Right_eq, h, toList_data, bs_list, e, if_true]
    exact Ev.const rfl
theorem SpanTexts (a0 : S23) (a1 : S23) (g0 : ((Lit.int .i64 a0.f0).wf = true) ∧ ((Lit.int .i64 a0.f1).wf = true)) (g1 : ((Lit.int .i64 a1.f0).wf = true) ∧ ((Lit.int .i64 a1.f1).wf = true)) : ∃ k, mandolinelaw01_SpanTexts.f k a0.f0 a0.f1 a1.f0 a1.f1 = some true := by
  refine Ev.rounds ?_
  unfold mandolinelaw01_SpanTexts.f
  simp only [span_Text_eq, Option.bind_some]
  refine Ev.bind awake_ok ?_
  simp only [if_true]
  refine Ev.bind (ref_Text_f _ _) ?_
  simp only [bne_self_eq_false]
  exact Texts_j0 _ _ _ _
end Go.Proofs.YtigfmjmdacligaaDoor.Pure
