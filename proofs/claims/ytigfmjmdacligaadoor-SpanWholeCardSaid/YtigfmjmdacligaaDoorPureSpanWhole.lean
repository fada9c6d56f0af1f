/- SpanWhole, in plain words: no unit less does. -/
import Derived.Test.YtigfmjmdacligaaDoorX0
import Derived.Test.YtigfmjmdacligaaDoorX29
import Derived.Test.YtigfmjmdacligaaDoorPureSpanAligns
namespace Go.Proofs.YtigfmjmdacligaaDoor.Pure
open Go Go.RowKit Go.Proofs.YtigfmjmdacligaaDoor Go.Proofs.YtigfmjmdacligaaDoor.X Go.Proofs.YtigfmjmdacligaaDoorW.PrintWords Go.Proofs.YtigfmjmdacligaaDoorW.PrintMore
set_option linter.unusedVariables false
set_option linter.unusedSimpArgs false
theorem up_mod {b u : Int} (hu : 1 ≤ u) (h0 : 0 ≤ b) (h1 : b ≤ 4611686018427387904) : up b u % u = 0 ∨ up b u = 4611686018427387904 := by
  have b1 := Int.emod_nonneg b (show u ≠ 0 by omega)
  unfold up
  by_cases h : 0 < b % u ∧ b < 4611686018427387904
  · rw [if_pos h]
    by_cases h2 : 4611686018427387904 < b - b % u + u
    · rw [if_pos h2]
      exact .inr rfl
    · rw [if_neg h2]
      left
      have : b - b % u + u = u * (b / u + 1) := by have := Int.emod_def b u; rw [Int.mul_add, Int.mul_one]; omega
      rw [this]
      exact Int.mul_emod_right _ _
  · rw [if_neg h]
    by_cases h2 : b = 4611686018427387904
    · exact .inr h2
    · left
      omega
theorem up_less {b u : Int} (hu : 1 ≤ u) (h0 : 0 ≤ b) (h1 : b < 4611686018427387904) : up b u - u < b := by
  have b1 := Int.emod_nonneg b (show u ≠ 0 by omega)
  have b2 := Int.emod_lt_of_pos b (show 0 < u by omega)
  unfold up
  split
  · split <;> omega
  · omega
theorem Whole_j0_true (a b c d u : Int) : Ev (fun k => mandolinelaw01_SpanWhole.j0 k u true a b c d) true := by
  refine Ev.step (fun k => by rw [mandolinelaw01_SpanWhole.j0]) ?_
  simp only [if_true]
  exact Ev.bind awake_ok (Ev.now _)
theorem Whole_j0 {a b u : Int} (h : okA a b u = true) (hl : Ln a b ≠ 0) : Ev (fun k => mandolinelaw01_SpanWhole.j0 k u false a b (dn a u) (up b u)) true := by
  obtain ⟨h1, h2, h3⟩ := okA_iff.1 h
  have h' := R_iff.1 h1
  obtain ⟨r1, r2, r3⟩ := Al_right h
  have r' := R_iff.1 r1
  have hab : a < b := by
    unfold Ln at hl
    rw [if_pos h1] at hl
    split at hl <;> omega
  have a1 := Int.emod_nonneg a (show u ≠ 0 by omega)
  have a2 := Int.emod_lt_of_pos a (show 0 < u by omega)
  have hd : dn a u = a - a % u := rfl
  have m1 : Int.tmod (dn a u) u = 0 := by rw [Int.tmod_eq_emod_of_nonneg r'.1]; exact dn_mod h2
  have m2 : Int.tmod (up b u) u = up b u % u := Int.tmod_eq_emod_of_nonneg (by omega)
  have hH : H (dn a u) (up b u) a = true := H_iff.2 ⟨r1, by omega, by omega⟩
  have hu : ¬ (u = 0) := by omega
  have w1 : ¬ (wrap64 (dn a u + u) ≤ a) := by rw [wrap64_eq (by omega) (by omega)]; omega
  refine Ev.step (fun k => by rw [mandolinelaw01_SpanWhole.j0]) ?_
  simp only [Bool.false_eq_true, if_false, hu, m1, m2, if_true, span_Has_eq, Option.bind_some, hH, w1]
  refine Ev.const ?_
  by_cases hb : b = 4611686018427387904
  · have e : up b u = 4611686018427387904 := by unfold up; rw [if_neg (by omega)]; exact hb
    simp only [hb, if_true] at e ⊢
    simp only [e, if_true]
    split <;> rfl
  · have hlt := up_less (u := u) h2 (show 0 ≤ b by omega) (show b < 4611686018427387904 by omega)
    have e : decide (wrap64 (up b u - u) < b) = true := by
      rw [decide_eq_true_eq, wrap64_eq (by omega) (by omega)]
      exact hlt
    simp only [hb, if_false, e]
    rcases up_mod h2 (show 0 ≤ b by omega) h'.2.2 with hm | hm
    · simp only [hm, if_true]
    · simp only [hm, if_true]
      split <;> rfl
theorem SpanWhole (a0 : S23) (a1 : Int) (g0 : ((Lit.int .i64 a0.f0).wf = true) ∧ ((Lit.int .i64 a0.f1).wf = true)) (g1 : (Lit.int .i64 a1).wf = true) : ∃ k, mandolinelaw01_SpanWhole.f k a0.f0 a0.f1 a1 = some true := by
  refine Ev.rounds ?_
  unfold mandolinelaw01_SpanWhole.f
  refine Ev.bind (span_Align_f _ _ _) ?_
  refine Ev.bind awake_ok ?_
  simp only [if_true]
  cases h : okA a0.f0 a0.f1 a1 with
  | false =>
    have e : Al a0.f0 a0.f1 a1 = (0, 0, 1) := by unfold Al; rw [h]; rfl
    rw [e]
    simp only [show ¬ ((1 : Int) = 0) by decide, if_false]
    exact Whole_j0_true _ _ _ _ _
  | true =>
    have e : Al a0.f0 a0.f1 a1 = (dn a0.f0 a1, up a0.f1 a1, 0) := by unfold Al; rw [h]; rfl
    rw [e]
    simp only [if_true, span_Len_eq, Option.bind_some]
    by_cases hl : Ln a0.f0 a0.f1 = 0
    · rw [hl]
      exact Whole_j0_true _ _ _ _ _
    · have : (Ln a0.f0 a0.f1 == 0) = false := beq_eq_false_iff_ne.2 hl
      rw [this]
      exact Whole_j0 h hl
end Go.Proofs.YtigfmjmdacligaaDoor.Pure
