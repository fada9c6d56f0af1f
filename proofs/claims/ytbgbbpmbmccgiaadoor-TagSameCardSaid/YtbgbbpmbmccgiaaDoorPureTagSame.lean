/- TagSame, in plain words: whether two tags are one, strictly or loosely, is what the document says, either way round. Texts are no longer than the form's reach. -/
import Derived.Test.YtbgbbpmbmccgiaaDoorX0
import Derived.Test.YtbgbbpmbmccgiaaDoorX23
import Derived.Test.YtbgbbpmbmccgiaaDoorPureSame
namespace Go.Proofs.YtbgbbpmbmccgiaaDoor.Pure
open Go Go.RowKit Go.Proofs.YtbgbbpmbmccgiaaDoor Go.Proofs.YtbgbbpmbmccgiaaDoor.X Go.Proofs.YtbgbbpmbmccgiaaDoorW.PrintWords
set_option linter.unusedVariables false
set_option linter.unusedSimpArgs false

theorem weakB_comm (s t : ByteArray) : weakB t s = weakB s t := by
  unfold weakB
  rw [Bool.and_comm (rightL t.data.toList), BEq.comm (a := t.data.toList)]
theorem strongB_comm (s t : ByteArray) (u v : Bool) : strongB t v s u = strongB s u t v := by
  unfold strongB
  rw [weakB_comm]
  cases weakB s t <;> cases u <;> cases v <;> rfl
theorem TagSame_j0 (s t : ByteArray) (u v : Bool) (b : Bool) (hs : s.size ≤ 140737488351232) (ht : t.size ≤ 140737488351232) : Ev (fun k => mandolinelaw05_TagSame.j0 k b s u t v) true := by
  refine Ev.step (fun k => by rw [mandolinelaw05_TagSame.j0]) ?_
  cases b with
  | true => exact Ev.bind awake_ok (Ev.now _)
  | false =>
    have S := tag_Strong_f s t u v (by omega) (by omega)
    have W := tag_Weak_f s t u v (by omega) (by omega)
    simp only [Bool.false_eq_true, if_false]
    refine Ev.bind S (Ev.bind (ref_Strong_f s t u v (by omega) (by omega)) ?_)
    simp only [beq_self_eq_true, if_true]
    refine Ev.bind W (Ev.bind (ref_Weak_f s t u v (by omega) (by omega)) ?_)
    simp only [beq_self_eq_true, if_true]
    refine Ev.bind S (Ev.bind (tag_Strong_f t s v u (by omega) (by omega)) ?_)
    rw [strongB_comm]
    simp only [beq_self_eq_true, if_true]
    refine Ev.bind W (Ev.bind (tag_Weak_f t s v u (by omega) (by omega)) ?_)
    rw [weakB_comm]
    simp only [beq_self_eq_true, if_true]
    refine Ev.bind S ?_
    cases hS : strongB s u t v with
    | false => exact Ev.const rfl
    | true =>
      have hS' := hS
      unfold strongB at hS'
      simp only [Bool.and_eq_true, Bool.not_eq_true'] at hS'
      obtain ⟨⟨hw, rfl⟩, rfl⟩ := hS'
      simp only [if_true]
      refine Ev.bind W ?_
      rw [hw]
      unfold weakB at hw
      simp only [Bool.and_eq_true] at hw
      simp only [if_true, toList_data, hw.2]
      exact Ev.const rfl
theorem TagSame (a0 : S23) (a1 : S23) (g0 : (a0.f0.size ≤ reachBytes) ∧ (True)) (g1 : (a1.f0.size ≤ reachBytes) ∧ (True)) : ∃ k, mandolinelaw05_TagSame.f k a0.f0 a0.f1 a1.f0 a1.f1 = some true := by
  have r : reachBytes = 140737488351232 := rfl
  refine Ev.rounds ?_
  unfold mandolinelaw05_TagSame.f
  refine Ev.bind awake_ok ?_
  simp only [if_true]
  have := fun b => TagSame_j0 a0.f0 a1.f0 a0.f1 a1.f1 b (by omega) (by omega)
  by_cases h : (a0.f0.size : Int) > 300
  · simp only [h, if_true]
    exact this _
  · simp only [h, if_false]
    exact this _
end Go.Proofs.YtbgbbpmbmccgiaaDoor.Pure
