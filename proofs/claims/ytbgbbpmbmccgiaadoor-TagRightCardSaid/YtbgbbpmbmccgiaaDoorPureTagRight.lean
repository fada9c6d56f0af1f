/- TagRight, in plain words: the program's and the document's tag of a text are one, and so is whether a tag may be. Texts are no longer than the form's reach. -/
import Derived.Test.YtbgbbpmbmccgiaaDoorX0
import Derived.Test.YtbgbbpmbmccgiaaDoorX6
import Derived.Test.YtbgbbpmbmccgiaaDoorPureBase
namespace Go.Proofs.YtbgbbpmbmccgiaaDoor.Pure
open Go Go.RowKit Go.Proofs.YtbgbbpmbmccgiaaDoor Go.Proofs.YtbgbbpmbmccgiaaDoor.X Go.Proofs.YtbgbbpmbmccgiaaDoorW.PrintWords

theorem TagRight_j0 (a0 t : ByteArray) (wk b : Bool) (h0 : a0.size ≤ 2305843009213693952) (h1 : t.size ≤ 2305843009213693952) : Ev (fun k => mandolinelaw05_TagRight.j0 k a0 b t wk) true := by
  refine Ev.step (fun k => by rw [mandolinelaw05_TagRight.j0]) ?_
  cases b with
  | true => exact Ev.bind awake_ok (Ev.now _)
  | false =>
    simp only [Bool.false_eq_true, if_false]
    refine Ev.bind (tag_Parse_f a0 h0) ?_
    refine Ev.bind (ref_Parse_f a0 h0) ?_
    simp only [beq_self_eq_true, Bool.and_self, if_true]
    refine Ev.bind (tag_Right_f t wk (by omega)) ?_
    refine Ev.bind (ref_Right_f t wk (by omega)) ?_
    simp only [beq_self_eq_true]
    exact Ev.now _
theorem TagRight (a0 : ByteArray) (a1 : S23) (g0 : a0.size ≤ reachBytes) (g1 : (a1.f0.size ≤ reachBytes) ∧ (True)) : ∃ k, mandolinelaw05_TagRight.f k a0 a1.f0 a1.f1 = some true := by
  have r : reachBytes = 140737488351232 := rfl
  refine Ev.rounds ?_
  unfold mandolinelaw05_TagRight.f
  refine Ev.bind awake_ok ?_
  simp only [if_true]
  have := fun b => TagRight_j0 a0 a1.f0 a1.f1 b (by omega) (by omega)
  by_cases h : (a0.size : Int) > 300
  · simp only [h, if_true]
    exact this _
  · simp only [h, if_false]
    exact this _
end Go.Proofs.YtbgbbpmbmccgiaaDoor.Pure
