/- TagIn, in plain words: whether a list has a tag, strictly or loosely, is what the document says. Texts and lists are no longer than the form's reach. -/
import Derived.Test.YtbgbbpmbmccgiaaDoorX0
import Derived.Test.YtbgbbpmbmccgiaaDoorX25
import Derived.Test.YtbgbbpmbmccgiaaDoorPureSame
namespace Go.Proofs.YtbgbbpmbmccgiaaDoor.Pure
open Go Go.RowKit Go.Proofs.YtbgbbpmbmccgiaaDoor Go.Proofs.YtbgbbpmbmccgiaaDoor.X Go.Proofs.YtbgbbpmbmccgiaaDoorW.PrintWords
set_option linter.unusedVariables false
set_option linter.unusedSimpArgs false

theorem TagIn_j0 (t : ByteArray) (v : Bool) (l : List S23) (st b : Bool) (h0 : t.size ≤ 140737488351232) (hl : ∀ x ∈ l, x.f0.size ≤ 140737488351232) (hz : l.length < 5864062014805) : Ev (fun k => mandolinelaw05_TagIn.j0 k l st b t v) true := by
  refine Ev.step (fun k => by rw [mandolinelaw05_TagIn.j0]) ?_
  cases b with
  | true => exact Ev.bind awake_ok (Ev.now _)
  | false =>
    have h1 : ([] : List S23).length + l.length < 5864062014805 := by simp; omega
    simp only [Bool.false_eq_true, if_false, Option.bind_some, h1, if_true, List.nil_append]
    refine Ev.bind (tag_In_go t v st (by omega) l hl) ?_
    refine Ev.bind (ref_In_l0 l t v st (by omega) hl (by omega) l.length 0 (by omega) (by omega)) ?_
    simp
    exact Ev.now _
theorem TagIn (a0 : List S23) (a1 : S23) (a2 : Bool) (g0 : a0.length * 24 ≤ reachBytes ∧ ∀ a3 ∈ a0, (a3.f0.size ≤ reachBytes) ∧ (True)) (g1 : (a1.f0.size ≤ reachBytes) ∧ (True)) (g2 : True) : ∃ k, mandolinelaw05_TagIn.f k a0 a1.f0 a1.f1 a2 = some true := by
  have r : reachBytes = 140737488351232 := rfl
  have hl : ∀ x ∈ a0, x.f0.size ≤ 140737488351232 := fun x hx => by have := (g0.2 x hx).1; omega
  refine Ev.rounds ?_
  unfold mandolinelaw05_TagIn.f
  refine Ev.bind awake_ok ?_
  simp only [if_true]
  refine Ev.bind (ref_Great_f a0 hl (by omega)) ?_
  have := fun b => TagIn_j0 a1.f0 a1.f1 a0 a2 b (by omega) hl (by omega)
  cases decide (400 < bulkN a0) with
  | true => exact this _
  | false => exact this _
end Go.Proofs.YtbgbbpmbmccgiaaDoor.Pure
