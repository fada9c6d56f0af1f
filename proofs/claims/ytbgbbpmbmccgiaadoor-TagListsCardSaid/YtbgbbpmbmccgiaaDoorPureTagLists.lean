/- TagLists, in plain words: the program's and the document's list of a text are one. Texts are no longer than the form's reach. -/
import Derived.Test.YtbgbbpmbmccgiaaDoorX0
import Derived.Test.YtbgbbpmbmccgiaaDoorX20
import Derived.Test.YtbgbbpmbmccgiaaDoorPureLists2
namespace Go.Proofs.YtbgbbpmbmccgiaaDoor.Pure
open Go Go.RowKit Go.Proofs.YtbgbbpmbmccgiaaDoor Go.Proofs.YtbgbbpmbmccgiaaDoor.X Go.Proofs.YtbgbbpmbmccgiaaDoorW.PrintWords
set_option linter.unusedVariables false

theorem TagLists (a0 : ByteArray) (g0 : a0.size ≤ reachBytes) : ∃ k, mandolinelaw05_TagLists.f k a0 = some true := by
  refine Ev.rounds ?_
  unfold mandolinelaw05_TagLists.f
  refine Ev.bind awake_ok ?_
  simp only [if_true]
  refine Ev.step (fun k => by rw [mandolinelaw05_TagLists.j0]) ?_
  cases h : decide ((a0.size : Int) > 600) with
  | true =>
    exact Ev.bind awake_ok (Ev.now _)
  | false =>
    have h' : ¬ ((a0.size : Int) > 600) := of_decide_eq_false h
    simp only [Bool.false_eq_true, if_false]
    refine Ev.bind (tag_List_f a0 (by omega)) ?_
    refine Ev.bind (ref_List_f a0 (by omega)) ?_
    refine Ev.bind (ref_Same_f _ (by have := listL_len a0.data.toList; omega)) ?_
    simp only [beq_self_eq_true, if_true]
    exact Ev.now _
end Go.Proofs.YtbgbbpmbmccgiaaDoor.Pure
