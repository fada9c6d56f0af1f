/- TagTexts, in plain words: the program's and the document's text of a tag, and of a list, are one. Texts and lists are no longer than the form's reach. -/
import Derived.Test.YtbgbbpmbmccgiaaDoorX0
import Derived.Test.YtbgbbpmbmccgiaaDoorX7
import Derived.Test.YtbgbbpmbmccgiaaDoorPureTexts
namespace Go.Proofs.YtbgbbpmbmccgiaaDoor.Pure
open Go Go.RowKit Go.Proofs.YtbgbbpmbmccgiaaDoor Go.Proofs.YtbgbbpmbmccgiaaDoor.X Go.Proofs.YtbgbbpmbmccgiaaDoorW.PrintWords
set_option linter.unusedVariables false
set_option linter.unusedSimpArgs false

theorem TagTexts_j0 (t : ByteArray) (wk : Bool) (l : List S23) (any b : Bool) (h0 : t.size ≤ 140737488351232) (hl : ∀ x ∈ l, x.f0.size ≤ 140737488351232) (hz : b = false → l.length ≤ 1000) : Ev (fun k => mandolinelaw05_TagTexts.j0 k l any b t wk) true := by
  refine Ev.step (fun k => by rw [mandolinelaw05_TagTexts.j0]) ?_
  cases b with
  | true => exact Ev.bind awake_ok (Ev.now _)
  | false =>
    have hz := hz rfl
    simp only [Bool.false_eq_true, if_false]
    refine Ev.bind (tag_Text_f t wk (by omega)) ?_
    refine Ev.bind (ref_Text_f t wk (by omega)) ?_
    have h1 : ([] : List S23).length + l.length < 5864062014805 := by simp; omega
    simp only [if_true, Option.bind_some, h1, List.nil_append]
    refine Ev.bind (tag_Texts_f l any hl hz) ?_
    refine Ev.bind (ref_Texts_f l any hl hz) ?_
    simp only [beq_self_eq_true]
    exact Ev.now _
theorem TagTexts (a0 : S23) (a1 : List S23) (a2 : Bool) (g0 : (a0.f0.size ≤ reachBytes) ∧ (True)) (g1 : a1.length * 24 ≤ reachBytes ∧ ∀ a3 ∈ a1, (a3.f0.size ≤ reachBytes) ∧ (True)) (g2 : True) : ∃ k, mandolinelaw05_TagTexts.f k a0.f0 a0.f1 a1 a2 = some true := by
  have r : reachBytes = 140737488351232 := rfl
  have hl : ∀ x ∈ a1, x.f0.size ≤ 140737488351232 := fun x hx => by have := (g1.2 x hx).1; omega
  refine Ev.rounds ?_
  unfold mandolinelaw05_TagTexts.f
  refine Ev.bind awake_ok ?_
  simp only [if_true]
  by_cases h : (a0.f0.size : Int) > 300
  · simp only [h, if_true]
    exact TagTexts_j0 _ _ _ _ true (by omega) hl (by simp)
  · simp only [h, if_false]
    refine Ev.bind (ref_Great_f a1 hl (by omega)) ?_
    refine TagTexts_j0 _ _ _ _ _ (by omega) hl (fun hb => ?_)
    have := bulk_len a1
    have hb' : ¬ (400 < bulkN a1) := of_decide_eq_false hb
    omega
end Go.Proofs.YtbgbbpmbmccgiaaDoor.Pure
