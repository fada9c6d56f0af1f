/- FieldGets, in plain words: the program and the document tell the same values of a name. Texts are no longer than the form's reach. -/
import Derived.Test.YtcdjeofhhhffcaaDoorX0
import Derived.Test.YtcdjeofhhhffcaaDoorX16
import Derived.Test.YtcdjeofhhhffcaaDoorPureAlive
namespace Go.Proofs.YtcdjeofhhhffcaaDoor.Pure
open Go Go.RowKit Go.Proofs.YtcdjeofhhhffcaaDoor Go.Proofs.YtcdjeofhhhffcaaDoor.X Go.Proofs.YtcdjeofhhhffcaaDoorW.PrintWords
set_option linter.unusedVariables false
set_option linter.unusedSimpArgs false
theorem small_of {l : List S33} (hf : ∀ x ∈ l, x.f0.size ≤ reachBytes ∧ x.f1.size ≤ reachBytes) (h : l.length ≤ 130) : Small l := ⟨by omega, fun x hx => (hf x hx).1⟩
theorem ofL_len (name : ByteArray) (l : List S33) : (ofL name l).length ≤ l.length := by
  unfold ofL
  rw [List.length_map]
  exact List.length_filter_le _ _
theorem FieldGets_j0 (l : List S33) (name : ByteArray) (b : Bool) (hb : b = false → Small l) (hn : name.size ≤ reachBytes) : Ev (fun k => mandolinelaw07_FieldGets.j0 k l name b) true := by
  have r : reachBytes = 140737488351232 := rfl
  refine Ev.step (fun k => by rw [mandolinelaw07_FieldGets.j0]) ?_
  cases b with
  | true => exact Ev.const rfl
  | false =>
    have hs := hb rfl
    have hs1 := hs.1
    simp only [Bool.false_eq_true, if_false]
    refine Ev.bind (field_Get_f l name hs) ?_
    refine Ev.bind (ref_Get_f l name hs (by omega)) ?_
    simp only [if_true, beq_self_eq_true]
    refine Ev.bind (field_Of_f l name hs) ?_
    refine Ev.bind (ref_Of_f l name hs (by omega)) ?_
    refine Ev.bind (Texts_refl _ (by have := ofL_len name l; omega)) ?_
    exact Ev.const rfl
theorem FieldGets (a0 : List S33) (a1 : ByteArray) (g0 : a0.length * 32 ≤ reachBytes ∧ ∀ a3 ∈ a0, (a3.f0.size ≤ reachBytes) ∧ (a3.f1.size ≤ reachBytes)) (g1 : a1.size ≤ reachBytes) : ∃ k, mandolinelaw07_FieldGets.f k a0 a1 = some true := by
  have r : reachBytes = 140737488351232 := rfl
  refine Ev.ends ?_
  unfold mandolinelaw07_FieldGets.f
  refine Ev.bind alive_ok ?_
  simp only [if_true]
  obtain ⟨g, hg, hg'⟩ := ref_Great_f a0 (by omega) (fun x hx => by have := g0.2 x hx; omega)
  refine Ev.bind hg ?_
  cases g with
  | true => exact FieldGets_j0 a0 a1 true (by simp) g1
  | false =>
    simp only [Bool.false_eq_true, if_false]
    obtain ⟨g', hq, _⟩ := law_great_f [a1] (by simp) (by intro x hx; simp at hx; subst hx; omega)
    refine Ev.bind hq ?_
    exact FieldGets_j0 a0 a1 g' (fun _ => small_of g0.2 (hg' rfl).1) g1
end Go.Proofs.YtcdjeofhhhffcaaDoor.Pure
