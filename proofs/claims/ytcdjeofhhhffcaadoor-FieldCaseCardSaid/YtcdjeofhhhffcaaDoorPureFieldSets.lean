/- FieldSets, in plain words: the program and the document make the same fields with one of a name, and without it. Texts are no longer than the form's reach. -/
import Derived.Test.YtcdjeofhhhffcaaDoorX0
import Derived.Test.YtcdjeofhhhffcaaDoorX20
import Derived.Test.YtcdjeofhhhffcaaDoorPureFieldGets
namespace Go.Proofs.YtcdjeofhhhffcaaDoor.Pure
open Go Go.RowKit Go.Proofs.YtcdjeofhhhffcaaDoor Go.Proofs.YtcdjeofhhhffcaaDoor.X Go.Proofs.YtcdjeofhhhffcaaDoorW.PrintWords
set_option linter.unusedVariables false
set_option linter.unusedSimpArgs false
theorem setL_len (name value : ByteArray) : ∀ (l : List S33) (put : Bool), (setL name value put l).length ≤ l.length + 1
  | [], put => by cases put <;> simp [setL]
  | x :: r, put => by
    rw [setL]
    have h1 := setL_len name value r put
    have h2 := setL_len name value r true
    split
    · split
      · simp; omega
      · simp only [List.length_cons]
        have h3 : ∀ (l : List S33), (setL name value true l).length ≤ l.length := by
          intro l
          induction l with
          | nil => simp [setL]
          | cons y l ih => rw [setL]; split <;> simp <;> omega
        have := h3 r
        omega
    · simp; omega
theorem withoutL_len (name : ByteArray) (l : List S33) : (withoutL name l).length ≤ l.length := List.length_filter_le _ _
theorem FieldSets_j0 (l : List S33) (name value : ByteArray) (b : Bool) (hb : b = false → Small l) (hn : name.size ≤ reachBytes) : Ev (fun k => mandolinelaw07_FieldSets.j0 k l name value b) true := by
  have r : reachBytes = 140737488351232 := rfl
  refine Ev.step (fun k => by rw [mandolinelaw07_FieldSets.j0]) ?_
  cases b with
  | true => exact Ev.const rfl
  | false =>
    have hs := hb rfl
    have hs1 := hs.1
    simp only [Bool.false_eq_true, if_false]
    refine Ev.bind (field_Set_f l name value hs) ?_
    refine Ev.bind (ref_Set_f l name value hs (by omega)) ?_
    refine Ev.bind (Same_refl _ (by have := setL_len name value l false; omega)) ?_
    simp only [if_true]
    refine Ev.bind (field_Without_f l name hs) ?_
    refine Ev.bind (ref_Without_f l name hs (by omega)) ?_
    refine Ev.bind (Same_refl _ (by have := withoutL_len name l; omega)) ?_
    exact Ev.const rfl
theorem FieldSets (a0 : List S33) (a1 : ByteArray) (a2 : ByteArray) (g0 : a0.length * 32 ≤ reachBytes ∧ ∀ a3 ∈ a0, (a3.f0.size ≤ reachBytes) ∧ (a3.f1.size ≤ reachBytes)) (g1 : a1.size ≤ reachBytes) (g2 : a2.size ≤ reachBytes) : ∃ k, mandolinelaw07_FieldSets.f k a0 a1 a2 = some true := by
  have r : reachBytes = 140737488351232 := rfl
  refine Ev.ends ?_
  unfold mandolinelaw07_FieldSets.f
  refine Ev.bind alive_ok ?_
  simp only [if_true]
  obtain ⟨g, hg, hg'⟩ := ref_Great_f a0 (by omega) (fun x hx => by have := g0.2 x hx; omega)
  refine Ev.bind hg ?_
  cases g with
  | true => exact FieldSets_j0 a0 a1 a2 true (by simp) g1
  | false =>
    simp only [Bool.false_eq_true, if_false]
    obtain ⟨g', hq, _⟩ := law_great_f [a1, a2] (by simp) (by intro x hx; simp at hx; rcases hx with rfl | rfl <;> omega)
    refine Ev.bind hq ?_
    exact FieldSets_j0 a0 a1 a2 g' (fun _ => small_of g0.2 (hg' rfl).1) g1
end Go.Proofs.YtcdjeofhhhffcaaDoor.Pure
