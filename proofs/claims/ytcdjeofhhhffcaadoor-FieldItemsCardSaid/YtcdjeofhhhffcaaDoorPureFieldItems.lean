/- FieldItems, in plain words: the program and the document tell the same items, and they are told as long as they are asked for. Values are no longer than the form's reach. -/
import Derived.Test.YtcdjeofhhhffcaaDoorX0
import Derived.Test.YtcdjeofhhhffcaaDoorX8
import Derived.Test.YtcdjeofhhhffcaaDoorPureItems
import Derived.Test.YtcdjeofhhhffcaaDoorPureAlive
namespace Go.Proofs.YtcdjeofhhhffcaaDoor.Pure
open Go Go.RowKit Go.Proofs.YtcdjeofhhhffcaaDoor Go.Proofs.YtcdjeofhhhffcaaDoor.X Go.Proofs.YtcdjeofhhhffcaaDoorW.PrintWords
set_option linter.unusedVariables false
set_option linter.unusedSimpArgs false
theorem bulkT_mem {l : List ByteArray} {x : ByteArray} (h : x ∈ l) : x.size ≤ bulkT l := by
  induction l with
  | nil => simp at h
  | cons y l ih =>
    simp only [bulkT, List.map_cons, List.sum_cons]
    rcases List.mem_cons.1 h with rfl | h
    · omega
    · have := ih h; unfold bulkT at this; omega
theorem FieldItems (a0 : List ByteArray) (a1 : Int) (g0 : a0.length * 16 ≤ reachBytes ∧ ∀ a3 ∈ a0, a3.size ≤ reachBytes) (g1 : (Lit.int .u8 a1).wf = true) : ∃ k, mandolinelaw07_FieldItems.f k a0 a1 = some true := by
  have r : reachBytes = 140737488351232 := rfl
  have ha : 0 ≤ a1 ∧ a1 ≤ 255 := by
    have e1 : IntKind.u8.min = 0 := by decide
    have e2 : IntKind.u8.max = 255 := by decide
    unfold Lit.wf at g1
    simp only [Bool.and_eq_true, decide_eq_true_eq, e1, e2] at g1
    exact g1
  refine Ev.ends ?_
  unfold mandolinelaw07_FieldItems.f
  refine Ev.bind alive_ok ?_
  refine Ev.pos rfl ?_
  obtain ⟨g, hg, hg'⟩ := law_great_f a0 (by omega) (fun x hx => by have := g0.2 x hx; omega)
  refine Ev.bind hg ?_
  cases g with
  | true => exact Ev.const rfl
  | false =>
    obtain ⟨h1, h2⟩ := hg' rfl
    refine Ev.neg (by simp) ?_
    have hm : ∀ x ∈ a0, x.size ≤ 10000 := fun x hx => by have := bulkT_mem hx; omega
    refine Ev.bind (ref_Items_f a0 (fun x hx => by have := hm x hx; omega) (by omega)) ?_
    refine Ev.bind (items_f a0 (fun x hx => by have := hm x hx; omega) (by omega)) ?_
    have hl := allItems_len a0
    refine Ev.bind (Texts_refl _ (by omega)) ?_
    refine Ev.pos rfl ?_
    by_cases h0 : ((allItems a0).length : Int) = 0
    · refine Ev.pos h0 ?_
      exact Ev.const rfl
    · refine Ev.neg h0 (Ev.pos ha ?_)
      have e : mandolinelaw07_FieldItems.some_ a1 (allItems a0) = 1 + a1 % ((allItems a0).length : Int) := by
        unfold mandolinelaw07_FieldItems.some_
        have hm0 : 0 ≤ a1 % ((allItems a0).length : Int) := Int.emod_nonneg _ h0
        have hm1 : a1 % ((allItems a0).length : Int) < ((allItems a0).length : Int) := Int.emod_lt_of_pos _ (by omega)
        exact wrap64_eq (by omega) (by omega)
      have hm0 : 0 ≤ a1 % ((allItems a0).length : Int) := Int.emod_nonneg _ h0
      have hm1 : a1 % ((allItems a0).length : Int) < ((allItems a0).length : Int) := Int.emod_lt_of_pos _ (by omega)
      have hrun := run_count (mandolinelaw07_FieldItems.some_ a1 (allItems a0)) (allItems a0) 0 (by omega) (by omega) (by omega) (by omega)
      refine Ev.bind (field_Items_l0 _ _ a0 0 (fun x hx => by have := hm x hx; omega) hrun) ?_
      exact Ev.const (by simp)
end Go.Proofs.YtcdjeofhhhffcaaDoor.Pure
