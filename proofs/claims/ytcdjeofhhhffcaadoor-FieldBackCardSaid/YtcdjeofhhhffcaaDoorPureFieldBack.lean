/- FieldBack, in plain words: what is put is parsed as it was, whatever stands behind; what is cut off is ErrMore. Texts are no longer than the form's reach. -/
import Derived.Test.YtcdjeofhhhffcaaDoorX0
import Derived.Test.YtcdjeofhhhffcaaDoorX18
import Derived.Test.YtcdjeofhhhffcaaDoorPurePut
import Derived.Test.YtcdjeofhhhffcaaDoorPureAlive
namespace Go.Proofs.YtcdjeofhhhffcaaDoor.Pure
open Go Go.RowKit Go.Proofs.YtcdjeofhhhffcaaDoor Go.Proofs.YtcdjeofhhhffcaaDoor.X Go.Proofs.YtcdjeofhhhffcaaDoorW.PrintWords
set_option linter.unusedVariables false
set_option linter.unusedSimpArgs false
theorem FieldBack_j0 (l : List S33) (more : ByteArray) (c : Int) (b : Bool) (hb : b = false → l.length ≤ 130 ∧ bulkS l ≤ 12000 ∧ more.size ≤ 10000) (hc0 : 0 ≤ c) (hc1 : c ≤ 65535) : Ev (fun k => mandolinelaw07_FieldBack.j0 k l more c b) true := by
  refine Ev.step (fun k => by rw [mandolinelaw07_FieldBack.j0]) ?_
  cases b with
  | true => exact Ev.const rfl
  | false =>
    obtain ⟨h1, h2, h3⟩ := hb rfl
    simp only [Bool.false_eq_true, if_false]
    refine Ev.bind (field_Put_f l (by omega)) ?_
    unfold putL
    by_cases hall : l.all rightS = true
    · rw [if_pos hall]
      by_cases hbig : 100 < l.length ∨ 65536 < ([] : List UInt8).length + (linesS l).length + 2
      · rw [if_pos hbig]
        refine Ev.neg (by decide) ?_
        exact Ev.const (by simp only [toList_data]; rfl)
      · rw [if_neg hbig]
        simp only [List.length_nil] at hbig
        have hn1 : l.length ≤ 100 := by omega
        have hn2 : (linesS l).length + 2 ≤ 65536 := by omega
        have zs : (bs ([] ++ linesS l ++ [13, 10])).size = (linesS l).length + 2 := by rw [bs_size]; simp
        have hmod : Int.tmod (wrap64 c) ((bs ([] ++ linesS l ++ [13, 10])).size : Int) = c % ((linesS l).length + 2 : Nat) := by
          rw [wrap64_eq (by omega) (by omega), zs, Int.tmod_eq_emod_of_nonneg hc0]
        have hm0 : 0 ≤ c % ((linesS l).length + 2 : Nat) := Int.emod_nonneg _ (by omega)
        have hm1 : c % ((linesS l).length + 2 : Nat) < ((linesS l).length + 2 : Nat) := Int.emod_lt_of_pos _ (by omega)
        have zm : (bs ([] ++ linesS l ++ [13, 10]) ++ more).size = (linesS l).length + 2 + more.size := by rw [ByteArray.size_append, zs]
        have dm : (bs ([] ++ linesS l ++ [13, 10]) ++ more).data.toList = [] ++ (linesS l ++ 13 :: 10 :: more.data.toList) := by rw [append_list, bs_list]; simp
        have dc : ((bs ([] ++ linesS l ++ [13, 10])).extract 0 (c % ((linesS l).length + 2 : Nat)).toNat).data.toList = [] ++ (linesS l ++ [13, 10]).take (c % ((linesS l).length + 2 : Nat)).toNat := by rw [extract_list, bs_list]; simp
        have zc : ((bs ([] ++ linesS l ++ [13, 10])).extract 0 (c % ((linesS l).length + 2 : Nat)).toNat).size ≤ (linesS l).length + 2 := by rw [size_list, dc, List.nil_append, List.length_take, List.length_append]; simp only [List.length_cons, List.length_nil]; omega
        have hll : ∀ l : List S33, l.length ≤ (linesS l).length := by
          intro l
          induction l with
          | nil => simp
          | cons x l ih => simp only [linesS, List.flatMap_cons, List.length_append, List.length_cons] at ih ⊢; rw [lineS_len]; omega
        have hlen := hll l
        refine Ev.pos rfl (Ev.pos (by rw [zs]; omega) ?_)
        have p1 := field_Parse_f (bs ([] ++ linesS l ++ [13, 10]) ++ more) (by omega)
        rw [dm] at p1
        have q1 := parse_lines more.data.toList l ((bs ([] ++ linesS l ++ [13, 10]) ++ more).size + 1) [] [] hall (by omega) (by simpa using hn1) (by simpa using hn2)
        rw [show ([] : List UInt8).length = 0 from rfl] at q1
        rw [q1] at p1
        refine Ev.bind p1 ?_
        rw [hmod]
        refine Ev.neg (by rw [zs]; omega) (Ev.pos hm0 (Ev.pos (by rw [zs]; omega) ?_))
        have p2 := field_Parse_f ((bs ([] ++ linesS l ++ [13, 10])).extract 0 (c % ((linesS l).length + 2 : Nat)).toNat) (by omega)
        rw [dc] at p2
        have q2 : parseL ([] ++ (linesS l ++ [13, 10]).take (c % ((linesS l).length + 2 : Nat)).toNat) (((bs ([] ++ linesS l ++ [13, 10])).extract 0 (c % ((linesS l).length + 2 : Nat)).toNat).size + 1) 0 [] = ([], 0, 3) := by
          have hsz : ((bs ([] ++ linesS l ++ [13, 10])).extract 0 (c % ((linesS l).length + 2 : Nat)).toNat).size = (c % ((linesS l).length + 2 : Nat)).toNat := by rw [size_list, dc, List.nil_append, List.length_take, List.length_append]; simp only [List.length_cons, List.length_nil]; omega
          have := parse_cut l (((bs ([] ++ linesS l ++ [13, 10])).extract 0 (c % ((linesS l).length + 2 : Nat)).toNat).size + 1) [] [] (c % ((linesS l).length + 2 : Nat)).toNat hall (by omega) (by simpa using hn1) (by simpa using hn2) (by omega)
          exact this
        rw [q2] at p2
        refine Ev.bind p2 ?_
        refine Ev.pos rfl (Ev.pos (by rw [zs]; simp) ?_)
        rw [List.nil_append]
        refine Ev.bind (Same_refl l (by omega)) ?_
        refine Ev.pos rfl (Ev.pos rfl ?_)
        exact Ev.const rfl
    · rw [if_neg hall]
      refine Ev.neg (by decide) ?_
      exact Ev.const (by simp only [toList_data]; rfl)
theorem FieldBack (a0 : List S33) (a1 : ByteArray) (a2 : Int) (g0 : a0.length * 32 ≤ reachBytes ∧ ∀ a3 ∈ a0, (a3.f0.size ≤ reachBytes) ∧ (a3.f1.size ≤ reachBytes)) (g1 : a1.size ≤ reachBytes) (g2 : (Lit.int .u16 a2).wf = true) : ∃ k, mandolinelaw07_FieldBack.f k a0 a1 a2 = some true := by
  have r : reachBytes = 140737488351232 := rfl
  have hb : 0 ≤ a2 ∧ a2 ≤ 65535 := by
    have e1 : IntKind.u16.min = 0 := by decide
    have e2 : IntKind.u16.max = 65535 := by decide
    unfold Lit.wf at g2
    simp only [Bool.and_eq_true, decide_eq_true_eq, e1, e2] at g2
    exact g2
  refine Ev.ends ?_
  unfold mandolinelaw07_FieldBack.f
  refine Ev.bind alive_ok ?_
  simp only [if_true]
  obtain ⟨g, hg, hg'⟩ := ref_Great_f a0 (by omega) (fun x hx => by have := g0.2 x hx; omega)
  refine Ev.bind hg ?_
  cases g with
  | true => exact FieldBack_j0 a0 a1 a2 true (by simp) hb.1 hb.2
  | false =>
    simp only [Bool.false_eq_true, if_false]
    obtain ⟨g', hq, hq'⟩ := law_great_f [a1] (by simp) (by intro x hx; simp at hx; subst hx; omega)
    refine Ev.bind hq ?_
    exact FieldBack_j0 a0 a1 a2 g' (fun h => ⟨(hg' rfl).1, (hg' rfl).2, by have := (hq' h).2; simpa [bulkT] using this⟩) hb.1 hb.2
end Go.Proofs.YtcdjeofhhhffcaaDoor.Pure
