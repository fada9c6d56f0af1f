/- SpanBytes, in plain words. -/
import Derived.Test.YtigfmjmdacligaaDoorX0
import Derived.Test.YtigfmjmdacligaaDoorX10
import Derived.Test.YtigfmjmdacligaaDoorX27
import Derived.Test.YtigfmjmdacligaaDoorX28
import Derived.Test.YtigfmjmdacligaaDoorPureOps
namespace Go.Proofs.YtigfmjmdacligaaDoor.Pure
open Go Go.RowKit Go.Proofs.YtigfmjmdacligaaDoor Go.Proofs.YtigfmjmdacligaaDoor.X Go.Proofs.YtigfmjmdacligaaDoorW.PrintWords Go.Proofs.YtigfmjmdacligaaDoorW.PrintMore
set_option linter.unusedVariables false
set_option linter.unusedSimpArgs false
theorem Mt_has (a b c d p : Int) : ((Mt a b c d).2.2 && H (Mt a b c d).1 (Mt a b c d).2.1 p) = (H a b p && H c d p) := by
  rw [Bool.eq_iff_iff]
  unfold Mt
  by_cases h : R a b = true ∧ R c d = true ∧ mx a c < mn b d
  · rw [if_pos h]
    simp only [R_iff] at h
    simp only [Bool.and_eq_true, H_iff, R_iff, true_and]
    unfold mx mn at *
    split at h <;> split at h <;> rename_i h1 h2 <;> simp only [h1, h2, if_true, if_false] <;> omega
  · rw [if_neg h]
    simp only [R_iff] at h
    simp only [Bool.and_eq_true, H_iff, R_iff, Bool.false_eq_true, false_and, false_iff]
    unfold mx mn at *
    split at h <;> split at h <;> omega
theorem Jo_has (a b c d p : Int) (hj : (Jo a b c d).2.2 = true) : H (Jo a b c d).1 (Jo a b c d).2.1 p = (H a b p || H c d p) := by
  rw [Jo_ok] at hj
  unfold Jo
  rw [if_pos hj, Bool.eq_iff_iff]
  unfold To at hj
  simp only [Bool.and_eq_true, decide_eq_true_eq, R_iff] at hj
  simp only [Bool.or_eq_true, H_iff, R_iff]
  unfold mx mn at *
  split at hj <;> split at hj <;> split <;> split <;> omega
theorem Cu_has (a b q p : Int) : H (Cu a b q).1 (Cu a b q).2.1 p = (H a b p && decide (p < q)) ∧ H (Cu a b q).2.2.1 (Cu a b q).2.2.2 p = (H a b p && decide (p ≥ q)) := by
  unfold Cu
  cases h : R a b with
  | false =>
    have e : H a b p = false := by unfold H; rw [h]; rfl
    have hz : H 0 0 p = false := by
      cases hh : H 0 0 p with
      | false => rfl
      | true =>
        have := H_iff.1 hh
        omega
    simp only [e, Bool.false_eq_true, if_false, Bool.false_and]
    exact ⟨hz, hz⟩
  | true =>
    have h' := R_iff.1 h
    simp only [if_true]
    split
    · refine ⟨?_, ?_⟩ <;> rw [Bool.eq_iff_iff] <;> simp only [Bool.and_eq_true, decide_eq_true_eq, H_iff, R_iff] <;> omega
    · split
      · refine ⟨?_, ?_⟩ <;> rw [Bool.eq_iff_iff] <;> simp only [Bool.and_eq_true, decide_eq_true_eq, H_iff, R_iff] <;> omega
      · refine ⟨?_, ?_⟩ <;> rw [Bool.eq_iff_iff] <;> simp only [Bool.and_eq_true, decide_eq_true_eq, H_iff, R_iff] <;> omega
/-! ### the places that are looked at: some list -/
theorem All_j1 (l : List S23) (P : List Int → Prop) (acc : List Int) (i : Int) (fl : Bool) (h0 : 0 ≤ i) (h1 : i < (l.length : Int)) (h2 : (l.length : Int) ≤ 1000) (ha : acc.length ≤ 100000)
    (next : ∀ acc' : List Int, acc'.length ≤ acc.length + 4 → ∃ r, Ev (fun k => mandolineref01_All.l0 k l acc' (i + 1)) r ∧ P r) : ∃ r, Ev (fun k => mandolineref01_All.j1 k l acc i fl) r ∧ P r := by
  have hw : wrap64 (i + 1) = i + 1 := wrap64_eq (by omega) (by omega)
  have two : ∀ (acc : List Int) (x y : Int), (acc ++ [x, y]).length = acc.length + 2 := fun acc x y => by simp
  have len2 : ∀ x y : Int, ([x, y] : List Int).length = 2 := fun _ _ => rfl
  have go : ∀ (acc2 : List Int), acc2.length ≤ acc.length + 2 → ∃ r, Ev (fun k => if (rd_T23 l i).f1 > -9 then ((mandolineref01_end.f).bind fun t => (if (rd_T23 l i).f1 < t then ((some (([wrap64 (((rd_T23 l i).f1) - 1), wrap64 (((rd_T23 l i).f1) + 1)] : List Int) : List Int)).bind fun y => (if acc2.length + y.length < 17592186044416 then (mandolineref01_All.l0 k l (acc2 ++ y) (wrap64 (i + 1))) else (none))) else (mandolineref01_All.l0 k l acc2 (wrap64 (i + 1))))) else (mandolineref01_All.l0 k l acc2 (wrap64 (i + 1)))) r ∧ P r := by
    intro acc2 hacc2
    unfold mandolineref01_end.f
    rw [hw]
    simp only [Option.bind_some, len2]
    have hl : acc2.length + 2 < 17592186044416 := by omega
    simp only [hl, if_true]
    by_cases c1 : (rd_T23 l i).f1 > -9
    · by_cases c2 : (rd_T23 l i).f1 < 4611686018427387904
      · simp only [c1, c2, if_true]
        exact next _ (by rw [two]; omega)
      · simp only [c1, c2, if_true, if_false]
        exact next _ (by omega)
    · simp only [c1, if_false]
      exact next _ (by omega)
  cases fl with
  | true =>
    obtain ⟨r, hr, hp⟩ := go (acc ++ [wrap64 (((rd_T23 l i).f0) - 1), wrap64 (((rd_T23 l i).f0) + 1)]) (by rw [two]; omega)
    refine ⟨r, Ev.step (fun k => by rw [mandolineref01_All.j1]) ?_, hp⟩
    have hl : acc.length + 2 < 17592186044416 := by omega
    simp only [if_true, h0, h1, Option.bind_some, len2, hl] at hr ⊢
    exact hr
  | false =>
    obtain ⟨r, hr, hp⟩ := go acc (by omega)
    refine ⟨r, Ev.step (fun k => by rw [mandolineref01_All.j1]) ?_, hp⟩
    simp only [Bool.false_eq_true, if_false, if_true, h0, h1]
    exact hr
theorem All_l0 (l : List S23) (h2 : (l.length : Int) ≤ 1000) : ∀ (d : Nat) (i : Int) (acc : List Int), 0 ≤ i → i + d = l.length → acc.length + 6 * d ≤ 100000 → ∃ r, Ev (fun k => mandolineref01_All.l0 k l acc i) r ∧ r.length ≤ 100000 := by
  intro d
  induction d with
  | zero =>
    intro i acc h0 h1 h3
    refine ⟨acc, Ev.step (fun k => by rw [mandolineref01_All.l0]) ?_, by omega⟩
    have : ¬ (i < (l.length : Int)) := by omega
    simp only [this, if_false]
    exact Ev.now _
  | succ d ih =>
    intro i acc h0 h1 h3
    have hi : i < (l.length : Int) := by omega
    have len2 : ∀ x y : Int, ([x, y] : List Int).length = 2 := fun _ _ => rfl
    have hl : acc.length + 2 < 17592186044416 := by omega
    have key : ∀ fl, ∃ r, Ev (fun k => mandolineref01_All.j1 k l (acc ++ [(rd_T23 l i).f0, (rd_T23 l i).f1]) i fl) r ∧ r.length ≤ 100000 := fun fl =>
      All_j1 l _ _ i fl h0 hi h2 (by simp; omega) (fun acc' ha => ih (i + 1) acc' (by omega) (by omega) (by simp at ha; omega))
    by_cases c : (rd_T23 l i).f0 > -9
    · obtain ⟨r, hr, hp⟩ := key (decide (((rd_T23 l i).f0) < 4611686018427387904))
      refine ⟨r, Ev.step (fun k => by rw [mandolineref01_All.l0]) ?_, hp⟩
      unfold mandolineref01_end.f
      simp only [if_true, h0, hi, Option.bind_some, len2, hl, c]
      exact hr
    · obtain ⟨r, hr, hp⟩ := key false
      refine ⟨r, Ev.step (fun k => by rw [mandolineref01_All.l0]) ?_, hp⟩
      simp only [if_true, h0, hi, Option.bind_some, len2, hl, c, if_false]
      exact hr
theorem All_f (l : List S23) (h2 : (l.length : Int) ≤ 1000) : ∃ r, Ev (fun k => mandolineref01_All.f k l) r ∧ r.length ≤ 100000 := by
  unfold mandolineref01_All.f mandolineref01_end.f
  simp only [Option.bind_some]
  exact All_l0 l h2 l.length 0 _ (by omega) (by omega) (by simp; omega)
/-! ### the law's rounds -/
section
variable (q a b c d M0 M1 J0 J1 X0 X1 Y0 Y1 : Int) (mb jb : Bool)
theorem Bytes_j1 (l : List Int) (n i p : Int) (fx : ∀ p, H X0 X1 p = (H a b p && decide (p < q))) (fy : ∀ p, H Y0 Y1 p = (H a b p && decide (p ≥ q)))
    (hn : Ev (fun k => mandolinelaw01_SpanBytes.l0 k q mb jb l n (wrap64 (i + 1)) a b c d M0 M1 J0 J1 X0 X1 Y0 Y1) true) (A : Bool) (hA : H a b p = A) :
    Ev (fun k => mandolinelaw01_SpanBytes.j1 k q mb jb p A l n i false a b c d M0 M1 J0 J1 X0 X1 Y0 Y1) true := by
  refine Ev.step (fun k => by rw [mandolinelaw01_SpanBytes.j1]) ?_
  simp only [Bool.false_eq_true, if_false, span_Has_eq, Option.bind_some, fx p, fy p, hA]
  cases A with
  | true =>
    simp only [Bool.true_and, bne_self_eq_false, Bool.false_eq_true, if_false, if_true]
    exact hn
  | false =>
    simp only [Bool.false_and, bne_self_eq_false, Bool.false_eq_true, if_false]
    exact hn
theorem Bytes_l0 (l : List Int) (hl : l.length ≤ 200000) (fm : ∀ p, (mb && H M0 M1 p) = (H a b p && H c d p)) (fj : ∀ p, jb = true → H J0 J1 p = (H a b p || H c d p))
    (fx : ∀ p, H X0 X1 p = (H a b p && decide (p < q))) (fy : ∀ p, H Y0 Y1 p = (H a b p && decide (p ≥ q))) : ∀ (r : Nat) (i : Int), 0 ≤ i → i + r = l.length →
    Ev (fun k => mandolinelaw01_SpanBytes.l0 k q mb jb l (l.length : Int) i a b c d M0 M1 J0 J1 X0 X1 Y0 Y1) true := by
  intro r
  induction r with
  | zero =>
    intro i h0 h1
    refine Ev.step (fun k => by rw [mandolinelaw01_SpanBytes.l0]) ?_
    have : ¬ (i < (l.length : Int)) := by omega
    simp only [this, if_false]
    exact Ev.now _
  | succ r ih =>
    intro i h0 h1
    have hi : i < (l.length : Int) := by omega
    have hn : Ev (fun k => mandolinelaw01_SpanBytes.l0 k q mb jb l (l.length : Int) (wrap64 (i + 1)) a b c d M0 M1 J0 J1 X0 X1 Y0 Y1) true := by
      rw [wrap64_eq (by omega) (by omega)]
      exact ih (i + 1) (by omega) (by omega)
    have J := Bytes_j1 q a b c d M0 M1 J0 J1 X0 X1 Y0 Y1 mb jb l (l.length : Int) i (rd l i) fx fy hn
    have hm := fm (rd l i)
    have hj := fj (rd l i)
    refine Ev.step (fun k => by rw [mandolinelaw01_SpanBytes.l0]) ?_
    simp only [if_true, h0, hi, span_Has_eq, Option.bind_some]
    generalize H a b (rd l i) = A at *
    generalize H c d (rd l i) = B at *
    generalize H M0 M1 (rd l i) = M at *
    generalize H J0 J1 (rd l i) = K at *
    have J' := J A rfl
    cases mb <;> cases jb <;> cases A <;> cases B <;> simp at hm <;> (try simp at hj) <;> simp [hm, hj] <;> exact J'
end
theorem SpanBytes (a0 : S23) (a1 : S23) (a2 : Int) (g0 : ((Lit.int .i64 a0.f0).wf = true) ∧ ((Lit.int .i64 a0.f1).wf = true)) (g1 : ((Lit.int .i64 a1.f0).wf = true) ∧ ((Lit.int .i64 a1.f1).wf = true)) (g2 : (Lit.int .i64 a2).wf = true) : ∃ k, mandolinelaw01_SpanBytes.f k a0.f0 a0.f1 a1.f0 a1.f1 a2 = some true := by
  refine Ev.rounds ?_
  unfold mandolinelaw01_SpanBytes.f
  refine Ev.bind awake_ok ?_
  simp only [if_true, span_Meet_eq, span_Join_eq, span_Cut_eq, Option.bind_some]
  obtain ⟨r, hr, hlen⟩ := All_f [(⟨a0.f0, a0.f1⟩ : S23), (⟨a1.f0, a1.f1⟩ : S23)] (by simp)
  refine Ev.bind hr ?_
  have hl : r.length < 17592186044416 := by omega
  simp only [hl, if_true]
  exact Bytes_l0 a2 _ _ _ _ _ _ _ _ _ _ _ _ _ _ (r ++ [a2]) (by simp; omega) (fun p => Mt_has _ _ _ _ p) (fun p h => Jo_has _ _ _ _ p h) (fun p => (Cu_has _ _ _ p).1) (fun p => (Cu_has _ _ _ p).2) (r ++ [a2]).length 0 (by omega) (by omega)
end Go.Proofs.YtigfmjmdacligaaDoor.Pure
