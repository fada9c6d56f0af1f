/- SpanAligns, in plain words: whole units. -/
import Derived.Test.YtigfmjmdacligaaDoorX0
import Derived.Test.YtigfmjmdacligaaDoorX6
import Derived.Test.YtigfmjmdacligaaDoorX10
import Derived.Test.YtigfmjmdacligaaDoorX19
import Derived.Test.YtigfmjmdacligaaDoorX20
import Derived.Test.YtigfmjmdacligaaDoorPureSpanMeets
namespace Go.Proofs.YtigfmjmdacligaaDoor.Pure
open Go Go.RowKit Go.Proofs.YtigfmjmdacligaaDoor Go.Proofs.YtigfmjmdacligaaDoor.X Go.Proofs.YtigfmjmdacligaaDoorW.PrintWords Go.Proofs.YtigfmjmdacligaaDoorW.PrintMore
set_option linter.unusedVariables false
set_option linter.unusedSimpArgs false
/-- The beginning and the end, widened. -/
def dn (a u : Int) : Int := a - a % u
def up (b u : Int) : Int := if 0 < b % u ∧ b < 4611686018427387904 then (if 4611686018427387904 < b - b % u + u then 4611686018427387904 else b - b % u + u) else b
def okA (a b u : Int) : Bool := R a b && (decide (1 ≤ u) && decide (u ≤ 1099511627776))
def Al (a b u : Int) : Int × Int × Int := if okA a b u = true then (dn a u, up b u, 0) else (0, 0, 1)
theorem okA_iff {a b u : Int} : okA a b u = true ↔ R a b = true ∧ 1 ≤ u ∧ u ≤ 1099511627776 := by
  unfold okA
  simp only [Bool.and_eq_true, decide_eq_true_eq]
theorem span_Align_j0 {a b u : Int} (hR : R a b = true) (h1 : 1 ≤ u) (h2 : u ≤ 1099511627776) : Ev (fun k => span_Align.j0 k u false a b) (dn a u, up b u, 0) := by
  have h := R_iff.1 hR
  have ea : Int.tmod a u = a % u := Int.tmod_eq_emod_of_nonneg h.1
  have eb : Int.tmod b u = b % u := Int.tmod_eq_emod_of_nonneg (by omega)
  have a1 := Int.emod_nonneg a (show u ≠ 0 by omega)
  have a2 := Int.emod_lt_of_pos a (show 0 < u by omega)
  have b1 := Int.emod_nonneg b (show u ≠ 0 by omega)
  have b2 := Int.emod_lt_of_pos b (show 0 < u by omega)
  refine Ev.step (fun k => by rw [span_Align.j0]) ?_
  refine Ev.const ?_
  have hu : ¬ (u = 0) := by omega
  simp only [Bool.false_eq_true, if_false, hu, ea, eb]
  unfold dn up
  rw [wrap64_eq (x := a - a % u) (by omega) (by omega)]
  by_cases h3 : b % u > 0
  · rw [if_pos h3]
    by_cases h4 : b < 4611686018427387904
    · rw [if_pos h4, if_pos ⟨by omega, h4⟩, wrap64_eq (x := b - b % u) (by omega) (by omega), wrap64_eq (by omega) (by omega)]
      unfold mn
      rfl
    · rw [if_neg h4, if_neg (by omega)]
  · rw [if_neg h3, if_neg (by omega)]
theorem span_Align_bad (a b u : Int) : Ev (fun k => span_Align.j0 k u true a b) (0, 0, 1) := by
  refine Ev.step (fun k => by rw [span_Align.j0]) ?_
  exact Ev.const (by simp)
theorem span_Align_f (a b u : Int) : Ev (fun k => span_Align.f k a b u) (Al a b u) := by
  unfold span_Align.f Al
  simp only [span_Right_eq, Option.bind_some]
  cases hR : R a b with
  | false =>
    have : okA a b u = false := by unfold okA; rw [hR]; rfl
    simp only [Bool.false_eq_true, if_false, this]
    exact span_Align_bad a b u
  | true =>
    simp only [if_true]
    by_cases h1 : u < 1
    · have : okA a b u = false := by unfold okA; simp; omega
      simp only [h1, if_true, this, Bool.false_eq_true, if_false]
      exact span_Align_bad a b u
    · by_cases h2 : u > 1099511627776
      · have : okA a b u = false := by unfold okA; simp; omega
        simp only [h1, if_false, this, Bool.false_eq_true, h2, decide_true]
        exact span_Align_bad a b u
      · have : okA a b u = true := okA_iff.2 ⟨hR, by omega, by omega⟩
        simp only [h1, if_false, this, if_true, h2, decide_false]
        exact span_Align_j0 hR (by omega) (by omega)
theorem ref_Align_j2 (a c : Int) : Ev (fun k => mandolineref01_Align.j2 k a c) (a, (if c > 4611686018427387904 then 4611686018427387904 else c), 0) := by
  refine Ev.step (fun k => by rw [mandolineref01_Align.j2]) ?_
  refine Ev.const ?_
  unfold mandolineref01_end.f
  rw [Option.bind_some]
  split <;> rfl
theorem ref_Align_j0 {a b u : Int} (hR : R a b = true) (h1 : 1 ≤ u) (h2 : u ≤ 1099511627776) : Ev (fun k => mandolineref01_Align.j0 k u false a b) (dn a u, up b u, 0) := by
  have h := R_iff.1 hR
  have ea : Int.tdiv a u = a / u := Int.tdiv_eq_ediv_of_nonneg h.1
  have eb : Int.tmod b u = b % u := Int.tmod_eq_emod_of_nonneg (by omega)
  have ec : Int.tdiv b u = b / u := Int.tdiv_eq_ediv_of_nonneg (by omega)
  have a1 := Int.emod_nonneg a (show u ≠ 0 by omega)
  have a2 := Int.emod_lt_of_pos a (show 0 < u by omega)
  have b1 := Int.emod_nonneg b (show u ≠ 0 by omega)
  have b2 := Int.emod_lt_of_pos b (show 0 < u by omega)
  have qa : a / u * u = a - a % u := by have := Int.emod_def a u; have e := Int.mul_comm u (a / u); omega
  have qb : b / u * u = b - b % u := by have := Int.emod_def b u; have e := Int.mul_comm u (b / u); omega
  have qb1 : (b / u + 1) * u = b - b % u + u := by rw [Int.add_mul, qb, Int.one_mul]
  have da : 0 ≤ a / u ∧ a / u ≤ a := ⟨Int.ediv_nonneg h.1 (by omega), Int.ediv_le_self _ h.1⟩
  have db : 0 ≤ b / u ∧ b / u ≤ b := ⟨Int.ediv_nonneg (by omega) (by omega), Int.ediv_le_self _ (by omega)⟩
  have hu : ¬ (u = 0) := by omega
  have plain : ∀ (h3 : ¬ (0 < b % u ∧ b < 4611686018427387904)), Ev (fun k => mandolineref01_Align.j1 k u false (wrap64 ((wrap64 (Int.tdiv a u)) * u)) b) (dn a u, up b u, 0) := by
    intro h3
    refine Ev.step (fun k => by rw [mandolineref01_Align.j1]) ?_
    simp only [Bool.false_eq_true, if_false]
    rw [ea, wrap64_eq (x := a / u) (by omega) (by omega), qa, wrap64_eq (by omega) (by omega)]
    have e : up b u = if b > 4611686018427387904 then 4611686018427387904 else b := by
      unfold up
      rw [if_neg h3, if_neg (by omega)]
    rw [e]
    exact ref_Align_j2 _ _
  refine Ev.step (fun k => by rw [mandolineref01_Align.j0]) ?_
  simp only [Bool.false_eq_true, if_false, hu, eb]
  by_cases h3 : b % u = 0
  · simp only [h3, if_true]
    exact plain (by omega)
  · simp only [h3, if_false]
    unfold mandolineref01_end.f
    simp only [Option.bind_some]
    by_cases h4 : b = 4611686018427387904
    · have : (b != 4611686018427387904) = false := by rw [h4]; rfl
      rw [this]
      exact plain (by omega)
    · have : (b != 4611686018427387904) = true := bne_iff_ne.2 h4
      rw [this]
      refine Ev.step (fun k => by rw [mandolineref01_Align.j1]) ?_
      simp only [if_true, hu, if_false]
      rw [ea, ec, wrap64_eq (x := a / u) (by omega) (by omega), wrap64_eq (x := b / u) (by omega) (by omega), wrap64_eq (x := b / u + 1) (by omega) (by omega), qa, qb1, wrap64_eq (x := a - a % u) (by omega) (by omega), wrap64_eq (by omega) (by omega)]
      have e : up b u = if b - b % u + u > 4611686018427387904 then 4611686018427387904 else b - b % u + u := by
        unfold up
        rw [if_pos ⟨by omega, by omega⟩]
      rw [e]
      exact ref_Align_j2 _ _
theorem ref_Align_bad (a b u : Int) : Ev (fun k => mandolineref01_Align.j0 k u true a b) (0, 0, 1) := by
  refine Ev.step (fun k => by rw [mandolineref01_Align.j0]) ?_
  exact Ev.const (by simp)
theorem ref_Align_f (a b u : Int) : Ev (fun k => mandolineref01_Align.f k a b u) (Al a b u) := by
  unfold mandolineref01_Align.f Al
  simp only [ref_Right_eq, Option.bind_some]
  cases hR : R a b with
  | false =>
    have : okA a b u = false := by unfold okA; rw [hR]; rfl
    simp only [Bool.false_eq_true, if_false, this]
    exact ref_Align_bad a b u
  | true =>
    simp only [if_true]
    by_cases h1 : u < 1
    · have : okA a b u = false := by unfold okA; simp; omega
      simp only [h1, if_true, this, Bool.false_eq_true, if_false]
      exact ref_Align_bad a b u
    · by_cases h2 : u > 1099511627776
      · have : okA a b u = false := by unfold okA; simp; omega
        simp only [h1, if_false, this, Bool.false_eq_true, h2, decide_true]
        exact ref_Align_bad a b u
      · have : okA a b u = true := okA_iff.2 ⟨hR, by omega, by omega⟩
        simp only [h1, if_false, this, if_true, h2, decide_false]
        exact ref_Align_j0 hR (by omega) (by omega)
theorem dn_mod {a u : Int} (hu : 1 ≤ u) : dn a u % u = 0 := by
  unfold dn
  have : a - a % u = u * (a / u) := by have := Int.emod_def a u; omega
  rw [this]
  exact Int.mul_emod_right _ _
theorem up_fix {b u : Int} (hu : 1 ≤ u) (h0 : b ≤ 4611686018427387904) : up (up b u) u = up b u := by
  have b1 := Int.emod_nonneg b (show u ≠ 0 by omega)
  unfold up
  by_cases h : 0 < b % u ∧ b < 4611686018427387904
  · rw [if_pos h]
    by_cases h2 : 4611686018427387904 < b - b % u + u
    · rw [if_pos h2]
      rw [if_neg (by omega)]
    · rw [if_neg h2]
      have e : (b - b % u + u) % u = 0 := by
        have : b - b % u + u = u * (b / u + 1) := by have := Int.emod_def b u; rw [Int.mul_add, Int.mul_one]; omega
        rw [this]
        exact Int.mul_emod_right _ _
      rw [if_neg (by omega)]
  · rw [if_neg h, if_neg h]
theorem up_ge {b u : Int} (hu : 1 ≤ u) (h0 : b ≤ 4611686018427387904) : b ≤ up b u ∧ up b u ≤ 4611686018427387904 := by
  have b1 := Int.emod_nonneg b (show u ≠ 0 by omega)
  have b2 := Int.emod_lt_of_pos b (show 0 < u by omega)
  unfold up
  split
  · split <;> omega
  · omega
theorem dn_le {a u : Int} (hu : 1 ≤ u) (h0 : 0 ≤ a) : 0 ≤ dn a u ∧ dn a u ≤ a := by
  have a1 := Int.emod_nonneg a (show u ≠ 0 by omega)
  have e : a - a % u = u * (a / u) := by have := Int.emod_def a u; omega
  have : 0 ≤ u * (a / u) := Int.mul_nonneg (by omega) (Int.ediv_nonneg h0 (by omega))
  unfold dn
  omega
theorem Al_right {a b u : Int} (h : okA a b u = true) : R (dn a u) (up b u) = true ∧ dn a u ≤ a ∧ b ≤ up b u := by
  obtain ⟨h1, h2, h3⟩ := okA_iff.1 h
  have h' := R_iff.1 h1
  have u1 := up_ge h2 h'.2.2
  have d1 := dn_le h2 h'.1
  exact ⟨R_iff.2 ⟨d1.1, by omega, u1.2⟩, d1.2, u1.1⟩
theorem Al_again {a b u : Int} (h : okA a b u = true) : Al (dn a u) (up b u) u = (dn a u, up b u, 0) := by
  obtain ⟨h1, h2, h3⟩ := okA_iff.1 h
  have h' := R_iff.1 h1
  unfold Al
  rw [if_pos (okA_iff.2 ⟨(Al_right h).1, h2, h3⟩), up_fix h2 h'.2.2]
  have : dn (dn a u) u = dn a u := by
    have := dn_mod (a := a) h2
    unfold dn at *
    omega
  rw [this]
theorem SpanAligns (a0 : S23) (a1 : Int) (g0 : ((Lit.int .i64 a0.f0).wf = true) ∧ ((Lit.int .i64 a0.f1).wf = true)) (g1 : (Lit.int .i64 a1).wf = true) : ∃ k, mandolinelaw01_SpanAligns.f k a0.f0 a0.f1 a1 = some true := by
  refine Ev.rounds ?_
  unfold mandolinelaw01_SpanAligns.f
  refine Ev.bind (span_Align_f _ _ _) ?_
  refine Ev.bind (ref_Align_f _ _ _) ?_
  refine Ev.bind awake_ok ?_
  simp only [beq_self_eq_true, Bool.not_true, Bool.or_self, if_true, Bool.false_eq_true, if_false, bne_self_eq_false]
  refine Ev.step (fun k => by rw [mandolinelaw01_SpanAligns.j0]) ?_
  simp only [Bool.false_eq_true, if_false]
  cases h : okA a0.f0 a0.f1 a1 with
  | false =>
    have e : Al a0.f0 a0.f1 a1 = (0, 0, 1) := by unfold Al; rw [h]; rfl
    rw [e]
    exact Ev.const (by simp)
  | true =>
    have e : Al a0.f0 a0.f1 a1 = (dn a0.f0 a1, up a0.f1 a1, 0) := by unfold Al; rw [h]; rfl
    rw [e]
    simp only [if_true]
    refine Ev.bind (span_Align_f _ _ _) ?_
    rw [Al_again h]
    obtain ⟨h1, h2, h3⟩ := Al_right h
    refine Ev.const ?_
    simp only [beq_self_eq_true, Bool.and_self, if_true, span_Within_eq, Option.bind_some, Option.some.injEq]
    unfold Wi
    rw [(okA_iff.1 h).1, h1]
    simp [h2, h3]
end Go.Proofs.YtigfmjmdacligaaDoor.Pure
