/- What the functions of layer 1 (span), the program's and the document's, compute, in plain words. -/
import Derived.Test.YtigfmjmdacligaaDoorX0
import Derived.Test.YtigfmjmdacligaaDoorX2
import Derived.Test.YtigfmjmdacligaaDoorX9
import Derived.Test.YtigfmjmdacligaaDoorX10
import Derived.Test.YtigfmjmdacligaaDoorBytes
namespace Go.Proofs.YtigfmjmdacligaaDoor.Pure
open Go Go.RowKit Go.Proofs.YtigfmjmdacligaaDoor Go.Proofs.YtigfmjmdacligaaDoor.X Go.Proofs.YtigfmjmdacligaaDoorW.PrintWords Go.Proofs.YtigfmjmdacligaaDoorW.PrintMore
set_option linter.unusedVariables false
set_option linter.unusedSimpArgs false

theorem wf64 {x : Int} (h : (Lit.int .i64 x).wf = true) : -9223372036854775808 ≤ x ∧ x ≤ 9223372036854775807 := by
  have e1 : IntKind.i64.min = -9223372036854775808 := by decide
  have e2 : IntKind.i64.max = 9223372036854775807 := by decide
  unfold Lit.wf at h
  simp only [Bool.and_eq_true, decide_eq_true_eq, e1, e2] at h
  exact h
/-- May a span be? -/
def R (a b : Int) : Bool := decide (0 ≤ a) && decide (a ≤ b) && decide (b ≤ 4611686018427387904)
theorem R_iff {a b : Int} : R a b = true ↔ 0 ≤ a ∧ a ≤ b ∧ b ≤ 4611686018427387904 := by
  unfold R
  simp only [Bool.and_eq_true, decide_eq_true_eq]
  omega
theorem R_not {a b : Int} (h : R a b = false) : ¬ (0 ≤ a ∧ a ≤ b ∧ b ≤ 4611686018427387904) := fun h' => by
  rw [R_iff.2 h'] at h
  cases h
theorem span_Right_eq (a b : Int) : span_Right.f a b = some (R a b) := by
  unfold span_Right.f R
  split
  · split
    · rename_i h1 h2
      simp [h1, h2]
    · rename_i h1 h2
      simp [h1, h2]
  · rename_i h1
    simp [h1]
theorem ref_Right_eq (a b : Int) : mandolineref01_Right.f a b = some (R a b) := by
  unfold mandolineref01_Right.f mandolineref01_end.f R
  split
  · split
    · rename_i h1 h2
      simp [h2]
      omega
    · rename_i h1 h2
      simp [h2]
  · rename_i h1
    simp
    omega
/-- A byte in a span. -/
def H (a b p : Int) : Bool := R a b && decide (a ≤ p) && decide (p < b)
theorem span_Has_eq (a b p : Int) : span_Has.f a b p = some (H a b p) := by
  unfold span_Has.f H
  rw [span_Right_eq, Option.bind_some]
  cases R a b <;> simp
  split
  · simp_all
  · simp_all
    omega
theorem ref_Has_eq (a b p : Int) : mandolineref01_Has.f a b p = some (H a b p) := by
  unfold mandolineref01_Has.f H
  rw [ref_Right_eq, Option.bind_some]
  cases R a b <;> simp
  split
  · simp_all
  · simp_all
    omega
theorem H_iff {a b p : Int} : H a b p = true ↔ R a b = true ∧ a ≤ p ∧ p < b := by
  unfold H
  simp only [Bool.and_eq_true, decide_eq_true_eq, and_assoc]
/-- How many bytes. -/
def Ln (a b : Int) : Int := if R a b = true then (if b = 4611686018427387904 ∧ a < b then 4611686018427387904 else b - a) else 0
theorem span_Len_eq (a b : Int) : span_Len.f a b = some (Ln a b) := by
  unfold span_Len.f span_open.f Ln
  rw [span_Right_eq, Option.bind_some]
  cases hR : R a b with
  | false => simp
  | true =>
    have h := R_iff.1 hR
    by_cases h1 : b = 4611686018427387904
    · by_cases h2 : a < b
      · simp [h1, show a < 4611686018427387904 by omega]
      · simp only [h1, if_true, Option.bind_some, decide_eq_true_eq, show ¬ a < 4611686018427387904 by omega, if_false, and_false]
        rw [wrap64_eq (by omega) (by omega)]
    · simp only [h1, if_true, if_false, Option.bind_some, false_and, Bool.false_eq_true]
      rw [wrap64_eq (by omega) (by omega)]
theorem ref_Len_eq (a b : Int) : mandolineref01_Len.f a b = some (Ln a b) := by
  unfold mandolineref01_Len.f mandolineref01_end.f Ln
  rw [ref_Right_eq, Option.bind_some]
  cases hR : R a b with
  | false => simp
  | true =>
    have h := R_iff.1 hR
    by_cases h1 : b = 4611686018427387904
    · by_cases h2 : a = 4611686018427387904
      · simp only [h1, h2, if_true, Option.bind_some, Int.lt_irrefl, and_false, if_false]
        rw [wrap64_eq (by omega) (by omega)]
      · simp only [h1, h2, if_true, Option.bind_some, if_false, show a < 4611686018427387904 by omega, and_self]
    · simp only [h1, if_true, if_false, Option.bind_some, false_and]
      rw [wrap64_eq (by omega) (by omega)]
theorem awake_ok : Ev (fun k => mandolinelaw01_awake.f k) true := Ev.of mandolinelaw01_awake.mono (k := 60) (by decide +kernel)
end Go.Proofs.YtigfmjmdacligaaDoor.Pure
