/- What the program's own functions on spans compute, in plain words. -/
import Derived.Test.YtigfmjmdacligaaDoorX0
import Derived.Test.YtigfmjmdacligaaDoorX3
import Derived.Test.YtigfmjmdacligaaDoorX4
import Derived.Test.YtigfmjmdacligaaDoorX5
import Derived.Test.YtigfmjmdacligaaDoorPureBase
namespace Go.Proofs.YtigfmjmdacligaaDoor.Pure
open Go Go.RowKit Go.Proofs.YtigfmjmdacligaaDoor Go.Proofs.YtigfmjmdacligaaDoor.X Go.Proofs.YtigfmjmdacligaaDoorW.PrintWords Go.Proofs.YtigfmjmdacligaaDoorW.PrintMore
set_option linter.unusedVariables false
set_option linter.unusedSimpArgs false
/-- What both have. -/
def Mt (a b c d : Int) : Int × Int × Bool := if R a b = true ∧ R c d = true ∧ mx a c < mn b d then (mx a c, mn b d, true) else (0, 0, false)
theorem span_Meet_eq (a b c d : Int) : span_Meet.f a b c d = some (Mt a b c d) := by
  unfold span_Meet.f Mt
  rw [span_Right_eq, span_Right_eq, Option.bind_some, Option.bind_some]
  cases R a b <;> cases R c d <;> simp
  split
  · rw [if_neg (by omega)]
  · rw [if_pos (by omega)]
theorem mx_comm (a b : Int) : mx a b = mx b a := by unfold mx; split <;> split <;> omega
theorem mn_comm (a b : Int) : mn a b = mn b a := by unfold mn; split <;> split <;> omega
theorem Mt_comm (a b c d : Int) : Mt a b c d = Mt c d a b := by
  unfold Mt
  rw [mx_comm a c, mn_comm b d]
  cases R a b <;> cases R c d <;> simp
def Wi (a b c d : Int) : Bool := R a b && (R c d && (decide (a = b) || (decide (c ≤ a) && decide (b ≤ d))))
theorem span_Within_eq (a b c d : Int) : span_Within.f a b c d = some (Wi a b c d) := by
  unfold span_Within.f Wi
  rw [span_Right_eq, span_Right_eq, Option.bind_some, Option.bind_some]
  cases R a b <;> cases R c d <;> simp
  split
  · simp_all
  · split
    · simp_all
    · simp_all
      omega
def To (a b c d : Int) : Bool := R a b && (R c d && decide (mx a c ≤ mn b d))
theorem span_Touch_eq (a b c d : Int) : span_Touch.f a b c d = some (To a b c d) := by
  unfold span_Touch.f To
  rw [span_Right_eq, span_Right_eq, Option.bind_some, Option.bind_some]
  cases R a b <;> cases R c d <;> simp
theorem To_comm (a b c d : Int) : To a b c d = To c d a b := by
  unfold To
  rw [mx_comm a c, mn_comm b d]
  cases R a b <;> cases R c d <;> simp
def Jo (a b c d : Int) : Int × Int × Bool := if To a b c d = true then (mn a c, mx b d, true) else (0, 0, false)
theorem span_Join_eq (a b c d : Int) : span_Join.f a b c d = some (Jo a b c d) := by
  unfold span_Join.f Jo
  rw [span_Touch_eq, Option.bind_some]
  split <;> rfl
theorem Jo_comm (a b c d : Int) : Jo a b c d = Jo c d a b := by
  unfold Jo
  rw [To_comm a b, mn_comm a c, mx_comm b d]
theorem Jo_ok (a b c d : Int) : (Jo a b c d).2.2 = To a b c d := by
  unfold Jo
  cases To a b c d <;> rfl
def Cu (a b p : Int) : Int × Int × Int × Int := if R a b = true then (if p < a then (a, a, a, b) else if p > b then (a, b, b, b) else (a, p, p, b)) else (0, 0, 0, 0)
theorem span_Cut_eq (a b p : Int) : span_Cut.f a b p = some (Cu a b p) := by
  unfold span_Cut.f Cu
  rw [span_Right_eq, Option.bind_some]
  split
  · split
    · rfl
    · split <;> rfl
  · rfl
end Go.Proofs.YtigfmjmdacligaaDoor.Pure
