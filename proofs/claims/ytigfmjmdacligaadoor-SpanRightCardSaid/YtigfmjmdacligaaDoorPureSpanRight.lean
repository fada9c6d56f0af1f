/- SpanRight, in plain words. -/
import Derived.Test.YtigfmjmdacligaaDoorX0
import Derived.Test.YtigfmjmdacligaaDoorX11
import Derived.Test.YtigfmjmdacligaaDoorPureBase
namespace Go.Proofs.YtigfmjmdacligaaDoor.Pure
open Go Go.RowKit Go.Proofs.YtigfmjmdacligaaDoor Go.Proofs.YtigfmjmdacligaaDoor.X Go.Proofs.YtigfmjmdacligaaDoorW.PrintWords
set_option linter.unusedVariables false
theorem SpanRight (a0 : S23) (a1 : Int) (g0 : ((Lit.int .i64 a0.f0).wf = true) ∧ ((Lit.int .i64 a0.f1).wf = true)) (g1 : (Lit.int .i64 a1).wf = true) : ∃ k, mandolinelaw01_SpanRight.f k a0.f0 a0.f1 a1 = some true := by
  refine Ev.rounds ?_
  unfold mandolinelaw01_SpanRight.f
  refine Ev.bind awake_ok ?_
  simp only [if_true]
  exact Ev.const (by simp only [span_Right_eq, ref_Right_eq, span_Len_eq, ref_Len_eq, span_Has_eq, ref_Has_eq, Option.bind_some, beq_self_eq_true, if_true])
end Go.Proofs.YtigfmjmdacligaaDoor.Pure
