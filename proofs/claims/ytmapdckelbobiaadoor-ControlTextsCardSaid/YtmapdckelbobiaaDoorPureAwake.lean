/- The chapter's examples hold: awake tells true. No condition. -/
import Derived.Test.YtmapdckelbobiaaDoorX0
import Derived.Test.YtmapdckelbobiaaDoorX8
import Derived.Test.YtmapdckelbobiaaDoorPureBase
namespace Go.Proofs.YtmapdckelbobiaaDoor.Pure
open Go Go.RowKit Go.Proofs.YtmapdckelbobiaaDoor Go.Proofs.YtmapdckelbobiaaDoor.X Go.Proofs.YtmapdckelbobiaaDoorW.PrintWords
set_option linter.unusedVariables false
set_option linter.unusedSimpArgs false
theorem awake_ok : Ev (fun k => mandolinelaw09_awake.f k) true := Ev.of mandolinelaw09_awake.mono (k := 60) (by decide +kernel)
end Go.Proofs.YtmapdckelbobiaaDoor.Pure
