/- The chapter's examples hold: wakes tells true. No condition. -/
import Derived.Test.YtiifmbajiibciaaDoorX0
import Derived.Test.YtiifmbajiibciaaDoorX8
import Derived.Test.YtiifmbajiibciaaDoorPureBase
namespace Go.Proofs.YtiifmbajiibciaaDoor.Pure
open Go Go.RowKit Go.Proofs.YtiifmbajiibciaaDoor Go.Proofs.YtiifmbajiibciaaDoor.X Go.Proofs.YtiifmbajiibciaaDoorW.PrintWords
set_option linter.unusedVariables false
set_option linter.unusedSimpArgs false
theorem wakes_ok : Ev (fun k => mandolinelaw06_wakes.f k) true := Ev.of mandolinelaw06_wakes.mono (k := 60) (by decide +kernel)
end Go.Proofs.YtiifmbajiibciaaDoor.Pure
