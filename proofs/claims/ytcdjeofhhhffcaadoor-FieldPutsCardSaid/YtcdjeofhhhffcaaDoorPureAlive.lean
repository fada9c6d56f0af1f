/- The chapter's examples hold: alive tells true. No condition. -/
import Derived.Test.YtcdjeofhhhffcaaDoorX0
import Derived.Test.YtcdjeofhhhffcaaDoorX5
import Derived.Test.YtcdjeofhhhffcaaDoorPureLists
namespace Go.Proofs.YtcdjeofhhhffcaaDoor.Pure
open Go Go.RowKit Go.Proofs.YtcdjeofhhhffcaaDoor Go.Proofs.YtcdjeofhhhffcaaDoor.X Go.Proofs.YtcdjeofhhhffcaaDoorW.PrintWords
set_option linter.unusedVariables false
set_option linter.unusedSimpArgs false
theorem alive_ok : Ev (fun k => mandolinelaw07_alive.f k) true := Ev.of mandolinelaw07_alive.mono (k := 60) (by decide +kernel)
end Go.Proofs.YtcdjeofhhhffcaaDoor.Pure
