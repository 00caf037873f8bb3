/-
  Functions walked: each takes its data to what is said. Printed by a program of ours.
-/
import Derived.Test.YtcdgmcfkhkikbaaGreatIvA
import Derived.Test.YtcdgmcfkhkikbaaGreatEncl
namespace Go.Proofs.YtcdgmcfkhkikbaaGreat
open Go.Fid
set_option maxRecDepth 4000
set_option linter.unusedVariables false
set_option linter.unusedSimpArgs false
theorem cb28 : callB Tryz.prog 28 = true := by kernel_rfl
end Go.Proofs.YtcdgmcfkhkikbaaGreat
