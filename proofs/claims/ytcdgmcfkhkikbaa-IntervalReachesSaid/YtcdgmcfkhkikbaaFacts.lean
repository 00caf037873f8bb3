/-
  What is asked of this translation. Printed by a program of ours.
-/
import Derived.Test.YtcdgmcfkhkikbaaEnc
import Derived.Test.YtcdgmcfkhkikbaaChecked
namespace Go.Proofs.Ytcdgmcfkhkikbaa
open Go.Fid
theorem mo : Try.prog.follows .mixedOrders = true := by kernel_rfl
end Go.Proofs.Ytcdgmcfkhkikbaa
