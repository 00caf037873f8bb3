/-
  What is asked of this translation. Printed by a program of ours.
-/
import Derived.Test.YtcdgmcfkhkikbaaGreatEnc
import Derived.Test.YtcdgmcfkhkikbaaGreatChecked
namespace Go.Proofs.YtcdgmcfkhkikbaaGreat
open Go.Fid
theorem mo : Tryz.prog.follows .mixedOrders = true := by kernel_rfl
end Go.Proofs.YtcdgmcfkhkikbaaGreat
