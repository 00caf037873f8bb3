/-
  What is asked of this translation. Printed by a program of ours.
-/
import Derived.Test.YtadkkhdnccljcaaGreatEnc
import Derived.Test.YtadkkhdnccljcaaGreatChecked
namespace Go.Proofs.YtadkkhdnccljcaaGreat
open Go.Fid
theorem mo : Tryz.prog.follows .mixedOrders = true := by kernel_rfl
end Go.Proofs.YtadkkhdnccljcaaGreat
