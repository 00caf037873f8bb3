/-
  Data that do not lie in cells of a type that nothing has. Printed by a program of ours.
-/
import Derived.Test.YtadkkhdnccljcaaGreatEnc
import Derived.Test.YtadkkhdnccljcaaGreatFid17
namespace Go.Proofs.YtadkkhdnccljcaaGreat
open Go.Fid
theorem avo_encI (h138 : 138 ≠ 1000000) (x : RInt) : Avoids 1000000 (encI x) := .agg (avo_cons (.val _) (avo_cons (avo_vals h138 _) avo_nil))
theorem avo_sl_30 (h : 30 ≠ 1000000) (h138 : 138 ≠ 1000000) (l : List RInt) : Avoids 1000000 (.sl 30 2 (List.map encI l)) := avo_slF h (fun x => avo_encI h138 x) l
end Go.Proofs.YtadkkhdnccljcaaGreat
