import Derived.Test.YtcdgmcfkhkikbaaGreatBound
/-
  Width, middle, magnitude, sign of an interval. Plain Lean.
-/
namespace Go.Fid
end Go.Fid
