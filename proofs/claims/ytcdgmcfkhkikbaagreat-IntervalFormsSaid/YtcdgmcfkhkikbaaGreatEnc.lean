/-
  How the suite's data lie in this translation. Printed by a program of ours.
-/
import Derived.Test.YtcdgmcfkhkikbaaGreatFid13
import Derived.Test.YtcdgmcfkhkikbaaGreatIv
namespace Go.Proofs.YtcdgmcfkhkikbaaGreat
open Go.Fid
def encI (x : RInt) : Dat := .agg [.val (.bool x.neg), .sl 83 1 (x.gs.map enc_u32)]
def encR (x : RRat) : Dat := .agg [.val (.bool x.num.neg), .sl 83 1 (x.num.gs.map enc_u32), .val (.bool x.den.neg), .sl 83 1 (x.den.gs.map enc_u32)]
def encG (x : RRng) : Dat := .agg [.val (.bool x.lo.num.neg), .sl 83 1 (x.lo.num.gs.map enc_u32), .val (.bool x.lo.den.neg), .sl 83 1 (x.lo.den.gs.map enc_u32), .val (.bool x.hi.num.neg), .sl 83 1 (x.hi.num.gs.map enc_u32), .val (.bool x.hi.den.neg), .sl 83 1 (x.hi.den.gs.map enc_u32)]
structure A2 (α : Type) where
  a0 : α
  a1 : α
structure A4 (α : Type) where
  a0 : α
  a1 : α
  a2 : α
  a3 : α
end Go.Proofs.YtcdgmcfkhkikbaaGreat
