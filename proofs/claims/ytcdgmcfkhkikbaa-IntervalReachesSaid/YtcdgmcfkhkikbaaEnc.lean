/-
  How the suite's data lie in this translation. Printed by a program of ours.
-/
import Derived.Test.YtcdgmcfkhkikbaaFid13
import Derived.Test.YtcdgmcfkhkikbaaIv
namespace Go.Proofs.Ytcdgmcfkhkikbaa
open Go.Fid
def encI (x : RInt) : Dat := .agg [.val (.bool x.neg), .sl 61 1 (x.gs.map enc_u32)]
def encR (x : RRat) : Dat := .agg [.val (.bool x.num.neg), .sl 61 1 (x.num.gs.map enc_u32), .val (.bool x.den.neg), .sl 61 1 (x.den.gs.map enc_u32)]
def encG (x : RRng) : Dat := .agg [.val (.bool x.lo.num.neg), .sl 61 1 (x.lo.num.gs.map enc_u32), .val (.bool x.lo.den.neg), .sl 61 1 (x.lo.den.gs.map enc_u32), .val (.bool x.hi.num.neg), .sl 61 1 (x.hi.num.gs.map enc_u32), .val (.bool x.hi.den.neg), .sl 61 1 (x.hi.den.gs.map enc_u32)]
structure A2 (α : Type) where
  a0 : α
  a1 : α
def encA35 (x : A2 (Bool)) : Dat := .agg [.val (.bool x.a0), .val (.bool x.a1)]
end Go.Proofs.Ytcdgmcfkhkikbaa
