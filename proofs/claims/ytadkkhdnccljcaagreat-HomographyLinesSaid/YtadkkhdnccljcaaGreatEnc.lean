/-
  How the suite's data lie in this translation. Printed by a program of ours.
-/
import Derived.Test.YtadkkhdnccljcaaGreatFid13
import Derived.Test.YtadkkhdnccljcaaGreatIv
namespace Go.Proofs.YtadkkhdnccljcaaGreat
open Go.Fid
def encI (x : RInt) : Dat := .agg [.val (.bool x.neg), .sl 138 1 (x.gs.map enc_u32)]
structure RPix where
  x : Int
  y : Int
def encPix (x : RPix) : Dat := .agg [.val (.int .i64 x.x), .val (.int .i64 x.y)]
structure RPlace where
  x : RRat
  y : RRat
structure RPair where
  fr : RPix
  to : RPix
def encPair (x : RPair) : Dat := .agg [.val (.int .i64 x.fr.x), .val (.int .i64 x.fr.y), .val (.int .i64 x.to.x), .val (.int .i64 x.to.y)]
structure A3 (α : Type) where
  a0 : α
  a1 : α
  a2 : α
structure A4 (α : Type) where
  a0 : α
  a1 : α
  a2 : α
  a3 : α
structure A9 (α : Type) where
  a0 : α
  a1 : α
  a2 : α
  a3 : α
  a4 : α
  a5 : α
  a6 : α
  a7 : α
  a8 : α
def encA26 (x : A4 (RPair)) : Dat := .agg [.val (.int .i64 x.a0.fr.x), .val (.int .i64 x.a0.fr.y), .val (.int .i64 x.a0.to.x), .val (.int .i64 x.a0.to.y), .val (.int .i64 x.a1.fr.x), .val (.int .i64 x.a1.fr.y), .val (.int .i64 x.a1.to.x), .val (.int .i64 x.a1.to.y), .val (.int .i64 x.a2.fr.x), .val (.int .i64 x.a2.fr.y), .val (.int .i64 x.a2.to.x), .val (.int .i64 x.a2.to.y), .val (.int .i64 x.a3.fr.x), .val (.int .i64 x.a3.fr.y), .val (.int .i64 x.a3.to.x), .val (.int .i64 x.a3.to.y)]
def encA31 (x : A9 (RInt)) : Dat := .agg [.val (.bool x.a0.neg), .sl 138 1 (x.a0.gs.map enc_u32), .val (.bool x.a1.neg), .sl 138 1 (x.a1.gs.map enc_u32), .val (.bool x.a2.neg), .sl 138 1 (x.a2.gs.map enc_u32), .val (.bool x.a3.neg), .sl 138 1 (x.a3.gs.map enc_u32), .val (.bool x.a4.neg), .sl 138 1 (x.a4.gs.map enc_u32), .val (.bool x.a5.neg), .sl 138 1 (x.a5.gs.map enc_u32), .val (.bool x.a6.neg), .sl 138 1 (x.a6.gs.map enc_u32), .val (.bool x.a7.neg), .sl 138 1 (x.a7.gs.map enc_u32), .val (.bool x.a8.neg), .sl 138 1 (x.a8.gs.map enc_u32)]
def encA43 (x : A3 (RInt)) : Dat := .agg [.val (.bool x.a0.neg), .sl 138 1 (x.a0.gs.map enc_u32), .val (.bool x.a1.neg), .sl 138 1 (x.a1.gs.map enc_u32), .val (.bool x.a2.neg), .sl 138 1 (x.a2.gs.map enc_u32)]
def encA64 (x : A4 (A3 (RInt))) : Dat := .agg [.val (.bool x.a0.a0.neg), .sl 138 1 (x.a0.a0.gs.map enc_u32), .val (.bool x.a0.a1.neg), .sl 138 1 (x.a0.a1.gs.map enc_u32), .val (.bool x.a0.a2.neg), .sl 138 1 (x.a0.a2.gs.map enc_u32), .val (.bool x.a1.a0.neg), .sl 138 1 (x.a1.a0.gs.map enc_u32), .val (.bool x.a1.a1.neg), .sl 138 1 (x.a1.a1.gs.map enc_u32), .val (.bool x.a1.a2.neg), .sl 138 1 (x.a1.a2.gs.map enc_u32), .val (.bool x.a2.a0.neg), .sl 138 1 (x.a2.a0.gs.map enc_u32), .val (.bool x.a2.a1.neg), .sl 138 1 (x.a2.a1.gs.map enc_u32), .val (.bool x.a2.a2.neg), .sl 138 1 (x.a2.a2.gs.map enc_u32), .val (.bool x.a3.a0.neg), .sl 138 1 (x.a3.a0.gs.map enc_u32), .val (.bool x.a3.a1.neg), .sl 138 1 (x.a3.a1.gs.map enc_u32), .val (.bool x.a3.a2.neg), .sl 138 1 (x.a3.a2.gs.map enc_u32)]
def encA80 (x : A9 (Int)) : Dat := .agg [.val (.int .i64 x.a0), .val (.int .i64 x.a1), .val (.int .i64 x.a2), .val (.int .i64 x.a3), .val (.int .i64 x.a4), .val (.int .i64 x.a5), .val (.int .i64 x.a6), .val (.int .i64 x.a7), .val (.int .i64 x.a8)]
def encA132 (x : A4 (RInt)) : Dat := .agg [.val (.bool x.a0.neg), .sl 138 1 (x.a0.gs.map enc_u32), .val (.bool x.a1.neg), .sl 138 1 (x.a1.gs.map enc_u32), .val (.bool x.a2.neg), .sl 138 1 (x.a2.gs.map enc_u32), .val (.bool x.a3.neg), .sl 138 1 (x.a3.gs.map enc_u32)]
def encA133 (x : A3 (A3 (RInt))) : Dat := .agg [.val (.bool x.a0.a0.neg), .sl 138 1 (x.a0.a0.gs.map enc_u32), .val (.bool x.a0.a1.neg), .sl 138 1 (x.a0.a1.gs.map enc_u32), .val (.bool x.a0.a2.neg), .sl 138 1 (x.a0.a2.gs.map enc_u32), .val (.bool x.a1.a0.neg), .sl 138 1 (x.a1.a0.gs.map enc_u32), .val (.bool x.a1.a1.neg), .sl 138 1 (x.a1.a1.gs.map enc_u32), .val (.bool x.a1.a2.neg), .sl 138 1 (x.a1.a2.gs.map enc_u32), .val (.bool x.a2.a0.neg), .sl 138 1 (x.a2.a0.gs.map enc_u32), .val (.bool x.a2.a1.neg), .sl 138 1 (x.a2.a1.gs.map enc_u32), .val (.bool x.a2.a2.neg), .sl 138 1 (x.a2.a2.gs.map enc_u32)]
end Go.Proofs.YtadkkhdnccljcaaGreat
