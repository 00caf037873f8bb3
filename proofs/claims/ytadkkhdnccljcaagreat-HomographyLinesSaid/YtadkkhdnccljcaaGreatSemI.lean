/-
  Functions walked: each takes its data to what is said. Printed by a program of ours.
-/
import Derived.Test.YtadkkhdnccljcaaGreatRefC
namespace Go.Proofs.YtadkkhdnccljcaaGreat
open Go.Fid
set_option maxRecDepth 4000
set_option linter.unusedVariables false
set_option linter.unusedSimpArgs false
theorem s_neg {x : RInt} {a : Int} {m : Nat} (hx : IOk x a m) (hm : m ≤ 274877906944) : Takes Tryz.prog 153 [(encI x)] (encI (ofZ (-a))) := by
  obtain ⟨rfl, hx'⟩ := hx
  exact t_neg x (by omega)
theorem s_sign {x : RInt} {a : Int} {m : Nat} (hx : IOk x a m) (hm : m ≤ 274877906944) : Takes Tryz.prog 87 [(encI x)] (.val (.int .i64 (signI a))) := by
  obtain ⟨rfl, hx'⟩ := hx
  exact t_sign x (by omega)
theorem s_add {x y : RInt} {a b : Int} {m n : Nat} (hx : IOk x a m) (hy : IOk y b n) (hm : m ≤ 274877906944) (hn : n ≤ 274877906944) : Takes Tryz.prog 151 [(encI x), (encI y)] (encI (ofZ (a + b))) := by
  obtain ⟨rfl, hx'⟩ := hx; obtain ⟨rfl, hy'⟩ := hy
  exact t_add x y (by omega) (by omega)
theorem s_sub {x y : RInt} {a b : Int} {m n : Nat} (hx : IOk x a m) (hy : IOk y b n) (hm : m ≤ 274877906944) (hn : n ≤ 274877906944) : Takes Tryz.prog 125 [(encI x), (encI y)] (encI (ofZ (a - b))) := by
  obtain ⟨rfl, hx'⟩ := hx; obtain ⟨rfl, hy'⟩ := hy
  exact t_sub x y (by omega) (by omega)
theorem s_mul {x y : RInt} {a b : Int} {m n : Nat} (hx : IOk x a m) (hy : IOk y b n) (hm : m ≤ 274877906944) (hn : n ≤ 274877906944) : Takes Tryz.prog 92 [(encI x), (encI y)] (encI (ofZ (a * b))) := by
  obtain ⟨rfl, hx'⟩ := hx; obtain ⟨rfl, hy'⟩ := hy
  exact t_mul x y (by omega) (by omega)
theorem s_compare {x y : RInt} {a b : Int} {m n : Nat} (hx : IOk x a m) (hy : IOk y b n) (hm : m ≤ 274877906944) (hn : n ≤ 274877906944) : Takes Tryz.prog 134 [(encI x), (encI y)] (.val (.int .i64 (cmpI a b))) := by
  obtain ⟨rfl, hx'⟩ := hx; obtain ⟨rfl, hy'⟩ := hy
  exact t_compareI x y (by omega) (by omega)
theorem s_gcd {x y : RInt} {a b : Int} {m n : Nat} (hx : IOk x a m) (hy : IOk y b n) (hm : m ≤ 274877906944) (hn : n ≤ 274877906944) : Takes Tryz.prog 136 [(encI x), (encI y)] (encI (ofZ ((Int.gcd a b : Nat) : Int))) := by
  obtain ⟨rfl, hx'⟩ := hx; obtain ⟨rfl, hy'⟩ := hy
  exact t_gcdI x y (by omega) (by omega)
theorem s_divide {x y : RInt} {a b : Int} {m n : Nat} (hx : IOk x a m) (hy : IOk y b n) (hm : m ≤ 274877906944) (hn : n ≤ 274877906944) (hb : b ≠ 0) : Takes Tryz.prog 100 [(encI x), (encI y)] (.tup [(encI (ofZ (a.fdiv b))), (encI (ofZ (a.fmod b))), (.val (.int .i64 0))]) := by
  obtain ⟨rfl, hx'⟩ := hx; obtain ⟨rfl, hy'⟩ := hy
  exact t_divideI x y (by omega) (by omega) hb
theorem rs_neg {x : RInt} {a : Int} {m : Nat} (hx : IOk x a m) (hm : m ≤ 274877906944) : Takes Tryz.prog 147 [(encI x)] (encI (ofZ (-a))) := by
  obtain ⟨rfl, hx'⟩ := hx
  exact r_neg x (by omega)
theorem rs_sign {x : RInt} {a : Int} {m : Nat} (hx : IOk x a m) (hm : m ≤ 274877906944) : Takes Tryz.prog 98 [(encI x)] (.val (.int .i64 (signI a))) := by
  obtain ⟨rfl, hx'⟩ := hx
  exact r_sign x (by omega)
theorem rs_add {x y : RInt} {a b : Int} {m n : Nat} (hx : IOk x a m) (hy : IOk y b n) (hm : m ≤ 274877906944) (hn : n ≤ 274877906944) : Takes Tryz.prog 121 [(encI x), (encI y)] (encI (ofZ (a + b))) := by
  obtain ⟨rfl, hx'⟩ := hx; obtain ⟨rfl, hy'⟩ := hy
  exact r_add x y (by omega) (by omega)
theorem rs_sub {x y : RInt} {a b : Int} {m n : Nat} (hx : IOk x a m) (hy : IOk y b n) (hm : m ≤ 274877906944) (hn : n ≤ 274877906944) : Takes Tryz.prog 106 [(encI x), (encI y)] (encI (ofZ (a - b))) := by
  obtain ⟨rfl, hx'⟩ := hx; obtain ⟨rfl, hy'⟩ := hy
  exact r_sub x y (by omega) (by omega)
theorem rs_mul {x y : RInt} {a b : Int} {m n : Nat} (hx : IOk x a m) (hy : IOk y b n) (hm : m ≤ 274877906944) (hn : n ≤ 274877906944) : Takes Tryz.prog 102 [(encI x), (encI y)] (encI (ofZ (a * b))) := by
  obtain ⟨rfl, hx'⟩ := hx; obtain ⟨rfl, hy'⟩ := hy
  exact r_mul x y (by omega) (by omega)
theorem rs_gcd {x y : RInt} {a b : Int} {m n : Nat} (hx : IOk x a m) (hy : IOk y b n) (hm : m ≤ 274877906944) (hn : n ≤ 274877906944) : Takes Tryz.prog 109 [(encI x), (encI y)] (encI (ofZ ((Int.gcd a b : Nat) : Int))) := by
  obtain ⟨rfl, hx'⟩ := hx; obtain ⟨rfl, hy'⟩ := hy
  exact r_gcd x y (by omega) (by omega)
theorem rs_divide {x y : RInt} {a b : Int} {m n : Nat} (hx : IOk x a m) (hy : IOk y b n) (hm : m ≤ 274877906944) (hn : n ≤ 274877906944) (hb : b ≠ 0) : Takes Tryz.prog 46 [(encI x), (encI y)] (.tup [(encI (ofZ (a.fdiv b))), (encI (ofZ (a.fmod b))), (.val (.int .i64 0))]) := by
  obtain ⟨rfl, hx'⟩ := hx; obtain ⟨rfl, hy'⟩ := hy
  exact r_divide x y (by omega) (by omega) hb
end Go.Proofs.YtadkkhdnccljcaaGreat
