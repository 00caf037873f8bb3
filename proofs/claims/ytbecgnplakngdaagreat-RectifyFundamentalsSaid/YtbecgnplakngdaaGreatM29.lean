/- Part 29 of a proof: rules, plain facts, and functions walked. -/
import Derived.Test.YtbecgnplakngdaaGreatM28
import Derived.Test.YtbecgnplakngdaaGreatM20
import Derived.Test.YtbecgnplakngdaaGreatM27
namespace Go.Proofs.YtbecgnplakngdaaGreat
open Go.Fid
set_option maxRecDepth 4000
set_option linter.unusedVariables false
set_option linter.unusedSimpArgs false
theorem cb39 : callB Tryz.prog 39 = true := by kernel_rfl
theorem g_sameL3 (taa : Nat) (a0 a1 a2 : Rat) (ha0 : QL a0 1000000) (ha1 : QL a1 1000000) (ha2 : QL a2 1000000) (tbb : Nat) (b0 b1 b2 : Rat) (hb0 : QL b0 1000000) (hb1 : QL b1 1000000) (hb2 : QL b2 1000000) (hab0 : a0 = b0) (hab1 : a1 = b1) (hab2 : a2 = b2) : kH Tryz.prog 39 [(.sl taa 4 (List.map jM [(jB a0), (jB a1), (jB a2)])), (.sl tbb 4 (List.map jM [(jB b0), (jB b1), (jB b2)]))] (.val (.bool (true))) := by
 refine jP Tryz.func39 rfl cb39 rfl ?_
 show uK _ _ _ _ ⟨[(0, (vl taa 4 jM [(jB a0), (jB a1), (jB a2)])), (1, (vl tbb 4 jM [(jB b0), (jB b1), (jB b2)]))], []⟩
 refine jA <| kx [] [] (zM <| zZ) ?_
 refine jA <| jA <| kx [(10, (vb false))] [] (zM <| zE (yK qF 3) <| zM <| zE (yK qF 3) <| zE mE <| zZ) ?_
 refine kG ?_
 refine jE <| jA <| jA <| kx [(5, (kD 0))] [] (zM <| zZ) ?_
 refine jF <| kN 20 ?_
 refine kU <| jA <| jA <| kx [(14, (vb true))] [] (zM <| zM <| zE (yK qF 3) <| zE (qL true qI) <| zZ) ?_
 refine jS ?_
 refine jE <| jA <| jF <| jA <| kd [(26, (vb false))] [] mo (wM <| wM <| wE (vM qF 0) <| wE (nL jO) <| wM <| wM <| wE (vM qF 0) <| wE (nL jO) <| wE (qL true (kA (by have h := g_same (jB a0) (jB b0) a0 b0 (jX (jY ha0) (by decide)) (jX (jY hb0) (by decide)); rw [aF] at h; exact h)) (by exact decide_eq_true hab0)) <| wE oNt <| wZ) ?_
 refine kG ?_
 refine jE <| kx [(5, (kD 1))] [] (zM <| zE (qP 1 (hr := by decide)) <| zM <| zZ) ?_
 refine jI (jT.refl _) ?_
 refine jA <| jA <| kx [(14, (vb true))] [] (zM <| zM <| zE (yK qF 3) <| zE (qL true qI) <| zZ) ?_
 refine jS ?_
 refine jE <| jA <| jF <| jA <| kd [(26, (vb false))] [] mo (wM <| wM <| wE (vM qF 1) <| wE (nL jO) <| wM <| wM <| wE (vM qF 1) <| wE (nL jO) <| wE (qL true (kA (by have h := g_same (jB a1) (jB b1) a1 b1 (jX (jY ha1) (by decide)) (jX (jY hb1) (by decide)); rw [aF] at h; exact h)) (by exact decide_eq_true hab1)) <| wE oNt <| wZ) ?_
 refine kG ?_
 refine jE <| kx [(5, (kD 2))] [] (zM <| zE (qP 2 (hr := by decide)) <| zM <| zZ) ?_
 refine jI (jT.refl _) ?_
 refine jA <| jA <| kx [(14, (vb true))] [] (zM <| zM <| zE (yK qF 3) <| zE (qL true qI) <| zZ) ?_
 refine jS ?_
 refine jE <| jA <| jF <| jA <| kd [(26, (vb false))] [] mo (wM <| wM <| wE (vM qF 2) <| wE (nL jO) <| wM <| wM <| wE (vM qF 2) <| wE (nL jO) <| wE (qL true (kA (by have h := g_same (jB a2) (jB b2) a2 b2 (jX (jY ha2) (by decide)) (jX (jY hb2) (by decide)); rw [aF] at h; exact h)) (by exact decide_eq_true hab2)) <| wE oNt <| wZ) ?_
 refine kG ?_
 refine jE <| kx [(5, (kD 3))] [] (zM <| zE (qP 3 (hr := by decide)) <| zM <| zZ) ?_
 refine jI (jT.refl _) ?_
 refine jA <| jA <| kx [(14, (vb false))] [] (zM <| zM <| zE (yK qF 3) <| zE (qL false qI) <| zZ) ?_
 refine kG ?_
 refine kB <| jA <| kx [(4, (vb true))] [] (zM <| zZ) ?_
 refine jJ ⟨_, (.tmp (d := (.val (.bool (true)))) rfl .nil), ?_⟩
 rfl
end Go.Proofs.YtbecgnplakngdaaGreat
set_option linter.unusedVariables false
set_option linter.unusedSimpArgs false
namespace Go.Fid
variable {P : Program} {o : Oper} {S : Nat → SV}
theorem oM3 {T T' T2 : TypeId} {x y z : Operand} {k : IntKind} {m n q : Int} (r : Int) (ho : o.op = .call { callee := .builtin .max, args := #[x, y, z], argTypes := #[T, T', T2] } := by exact rfl) (hx : ev S x = .d (.val (.int k m)) := by exact rfl) (hy : ev S y = .d (.val (.int k n)) := by exact rfl) (hz : ev S z = .d (.val (.int k q)) := by exact rfl)
    (hr : max (max m n) q = r := by omega) : vJ P o S [] (.d (.val (.int k r))) :=
  vJ.same fun a w D β hop _ => by
    have h1 := hop x (by simp [ho, Op.operands, Call.operands])
    have h2 := hop y (by simp [ho, Op.operands, Call.operands])
    have h3 := hop z (by simp [ho, Op.operands, Call.operands])
    rw [hx] at h1
    rw [hy] at h2
    rw [hz] at h3
    have e1 := vW h1
    have e2 := vW h2
    have e3 := vW h3
    have hr' : (if (if m < n then n else m) < q then q else (if m < n then n else m)) = r := by omega
    exact ⟨.int k (if (if m < n then n else m) < q then q else (if m < n then n else m)), by simp [execOp, ho, resolve, invoke, builtin, e1, e2, e3, Builtin.max_, Builtin.max2], by rw [hr']; exact .val _⟩
theorem oN3 {T T' T2 : TypeId} {x y z : Operand} {k : IntKind} {m n q : Int} (r : Int) (ho : o.op = .call { callee := .builtin .min, args := #[x, y, z], argTypes := #[T, T', T2] } := by exact rfl) (hx : ev S x = .d (.val (.int k m)) := by exact rfl) (hy : ev S y = .d (.val (.int k n)) := by exact rfl) (hz : ev S z = .d (.val (.int k q)) := by exact rfl)
    (hr : min (min m n) q = r := by omega) : vJ P o S [] (.d (.val (.int k r))) :=
  vJ.same fun a w D β hop _ => by
    have h1 := hop x (by simp [ho, Op.operands, Call.operands])
    have h2 := hop y (by simp [ho, Op.operands, Call.operands])
    have h3 := hop z (by simp [ho, Op.operands, Call.operands])
    rw [hx] at h1
    rw [hy] at h2
    rw [hz] at h3
    have e1 := vW h1
    have e2 := vW h2
    have e3 := vW h3
    have hr' : (if q < (if n < m then n else m) then q else (if n < m then n else m)) = r := by omega
    exact ⟨.int k (if q < (if n < m then n else m) then q else (if n < m then n else m)), by simp [execOp, ho, resolve, invoke, builtin, e1, e2, e3, Builtin.min_, Builtin.min2], by rw [hr']; exact .val _⟩
theorem dA {T E t : TypeId} {x : Operand} {q n s : Nat} {cs : List qE} {es : List qE} (ho : o.op = .slice T x none none none) (hT : eZ P T = some (n, E, s)) (hx : ev S x = .d (.cptr t cs q)) (hn : Nat.blt 0 n = true) (hm : Nat.ble n maxLen = true) (hl : Nat.beq es.length n = true)
    (hs : es.all (fun e => Nat.beq e.cells.length s) = true) (hc : uJ es = (cs.drop q).take (n * s)) (hq : Nat.ble (q + n * s) cs.length = true) : vJ P o S [] (.d (.sl t s es)) :=
  vJ.same fun a w D β hop _ => by
    have hp := hop x (by simp [ho, Op.operands])
    rw [hx] at hp
    generalize hvv : a.eval x = v at hp
    have hl' : es.length = n := Nat.eq_of_beq_eq_true hl
    have hq' : q + n * s ≤ cs.length := Nat.le_of_ble_eq_true hq
    have hn' : 0 < n := Nat.le_of_ble_eq_true hn
    cases hp with
    | cptr g p u hD hu h1 hr =>
      have hfl : (uJ es).length = n * s := by rw [hc, List.length_take, List.length_drop]; omega
      refine ⟨.slice (some ⟨g, p + q, none⟩) n n, by simp [execOp, ho, hvv, run_sliceArr hT hn'], .sl g (p + q) (fun i => u (q + i)) hl'.symm (Nat.le_refl _) (Nat.le_of_ble_eq_true hm) (fun e he => Nat.eq_of_beq_eq_true (List.all_eq_true.1 hs e he)) (fun _ => rfl) (fun i hi => ?_) (fun i hi => ?_) (fun i hi => ?_) (fun i d hd => ?_)⟩
      · rw [Nat.add_assoc]; exact hD _ (by omega)
      · rw [Nat.add_assoc]; exact hu _ (by omega)
      · exact h1 _ (by omega)
      · rw [hc, List.getElem?_take] at hd
        split at hd
        · rw [List.getElem?_drop] at hd
          exact hr _ _ hd
        · cases hd
end Go.Fid
set_option linter.unusedVariables false
set_option linter.unusedSimpArgs false
namespace Go.Fid
theorem sgn0 {q : Rat} (h : q = 0) : uI q = 0 := nX.2 h
section
variable {lx ly lz la lb lc ld rx ry rz ra rb rc rd : Int} {b0 b1 b2 e00 e01 e02 e10 e11 e12 e20 e21 e22 : Rat}
end
theorem Rcast (a b c d : Int) : uY a b c d = ((a : Rat) * a + b * b - c * c - d * d) ∧ vA a b c d = 2 * ((b : Rat) * c - a * d) ∧ qN a b c d = 2 * ((b : Rat) * d + a * c) ∧ vD a b c d = 2 * ((b : Rat) * c + a * d) ∧ vC a b c d = ((a : Rat) * a - b * b + c * c - d * d) ∧ qO a b c d = 2 * ((c : Rat) * d - a * b) ∧ vH a b c d = 2 * ((b : Rat) * d - a * c) ∧ vG a b c d = 2 * ((c : Rat) * d + a * b) ∧ qQ a b c d = ((a : Rat) * a - b * b - c * c + d * d) ∧ N4 a b c d = ((a : Rat) * a + b * b + c * c + d * d) := by
  unfold uY vA qN vD vC qO vH vG qQ N4 r00 r01 r02 r10 r11 r12 r20 r21 r22 nq
  simp only [Rat.intCast_add, Rat.intCast_sub, Rat.intCast_mul, Rat.intCast_ofNat, and_self]
theorem rrt0 (a b c d : Int) (x y z : Rat) : jG (uY a b c d) (vA a b c d) (qN a b c d) (jG (uY a b c d) (vD a b c d) (vH a b c d) x y z) (jG (vA a b c d) (vC a b c d) (vG a b c d) x y z) (jG (qN a b c d) (qO a b c d) (qQ a b c d) x y z) = N4 a b c d * N4 a b c d * x := by
  obtain ⟨h0, h1, h2, h3, h4, h5, h6, h7, h8, h9⟩ := Rcast a b c d
  unfold jG
  rw [h0, h1, h2, h3, h4, h5, h6, h7, h8, h9]
  grind
theorem rrt1 (a b c d : Int) (x y z : Rat) : jG (vD a b c d) (vC a b c d) (qO a b c d) (jG (uY a b c d) (vD a b c d) (vH a b c d) x y z) (jG (vA a b c d) (vC a b c d) (vG a b c d) x y z) (jG (qN a b c d) (qO a b c d) (qQ a b c d) x y z) = N4 a b c d * N4 a b c d * y := by
  obtain ⟨h0, h1, h2, h3, h4, h5, h6, h7, h8, h9⟩ := Rcast a b c d
  unfold jG
  rw [h0, h1, h2, h3, h4, h5, h6, h7, h8, h9]
  grind
theorem rrt2 (a b c d : Int) (x y z : Rat) : jG (vH a b c d) (vG a b c d) (qQ a b c d) (jG (uY a b c d) (vD a b c d) (vH a b c d) x y z) (jG (vA a b c d) (vC a b c d) (vG a b c d) x y z) (jG (qN a b c d) (qO a b c d) (qQ a b c d) x y z) = N4 a b c d * N4 a b c d * z := by
  obtain ⟨h0, h1, h2, h3, h4, h5, h6, h7, h8, h9⟩ := Rcast a b c d
  unfold jG
  rw [h0, h1, h2, h3, h4, h5, h6, h7, h8, h9]
  grind
section
variable {lx ly lz la lb lc ld rx ry rz ra rb rc rd : Int} {b0 b1 b2 e00 e01 e02 e10 e11 e12 e20 e21 e22 : Rat}
end
theorem ql_dq0 {a b c d p q r s : Int} (h : gX a b c d = 0) (h2 : gX p q r s = 0) : QL (dL a b c d p q r s) 13 ∧ QL (dM a b c d p q r s) 13 ∧ QL (dN a b c d p q r s) 13 := by
  obtain ⟨ha, hb, hc, hd, -⟩ := xA h
  obtain ⟨hp, hq, hr, hs, -⟩ := xA h2
  have n1 := ql_N4 ha hb hc hd; have n2 := ql_N4 hp hq hr hs
  refine ⟨?_, ?_, ?_⟩
  · exact kE (jD (k := 6) (ql_R02 ha hb hc hd) n2 (by decide)) (jD (k := 6) (ql_R02 hp hq hr hs) n1 (by decide)) (by decide)
  · exact kE (jD (k := 6) (ql_R12 ha hb hc hd) n2 (by decide)) (jD (k := 6) (ql_R12 hp hq hr hs) n1 (by decide)) (by decide)
  · exact kE (jD (k := 6) (ql_R22 ha hb hc hd) n2 (by decide)) (jD (k := 6) (ql_R22 hp hq hr hs) n1 (by decide)) (by decide)
theorem ql_cr {a b c d : Rat} {m n k : Nat} (ha : QL a m) (hb : QL b n) (hc : QL c m) (hd : QL d n) (h : (m + n) + (m + n) + 1 ≤ k) : QL (a * b - c * d) k :=
  kL (jD ha hb (Nat.le_refl _)) (jD hc hd (Nat.le_refl _)) h
theorem pair_cases (lx ly lz la lb lc ld lf lu lv rx ry rz ra rb rc rd rf ru rv : Int) :
    (∃ c, stn2 (uB lx ly lz lu lv lf la lb lc ld) (uB rx ry rz ru rv rf ra rb rc rd) = c ∧ c ≠ 0) ∨
    (uB lx ly lz lu lv lf la lb lc ld = 0 ∧ uB rx ry rz ru rv rf ra rb rc rd = 0 ∧ ∃ b0 b1 b2 : Rat, (((rx - lx : Int) : Rat) = b0 ∧ ((ry - ly : Int) : Rat) = b1 ∧ ((rz - lz : Int) : Rat) = b2) ∧ (QL b0 3 ∧ QL b1 3 ∧ QL b2 3) ∧ upV la lb lc ld ra rb rc rd b0 b1 b2 = true) ∨
    (uB lx ly lz lu lv lf la lb lc ld = 0 ∧ uB rx ry rz ru rv rf ra rb rc rd = 0 ∧ ∃ b0 b1 b2 e00 e01 e02 e10 e11 e12 e20 e21 e22 : Rat, RFr lx ly lz la lb lc ld rx ry rz ra rb rc rd b0 b1 b2 e00 e01 e02 e10 e11 e12 e20 e21 e22 ∧ upV la lb lc ld ra rb rc rd b0 b1 b2 = false ∧ (QL b0 3 ∧ QL b1 3 ∧ QL b2 3) ∧ (QL e00 400 ∧ QL e01 400 ∧ QL e02 400 ∧ QL e10 400 ∧ QL e11 400 ∧ QL e12 400 ∧ QL e20 400 ∧ QL e21 400 ∧ QL e22 400)) := by
  by_cases hl : uB lx ly lz lu lv lf la lb lc ld = 0
  · by_cases hr : uB rx ry rz ru rv rf ra rb rc rd = 0
    · have hl2 := xD hl; have hr2 := xD hr
      have qb0 : QL ((rx - lx : Int) : Rat) 3 := kV (jQ (by omega) (by omega)) (by decide)
      have qb1 : QL ((ry - ly : Int) : Rat) 3 := kV (jQ (by omega) (by omega)) (by decide)
      have qb2 : QL ((rz - lz : Int) : Rat) 3 := kV (jQ (by omega) (by omega)) (by decide)
      rcases hup : upV la lb lc ld ra rb rc rd ((rx - lx : Int) : Rat) ((ry - ly : Int) : Rat) ((rz - lz : Int) : Rat) with _ | _
      · obtain ⟨d0, d1, d2⟩ := ql_dq0 hl2.2.2.2.2.2.2 hr2.2.2.2.2.2.2
        have k0 := zI qb0 qb1 qb2 (Nat.le_refl _) (by decide)
        have e0 := jD (k := 6) qb0 k0 (by decide)
        have e1 := jD (k := 6) qb1 k0 (by decide)
        have e2 := jD (k := 6) qb2 k0 (by decide)
        have s0 := ql_cr (k := 39) d1 e2 d2 e1 (by decide)
        have s1 := ql_cr (k := 39) d2 e0 d0 e2 (by decide)
        have s2 := ql_cr (k := 39) d0 e1 d1 e0 (by decide)
        have k1 := zI s0 s1 s2 (Nat.le_refl _) (by decide)
        have f0 := jD (k := 78) s0 k1 (by decide)
        have f1 := jD (k := 78) s1 k1 (by decide)
        have f2 := jD (k := 78) s2 k1 (by decide)
        have t0 := ql_cr (k := 169) e1 f2 e2 f1 (by decide)
        have t1 := ql_cr (k := 169) e2 f0 e0 f2 (by decide)
        have t2 := ql_cr (k := 169) e0 f1 e1 f0 (by decide)
        have k2 := zI t0 t1 t2 (Nat.le_refl _) (by decide)
        have g0 := jD (k := 338) t0 k2 (by decide)
        have g1 := jD (k := 338) t1 k2 (by decide)
        have g2 := jD (k := 338) t2 k2 (by decide)
        exact .inr (.inr ⟨hl, hr, _, _, _, _, _, _, _, _, _, _, _, _, ⟨rfl, rfl, rfl, rfl, rfl, rfl, rfl, rfl, rfl, rfl, rfl, rfl⟩, hup, ⟨qb0, qb1, qb2⟩, uR e0 (by decide), uR e1 (by decide), uR e2 (by decide), uR f0 (by decide), uR f1 (by decide), uR f2 (by decide), uR g0 (by decide), uR g1 (by decide), uR g2 (by decide)⟩)
      · exact .inr (.inl ⟨hl, hr, _, _, _, ⟨rfl, rfl, rfl⟩, ⟨qb0, qb1, qb2⟩, hup⟩)
    · exact .inl ⟨_, rfl, by unfold stn2; rw [if_pos hl]; exact hr⟩
  · exact .inl ⟨_, rfl, by unfold stn2; rw [if_neg hl]; exact hl⟩
end Go.Fid
set_option linter.unusedVariables false
set_option linter.unusedSimpArgs false
namespace Go.Fid
def IsZ (q : Rat) : Prop := ∃ z : Int, q = (z : Rat)
theorem IsZ.of (z : Int) : IsZ (z : Rat) := ⟨z, rfl⟩
theorem IsZ.mul {p q : Rat} (h : IsZ p) (h2 : IsZ q) : IsZ (p * q) := by
  obtain ⟨a, rfl⟩ := h; obtain ⟨b, rfl⟩ := h2; exact ⟨a * b, (Rat.intCast_mul a b).symm⟩
theorem IsZ.add {p q : Rat} (h : IsZ p) (h2 : IsZ q) : IsZ (p + q) := by
  obtain ⟨a, rfl⟩ := h; obtain ⟨b, rfl⟩ := h2; exact ⟨a + b, (Rat.intCast_add a b).symm⟩
theorem IsZ.sub {p q : Rat} (h : IsZ p) (h2 : IsZ q) : IsZ (p - q) := by
  obtain ⟨a, rfl⟩ := h; obtain ⟨b, rfl⟩ := h2; exact ⟨a - b, (Rat.intCast_sub a b).symm⟩
section
variable {lx ly lz la lb lc ld rx ry rz ra rb rc rd : Int} {b0 b1 b2 e00 e01 e02 e10 e11 e12 e20 e21 e22 : Rat}
end
end Go.Fid
set_option linter.unusedVariables false
set_option linter.unusedSimpArgs false
namespace Go.Fid
theorem seen_q {p q s u v f V0 V1 V2 n r : Rat} (h : jG p q s V0 V1 V2 = n * n * r) (h2 : V2 ≠ 0) : jG p q s ((u + ((f * V0) / V2)) - u) ((v + ((f * V1) / V2)) - v) f = (f * (n * n) / V2) * r := by
  unfold jG at *
  grind
theorem seen0 {a b c d u v f : Int} {r0 r1 r2 : Rat} (h : (jG (qN a b c d) (qO a b c d) (qQ a b c d) r0 r1 r2) ≠ 0) : (jG (uY a b c d) (vA a b c d) (qN a b c d) ((((u : Int) : Rat) + ((((f : Int) : Rat) * (jG (uY a b c d) (vD a b c d) (vH a b c d) r0 r1 r2)) / (jG (qN a b c d) (qO a b c d) (qQ a b c d) r0 r1 r2))) - ((u : Int) : Rat)) ((((v : Int) : Rat) + ((((f : Int) : Rat) * (jG (vA a b c d) (vC a b c d) (vG a b c d) r0 r1 r2)) / (jG (qN a b c d) (qO a b c d) (qQ a b c d) r0 r1 r2))) - ((v : Int) : Rat)) ((f : Int) : Rat)) = (((f : Int) : Rat) * (N4 a b c d * N4 a b c d) / (jG (qN a b c d) (qO a b c d) (qQ a b c d) r0 r1 r2)) * r0 := seen_q (rrt0 a b c d r0 r1 r2) h
theorem seen1 {a b c d u v f : Int} {r0 r1 r2 : Rat} (h : (jG (qN a b c d) (qO a b c d) (qQ a b c d) r0 r1 r2) ≠ 0) : (jG (vD a b c d) (vC a b c d) (qO a b c d) ((((u : Int) : Rat) + ((((f : Int) : Rat) * (jG (uY a b c d) (vD a b c d) (vH a b c d) r0 r1 r2)) / (jG (qN a b c d) (qO a b c d) (qQ a b c d) r0 r1 r2))) - ((u : Int) : Rat)) ((((v : Int) : Rat) + ((((f : Int) : Rat) * (jG (vA a b c d) (vC a b c d) (vG a b c d) r0 r1 r2)) / (jG (qN a b c d) (qO a b c d) (qQ a b c d) r0 r1 r2))) - ((v : Int) : Rat)) ((f : Int) : Rat)) = (((f : Int) : Rat) * (N4 a b c d * N4 a b c d) / (jG (qN a b c d) (qO a b c d) (qQ a b c d) r0 r1 r2)) * r1 := seen_q (rrt1 a b c d r0 r1 r2) h
theorem seen2 {a b c d u v f : Int} {r0 r1 r2 : Rat} (h : (jG (qN a b c d) (qO a b c d) (qQ a b c d) r0 r1 r2) ≠ 0) : (jG (vH a b c d) (vG a b c d) (qQ a b c d) ((((u : Int) : Rat) + ((((f : Int) : Rat) * (jG (uY a b c d) (vD a b c d) (vH a b c d) r0 r1 r2)) / (jG (qN a b c d) (qO a b c d) (qQ a b c d) r0 r1 r2))) - ((u : Int) : Rat)) ((((v : Int) : Rat) + ((((f : Int) : Rat) * (jG (vA a b c d) (vC a b c d) (vG a b c d) r0 r1 r2)) / (jG (qN a b c d) (qO a b c d) (qQ a b c d) r0 r1 r2))) - ((v : Int) : Rat)) ((f : Int) : Rat)) = (((f : Int) : Rat) * (N4 a b c d * N4 a b c d) / (jG (qN a b c d) (qO a b c d) (qQ a b c d) r0 r1 r2)) * r2 := seen_q (rrt2 a b c d r0 r1 r2) h
section
variable {lx ly lz la lb lc ld rx ry rz ra rb rc rd : Int} {b0 b1 b2 e00 e01 e02 e10 e11 e12 e20 e21 e22 : Rat}
end
end Go.Fid
set_option linter.unusedVariables false
set_option linter.unusedSimpArgs false
namespace Go.Fid
def kM (a b c d : Rat) : Rat := a * d - b * c
def xB (a b c d e f g h i : Rat) : Rat := a * kM e f h i - b * kM d f g i + c * kM d e g h
theorem sgt {q : Rat} (h : uI q = 0) : q = 0 := nX.1 h
theorem sgf {q : Rat} (h : uI q ≠ 0) : True := trivial
theorem det2_tt {a b c d : Rat} (h0 : a = 0) (h1 : b = 0) : ((0 : Int) : Rat) = kM a b c d := by unfold kM; rw [h0, h1, Rat.intCast_zero]; grind
theorem det2_tf {a b c d : Rat} (h0 : a = 0) (h1 : True) : ((0 : Int) : Rat) + -(b * c) = kM a b c d := by unfold kM; rw [h0, Rat.intCast_zero]; grind
theorem det2_ft {a b c d : Rat} (h0 : True) (h1 : b = 0) : ((0 : Int) : Rat) + (a * d) = kM a b c d := by unfold kM; rw [h1, Rat.intCast_zero]; grind
theorem det2_ff {a b c d : Rat} (h0 : True) (h1 : True) : (((0 : Int) : Rat) + (a * d)) + -(b * c) = kM a b c d := by unfold kM; rw [Rat.intCast_zero]; grind
section
variable {a b c d e f g h i : Rat}
theorem det3_ttt (h0 : a = 0) (h1 : b = 0) (h2 : c = 0) : ((0 : Int) : Rat) = xB a b c d e f g h i := by unfold xB; rw [h0, h1, h2, Rat.intCast_zero]; grind
theorem det3_ttf (h0 : a = 0) (h1 : b = 0) (h2 : True) : ((0 : Int) : Rat) + (c * kM d e g h) = xB a b c d e f g h i := by unfold xB; rw [h0, h1, Rat.intCast_zero]; grind
theorem det3_tft (h0 : a = 0) (h1 : True) (h2 : c = 0) : ((0 : Int) : Rat) + -(b * kM d f g i) = xB a b c d e f g h i := by unfold xB; rw [h0, h2, Rat.intCast_zero]; grind
theorem det3_tff (h0 : a = 0) (h1 : True) (h2 : True) : (((0 : Int) : Rat) + -(b * kM d f g i)) + (c * kM d e g h) = xB a b c d e f g h i := by unfold xB; rw [h0, Rat.intCast_zero]; grind
theorem det3_ftt (h0 : True) (h1 : b = 0) (h2 : c = 0) : ((0 : Int) : Rat) + (a * kM e f h i) = xB a b c d e f g h i := by unfold xB; rw [h1, h2, Rat.intCast_zero]; grind
theorem det3_ftf (h0 : True) (h1 : b = 0) (h2 : True) : (((0 : Int) : Rat) + (a * kM e f h i)) + (c * kM d e g h) = xB a b c d e f g h i := by unfold xB; rw [h1, Rat.intCast_zero]; grind
theorem det3_fft (h0 : True) (h1 : True) (h2 : c = 0) : (((0 : Int) : Rat) + (a * kM e f h i)) + -(b * kM d f g i) = xB a b c d e f g h i := by unfold xB; rw [h2, Rat.intCast_zero]; grind
theorem det3_fff (h0 : True) (h1 : True) (h2 : True) : ((((0 : Int) : Rat) + (a * kM e f h i)) + -(b * kM d f g i)) + (c * kM d e g h) = xB a b c d e f g h i := by unfold xB; rw [Rat.intCast_zero]; grind
end
section
variable {b0 b1 b2 p00 p01 p02 p10 p11 p12 p20 p21 p22 q00 q01 q02 q10 q11 q12 q20 q21 q22 s00 s01 s02 s10 s11 s12 s20 s21 s22 f00 f01 f02 f10 f11 f12 f20 f21 f22 : Rat}
theorem det_skew (b0 b1 b2 p00 p01 p02 p10 p11 p12 p20 p21 p22 : Rat) :
    xB (b1 * p20 - b2 * p10) (b1 * p21 - b2 * p11) (b1 * p22 - b2 * p12) (b2 * p00 - b0 * p20) (b2 * p01 - b0 * p21) (b2 * p02 - b0 * p22) (b0 * p10 - b1 * p00) (b0 * p11 - b1 * p01) (b0 * p12 - b1 * p02) = 0 := by
  unfold xB kM; grind
theorem det_mul (q00 q01 q02 q10 q11 q12 q20 q21 q22 s00 s01 s02 s10 s11 s12 s20 s21 s22 : Rat) :
    xB (jG s00 s10 s20 q00 q10 q20) (jG s01 s11 s21 q00 q10 q20) (jG s02 s12 s22 q00 q10 q20) (jG s00 s10 s20 q01 q11 q21) (jG s01 s11 s21 q01 q11 q21) (jG s02 s12 s22 q01 q11 q21) (jG s00 s10 s20 q02 q12 q22) (jG s01 s11 s21 q02 q12 q22) (jG s02 s12 s22 q02 q12 q22)
      = xB q00 q01 q02 q10 q11 q12 q20 q21 q22 * xB s00 s01 s02 s10 s11 s12 s20 s21 s22 := by
  unfold xB kM jG; grind
theorem bil (q00 q01 q02 q10 q11 q12 q20 q21 q22 s00 s01 s02 s10 s11 s12 s20 s21 s22 x y z u v w : Rat) :
    jG u v w (jG (jG s00 s10 s20 q00 q10 q20) (jG s01 s11 s21 q00 q10 q20) (jG s02 s12 s22 q00 q10 q20) x y z) (jG (jG s00 s10 s20 q01 q11 q21) (jG s01 s11 s21 q01 q11 q21) (jG s02 s12 s22 q01 q11 q21) x y z) (jG (jG s00 s10 s20 q02 q12 q22) (jG s01 s11 s21 q02 q12 q22) (jG s02 s12 s22 q02 q12 q22) x y z)
      = jG (jG q00 q01 q02 u v w) (jG q10 q11 q12 u v w) (jG q20 q21 q22 u v w) (jG s00 s01 s02 x y z) (jG s10 s11 s12 x y z) (jG s20 s21 s22 x y z) := by
  unfold jG; grind
theorem skew_v (b0 b1 b2 p00 p01 p02 p10 p11 p12 p20 p21 p22 x y z m0 m1 m2 : Rat) (h0 : jG p00 p01 p02 x y z = m0) (h1 : jG p10 p11 p12 x y z = m1) (h2 : jG p20 p21 p22 x y z = m2) :
    jG (b1 * p20 - b2 * p10) (b1 * p21 - b2 * p11) (b1 * p22 - b2 * p12) x y z = b1 * m2 - b2 * m1 ∧ jG (b2 * p00 - b0 * p20) (b2 * p01 - b0 * p21) (b2 * p02 - b0 * p22) x y z = b2 * m0 - b0 * m2 ∧
    jG (b0 * p10 - b1 * p00) (b0 * p11 - b1 * p01) (b0 * p12 - b1 * p02) x y z = b0 * m1 - b1 * m0 := by
  subst h0 h1 h2
  refine ⟨?_, ?_, ?_⟩ <;> (unfold jG; grind)
theorem coplanar (b0 b1 b2 r0 r1 r2 j k : Rat) : jG (k * (r0 - b0)) (k * (r1 - b1)) (k * (r2 - b2)) (b1 * (j * r2) - b2 * (j * r1)) (b2 * (j * r0) - b0 * (j * r2)) (b0 * (j * r1) - b1 * (j * r0)) = 0 := by
  unfold jG; grind
theorem lens_v (m0 m1 m2 x y : Rat) (u v f : Int) : jG (jG ((1 : Int) : Rat) ((0 : Int) : Rat) ((0 : Int) : Rat) m0 m1 m2) (jG ((0 : Int) : Rat) ((1 : Int) : Rat) ((0 : Int) : Rat) m0 m1 m2) (jG ((-u : Int) : Rat) ((-v : Int) : Rat) ((f : Int) : Rat) m0 m1 m2) x y ((1 : Int) : Rat) = jG m0 m1 m2 (x - ((u : Int) : Rat)) (y - ((v : Int) : Rat)) ((f : Int) : Rat) := by
  rw [Rat.intCast_zero, Rat.intCast_one, Rat.intCast_neg, Rat.intCast_neg]; unfold jG; grind
theorem fund_det (nB : ((b1 * p20) - (b2 * p10)) = s00) (hP : ((b1 * p21) - (b2 * p11)) = s01) (nC : ((b1 * p22) - (b2 * p12)) = s02) (nD : ((b2 * p00) - (b0 * p20)) = s10) (hO : ((b2 * p01) - (b0 * p21)) = s11) (hN : ((b2 * p02) - (b0 * p22)) = s12) (hC : ((b0 * p10) - (b1 * p00)) = s20) (hZ : ((b0 * p11) - (b1 * p01)) = s21) (nH : ((b0 * p12) - (b1 * p02)) = s22) (gY : (jG s00 s10 s20 q00 q10 q20) = f00) (hM : (jG s01 s11 s21 q00 q10 q20) = f01) (hH : (jG s02 s12 s22 q00 q10 q20) = f02) (nE : (jG s00 s10 s20 q01 q11 q21) = f10) (nI : (jG s01 s11 s21 q01 q11 q21) = f11) (nG : (jG s02 s12 s22 q01 q11 q21) = f12) (gZ : (jG s00 s10 s20 q02 q12 q22) = f20) (nF : (jG s01 s11 s21 q02 q12 q22) = f21) (nA : (jG s02 s12 s22 q02 q12 q22) = f22) : xB f00 f01 f02 f10 f11 f12 f20 f21 f22 = 0 := by
  rw [← gY, ← hM, ← hH, ← nE, ← nI, ← nG, ← gZ, ← nF, ← nA, det_mul, ← nB, ← hP, ← nC, ← nD, ← hO, ← hN, ← hC, ← hZ, ← nH, det_skew, Rat.mul_zero]
theorem fund_fin (nB : ((b1 * p20) - (b2 * p10)) = s00) (hP : ((b1 * p21) - (b2 * p11)) = s01) (nC : ((b1 * p22) - (b2 * p12)) = s02) (nD : ((b2 * p00) - (b0 * p20)) = s10) (hO : ((b2 * p01) - (b0 * p21)) = s11) (hN : ((b2 * p02) - (b0 * p22)) = s12) (hC : ((b0 * p10) - (b1 * p00)) = s20) (hZ : ((b0 * p11) - (b1 * p01)) = s21) (nH : ((b0 * p12) - (b1 * p02)) = s22) (gY : (jG s00 s10 s20 q00 q10 q20) = f00) (hM : (jG s01 s11 s21 q00 q10 q20) = f01) (hH : (jG s02 s12 s22 q00 q10 q20) = f02) (nE : (jG s00 s10 s20 q01 q11 q21) = f10) (nI : (jG s01 s11 s21 q01 q11 q21) = f11) (nG : (jG s02 s12 s22 q01 q11 q21) = f12) (gZ : (jG s00 s10 s20 q02 q12 q22) = f20) (nF : (jG s01 s11 s21 q02 q12 q22) = f21) (nA : (jG s02 s12 s22 q02 q12 q22) = f22) {x y u v r0 r1 r2 t0 t1 t2 j k : Rat} (hp0 : jG p00 p01 p02 x y ((1 : Int) : Rat) = j * r0) (hp1 : jG p10 p11 p12 x y ((1 : Int) : Rat) = j * r1) (hp2 : jG p20 p21 p22 x y ((1 : Int) : Rat) = j * r2)
    (hq0 : jG q00 q01 q02 u v ((1 : Int) : Rat) = k * t0) (hq1 : jG q10 q11 q12 u v ((1 : Int) : Rat) = k * t1) (hq2 : jG q20 q21 q22 u v ((1 : Int) : Rat) = k * t2) (ht0 : t0 = r0 - b0) (ht1 : t1 = r1 - b1) (ht2 : t2 = r2 - b2) :
    jG u v ((1 : Int) : Rat) (jG f00 f01 f02 x y ((1 : Int) : Rat)) (jG f10 f11 f12 x y ((1 : Int) : Rat)) (jG f20 f21 f22 x y ((1 : Int) : Rat)) = 0 := by
  rw [← gY, ← hM, ← hH, ← nE, ← nI, ← nG, ← gZ, ← nF, ← nA, bil, hq0, hq1, hq2, ht0, ht1, ht2, ← nB, ← hP, ← nC, ← nD, ← hO, ← hN, ← hC, ← hZ, ← nH]
  obtain ⟨e0, e1, e2⟩ := skew_v b0 b1 b2 p00 p01 p02 p10 p11 p12 p20 p21 p22 x y ((1 : Int) : Rat) _ _ _ hp0 hp1 hp2
  rw [e0, e1, e2]
  exact coplanar ..
end
end Go.Fid
