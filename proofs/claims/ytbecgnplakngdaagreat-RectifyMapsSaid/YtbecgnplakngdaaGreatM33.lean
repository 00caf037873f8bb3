/- Part 33 of a proof: rules, plain facts, and functions walked. -/
import Derived.Test.YtbecgnplakngdaaGreatM27
import Derived.OpenShut
import Derived.Test.YtbecgnplakngdaaGreatM5
import Derived.ChangeArms
import Derived.SizedLaws
set_option linter.unusedVariables false
set_option linter.unusedSimpArgs false
namespace Go.Fid
section
variable {lx ly lz la lb lc ld rx ry rz ra rb rc rd : Int} {b0 b1 b2 e00 e01 e02 e10 e11 e12 e20 e21 e22 : Rat}
end
theorem expandP {a0 a1 a2 b0 b1 b2 : Rat} (h : jD a0 a1 a2 b0 b1 b2 = 0) (w0 w1 w2 : Rat) :
    jD a0 a1 a2 a0 a1 a2 * jD b0 b1 b2 b0 b1 b2 * w0 = jD b0 b1 b2 b0 b1 b2 * (a0 * jD a0 a1 a2 w0 w1 w2) + jD a0 a1 a2 a0 a1 a2 * (b0 * jD b0 b1 b2 w0 w1 w2) + (a1 * b2 - a2 * b1) * jD (a1 * b2 - a2 * b1) (a2 * b0 - a0 * b2) (a0 * b1 - a1 * b0) w0 w1 w2 := by
  unfold jD at *
  grind
theorem expandP1 {a0 a1 a2 b0 b1 b2 : Rat} (h : jD a0 a1 a2 b0 b1 b2 = 0) (w0 w1 w2 : Rat) :
    jD a0 a1 a2 a0 a1 a2 * jD b0 b1 b2 b0 b1 b2 * w1 = jD b0 b1 b2 b0 b1 b2 * (a1 * jD a0 a1 a2 w0 w1 w2) + jD a0 a1 a2 a0 a1 a2 * (b1 * jD b0 b1 b2 w0 w1 w2) + (a2 * b0 - a0 * b2) * jD (a1 * b2 - a2 * b1) (a2 * b0 - a0 * b2) (a0 * b1 - a1 * b0) w0 w1 w2 := by
  unfold jD at *
  grind
theorem expandP2 {a0 a1 a2 b0 b1 b2 : Rat} (h : jD a0 a1 a2 b0 b1 b2 = 0) (w0 w1 w2 : Rat) :
    jD a0 a1 a2 a0 a1 a2 * jD b0 b1 b2 b0 b1 b2 * w2 = jD b0 b1 b2 b0 b1 b2 * (a2 * jD a0 a1 a2 w0 w1 w2) + jD a0 a1 a2 a0 a1 a2 * (b2 * jD b0 b1 b2 w0 w1 w2) + (a0 * b1 - a1 * b0) * jD (a1 * b2 - a2 * b1) (a2 * b0 - a0 * b2) (a0 * b1 - a1 * b0) w0 w1 w2 := by
  unfold jD at *
  grind
theorem div3 {A B C L a b c X Y w : Rat} (hA : A ≠ 0) (hB : B ≠ 0) (hC : C ≠ 0) (hL : L ≠ 0) (h : A * B * C * w = B * C * (a * X) + A * C * (b * Y) + A * B * (c * L)) : a * (X / L / A) + b * (Y / L / B) + c * (((1 : Int) : Rat) / C) = w / L := by
  rw [Rat.intCast_one]
  grind
theorem Rcast (a b c d : Int) : vY a b c d = ((a : Rat) * a + b * b - c * c - d * d) ∧ vX a b c d = 2 * ((b : Rat) * c - a * d) ∧ uL a b c d = 2 * ((b : Rat) * d + a * c) ∧ xA a b c d = 2 * ((b : Rat) * c + a * d) ∧ xB a b c d = ((a : Rat) * a - b * b + c * c - d * d) ∧ uN a b c d = 2 * ((c : Rat) * d - a * b) ∧ xD a b c d = 2 * ((b : Rat) * d - a * c) ∧ xF a b c d = 2 * ((c : Rat) * d + a * b) ∧ uO a b c d = ((a : Rat) * a - b * b - c * c + d * d) ∧ N4 a b c d = ((a : Rat) * a + b * b + c * c + d * d) := by
  unfold vY vX uL xA xB uN xD xF uO N4 r00 r01 r02 r10 r11 r12 r20 r21 r22 nq
  simp only [Rat.intCast_add, Rat.intCast_sub, Rat.intCast_mul, Rat.intCast_ofNat, and_self]
theorem rtr0 (a b c d : Int) (x y z : Rat) : jD (vY a b c d) (xA a b c d) (xD a b c d) (jD (vY a b c d) (vX a b c d) (uL a b c d) x y z) (jD (xA a b c d) (xB a b c d) (uN a b c d) x y z) (jD (xD a b c d) (xF a b c d) (uO a b c d) x y z) = N4 a b c d * N4 a b c d * x := by
  obtain ⟨h0, h1, h2, h3, h4, h5, h6, h7, h8, h9⟩ := Rcast a b c d
  unfold jD
  rw [h0, h1, h2, h3, h4, h5, h6, h7, h8, h9]
  grind
theorem rtr1 (a b c d : Int) (x y z : Rat) : jD (vX a b c d) (xB a b c d) (xF a b c d) (jD (vY a b c d) (vX a b c d) (uL a b c d) x y z) (jD (xA a b c d) (xB a b c d) (uN a b c d) x y z) (jD (xD a b c d) (xF a b c d) (uO a b c d) x y z) = N4 a b c d * N4 a b c d * y := by
  obtain ⟨h0, h1, h2, h3, h4, h5, h6, h7, h8, h9⟩ := Rcast a b c d
  unfold jD
  rw [h0, h1, h2, h3, h4, h5, h6, h7, h8, h9]
  grind
theorem rtr2 (a b c d : Int) (x y z : Rat) : jD (uL a b c d) (uN a b c d) (uO a b c d) (jD (vY a b c d) (vX a b c d) (uL a b c d) x y z) (jD (xA a b c d) (xB a b c d) (uN a b c d) x y z) (jD (xD a b c d) (xF a b c d) (uO a b c d) x y z) = N4 a b c d * N4 a b c d * z := by
  obtain ⟨h0, h1, h2, h3, h4, h5, h6, h7, h8, h9⟩ := Rcast a b c d
  unfold jD
  rw [h0, h1, h2, h3, h4, h5, h6, h7, h8, h9]
  grind
theorem N4_pos {a b c d : Int} (h : yY a b c d = 0) : 0 < N4 a b c d := by
  unfold N4
  exact Rat.intCast_pos.2 (nq_pos h)
section
variable {lx ly lz la lb lc ld rx ry rz ra rb rc rd : Int} {b0 b1 b2 e00 e01 e02 e10 e11 e12 e20 e21 e22 : Rat}
theorem dir_w0 (hF : RFr lx ly lz la lb lc ld rx ry rz ra rb rc rd b0 b1 b2 e00 e01 e02 e10 e11 e12 e20 e21 e22) (hup : upV la lb lc ld ra rb rc rd b0 b1 b2 = false) {w0 w1 w2 : Rat} (hL : (jD e20 e21 e22 w0 w1 w2) ≠ 0) : e00 * ((jD e00 e01 e02 w0 w1 w2) / (jD e20 e21 e22 w0 w1 w2) / (jD e00 e01 e02 e00 e01 e02)) + e10 * ((jD e10 e11 e12 w0 w1 w2) / (jD e20 e21 e22 w0 w1 w2) / (jD e10 e11 e12 e10 e11 e12)) + e20 * (((1 : Int) : Rat) / (jD e20 e21 e22 e20 e21 e22)) = w0 / (jD e20 e21 e22 w0 w1 w2) := by
  refine div3 (yE (dK hF hup)) (yE (dR hF hup)) (yE (eD hF hup)) hL ?_
  have h1 := expandP (fr_01 hF) w0 w1 w2
  have h2 := lagr e00 e01 e02 e10 e11 e12
  rw [fr_01 hF] at h2
  obtain ⟨-, -, -, -, -, -, -, -, -, he0, he1, he2⟩ := hF
  generalize yC ((e01 * e12) - (e02 * e11)) ((e02 * e10) - (e00 * e12)) ((e00 * e11) - (e01 * e10)) = k at he0 he1 he2
  subst he0; subst he1; subst he2
  unfold jD at *
  grind
theorem dir_w1 (hF : RFr lx ly lz la lb lc ld rx ry rz ra rb rc rd b0 b1 b2 e00 e01 e02 e10 e11 e12 e20 e21 e22) (hup : upV la lb lc ld ra rb rc rd b0 b1 b2 = false) {w0 w1 w2 : Rat} (hL : (jD e20 e21 e22 w0 w1 w2) ≠ 0) : e01 * ((jD e00 e01 e02 w0 w1 w2) / (jD e20 e21 e22 w0 w1 w2) / (jD e00 e01 e02 e00 e01 e02)) + e11 * ((jD e10 e11 e12 w0 w1 w2) / (jD e20 e21 e22 w0 w1 w2) / (jD e10 e11 e12 e10 e11 e12)) + e21 * (((1 : Int) : Rat) / (jD e20 e21 e22 e20 e21 e22)) = w1 / (jD e20 e21 e22 w0 w1 w2) := by
  refine div3 (yE (dK hF hup)) (yE (dR hF hup)) (yE (eD hF hup)) hL ?_
  have h1 := expandP1 (fr_01 hF) w0 w1 w2
  have h2 := lagr e00 e01 e02 e10 e11 e12
  rw [fr_01 hF] at h2
  obtain ⟨-, -, -, -, -, -, -, -, -, he0, he1, he2⟩ := hF
  generalize yC ((e01 * e12) - (e02 * e11)) ((e02 * e10) - (e00 * e12)) ((e00 * e11) - (e01 * e10)) = k at he0 he1 he2
  subst he0; subst he1; subst he2
  unfold jD at *
  grind
theorem dir_w2 (hF : RFr lx ly lz la lb lc ld rx ry rz ra rb rc rd b0 b1 b2 e00 e01 e02 e10 e11 e12 e20 e21 e22) (hup : upV la lb lc ld ra rb rc rd b0 b1 b2 = false) {w0 w1 w2 : Rat} (hL : (jD e20 e21 e22 w0 w1 w2) ≠ 0) : e02 * ((jD e00 e01 e02 w0 w1 w2) / (jD e20 e21 e22 w0 w1 w2) / (jD e00 e01 e02 e00 e01 e02)) + e12 * ((jD e10 e11 e12 w0 w1 w2) / (jD e20 e21 e22 w0 w1 w2) / (jD e10 e11 e12 e10 e11 e12)) + e22 * (((1 : Int) : Rat) / (jD e20 e21 e22 e20 e21 e22)) = w2 / (jD e20 e21 e22 w0 w1 w2) := by
  refine div3 (yE (dK hF hup)) (yE (dR hF hup)) (yE (eD hF hup)) hL ?_
  have h1 := expandP2 (fr_01 hF) w0 w1 w2
  have h2 := lagr e00 e01 e02 e10 e11 e12
  rw [fr_01 hF] at h2
  obtain ⟨-, -, -, -, -, -, -, -, -, he0, he1, he2⟩ := hF
  generalize yC ((e01 * e12) - (e02 * e11)) ((e02 * e10) - (e00 * e12)) ((e00 * e11) - (e01 * e10)) = k at he0 he1 he2
  subst he0; subst he1; subst he2
  unfold jD at *
  grind
end
theorem ql_dq0 {a b c d p q r s : Int} (h : yY a b c d = 0) (h2 : yY p q r s = 0) : QL (mO a b c d p q r s) 13 ∧ QL (mN a b c d p q r s) 13 ∧ QL (mM a b c d p q r s) 13 := by
  obtain ⟨ha, hb, hc, hd, -⟩ := uA h
  obtain ⟨hp, hq, hr, hs, -⟩ := uA h2
  have n1 := ql_N4 ha hb hc hd; have n2 := ql_N4 hp hq hr hs
  refine ⟨?_, ?_, ?_⟩
  · exact kR (jH (k := 6) (ql_R02 ha hb hc hd) n2 (by decide)) (jH (k := 6) (ql_R02 hp hq hr hs) n1 (by decide)) (by decide)
  · exact kR (jH (k := 6) (ql_R12 ha hb hc hd) n2 (by decide)) (jH (k := 6) (ql_R12 hp hq hr hs) n1 (by decide)) (by decide)
  · exact kR (jH (k := 6) (ql_R22 ha hb hc hd) n2 (by decide)) (jH (k := 6) (ql_R22 hp hq hr hs) n1 (by decide)) (by decide)
theorem ql_cr {a b c d : Rat} {m n k : Nat} (ha : QL a m) (hb : QL b n) (hc : QL c m) (hd : QL d n) (h : (m + n) + (m + n) + 1 ≤ k) : QL (a * b - c * d) k :=
  qP (jH ha hb (Nat.le_refl _)) (jH hc hd (Nat.le_refl _)) h
theorem pair_cases (lx ly lz la lb lc ld lf lu lv rx ry rz ra rb rc rd rf ru rv : Int) :
    (∃ c, stn2 (qV lx ly lz lu lv lf la lb lc ld) (qV rx ry rz ru rv rf ra rb rc rd) = c ∧ c ≠ 0) ∨
    (qV lx ly lz lu lv lf la lb lc ld = 0 ∧ qV rx ry rz ru rv rf ra rb rc rd = 0 ∧ ∃ b0 b1 b2 : Rat, (((rx - lx : Int) : Rat) = b0 ∧ ((ry - ly : Int) : Rat) = b1 ∧ ((rz - lz : Int) : Rat) = b2) ∧ (QL b0 3 ∧ QL b1 3 ∧ QL b2 3) ∧ upV la lb lc ld ra rb rc rd b0 b1 b2 = true) ∨
    (qV lx ly lz lu lv lf la lb lc ld = 0 ∧ qV rx ry rz ru rv rf ra rb rc rd = 0 ∧ ∃ b0 b1 b2 e00 e01 e02 e10 e11 e12 e20 e21 e22 : Rat, RFr lx ly lz la lb lc ld rx ry rz ra rb rc rd b0 b1 b2 e00 e01 e02 e10 e11 e12 e20 e21 e22 ∧ upV la lb lc ld ra rb rc rd b0 b1 b2 = false ∧ (QL b0 3 ∧ QL b1 3 ∧ QL b2 3) ∧ (QL e00 400 ∧ QL e01 400 ∧ QL e02 400 ∧ QL e10 400 ∧ QL e11 400 ∧ QL e12 400 ∧ QL e20 400 ∧ QL e21 400 ∧ QL e22 400)) := by
  by_cases hl : qV lx ly lz lu lv lf la lb lc ld = 0
  · by_cases hr : qV rx ry rz ru rv rf ra rb rc rd = 0
    · have hl2 := uB hl; have hr2 := uB hr
      have qb0 : QL ((rx - lx : Int) : Rat) 3 := kQ (jO (by omega) (by omega)) (by decide)
      have qb1 : QL ((ry - ly : Int) : Rat) 3 := kQ (jO (by omega) (by omega)) (by decide)
      have qb2 : QL ((rz - lz : Int) : Rat) 3 := kQ (jO (by omega) (by omega)) (by decide)
      rcases hup : upV la lb lc ld ra rb rc rd ((rx - lx : Int) : Rat) ((ry - ly : Int) : Rat) ((rz - lz : Int) : Rat) with _ | _
      · obtain ⟨d0, d1, d2⟩ := ql_dq0 hl2.2.2.2.2.2.2 hr2.2.2.2.2.2.2
        have k0 := xZ qb0 qb1 qb2 (Nat.le_refl _) (by decide)
        have e0 := jH (k := 6) qb0 k0 (by decide)
        have e1 := jH (k := 6) qb1 k0 (by decide)
        have e2 := jH (k := 6) qb2 k0 (by decide)
        have s0 := ql_cr (k := 39) d1 e2 d2 e1 (by decide)
        have s1 := ql_cr (k := 39) d2 e0 d0 e2 (by decide)
        have s2 := ql_cr (k := 39) d0 e1 d1 e0 (by decide)
        have k1 := xZ s0 s1 s2 (Nat.le_refl _) (by decide)
        have f0 := jH (k := 78) s0 k1 (by decide)
        have f1 := jH (k := 78) s1 k1 (by decide)
        have f2 := jH (k := 78) s2 k1 (by decide)
        have t0 := ql_cr (k := 169) e1 f2 e2 f1 (by decide)
        have t1 := ql_cr (k := 169) e2 f0 e0 f2 (by decide)
        have t2 := ql_cr (k := 169) e0 f1 e1 f0 (by decide)
        have k2 := xZ t0 t1 t2 (Nat.le_refl _) (by decide)
        have g0 := jH (k := 338) t0 k2 (by decide)
        have g1 := jH (k := 338) t1 k2 (by decide)
        have g2 := jH (k := 338) t2 k2 (by decide)
        exact .inr (.inr ⟨hl, hr, _, _, _, _, _, _, _, _, _, _, _, _, ⟨rfl, rfl, rfl, rfl, rfl, rfl, rfl, rfl, rfl, rfl, rfl, rfl⟩, hup, ⟨qb0, qb1, qb2⟩, kJ e0 (by decide), kJ e1 (by decide), kJ e2 (by decide), kJ f0 (by decide), kJ f1 (by decide), kJ f2 (by decide), kJ g0 (by decide), kJ g1 (by decide), kJ g2 (by decide)⟩)
      · exact .inr (.inl ⟨hl, hr, _, _, _, ⟨rfl, rfl, rfl⟩, ⟨qb0, qb1, qb2⟩, hup⟩)
    · exact .inl ⟨_, rfl, by unfold stn2; rw [if_pos hl]; exact hr⟩
  · exact .inl ⟨_, rfl, by unfold stn2; rw [if_neg hl]; exact hl⟩
end Go.Fid
set_option linter.unusedVariables false
set_option linter.unusedSimpArgs false
namespace Go.Fid
theorem briefP_ok {x y : jQ} (h : dZ x y = true) : nU x (toQ x) 8 ∧ nU y (toQ y) 8 := by
  unfold dZ digR at h
  simp only [Bool.and_eq_true, decide_eq_true_eq] at h
  exact ⟨qok_raw (by decide) (by omega) (by omega), qok_raw (by decide) (by omega) (by omega)⟩
theorem valid_ex {x : jQ} {n : Nat} (h : uC x = true) (h2 : nU x (toQ x) n) : ∃ q : Rat, x = jB q ∧ QL q n := ⟨toQ x, (ofQ_toQ h).symm, h2.ql⟩
theorem rdiv_pos {a b : Rat} (ha : 0 < a) (hb : 0 < b) : 0 < a / b := by rw [Rat.div_def]; exact Rat.mul_pos ha (Rat.inv_pos.2 hb)
def IsZ (q : Rat) : Prop := ∃ z : Int, q = (z : Rat)
theorem IsZ.of (z : Int) : IsZ (z : Rat) := ⟨z, rfl⟩
theorem IsZ.mul {p q : Rat} (h : IsZ p) (h2 : IsZ q) : IsZ (p * q) := by
  obtain ⟨a, rfl⟩ := h; obtain ⟨b, rfl⟩ := h2; exact ⟨a * b, (Rat.intCast_mul a b).symm⟩
theorem IsZ.add {p q : Rat} (h : IsZ p) (h2 : IsZ q) : IsZ (p + q) := by
  obtain ⟨a, rfl⟩ := h; obtain ⟨b, rfl⟩ := h2; exact ⟨a + b, (Rat.intCast_add a b).symm⟩
theorem IsZ.sub {p q : Rat} (h : IsZ p) (h2 : IsZ q) : IsZ (p - q) := by
  obtain ⟨a, rfl⟩ := h; obtain ⟨b, rfl⟩ := h2; exact ⟨a - b, (Rat.intCast_sub a b).symm⟩
section
variable {lx ly lz la lb lc ld rx ry rz ra rb rc rd : Int} {b0 b1 b2 e00 e01 e02 e10 e11 e12 e20 e21 e22 : Rat}
theorem map_col (hF : RFr lx ly lz la lb lc ld rx ry rz ra rb rc rd b0 b1 b2 e00 e01 e02 e10 e11 e12 e20 e21 e22) (hup : upV la lb lc ld ra rb rc rd b0 b1 b2 = false) {ta tb tc td tf tu tv : Int} {x y w0 w1 w2 g0 g1 g2 : Rat} (hw0 : (jD (vY ta tb tc td) (vX ta tb tc td) (uL ta tb tc td) (x - ((tu : Int) : Rat)) (y - ((tv : Int) : Rat)) ((tf : Int) : Rat)) = w0) (hw1 : (jD (xA ta tb tc td) (xB ta tb tc td) (uN ta tb tc td) (x - ((tu : Int) : Rat)) (y - ((tv : Int) : Rat)) ((tf : Int) : Rat)) = w1) (hw2 : (jD (xD ta tb tc td) (xF ta tb tc td) (uO ta tb tc td) (x - ((tu : Int) : Rat)) (y - ((tv : Int) : Rat)) ((tf : Int) : Rat)) = w2) (hL : (jD e20 e21 e22 w0 w1 w2) ≠ 0) (hg0 : (((e00 * (((jD e00 e01 e02 w0 w1 w2) / (jD e20 e21 e22 w0 w1 w2)) / (jD e00 e01 e02 e00 e01 e02))) + (e10 * (((jD e10 e11 e12 w0 w1 w2) / (jD e20 e21 e22 w0 w1 w2)) / (jD e10 e11 e12 e10 e11 e12)))) + (e20 * (((1 : Int) : Rat) / (jD e20 e21 e22 e20 e21 e22)))) = g0) (hg1 : (((e01 * (((jD e00 e01 e02 w0 w1 w2) / (jD e20 e21 e22 w0 w1 w2)) / (jD e00 e01 e02 e00 e01 e02))) + (e11 * (((jD e10 e11 e12 w0 w1 w2) / (jD e20 e21 e22 w0 w1 w2)) / (jD e10 e11 e12 e10 e11 e12)))) + (e21 * (((1 : Int) : Rat) / (jD e20 e21 e22 e20 e21 e22)))) = g1) (hg2 : (((e02 * (((jD e00 e01 e02 w0 w1 w2) / (jD e20 e21 e22 w0 w1 w2)) / (jD e00 e01 e02 e00 e01 e02))) + (e12 * (((jD e10 e11 e12 w0 w1 w2) / (jD e20 e21 e22 w0 w1 w2)) / (jD e10 e11 e12 e10 e11 e12)))) + (e22 * (((1 : Int) : Rat) / (jD e20 e21 e22 e20 e21 e22)))) = g2) :
    (jD (vY ta tb tc td) (xA ta tb tc td) (xD ta tb tc td) g0 g1 g2) = N4 ta tb tc td * N4 ta tb tc td * (x - ((tu : Int) : Rat)) / (jD e20 e21 e22 w0 w1 w2) ∧ (jD (vX ta tb tc td) (xB ta tb tc td) (xF ta tb tc td) g0 g1 g2) = N4 ta tb tc td * N4 ta tb tc td * (y - ((tv : Int) : Rat)) / (jD e20 e21 e22 w0 w1 w2) ∧ (jD (uL ta tb tc td) (uN ta tb tc td) (uO ta tb tc td) g0 g1 g2) = N4 ta tb tc td * N4 ta tb tc td * ((tf : Int) : Rat) / (jD e20 e21 e22 w0 w1 w2) := by
  have e0 := dir_w0 hF hup (w0 := w0) (w1 := w1) (w2 := w2) hL
  have e1 := dir_w1 hF hup (w0 := w0) (w1 := w1) (w2 := w2) hL
  have e2 := dir_w2 hF hup (w0 := w0) (w1 := w1) (w2 := w2) hL
  rw [e0] at hg0; rw [e1] at hg1; rw [e2] at hg2
  have t0 := rtr0 ta tb tc td (x - ((tu : Int) : Rat)) (y - ((tv : Int) : Rat)) ((tf : Int) : Rat)
  have t1 := rtr1 ta tb tc td (x - ((tu : Int) : Rat)) (y - ((tv : Int) : Rat)) ((tf : Int) : Rat)
  have t2 := rtr2 ta tb tc td (x - ((tu : Int) : Rat)) (y - ((tv : Int) : Rat)) ((tf : Int) : Rat)
  rw [hw0, hw1, hw2] at t0 t1 t2
  have hd : ∀ (p q r : Rat), jD p q r g0 g1 g2 = jD p q r w0 w1 w2 / (jD e20 e21 e22 w0 w1 w2) := fun p q r => by
    rw [← hg0, ← hg1, ← hg2]; generalize (jD e20 e21 e22 w0 w1 w2) = L at *; unfold jD; grind
  rw [hd, hd, hd, t0, t1, t2]
  exact ⟨rfl, rfl, rfl⟩
theorem map_pos (hF : RFr lx ly lz la lb lc ld rx ry rz ra rb rc rd b0 b1 b2 e00 e01 e02 e10 e11 e12 e20 e21 e22) (hup : upV la lb lc ld ra rb rc rd b0 b1 b2 = false) {ta tb tc td tf tu tv : Int} {x y w0 w1 w2 g0 g1 g2 : Rat} (hw0 : (jD (vY ta tb tc td) (vX ta tb tc td) (uL ta tb tc td) (x - ((tu : Int) : Rat)) (y - ((tv : Int) : Rat)) ((tf : Int) : Rat)) = w0) (hw1 : (jD (xA ta tb tc td) (xB ta tb tc td) (uN ta tb tc td) (x - ((tu : Int) : Rat)) (y - ((tv : Int) : Rat)) ((tf : Int) : Rat)) = w1) (hw2 : (jD (xD ta tb tc td) (xF ta tb tc td) (uO ta tb tc td) (x - ((tu : Int) : Rat)) (y - ((tv : Int) : Rat)) ((tf : Int) : Rat)) = w2) (hL : ¬ (vJ (jD e20 e21 e22 w0 w1 w2)) ≤ 0) (hg0 : (((e00 * (((jD e00 e01 e02 w0 w1 w2) / (jD e20 e21 e22 w0 w1 w2)) / (jD e00 e01 e02 e00 e01 e02))) + (e10 * (((jD e10 e11 e12 w0 w1 w2) / (jD e20 e21 e22 w0 w1 w2)) / (jD e10 e11 e12 e10 e11 e12)))) + (e20 * (((1 : Int) : Rat) / (jD e20 e21 e22 e20 e21 e22)))) = g0) (hg1 : (((e01 * (((jD e00 e01 e02 w0 w1 w2) / (jD e20 e21 e22 w0 w1 w2)) / (jD e00 e01 e02 e00 e01 e02))) + (e11 * (((jD e10 e11 e12 w0 w1 w2) / (jD e20 e21 e22 w0 w1 w2)) / (jD e10 e11 e12 e10 e11 e12)))) + (e21 * (((1 : Int) : Rat) / (jD e20 e21 e22 e20 e21 e22)))) = g1) (hg2 : (((e02 * (((jD e00 e01 e02 w0 w1 w2) / (jD e20 e21 e22 w0 w1 w2)) / (jD e00 e01 e02 e00 e01 e02))) + (e12 * (((jD e10 e11 e12 w0 w1 w2) / (jD e20 e21 e22 w0 w1 w2)) / (jD e10 e11 e12 e10 e11 e12)))) + (e22 * (((1 : Int) : Rat) / (jD e20 e21 e22 e20 e21 e22)))) = g2) (hq : yY ta tb tc td = 0) (hf : 1 ≤ tf) : 0 < (jD (uL ta tb tc td) (uN ta tb tc td) (uO ta tb tc td) g0 g1 g2) := by
  have hL2 := sgn_pos.1 hL
  have h := (map_col hF hup hw0 hw1 hw2 (hH hL) hg0 hg1 hg2).2.2
  have hn := N4_pos hq
  rw [h]
  exact rdiv_pos (Rat.mul_pos (Rat.mul_pos hn hn) (Rat.intCast_pos.2 (by omega))) hL2
theorem back_q {n l f x u : Rat} (hn : n ≠ 0) (hl : l ≠ 0) (hf : f ≠ 0) : u + f * (n * n * (x - u) / l) / (n * n * f / l) = x := by grind
theorem map_x (hF : RFr lx ly lz la lb lc ld rx ry rz ra rb rc rd b0 b1 b2 e00 e01 e02 e10 e11 e12 e20 e21 e22) (hup : upV la lb lc ld ra rb rc rd b0 b1 b2 = false) {ta tb tc td tf tu tv : Int} {x y w0 w1 w2 g0 g1 g2 : Rat} (hw0 : (jD (vY ta tb tc td) (vX ta tb tc td) (uL ta tb tc td) (x - ((tu : Int) : Rat)) (y - ((tv : Int) : Rat)) ((tf : Int) : Rat)) = w0) (hw1 : (jD (xA ta tb tc td) (xB ta tb tc td) (uN ta tb tc td) (x - ((tu : Int) : Rat)) (y - ((tv : Int) : Rat)) ((tf : Int) : Rat)) = w1) (hw2 : (jD (xD ta tb tc td) (xF ta tb tc td) (uO ta tb tc td) (x - ((tu : Int) : Rat)) (y - ((tv : Int) : Rat)) ((tf : Int) : Rat)) = w2) (hL : ¬ (vJ (jD e20 e21 e22 w0 w1 w2)) ≤ 0) (hg0 : (((e00 * (((jD e00 e01 e02 w0 w1 w2) / (jD e20 e21 e22 w0 w1 w2)) / (jD e00 e01 e02 e00 e01 e02))) + (e10 * (((jD e10 e11 e12 w0 w1 w2) / (jD e20 e21 e22 w0 w1 w2)) / (jD e10 e11 e12 e10 e11 e12)))) + (e20 * (((1 : Int) : Rat) / (jD e20 e21 e22 e20 e21 e22)))) = g0) (hg1 : (((e01 * (((jD e00 e01 e02 w0 w1 w2) / (jD e20 e21 e22 w0 w1 w2)) / (jD e00 e01 e02 e00 e01 e02))) + (e11 * (((jD e10 e11 e12 w0 w1 w2) / (jD e20 e21 e22 w0 w1 w2)) / (jD e10 e11 e12 e10 e11 e12)))) + (e21 * (((1 : Int) : Rat) / (jD e20 e21 e22 e20 e21 e22)))) = g1) (hg2 : (((e02 * (((jD e00 e01 e02 w0 w1 w2) / (jD e20 e21 e22 w0 w1 w2)) / (jD e00 e01 e02 e00 e01 e02))) + (e12 * (((jD e10 e11 e12 w0 w1 w2) / (jD e20 e21 e22 w0 w1 w2)) / (jD e10 e11 e12 e10 e11 e12)))) + (e22 * (((1 : Int) : Rat) / (jD e20 e21 e22 e20 e21 e22)))) = g2) (hq : yY ta tb tc td = 0) (hf : 1 ≤ tf) : ((tu : Int) : Rat) + (((tf : Int) : Rat) * (jD (vY ta tb tc td) (xA ta tb tc td) (xD ta tb tc td) g0 g1 g2)) / (jD (uL ta tb tc td) (uN ta tb tc td) (uO ta tb tc td) g0 g1 g2) = x := by
  have h := map_col hF hup hw0 hw1 hw2 (hH hL) hg0 hg1 hg2
  have hn := N4_pos hq
  rw [h.1, h.2.2]
  have h3 : (0 : Rat) < ((tf : Int) : Rat) := Rat.intCast_pos.2 (by omega)
  exact back_q (by grind) (hH hL) (by grind)
theorem map_y (hF : RFr lx ly lz la lb lc ld rx ry rz ra rb rc rd b0 b1 b2 e00 e01 e02 e10 e11 e12 e20 e21 e22) (hup : upV la lb lc ld ra rb rc rd b0 b1 b2 = false) {ta tb tc td tf tu tv : Int} {x y w0 w1 w2 g0 g1 g2 : Rat} (hw0 : (jD (vY ta tb tc td) (vX ta tb tc td) (uL ta tb tc td) (x - ((tu : Int) : Rat)) (y - ((tv : Int) : Rat)) ((tf : Int) : Rat)) = w0) (hw1 : (jD (xA ta tb tc td) (xB ta tb tc td) (uN ta tb tc td) (x - ((tu : Int) : Rat)) (y - ((tv : Int) : Rat)) ((tf : Int) : Rat)) = w1) (hw2 : (jD (xD ta tb tc td) (xF ta tb tc td) (uO ta tb tc td) (x - ((tu : Int) : Rat)) (y - ((tv : Int) : Rat)) ((tf : Int) : Rat)) = w2) (hL : ¬ (vJ (jD e20 e21 e22 w0 w1 w2)) ≤ 0) (hg0 : (((e00 * (((jD e00 e01 e02 w0 w1 w2) / (jD e20 e21 e22 w0 w1 w2)) / (jD e00 e01 e02 e00 e01 e02))) + (e10 * (((jD e10 e11 e12 w0 w1 w2) / (jD e20 e21 e22 w0 w1 w2)) / (jD e10 e11 e12 e10 e11 e12)))) + (e20 * (((1 : Int) : Rat) / (jD e20 e21 e22 e20 e21 e22)))) = g0) (hg1 : (((e01 * (((jD e00 e01 e02 w0 w1 w2) / (jD e20 e21 e22 w0 w1 w2)) / (jD e00 e01 e02 e00 e01 e02))) + (e11 * (((jD e10 e11 e12 w0 w1 w2) / (jD e20 e21 e22 w0 w1 w2)) / (jD e10 e11 e12 e10 e11 e12)))) + (e21 * (((1 : Int) : Rat) / (jD e20 e21 e22 e20 e21 e22)))) = g1) (hg2 : (((e02 * (((jD e00 e01 e02 w0 w1 w2) / (jD e20 e21 e22 w0 w1 w2)) / (jD e00 e01 e02 e00 e01 e02))) + (e12 * (((jD e10 e11 e12 w0 w1 w2) / (jD e20 e21 e22 w0 w1 w2)) / (jD e10 e11 e12 e10 e11 e12)))) + (e22 * (((1 : Int) : Rat) / (jD e20 e21 e22 e20 e21 e22)))) = g2) (hq : yY ta tb tc td = 0) (hf : 1 ≤ tf) : ((tv : Int) : Rat) + (((tf : Int) : Rat) * (jD (vX ta tb tc td) (xB ta tb tc td) (xF ta tb tc td) g0 g1 g2)) / (jD (uL ta tb tc td) (uN ta tb tc td) (uO ta tb tc td) g0 g1 g2) = y := by
  have h := map_col hF hup hw0 hw1 hw2 (hH hL) hg0 hg1 hg2
  have hn := N4_pos hq
  rw [h.2.1, h.2.2]
  have h3 : (0 : Rat) < ((tf : Int) : Rat) := Rat.intCast_pos.2 (by omega)
  exact back_q (by grind) (hH hL) (by grind)
end
end Go.Fid
namespace Go.Fid
set_option linter.unusedVariables false
set_option linter.unusedSimpArgs false
open Go.RowKit (Below)
mutual
inductive Ty where
  | int (k : IntKind)
  | bool
  | sl (E : TypeId) (s : Nat) (e : Ty)
  | st (fs : TyL)
  | ar (n : Nat) (E : TypeId) (fs : TyL)
inductive TyL where
  | nil
  | cons (t : TypeId) (ty : Ty) (r : TyL)
end
mutual
def Ty.size : Ty → Nat
  | .int _ => 1
  | .bool => 1
  | .sl _ _ _ => 1
  | .st fs => fs.size
  | .ar _ _ fs => fs.size
def TyL.size : TyL → Nat
  | .nil => 0
  | .cons _ ty r => ty.size + r.size
end
def fieldsB : List Field → Nat → TyL → Bool
  | [], _, .nil => true
  | f :: l, off, .cons t ty r => Nat.beq f.type t && (Nat.beq f.offset off && fieldsB l (off + ty.size) r)
  | _, _, _ => false
def arFs (E : TypeId) (z : Nat) : Nat → Nat → List Field
  | 0, _ => []
  | n + 1, i => { name := "", type := E, offset := i * z, embedded := false, tag := "", pkgPath := "", byteOffset := 0 } :: arFs E z n (i + 1)
theorem arFs_mem {E : TypeId} {z : Nat} : ∀ {n i : Nat} {f : Field}, f ∈ arFs E z n i → ∃ j, j < n ∧ f.type = E ∧ f.offset = (i + j) * z
  | 0, _, _, h => by cases h
  | n + 1, i, f, h => by
    rcases List.mem_cons.1 h with e | h
    · exact ⟨0, by omega, by rw [e], by rw [e]; rfl⟩
    · obtain ⟨j, h1, h2, h3⟩ := arFs_mem h
      exact ⟨j + 1, by omega, h2, by rw [h3]; congr 1; omega⟩
mutual
def tyB (P : Program) : TypeId → Ty → Bool
  | t, .int k => match P.underlying t with
    | some (.int k') => decide (k' = k)
    | _ => false
  | t, .bool => match P.underlying t with
    | some .bool => true
    | _ => false
  | t, .sl E s e => match P.underlying t with
    | some (.slice E') => Nat.beq E' E && (Nat.beq (P.cellsOf E) s && (Nat.beq e.size s && (Nat.ble 1 s && (Nat.ble 1 (P.bytesOf E) && tyB P E e))))
    | _ => false
  | t, .st fs => match P.underlying t with
    | some (.struct fds) => Nat.beq (P.cellsOf t) fs.size && (fieldsB fds.toList 0 fs && tysB P fs)
    | _ => false
  | t, .ar n E fs => match P.underlying t with
    | some (.array n' E') => Nat.beq n' n && (Nat.beq E' E && (Nat.beq (P.cellsOf t) fs.size && (fieldsB (arFs E (P.cellsOf E) n 0) 0 fs && tysB P fs)))
    | _ => false
def tysB (P : Program) : TyL → Bool
  | .nil => true
  | .cons t ty r => Nat.beq (P.cellsOf t) ty.size && (tyB P t ty && tysB P r)
end
def isSt : Ty → Bool
  | .st _ => true
  | .ar _ _ _ => true
  | _ => false
def mkD (ty : Ty) (ds : List qH) : qH := bif isSt ty then .agg ds else ds.headD (.tup [])
mutual
def Sh : Ty → List qH → Prop
  | .int k, ds => ∃ z, ds = [.val (.int k z)] ∧ (Lit.int k z).wf = true
  | .bool, ds => ∃ b, ds = [.val (.bool b)]
  | .sl E s e, ds => ∃ es : List (List qH), ds = [.sl E s (es.map (mkD e))] ∧ es.length ≤ 140737488355328 ∧ ∀ x ∈ es, Sh e x
  | .st fs, ds => ShL fs ds
  | .ar _ _ fs, ds => ShL fs ds
def ShL : TyL → List qH → Prop
  | .nil, ds => ds = []
  | .cons _ ty r, ds => ∃ a b, ds = a ++ b ∧ Sh ty a ∧ ShL r b
end
mutual
theorem Sh.len : ∀ {ty : Ty} {ds : List qH}, Sh ty ds → ds.length = ty.size
  | .int k, ds, h => by obtain ⟨z, rfl, _⟩ := h; rfl
  | .bool, ds, h => by obtain ⟨b, rfl⟩ := h; rfl
  | .sl E s e, ds, h => by obtain ⟨es, rfl, _⟩ := h; rfl
  | .st fs, ds, h => ShL.len (h : ShL fs ds)
  | .ar _ _ fs, ds, h => ShL.len (h : ShL fs ds)
theorem ShL.len : ∀ {fs : TyL} {ds : List qH}, ShL fs ds → ds.length = fs.size
  | .nil, ds, h => by have h : ds = [] := h; subst h; rfl
  | .cons t ty r, ds, h => by
    obtain ⟨a, b, rfl, h1, h2⟩ := h
    rw [List.length_append, Sh.len h1, ShL.len h2]; rfl
end
theorem mkD_cells {ty : Ty} {ds : List qH} (h : Sh ty ds) : (mkD ty ds).cells = ds := by
  cases ty with
  | int k => obtain ⟨z, rfl, _⟩ := h; rfl
  | bool => obtain ⟨b, rfl⟩ := h; rfl
  | sl E s e => obtain ⟨es, rfl, _⟩ := h; rfl
  | st fs => rfl
  | ar n E fs => rfl
def oldD (w : World) : uY := fun _ g _ => g < w.heap.size
def RepC (w : World) (cs : List Value) (ds : List qH) : Prop := ds.length = cs.length ∧ (∀ v ∈ cs, v.oneCell' = true) ∧ ∀ (i : Nat) v d, cs[i]? = some v → ds[i]? = some d → xH w (oldD w) v d
theorem RepC.append {w : World} {cs1 cs2 : List Value} {d1 d2 : List qH} (h1 : RepC w cs1 d1) (h2 : RepC w cs2 d2) : RepC w (cs1 ++ cs2) (d1 ++ d2) := by
  refine ⟨by rw [List.length_append, List.length_append, h1.1, h2.1], fun v hv => ?_, fun i v d hv hd => ?_⟩
  · rcases List.mem_append.1 hv with h | h
    · exact h1.2.1 v h
    · exact h2.2.1 v h
  · by_cases hi : i < cs1.length
    · rw [List.getElem?_append_left hi] at hv
      rw [List.getElem?_append_left (by rw [h1.1]; exact hi)] at hd
      exact h1.2.2 i v d hv hd
    · rw [List.getElem?_append_right (by omega)] at hv
      rw [List.getElem?_append_right (by rw [h1.1]; omega), h1.1] at hd
      exact h2.2.2 _ v d hv hd
section
variable {H : Type} {enc : TypeId × Value → H} {P : Program} {w : World} {sp : Nat → Bool} {held : Bool}
theorem fE {e : TypeId} : ∀ {l : List (DataW H)} {d : DataW H}, d ∈ l → ∀ {n : Nat}, n ∈ d.weights P e → n ∈ DataW.weightsAll P e l
  | [], _, h, _, _ => by cases h
  | x :: l, d, h, n, hn => by
    simp only [DataW.weightsAll]
    rcases List.mem_cons.1 h with rfl | h
    · exact List.mem_append_left _ hn
    · exact List.mem_append_right _ (fE h hn)
theorem cells_get {a : Addr} {n : Nat} {cs : List Value} (h : w.cells? 0 a n = some cs) : cs.length = n ∧ ∀ i, i < n → w.cell? (a.add i) = cs[i]? := by
  unfold World.cells? at h
  rw [if_pos (Nat.zero_le _)] at h
  refine ⟨by simpa using mapM_some_length h, fun i hi => ?_⟩
  have := mapM_some_get h i i (by simp [hi])
  exact this
theorem drop_take_split {α : Type} {cs : List α} {off n m : Nat} (h : cs.length = off + (n + m)) : cs.drop off = (cs.drop off).take n ++ cs.drop (off + n) := by
  rw [← List.drop_drop, List.take_append_drop]
mutual
theorem bridge : ∀ {ty : Ty} {t : TypeId} {fuel : Nat} {cs : List Value} {x : DataW H × List MemPlace}, tyB P t ty = true → DataW.trod enc P w 0 sp held fuel t cs = some x → (∀ n ∈ x.1.weights P t, n ≤ reachBytes) → ∃ ds, RepC w cs ds ∧ Sh ty ds
  | .int k, t, fuel, cs, x, ht, h, _ => by
    unfold tyB at ht
    split at ht
    · rename_i k' hu
      obtain rfl : k' = k := of_decide_eq_true ht
      obtain ⟨n, rfl, _, hw⟩ := DataW.trod_int hu h
      refine ⟨[.val (.int k' n)], ⟨rfl, by simp [Value.oneCell'], fun i v d hv hd => ?_⟩, n, rfl, hw⟩
      rcases i with _ | i
      · simp at hv hd; subst hv; subst hd; exact .val _
      · simp at hv
    · cases ht
  | .bool, t, fuel, cs, x, ht, h, _ => by
    unfold tyB at ht
    split at ht
    · rename_i hu
      obtain ⟨b, rfl, _⟩ := DataW.trod_bool hu h
      refine ⟨[.val (.bool b)], ⟨rfl, by simp [Value.oneCell'], fun i v d hv hd => ?_⟩, b, rfl⟩
      rcases i with _ | i
      · simp at hv hd; subst hv; subst hd; exact .val _
      · simp at hv
    · cases ht
  | .sl E s e, t, fuel, cs, x, ht, h, hwt => by
    unfold tyB at ht
    split at ht
    · rename_i E' hu
      simp only [Bool.and_eq_true] at ht
      obtain ⟨h1, h2, h3, h4, h6, h5⟩ := ht
      obtain rfl : E' = E := Nat.eq_of_beq_eq_true h1
      have hs : P.cellsOf E' = s := Nat.eq_of_beq_eq_true h2
      have hes : e.size = s := Nat.eq_of_beq_eq_true h3
      have hs1 : 1 ≤ s := Nat.le_of_ble_eq_true h4
      have one : ∀ v : Value, v.oneCell' = true → ∀ d, xH w (oldD w) v d → RepC w [v] [d] := fun v h1 d h2 => ⟨rfl, by simpa using h1, fun i v' d' hv hd => by
        rcases i with _ | i
        · simp at hv hd; subst hv; subst hd; exact h2
        · simp at hv⟩
      rcases DataW.trod_slice hu h with ⟨rfl, _⟩ | ⟨a, len, cap, elems, zD, n, _, rfl, hx, _, hl, hm, vL, hel, _⟩
      · exact ⟨[.sl E' s []], one _ rfl _ (aU w _ E' s), [], rfl, Nat.zero_le _, by simp⟩
      · have hws : ∀ n ∈ (elems.length + zD.length) * P.bytesOf E' :: (DataW.weightsAll P E' (elems.map (·.1)) ++ DataW.weightsAll P E' (zD.map (·.1))), n ≤ reachBytes := by
          intro n hn
          refine hwt n ?_
          rw [hx]
          simp only [DataW.weights, hu, List.length_map]
          exact hn
        have hlen47 : len ≤ 140737488355328 := by
          have h7 := hws _ (List.mem_cons_self)
          have h8 : 1 ≤ P.bytesOf E' := Nat.le_of_ble_eq_true h6
          have h9 := Nat.mul_le_mul_left (elems.length + zD.length) h8
          have h10 := reachBytes_lt
          omega
        have each : ∀ i, ∃ d : List qH × List Value, i < len → (d.2.length = s ∧ (∀ j, j < s → w.cell? ((a.add (i * s)).add j) = d.2[j]?) ∧ RepC w d.2 d.1 ∧ Sh e d.1) := by
          intro i
          by_cases hi : i < len
          · have he := hel i hi
            rw [List.getElem?_eq_getElem (by omega), hs] at he
            cases hc : w.cells? 0 (a.add (i * s)) s with
            | none => rw [hc] at he; cases he
            | some ci =>
              rw [hc] at he
              obtain ⟨g1, g2⟩ := cells_get hc
              have hmem : elems[i] ∈ elems := List.getElem_mem _
              obtain ⟨ds, r1, r2⟩ := bridge (ty := e) h5 he (fun n hn => hws n (by
                refine List.mem_cons_of_mem _ (List.mem_append_left _ ?_)
                exact fE (List.mem_map_of_mem (f := (·.1)) hmem) hn))
              exact ⟨(ds, ci), fun _ => ⟨g1, g2, r1, r2⟩⟩
          · exact ⟨([], []), fun h => absurd h hi⟩
        obtain ⟨F, hF⟩ := Classical.axiomOfChoice each
        have hspot : 0 < len → a = ⟨a.block, a.off, none⟩ ∧ a.block < w.heap.size := by
          intro h0
          obtain ⟨q1, q2, _, _⟩ := hF 0 h0
          have q3 := q2 0 (by omega)
          rw [List.getElem?_eq_getElem (by omega)] at q3
          obtain ⟨b, o, sp'⟩ := a
          cases sp' with
          | none =>
            refine ⟨rfl, ?_⟩
            unfold World.cell? at q3
            split at q3
            · rename_i c _ _ hh
              simpa [Addr.add] using (Array.getElem?_eq_some_iff.1 hh).1
            · cases q3
          | some z =>
            exfalso
            unfold World.cell? at q3
            split at q3
            · simp [Addr.add] at q3
            · cases q3
        have hesl : ∀ d ∈ ((List.range len).map fun i => mkD e (F i).1), d.cells.length = s := by
          intro d hd
          rw [List.mem_map] at hd
          obtain ⟨i, hi, rfl⟩ := hd
          obtain ⟨q1, q2, q3, q4⟩ := hF i (by simpa using hi)
          rw [mkD_cells q4, Sh.len q4, hes]
        have hfl := xS hesl
        rw [List.length_map, List.length_range] at hfl
        have hget : ∀ q, q < len * s → ∃ u d, w.cell? (a.add q) = some u ∧ (uV ((List.range len).map fun i => mkD e (F i).1))[q]? = some d ∧ u.oneCell' = true ∧ xH w (oldD w) u d := by
          intro q hq
          have hi : q / s < len := (Nat.div_lt_iff_lt_mul (by omega)).2 hq
          have hj : q % s < s := Nat.mod_lt _ (by omega)
          have hqe : q / s * s + q % s = q := by rw [Nat.mul_comm]; exact Nat.div_add_mod q s
          obtain ⟨q1, q2, q3, q4⟩ := hF (q / s) hi
          have c1 := q2 (q % s) hj
          have c2 : ((a.add (q / s * s)).add (q % s)) = a.add q := by
            rw [(hspot (Nat.lt_of_le_of_lt (Nat.zero_le _) hi)).1, Addr.add_lit, Addr.add_lit, Addr.add_lit, Nat.add_assoc, hqe]
          have hlen1 : (F (q / s)).1.length = s := by rw [q3.1, q1]
          have c4 : (F (q / s)).1[q % s]? = some ((F (q / s)).1[q % s]'(by rw [hlen1]; exact hj)) := List.getElem?_eq_getElem _
          have c5 : (F (q / s)).2[q % s]? = some ((F (q / s)).2[q % s]'(by rw [q1]; exact hj)) := List.getElem?_eq_getElem _
          rw [c2, c5] at c1
          have c3 := flat_get (es := (List.range len).map fun i => mkD e (F i).1) (i := q / s) (j := q % s) (e := mkD e (F (q / s)).1) hesl (by rw [List.getElem?_map, List.getElem?_range hi]; rfl) hj
          rw [hqe, mkD_cells q4, c4] at c3
          exact ⟨_, _, c1, c3, q3.2.1 _ (List.getElem_mem _), q3.2.2 (q % s) _ _ c5 c4⟩
        refine ⟨[.sl E' s ((List.range len).map fun i => mkD e (F i).1)], one _ rfl _ ?_, (List.range len).map fun i => (F i).1, ?_, by simpa using hlen47, ?_⟩
        · rcases Nat.eq_zero_or_pos len with h0 | h0
          · subst h0
            exact xH.sl 0 0 (fun _ => undef) (by simp) hl hm (by simp) (fun h => absurd h (Nat.lt_irrefl 0)) (by simp [uV]) (by simp [uV]) (by simp [uV]) (by simp [uV])
          · obtain ⟨ha, hb⟩ := hspot h0
            refine xH.sl a.block a.off (fun q => (w.cell? (a.add q)).getD undef) (by simp) hl hm hesl (fun _ => congrArg some ha) (fun q hq => hb) (fun q hq => ?_) (fun q hq => ?_) (fun q d hd => ?_)
            · obtain ⟨u, d, g1, _, _, _⟩ := hget q (by omega)
              have e1 : a.add q = ⟨a.block, a.off + q, none⟩ := by rw [ha, Addr.add_lit]
              rw [← e1, g1]; rfl
            · obtain ⟨u, d, g1, _, g3, _⟩ := hget q (by omega)
              rw [g1]; exact g3
            · have hq := (List.getElem?_eq_some_iff.1 hd).1
              obtain ⟨u, d', g1, g2, _, g4⟩ := hget q (by omega)
              rw [hd] at g2
              injection g2 with g2
              subst g2
              rw [g1]; exact g4
        · rw [List.map_map]; rfl
        · intro y hy
          rw [List.mem_map] at hy
          obtain ⟨i, hi, rfl⟩ := hy
          exact (hF i (by simpa using hi)).2.2.2
    · cases ht
  | .st fs, t, fuel, cs, x, ht, h, hwt => by
    unfold tyB at ht
    split at ht
    · rename_i fds hu
      simp only [Bool.and_eq_true] at ht
      obtain ⟨h1, h2, h3⟩ := ht
      obtain ⟨xs, n, _, hx, hl, hxl, hf⟩ := DataW.trod_struct hu h
      have hcl : cs.length = 0 + fs.size := by rw [hl, Nat.eq_of_beq_eq_true h1, Nat.zero_add]
      have key := bridgeL (fs := fs) (off := 0) (cs := cs) (l := fds.toList) (n := n) h2 h3 hcl (fun f hfm => by
        obtain ⟨i, hi⟩ := List.getElem?_of_mem hfm
        have := hf i f (by simpa using hi)
        have hlt : i < xs.length := by
          have := (List.getElem?_eq_some_iff.1 hi).1
          simp at this; omega
        rw [List.getElem?_eq_getElem hlt] at this
        refine ⟨_, this, fun m hm => hwt m ?_⟩
        rw [hx]
        simp only [DataW.weights, hu]
        exact DataW.weights_mem_each (j := i) (by rw [List.getElem?_map, hi]; rfl) (by rw [List.getElem?_map, List.getElem?_eq_getElem hlt]; rfl) m hm)
      rw [List.drop_zero] at key
      exact key
    · cases ht
  | .ar k E fs, t, fuel, cs, x, ht, h, hwt => by
    unfold tyB at ht
    split at ht
    · rename_i k' E' hu
      simp only [Bool.and_eq_true] at ht
      obtain ⟨h0, h1, h4, h2, h3⟩ := ht
      obtain rfl : k' = k := Nat.eq_of_beq_eq_true h0
      obtain rfl : E' = E := Nat.eq_of_beq_eq_true h1
      obtain ⟨xs, n, _, hx, hl, hxl, hf⟩ := DataW.trod_array hu h
      have hcl : cs.length = 0 + fs.size := by rw [hl, Nat.eq_of_beq_eq_true h4, Nat.zero_add]
      have key := bridgeL (fs := fs) (off := 0) (cs := cs) (l := arFs E' (P.cellsOf E') k' 0) (n := n) h2 h3 hcl (fun f hfm => by
        obtain ⟨j, hj, ft, fo⟩ := arFs_mem hfm
        have := hf j hj
        have hlt : j < xs.length := by omega
        rw [List.getElem?_eq_getElem hlt] at this
        refine ⟨xs[j], ?_, fun m hm => hwt m ?_⟩
        · rw [ft, fo, Nat.zero_add]; exact this
        · rw [hx]
          simp only [DataW.weights, hu]
          rw [ft] at hm
          exact fE (List.mem_map_of_mem (f := (·.1)) (List.getElem_mem hlt)) hm)
      rw [List.drop_zero] at key
      exact key
    · cases ht
theorem bridgeL : ∀ {fs : TyL} {l : List Field} {off n : Nat} {cs : List Value}, fieldsB l off fs = true → tysB P fs = true → cs.length = off + fs.size → (∀ f ∈ l, ∃ y, DataW.trod enc P w 0 sp held n f.type ((cs.drop f.offset).take (P.cellsOf f.type)) = some y ∧ ∀ m ∈ y.1.weights P f.type, m ≤ reachBytes) →
    ∃ ds, RepC w (cs.drop off) ds ∧ ShL fs ds
  | .nil, l, off, n, cs, h1, h2, h3, h4 => by
    have : cs.drop off = [] := List.drop_eq_nil_of_le (by rw [h3]; exact Nat.le_refl _)
    rw [this]
    exact ⟨[], ⟨rfl, by simp, by simp⟩, rfl⟩
  | .cons t ty r, l, off, n, cs, h1, h2, h3, h4 => by
    cases l with
    | nil => cases h1
    | cons f l =>
      simp only [fieldsB, Bool.and_eq_true] at h1
      obtain ⟨e1, e2, e3⟩ := h1
      simp only [tysB, Bool.and_eq_true] at h2
      obtain ⟨f1, f2, f3⟩ := h2
      have et := Nat.eq_of_beq_eq_true e1
      have eo := Nat.eq_of_beq_eq_true e2
      have ec := Nat.eq_of_beq_eq_true f1
      obtain ⟨y, hy, hyw⟩ := h4 f (by simp)
      rw [et, eo, ec] at hy
      rw [et] at hyw
      obtain ⟨d1, r1, s1⟩ := bridge (ty := ty) f2 hy hyw
      have h3' : cs.length = off + ty.size + r.size := by rw [h3]; show off + (ty.size + r.size) = _; omega
      obtain ⟨d2, r2, s2⟩ := bridgeL (fs := r) (off := off + ty.size) (cs := cs) (l := l) (n := n) e3 f3 h3' (fun g hg => h4 g (by simp [hg]))
      refine ⟨d1 ++ d2, ?_, d1, d2, rfl, s1, s2⟩
      rw [drop_take_split (cs := cs) (off := off) (n := ty.size) (m := r.size) (by omega)]
      exact r1.append r2
end
theorem open_arg {ty : Ty} {t : TypeId} {v : Value} {d : DataW H} {p : List MemPlace} (hty : tyB P t ty = true) (hv : isSt ty = true → ∃ cs, v = .agg cs) (hv1 : isSt ty = false → v.cells = #[v]) (h : DataW.Trod enc P w 0 sp held t v d p) (hwt : ∀ n ∈ d.weights P t, n ≤ reachBytes) :
    ∃ ds, xH w (oldD w) v (mkD ty ds) ∧ Sh ty ds := by
  obtain ⟨fuel, hf⟩ := h
  obtain ⟨ds, hr, hs⟩ := bridge (ty := ty) hty hf hwt
  refine ⟨ds, ?_, hs⟩
  cases hst : isSt ty with
  | true =>
    obtain ⟨cs, rfl⟩ := hv hst
    have e : mkD ty ds = .agg ds := by unfold mkD; rw [hst]; rfl
    rw [e]
    have := xH.agg (w := w) (D := oldD w) (cs := ds) cs.toList hr.1.symm hr.2.1 hr.2.2
    simpa using this
  | false =>
    have hv2 := hv1 hst
    have hc := hr.1
    rw [hv2] at hr
    simp only [Array.toList] at hr
    obtain ⟨h1, h2, h3⟩ := hr
    have hl : ds.length = 1 := by simpa using h1
    obtain ⟨d0, rfl⟩ := List.length_eq_one_iff.1 hl
    have e : mkD ty [d0] = d0 := by unfold mkD; rw [hst]; rfl
    rw [e]
    exact h3 0 v d0 rfl rfl
end
theorem oldD_ok (w : World) : DOk (oldD w) w := fun _ _ _ h => h
end Go.Fid
