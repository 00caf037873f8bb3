/- Part 36 of a proof: rules, plain facts, and functions walked. -/
import Derived.Test.YtbecgnplakngdaaGreatM33
import Derived.Test.YtbecgnplakngdaaGreatM26
import Derived.OpenShut
import Derived.Test.YtbecgnplakngdaaGreatM5
import Derived.ChangeArms
import Derived.SizedLaws
import Derived.ChangeShapes
import Derived.WideShapes
import Derived.RowKit
import Derived.Carry
import Derived.ChangeOld
import Derived.WideKeyElems2
import Derived.Seven
set_option linter.unusedVariables false
set_option linter.unusedSimpArgs false
namespace Go.Fid
theorem xW.den {q : Rat} (h : xW q) : (q.den : Int) = 1 := by
  obtain ⟨z, rfl⟩ := h
  rfl
theorem xW.num {q : Rat} (h : xW q) : ((q.num : Int) : Rat) = q := by
  obtain ⟨z, rfl⟩ := h
  rfl
theorem xW.dot {a b c x y z : Rat} (ha : xW a) (hb : xW b) (hc : xW c) (hx : xW x) (hy : xW y) (hz : xW z) : xW (jM a b c x y z) := by
  unfold jM
  exact ((ha.mul hx).add (hb.mul hy)).add (hc.mul hz)
theorem det3_cast (a b c d e f g h i : Int) : ((gN a b c d e f g h i : Int) : Rat) = cT a b c d e f g h i := by
  unfold gN cT det2Q
  simp only [Rat.intCast_add, Rat.intCast_sub, Rat.intCast_mul]
  grind
theorem det_T (a b c d e f g h i : Rat) : cT a d g b e h c f i = cT a b c d e f g h i := by unfold cT det2Q; grind
theorem det_R (a b c d : Int) : cT (gD a b c d) (gE a b c d) (zJ a b c d) (gK a b c d) (gJ a b c d) (yA a b c d) (gO a b c d) (gP a b c d) (yB a b c d) = N4 a b c d * N4 a b c d * N4 a b c d := by
  obtain ⟨e0, e1, e2, e3, e4, e5, e6, e7, e8, e9⟩ := Rcast a b c d
  rw [e0, e1, e2, e3, e4, e5, e6, e7, e8, e9]
  generalize ((a : Int) : Rat) = p
  generalize ((b : Int) : Rat) = q
  generalize ((c : Int) : Rat) = r
  generalize ((d : Int) : Rat) = s
  unfold cT det2Q
  grind
theorem det_K (u v f : Int) : cT ((1 : Int) : Rat) ((0 : Int) : Rat) ((-u : Int) : Rat) ((0 : Int) : Rat) ((1 : Int) : Rat) ((-v : Int) : Rat) ((0 : Int) : Rat) ((0 : Int) : Rat) ((f : Int) : Rat) = ((f : Int) : Rat) := by
  rw [Rat.intCast_zero, Rat.intCast_one]; unfold cT det2Q; grind
theorem fE {a b : Rat} (ha : a ≠ 0) (hb : b ≠ 0) : a * b ≠ 0 := fun e => by
  rcases Rat.mul_eq_zero.1 e with h | h
  · exact ha h
  · exact hb h
section
variable {lx ly lz la lb lc ld rx ry rz ra rb rc rd ta tb tc td tu tv tf : Int} {b0 b1 b2 e00 e01 e02 e10 e11 e12 e20 e21 e22 x00 x01 x02 x10 x11 x12 x20 x21 x22 a00 a01 a02 a10 a11 a12 a20 a21 a22 : Rat}
theorem det_E (hF : RFr lx ly lz la lb lc ld rx ry rz ra rb rc rd b0 b1 b2 e00 e01 e02 e10 e11 e12 e20 e21 e22) (hup : upV la lb lc ld ra rb rc rd b0 b1 b2 = false) : cT e00 e01 e02 e10 e11 e12 e20 e21 e22 ≠ 0 := by
  have hzt := fr_zt hF hup
  have hk := redK_ne hzt
  have hd := dot3_ne hzt
  obtain ⟨-, -, -, -, -, -, -, -, -, h20, h21, h22⟩ := hF
  rw [← h20, ← h21, ← h22]
  generalize yC ((e01 * e12) - (e02 * e11)) ((e02 * e10) - (e00 * e12)) ((e00 * e11) - (e01 * e10)) = k at *
  have : cT e00 e01 e02 e10 e11 e12 (((e01 * e12) - (e02 * e11)) * k) (((e02 * e10) - (e00 * e12)) * k) (((e00 * e11) - (e01 * e10)) * k) = k * jM ((e01 * e12) - (e02 * e11)) ((e02 * e10) - (e00 * e12)) ((e00 * e11) - (e01 * e10)) ((e01 * e12) - (e02 * e11)) ((e02 * e10) - (e00 * e12)) ((e00 * e11) - (e01 * e10)) := by
    unfold cT det2Q jM; grind
  rw [this]
  exact fE hk hd
theorem hom_det (hF : RFr lx ly lz la lb lc ld rx ry rz ra rb rc rd b0 b1 b2 e00 e01 e02 e10 e11 e12 e20 e21 e22) (hup : upV la lb lc ld ra rb rc rd b0 b1 b2 = false) (hq : gU ta tb tc td = 0) (hf : 1 ≤ tf) (dW : (jM (gD ta tb tc td) (gK ta tb tc td) (gO ta tb tc td) e00 e01 e02) = x00) (dS : (jM (gE ta tb tc td) (gJ ta tb tc td) (gP ta tb tc td) e00 e01 e02) = x01) (dP : (jM (zJ ta tb tc td) (yA ta tb tc td) (yB ta tb tc td) e00 e01 e02) = x02) (dU : (jM (gD ta tb tc td) (gK ta tb tc td) (gO ta tb tc td) e10 e11 e12) = x10) (dT : (jM (gE ta tb tc td) (gJ ta tb tc td) (gP ta tb tc td) e10 e11 e12) = x11) (dR : (jM (zJ ta tb tc td) (yA ta tb tc td) (yB ta tb tc td) e10 e11 e12) = x12) (dQ : (jM (gD ta tb tc td) (gK ta tb tc td) (gO ta tb tc td) e20 e21 e22) = x20) (dN : (jM (gE ta tb tc td) (gJ ta tb tc td) (gP ta tb tc td) e20 e21 e22) = x21) (dV : (jM (zJ ta tb tc td) (yA ta tb tc td) (yB ta tb tc td) e20 e21 e22) = x22) (mB : (jM ((1 : Int) : Rat) ((0 : Int) : Rat) ((0 : Int) : Rat) x00 x01 x02) = a00) (mD : (jM ((0 : Int) : Rat) ((1 : Int) : Rat) ((0 : Int) : Rat) x00 x01 x02) = a01) (mC : (jM ((-tu : Int) : Rat) ((-tv : Int) : Rat) ((tf : Int) : Rat) x00 x01 x02) = a02) (nW : (jM ((1 : Int) : Rat) ((0 : Int) : Rat) ((0 : Int) : Rat) x10 x11 x12) = a10) (mE : (jM ((0 : Int) : Rat) ((1 : Int) : Rat) ((0 : Int) : Rat) x10 x11 x12) = a11) (nY : (jM ((-tu : Int) : Rat) ((-tv : Int) : Rat) ((tf : Int) : Rat) x10 x11 x12) = a12) (nX : (jM ((1 : Int) : Rat) ((0 : Int) : Rat) ((0 : Int) : Rat) x20 x21 x22) = a20) (mA : (jM ((0 : Int) : Rat) ((1 : Int) : Rat) ((0 : Int) : Rat) x20 x21 x22) = a21) (nZ : (jM ((-tu : Int) : Rat) ((-tv : Int) : Rat) ((tf : Int) : Rat) x20 x21 x22) = a22) : cT a00 a01 a02 a10 a11 a12 a20 a21 a22 ≠ 0 := by
  have hx : cT x00 x01 x02 x10 x11 x12 x20 x21 x22 ≠ 0 := by
    rw [← dW, ← dS, ← dP, ← dU, ← dT, ← dR, ← dQ, ← dN, ← dV, det_mul]
    refine fE ?_ ?_
    · rw [det_T]; exact det_E hF hup
    · rw [det_R]
      have hn : N4 ta tb tc td ≠ 0 := fun e => by have := N4_pos hq; rw [e] at this; exact absurd this (by decide)
      exact fE (fE hn hn) hn
  rw [← mB, ← mD, ← mC, ← nW, ← mE, ← nY, ← nX, ← mA, ← nZ, det_mul]
  refine fE ?_ ?_
  · rw [det_T]; exact hx
  · rw [det_K]
    exact fun e => by have := Rat.intCast_eq_zero_iff.1 e; omega
theorem hom_isz (hF : RFr lx ly lz la lb lc ld rx ry rz ra rb rc rd b0 b1 b2 e00 e01 e02 e10 e11 e12 e20 e21 e22) (dW : (jM (gD ta tb tc td) (gK ta tb tc td) (gO ta tb tc td) e00 e01 e02) = x00) (dS : (jM (gE ta tb tc td) (gJ ta tb tc td) (gP ta tb tc td) e00 e01 e02) = x01) (dP : (jM (zJ ta tb tc td) (yA ta tb tc td) (yB ta tb tc td) e00 e01 e02) = x02) (dU : (jM (gD ta tb tc td) (gK ta tb tc td) (gO ta tb tc td) e10 e11 e12) = x10) (dT : (jM (gE ta tb tc td) (gJ ta tb tc td) (gP ta tb tc td) e10 e11 e12) = x11) (dR : (jM (zJ ta tb tc td) (yA ta tb tc td) (yB ta tb tc td) e10 e11 e12) = x12) (dQ : (jM (gD ta tb tc td) (gK ta tb tc td) (gO ta tb tc td) e20 e21 e22) = x20) (dN : (jM (gE ta tb tc td) (gJ ta tb tc td) (gP ta tb tc td) e20 e21 e22) = x21) (dV : (jM (zJ ta tb tc td) (yA ta tb tc td) (yB ta tb tc td) e20 e21 e22) = x22) (mB : (jM ((1 : Int) : Rat) ((0 : Int) : Rat) ((0 : Int) : Rat) x00 x01 x02) = a00) (mD : (jM ((0 : Int) : Rat) ((1 : Int) : Rat) ((0 : Int) : Rat) x00 x01 x02) = a01) (mC : (jM ((-tu : Int) : Rat) ((-tv : Int) : Rat) ((tf : Int) : Rat) x00 x01 x02) = a02) (nW : (jM ((1 : Int) : Rat) ((0 : Int) : Rat) ((0 : Int) : Rat) x10 x11 x12) = a10) (mE : (jM ((0 : Int) : Rat) ((1 : Int) : Rat) ((0 : Int) : Rat) x10 x11 x12) = a11) (nY : (jM ((-tu : Int) : Rat) ((-tv : Int) : Rat) ((tf : Int) : Rat) x10 x11 x12) = a12) (nX : (jM ((1 : Int) : Rat) ((0 : Int) : Rat) ((0 : Int) : Rat) x20 x21 x22) = a20) (mA : (jM ((0 : Int) : Rat) ((1 : Int) : Rat) ((0 : Int) : Rat) x20 x21 x22) = a21) (nZ : (jM ((-tu : Int) : Rat) ((-tv : Int) : Rat) ((tf : Int) : Rat) x20 x21 x22) = a22) : xW a00 ∧ xW a01 ∧ xW a02 ∧ xW a10 ∧ xW a11 ∧ xW a12 ∧ xW a20 ∧ xW a21 ∧ xW a22 := by
  obtain ⟨z00, z01, z02, z10, z11, z12, z20, z21, z22⟩ := fr_isz hF
  have y00 : xW x00 := dW ▸ xW.dot ⟨_, rfl⟩ ⟨_, rfl⟩ ⟨_, rfl⟩ z00 z01 z02
  have y01 : xW x01 := dS ▸ xW.dot ⟨_, rfl⟩ ⟨_, rfl⟩ ⟨_, rfl⟩ z00 z01 z02
  have y02 : xW x02 := dP ▸ xW.dot ⟨_, rfl⟩ ⟨_, rfl⟩ ⟨_, rfl⟩ z00 z01 z02
  have y10 : xW x10 := dU ▸ xW.dot ⟨_, rfl⟩ ⟨_, rfl⟩ ⟨_, rfl⟩ z10 z11 z12
  have y11 : xW x11 := dT ▸ xW.dot ⟨_, rfl⟩ ⟨_, rfl⟩ ⟨_, rfl⟩ z10 z11 z12
  have y12 : xW x12 := dR ▸ xW.dot ⟨_, rfl⟩ ⟨_, rfl⟩ ⟨_, rfl⟩ z10 z11 z12
  have y20 : xW x20 := dQ ▸ xW.dot ⟨_, rfl⟩ ⟨_, rfl⟩ ⟨_, rfl⟩ z20 z21 z22
  have y21 : xW x21 := dN ▸ xW.dot ⟨_, rfl⟩ ⟨_, rfl⟩ ⟨_, rfl⟩ z20 z21 z22
  have y22 : xW x22 := dV ▸ xW.dot ⟨_, rfl⟩ ⟨_, rfl⟩ ⟨_, rfl⟩ z20 z21 z22
  exact ⟨mB ▸ xW.dot (xW.of _) (xW.of _) (xW.of _) y00 y01 y02, mD ▸ xW.dot (xW.of _) (xW.of _) (xW.of _) y00 y01 y02, mC ▸ xW.dot (xW.of _) (xW.of _) (xW.of _) y00 y01 y02, nW ▸ xW.dot (xW.of _) (xW.of _) (xW.of _) y10 y11 y12, mE ▸ xW.dot (xW.of _) (xW.of _) (xW.of _) y10 y11 y12, nY ▸ xW.dot (xW.of _) (xW.of _) (xW.of _) y10 y11 y12, nX ▸ xW.dot (xW.of _) (xW.of _) (xW.of _) y20 y21 y22, mA ▸ xW.dot (xW.of _) (xW.of _) (xW.of _) y20 y21 y22, nZ ▸ xW.dot (xW.of _) (xW.of _) (xW.of _) y20 y21 y22⟩
theorem hom_v {v0 v1 v2 v3 v4 v5 v6 v7 v8 k0 k1 k2 k3 k4 k5 k6 k7 k8 : Int} (hz : xW a00 ∧ xW a01 ∧ xW a02 ∧ xW a10 ∧ xW a11 ∧ xW a12 ∧ xW a20 ∧ xW a21 ∧ xW a22) (hk0 : (1 * (a00.den : Int)) = k0) (hk1 : (k0 * (a01.den : Int)) = k1) (hk2 : (k1 * (a02.den : Int)) = k2) (hk3 : (k2 * (a10.den : Int)) = k3) (hk4 : (k3 * (a11.den : Int)) = k4) (hk5 : (k4 * (a12.den : Int)) = k5) (hk6 : (k5 * (a20.den : Int)) = k6) (hk7 : (k6 * (a21.den : Int)) = k7) (hk8 : (k7 * (a22.den : Int)) = k8) (hv0 : ((k8.fdiv (a00.den : Int)) * a00.num) = v0) (hv1 : ((k8.fdiv (a01.den : Int)) * a01.num) = v1) (hv2 : ((k8.fdiv (a02.den : Int)) * a02.num) = v2) (hv3 : ((k8.fdiv (a10.den : Int)) * a10.num) = v3) (hv4 : ((k8.fdiv (a11.den : Int)) * a11.num) = v4) (hv5 : ((k8.fdiv (a12.den : Int)) * a12.num) = v5) (hv6 : ((k8.fdiv (a20.den : Int)) * a20.num) = v6) (hv7 : ((k8.fdiv (a21.den : Int)) * a21.num) = v7) (hv8 : ((k8.fdiv (a22.den : Int)) * a22.num) = v8) : ((v0 : Int) : Rat) = a00 ∧ ((v1 : Int) : Rat) = a01 ∧ ((v2 : Int) : Rat) = a02 ∧ ((v3 : Int) : Rat) = a10 ∧ ((v4 : Int) : Rat) = a11 ∧ ((v5 : Int) : Rat) = a12 ∧ ((v6 : Int) : Rat) = a20 ∧ ((v7 : Int) : Rat) = a21 ∧ ((v8 : Int) : Rat) = a22 := by
  obtain ⟨z0, z1, z2, z3, z4, z5, z6, z7, z8⟩ := hz
  simp only [z0.den, z1.den, z2.den, z3.den, z4.den, z5.den, z6.den, z7.den, z8.den, Int.mul_one] at *
  subst hk0; subst hk1; subst hk2; subst hk3; subst hk4; subst hk5; subst hk6; subst hk7; subst hk8
  simp only [Int.fdiv_one, Int.one_mul] at *
  subst hv0; subst hv1; subst hv2; subst hv3; subst hv4; subst hv5; subst hv6; subst hv7; subst hv8
  exact ⟨z0.num, z1.num, z2.num, z3.num, z4.num, z5.num, z6.num, z7.num, z8.num⟩
theorem hom_dz {v0 v1 v2 v3 v4 v5 v6 v7 v8 : Int} (he : ((v0 : Int) : Rat) = a00 ∧ ((v1 : Int) : Rat) = a01 ∧ ((v2 : Int) : Rat) = a02 ∧ ((v3 : Int) : Rat) = a10 ∧ ((v4 : Int) : Rat) = a11 ∧ ((v5 : Int) : Rat) = a12 ∧ ((v6 : Int) : Rat) = a20 ∧ ((v7 : Int) : Rat) = a21 ∧ ((v8 : Int) : Rat) = a22) (hd : cT a00 a01 a02 a10 a11 a12 a20 a21 a22 ≠ 0) : gN v0 v1 v2 v3 v4 v5 v6 v7 v8 ≠ 0 := fun e => by
  obtain ⟨h0, h1, h2, h3, h4, h5, h6, h7, h8⟩ := he
  apply hd
  rw [← h0, ← h1, ← h2, ← h3, ← h4, ← h5, ← h6, ← h7, ← h8, ← det3_cast, e, Rat.intCast_zero]
theorem hom_L0 {x y w0 w1 w2 : Rat} (dW : (jM (gD ta tb tc td) (gK ta tb tc td) (gO ta tb tc td) e00 e01 e02) = x00) (dS : (jM (gE ta tb tc td) (gJ ta tb tc td) (gP ta tb tc td) e00 e01 e02) = x01) (dP : (jM (zJ ta tb tc td) (yA ta tb tc td) (yB ta tb tc td) e00 e01 e02) = x02) (mB : (jM ((1 : Int) : Rat) ((0 : Int) : Rat) ((0 : Int) : Rat) x00 x01 x02) = a00) (mD : (jM ((0 : Int) : Rat) ((1 : Int) : Rat) ((0 : Int) : Rat) x00 x01 x02) = a01) (mC : (jM ((-tu : Int) : Rat) ((-tv : Int) : Rat) ((tf : Int) : Rat) x00 x01 x02) = a02) (hw0 : (jM (gD ta tb tc td) (gE ta tb tc td) (zJ ta tb tc td) (x - ((tu : Int) : Rat)) (y - ((tv : Int) : Rat)) ((tf : Int) : Rat)) = w0) (hw1 : (jM (gK ta tb tc td) (gJ ta tb tc td) (yA ta tb tc td) (x - ((tu : Int) : Rat)) (y - ((tv : Int) : Rat)) ((tf : Int) : Rat)) = w1) (hw2 : (jM (gO ta tb tc td) (gP ta tb tc td) (yB ta tb tc td) (x - ((tu : Int) : Rat)) (y - ((tv : Int) : Rat)) ((tf : Int) : Rat)) = w2) : jM a00 a01 a02 x y ((1 : Int) : Rat) = jM e00 e01 e02 w0 w1 w2 := by
  rw [← mB, ← mD, ← mC, lens_v, ← dW, ← dS, ← dP, ← hw0, ← hw1, ← hw2]
  unfold jM
  grind
theorem hom_L1 {x y w0 w1 w2 : Rat} (dU : (jM (gD ta tb tc td) (gK ta tb tc td) (gO ta tb tc td) e10 e11 e12) = x10) (dT : (jM (gE ta tb tc td) (gJ ta tb tc td) (gP ta tb tc td) e10 e11 e12) = x11) (dR : (jM (zJ ta tb tc td) (yA ta tb tc td) (yB ta tb tc td) e10 e11 e12) = x12) (nW : (jM ((1 : Int) : Rat) ((0 : Int) : Rat) ((0 : Int) : Rat) x10 x11 x12) = a10) (mE : (jM ((0 : Int) : Rat) ((1 : Int) : Rat) ((0 : Int) : Rat) x10 x11 x12) = a11) (nY : (jM ((-tu : Int) : Rat) ((-tv : Int) : Rat) ((tf : Int) : Rat) x10 x11 x12) = a12) (hw0 : (jM (gD ta tb tc td) (gE ta tb tc td) (zJ ta tb tc td) (x - ((tu : Int) : Rat)) (y - ((tv : Int) : Rat)) ((tf : Int) : Rat)) = w0) (hw1 : (jM (gK ta tb tc td) (gJ ta tb tc td) (yA ta tb tc td) (x - ((tu : Int) : Rat)) (y - ((tv : Int) : Rat)) ((tf : Int) : Rat)) = w1) (hw2 : (jM (gO ta tb tc td) (gP ta tb tc td) (yB ta tb tc td) (x - ((tu : Int) : Rat)) (y - ((tv : Int) : Rat)) ((tf : Int) : Rat)) = w2) : jM a10 a11 a12 x y ((1 : Int) : Rat) = jM e10 e11 e12 w0 w1 w2 := by
  rw [← nW, ← mE, ← nY, lens_v, ← dU, ← dT, ← dR, ← hw0, ← hw1, ← hw2]
  unfold jM
  grind
theorem hom_L2 {x y w0 w1 w2 : Rat} (dQ : (jM (gD ta tb tc td) (gK ta tb tc td) (gO ta tb tc td) e20 e21 e22) = x20) (dN : (jM (gE ta tb tc td) (gJ ta tb tc td) (gP ta tb tc td) e20 e21 e22) = x21) (dV : (jM (zJ ta tb tc td) (yA ta tb tc td) (yB ta tb tc td) e20 e21 e22) = x22) (nX : (jM ((1 : Int) : Rat) ((0 : Int) : Rat) ((0 : Int) : Rat) x20 x21 x22) = a20) (mA : (jM ((0 : Int) : Rat) ((1 : Int) : Rat) ((0 : Int) : Rat) x20 x21 x22) = a21) (nZ : (jM ((-tu : Int) : Rat) ((-tv : Int) : Rat) ((tf : Int) : Rat) x20 x21 x22) = a22) (hw0 : (jM (gD ta tb tc td) (gE ta tb tc td) (zJ ta tb tc td) (x - ((tu : Int) : Rat)) (y - ((tv : Int) : Rat)) ((tf : Int) : Rat)) = w0) (hw1 : (jM (gK ta tb tc td) (gJ ta tb tc td) (yA ta tb tc td) (x - ((tu : Int) : Rat)) (y - ((tv : Int) : Rat)) ((tf : Int) : Rat)) = w1) (hw2 : (jM (gO ta tb tc td) (gP ta tb tc td) (yB ta tb tc td) (x - ((tu : Int) : Rat)) (y - ((tv : Int) : Rat)) ((tf : Int) : Rat)) = w2) : jM a20 a21 a22 x y ((1 : Int) : Rat) = jM e20 e21 e22 w0 w1 w2 := by
  rw [← nX, ← mA, ← nZ, lens_v, ← dQ, ← dN, ← dV, ← hw0, ← hw1, ← hw2]
  unfold jM
  grind
end
theorem den_neQ (q : Rat) : ((q.den : Int) : Rat) ≠ 0 := fun e => gY q (Rat.intCast_eq_zero_iff.1 e)
theorem num_q (q : Rat) : ((q.num : Int) : Rat) = q * ((q.den : Int) : Rat) := by
  have h := Rat.num_divInt_den q
  rw [Rat.divInt_eq_div] at h
  have hd := den_neQ q
  have e : ((q.num : Int) : Rat) / ((q.den : Int) : Rat) * ((q.den : Int) : Rat) = ((q.num : Int) : Rat) := by
    rw [Rat.div_def, Rat.mul_assoc, Rat.inv_mul_cancel _ hd, Rat.mul_one]
  rw [← e, h]
theorem hom_img {v0 v1 v2 v3 v4 v5 v6 v7 v8 c0 c1 c2 c3 c4 c5 c6 c7 c8 p0 p1 p2 t0 t1 t2 : Int} {x y L0 L1 L2 a00 a01 a02 a10 a11 a12 a20 a21 a22 : Rat} (he : ((v0 : Int) : Rat) = a00 ∧ ((v1 : Int) : Rat) = a01 ∧ ((v2 : Int) : Rat) = a02 ∧ ((v3 : Int) : Rat) = a10 ∧ ((v4 : Int) : Rat) = a11 ∧ ((v5 : Int) : Rat) = a12 ∧ ((v6 : Int) : Rat) = a20 ∧ ((v7 : Int) : Rat) = a21 ∧ ((v8 : Int) : Rat) = a22) (hdv : gN v0 v1 v2 v3 v4 v5 v6 v7 v8 ≠ 0)
    (hc : xB [v0, v1, v2, v3, v4, v5, v6, v7, v8] = [c0, c1, c2, c3, c4, c5, c6, c7, c8]) (hp : xB [x.num * (y.den : Int), y.num * (x.den : Int), (x.den : Int) * (y.den : Int)] = [p0, p1, p2])
    (ht : xB [((c0 * p0) + (c1 * p1)) + (c2 * p2), ((c3 * p0) + (c4 * p1)) + (c5 * p2), ((c6 * p0) + (c7 * p1)) + (c8 * p2)] = [t0, t1, t2])
    (h0 : jM a00 a01 a02 x y ((1 : Int) : Rat) = L0) (h1 : jM a10 a11 a12 x y ((1 : Int) : Rat) = L1) (h2 : jM a20 a21 a22 x y ((1 : Int) : Rat) = L2) (hL : L2 ≠ 0) :
    vK [((c0 * p0) + (c1 * p1)) + (c2 * p2), ((c3 * p0) + (c4 * p1)) + (c5 * p2), ((c6 * p0) + (c7 * p1)) + (c8 * p2)] ≠ 0 ∧ t2 ≠ 0 ∧ Rat.divInt t0 t2 = L0 / L2 ∧ Rat.divInt t1 t2 = L1 / L2 := by
  obtain ⟨d, hd, ⟨d0, d1, d2, d3, d4, d5, d6, d7, d8⟩, hcd, -⟩ := red9 hdv hc
  have hpz := point_nz x y
  obtain ⟨m, hm, m0, m1, m2, hps, -⟩ := red3_back hpz hp
  have htz := app_nz hcd hps
  obtain ⟨n, hn, n0, n1, n2, -, -⟩ := red3_back htz ht
  have hx : ((x.num : Int) : Rat) = x * ((x.den : Int) : Rat) := num_q x
  have hy : ((y.num : Int) : Rat) = y * ((y.den : Int) : Rat) := num_q y
  have hdx := den_neQ x
  have hdy := den_neQ y
  have hdq : ((d : Int) : Rat) ≠ 0 := fun e => hd (Rat.intCast_eq_zero_iff.1 e)
  have hmq : ((m : Int) : Rat) ≠ 0 := fun e => hm (Rat.intCast_eq_zero_iff.1 e)
  have hnq : ((n : Int) : Rat) ≠ 0 := fun e => hn (Rat.intCast_eq_zero_iff.1 e)
  obtain ⟨q0, q1, q2, q3, q4, q5, q6, q7, q8⟩ := he
  have M0 : ((m : Int) : Rat) * ((p0 : Int) : Rat) = x * (((x.den : Int) : Rat) * ((y.den : Int) : Rat)) := by rw [← Rat.intCast_mul, ← m0, Rat.intCast_mul, hx]; grind
  have M1 : ((m : Int) : Rat) * ((p1 : Int) : Rat) = y * (((x.den : Int) : Rat) * ((y.den : Int) : Rat)) := by rw [← Rat.intCast_mul, ← m1, Rat.intCast_mul, hy]; grind
  have M2 : ((m : Int) : Rat) * ((p2 : Int) : Rat) = (((x.den : Int) : Rat) * ((y.den : Int) : Rat)) := by rw [← Rat.intCast_mul, ← m2, Rat.intCast_mul]
  have hD : (((x.den : Int) : Rat) * ((y.den : Int) : Rat)) ≠ 0 := fE hdx hdy
  generalize (((x.den : Int) : Rat) * ((y.den : Int) : Rat)) = D at *
  have key : ∀ {c c' c'' v v' v'' t : Int} {a a' a'' L : Rat}, d * c = v → d * c' = v' → d * c'' = v'' → ((v : Int) : Rat) = a → ((v' : Int) : Rat) = a' → ((v'' : Int) : Rat) = a'' → ((c * p0) + (c' * p1)) + (c'' * p2) = n * t → jM a a' a'' x y ((1 : Int) : Rat) = L →
      ((d : Int) : Rat) * ((m : Int) : Rat) * ((n : Int) : Rat) * ((t : Int) : Rat) = D * L := by
    intro c c' c'' v v' v'' t a a' a'' L e1 e2 e3 f1 f2 f3 g1 g2
    subst e1 e2 e3 f1 f2 f3 g2
    have g3 : ((((c * p0) + (c' * p1)) + (c'' * p2) : Int) : Rat) = ((n * t : Int) : Rat) := congrArg _ g1
    simp only [Rat.intCast_add, Rat.intCast_mul] at g3 ⊢
    unfold jM
    rw [Rat.intCast_one]
    grind
  have k0 := key d0 d1 d2 q0 q1 q2 n0 h0
  have k1 := key d3 d4 d5 q3 q4 q5 n1 h1
  have k2 := key d6 d7 d8 q6 q7 q8 n2 h2
  have hK : ((d : Int) : Rat) * ((m : Int) : Rat) * ((n : Int) : Rat) ≠ 0 := fE (fE hdq hmq) hnq
  generalize ((d : Int) : Rat) * ((m : Int) : Rat) * ((n : Int) : Rat) = K at *
  have ht2 : t2 ≠ 0 := fun e => by
    rw [e, Rat.intCast_zero, Rat.mul_zero] at k2
    exact fE hD hL k2.symm
  have ht2q : ((t2 : Int) : Rat) ≠ 0 := fun e => ht2 (Rat.intCast_eq_zero_iff.1 e)
  refine ⟨htz, ht2, ?_, ?_⟩
  · rw [Rat.divInt_eq_div]
    grind
  · rw [Rat.divInt_eq_div]
    grind
end Go.Fid
namespace Go.Fid
set_option linter.unusedVariables false
set_option linter.unusedSimpArgs false
open Go.RowKit (Below)
mutual
inductive Ty where
  | int (k : IntKind)
  | bool
  | sl (E : TypeId) (s : Nat) (e : Ty)
  | st (fs : TyL)
  | ar (n : Nat) (E : TypeId) (fs : TyL)
inductive TyL where
  | nil
  | cons (t : TypeId) (ty : Ty) (r : TyL)
end
mutual
def Ty.size : Ty → Nat
  | .int _ => 1
  | .bool => 1
  | .sl _ _ _ => 1
  | .st fs => fs.size
  | .ar _ _ fs => fs.size
def TyL.size : TyL → Nat
  | .nil => 0
  | .cons _ ty r => ty.size + r.size
end
def fieldsB : List Field → Nat → TyL → Bool
  | [], _, .nil => true
  | f :: l, off, .cons t ty r => Nat.beq f.type t && (Nat.beq f.offset off && fieldsB l (off + ty.size) r)
  | _, _, _ => false
def arFs (E : TypeId) (z : Nat) : Nat → Nat → List Field
  | 0, _ => []
  | n + 1, i => { name := "", type := E, offset := i * z, embedded := false, tag := "", pkgPath := "", byteOffset := 0 } :: arFs E z n (i + 1)
theorem arFs_mem {E : TypeId} {z : Nat} : ∀ {n i : Nat} {f : Field}, f ∈ arFs E z n i → ∃ j, j < n ∧ f.type = E ∧ f.offset = (i + j) * z
  | 0, _, _, h => by cases h
  | n + 1, i, f, h => by
    rcases List.mem_cons.1 h with e | h
    · exact ⟨0, by omega, by rw [e], by rw [e]; rfl⟩
    · obtain ⟨j, h1, h2, h3⟩ := arFs_mem h
      exact ⟨j + 1, by omega, h2, by rw [h3]; congr 1; omega⟩
mutual
def tyB (P : Program) : TypeId → Ty → Bool
  | t, .int k => match P.underlying t with
    | some (.int k') => decide (k' = k)
    | _ => false
  | t, .bool => match P.underlying t with
    | some .bool => true
    | _ => false
  | t, .sl E s e => match P.underlying t with
    | some (.slice E') => Nat.beq E' E && (Nat.beq (P.cellsOf E) s && (Nat.beq e.size s && (Nat.ble 1 s && (Nat.ble 1 (P.bytesOf E) && tyB P E e))))
    | _ => false
  | t, .st fs => match P.underlying t with
    | some (.struct fds) => Nat.beq (P.cellsOf t) fs.size && (fieldsB fds.toList 0 fs && tysB P fs)
    | _ => false
  | t, .ar n E fs => match P.underlying t with
    | some (.array n' E') => Nat.beq n' n && (Nat.beq E' E && (Nat.beq (P.cellsOf t) fs.size && (fieldsB (arFs E (P.cellsOf E) n 0) 0 fs && tysB P fs)))
    | _ => false
def tysB (P : Program) : TyL → Bool
  | .nil => true
  | .cons t ty r => Nat.beq (P.cellsOf t) ty.size && (tyB P t ty && tysB P r)
end
def isSt : Ty → Bool
  | .st _ => true
  | .ar _ _ _ => true
  | _ => false
def mkD (ty : Ty) (ds : List qF) : qF := bif isSt ty then .agg ds else ds.headD (.tup [])
mutual
def Sh : Ty → List qF → Prop
  | .int k, ds => ∃ z, ds = [.val (.int k z)] ∧ (Lit.int k z).wf = true
  | .bool, ds => ∃ b, ds = [.val (.bool b)]
  | .sl E s e, ds => ∃ es : List (List qF), ds = [.sl E s (es.map (mkD e))] ∧ es.length ≤ 140737488355328 ∧ ∀ x ∈ es, Sh e x
  | .st fs, ds => ShL fs ds
  | .ar _ _ fs, ds => ShL fs ds
def ShL : TyL → List qF → Prop
  | .nil, ds => ds = []
  | .cons _ ty r, ds => ∃ a b, ds = a ++ b ∧ Sh ty a ∧ ShL r b
end
mutual
theorem Sh.len : ∀ {ty : Ty} {ds : List qF}, Sh ty ds → ds.length = ty.size
  | .int k, ds, h => by obtain ⟨z, rfl, _⟩ := h; rfl
  | .bool, ds, h => by obtain ⟨b, rfl⟩ := h; rfl
  | .sl E s e, ds, h => by obtain ⟨es, rfl, _⟩ := h; rfl
  | .st fs, ds, h => ShL.len (h : ShL fs ds)
  | .ar _ _ fs, ds, h => ShL.len (h : ShL fs ds)
theorem ShL.len : ∀ {fs : TyL} {ds : List qF}, ShL fs ds → ds.length = fs.size
  | .nil, ds, h => by have h : ds = [] := h; subst h; rfl
  | .cons t ty r, ds, h => by
    obtain ⟨a, b, rfl, h1, h2⟩ := h
    rw [List.length_append, Sh.len h1, ShL.len h2]; rfl
end
theorem mkD_cells {ty : Ty} {ds : List qF} (h : Sh ty ds) : (mkD ty ds).cells = ds := by
  cases ty with
  | int k => obtain ⟨z, rfl, _⟩ := h; rfl
  | bool => obtain ⟨b, rfl⟩ := h; rfl
  | sl E s e => obtain ⟨es, rfl, _⟩ := h; rfl
  | st fs => rfl
  | ar n E fs => rfl
def oldD (w : World) : uW := fun _ g _ => g < w.heap.size
def RepC (w : World) (cs : List Value) (ds : List qF) : Prop := ds.length = cs.length ∧ (∀ v ∈ cs, v.oneCell' = true) ∧ ∀ (i : Nat) v d, cs[i]? = some v → ds[i]? = some d → xK w (oldD w) v d
theorem RepC.append {w : World} {cs1 cs2 : List Value} {d1 d2 : List qF} (h1 : RepC w cs1 d1) (h2 : RepC w cs2 d2) : RepC w (cs1 ++ cs2) (d1 ++ d2) := by
  refine ⟨by rw [List.length_append, List.length_append, h1.1, h2.1], fun v hv => ?_, fun i v d hv hd => ?_⟩
  · rcases List.mem_append.1 hv with h | h
    · exact h1.2.1 v h
    · exact h2.2.1 v h
  · by_cases hi : i < cs1.length
    · rw [List.getElem?_append_left hi] at hv
      rw [List.getElem?_append_left (by rw [h1.1]; exact hi)] at hd
      exact h1.2.2 i v d hv hd
    · rw [List.getElem?_append_right (by omega)] at hv
      rw [List.getElem?_append_right (by rw [h1.1]; omega), h1.1] at hd
      exact h2.2.2 _ v d hv hd
section
variable {H : Type} {enc : TypeId × Value → H} {P : Program} {w : World} {sp : Nat → Bool} {held : Bool}
theorem fZ {e : TypeId} : ∀ {l : List (DataW H)} {d : DataW H}, d ∈ l → ∀ {n : Nat}, n ∈ d.weights P e → n ∈ DataW.weightsAll P e l
  | [], _, h, _, _ => by cases h
  | x :: l, d, h, n, hn => by
    simp only [DataW.weightsAll]
    rcases List.mem_cons.1 h with rfl | h
    · exact List.mem_append_left _ hn
    · exact List.mem_append_right _ (fZ h hn)
theorem cells_get {a : Addr} {n : Nat} {cs : List Value} (h : w.cells? 0 a n = some cs) : cs.length = n ∧ ∀ i, i < n → w.cell? (a.add i) = cs[i]? := by
  unfold World.cells? at h
  rw [if_pos (Nat.zero_le _)] at h
  refine ⟨by simpa using mapM_some_length h, fun i hi => ?_⟩
  have := mapM_some_get h i i (by simp [hi])
  exact this
theorem drop_take_split {α : Type} {cs : List α} {off n m : Nat} (h : cs.length = off + (n + m)) : cs.drop off = (cs.drop off).take n ++ cs.drop (off + n) := by
  rw [← List.drop_drop, List.take_append_drop]
mutual
theorem bridge : ∀ {ty : Ty} {t : TypeId} {fuel : Nat} {cs : List Value} {x : DataW H × List MemPlace}, tyB P t ty = true → DataW.trod enc P w 0 sp held fuel t cs = some x → (∀ n ∈ x.1.weights P t, n ≤ reachBytes) → ∃ ds, RepC w cs ds ∧ Sh ty ds
  | .int k, t, fuel, cs, x, ht, h, _ => by
    unfold tyB at ht
    split at ht
    · rename_i k' hu
      obtain rfl : k' = k := of_decide_eq_true ht
      obtain ⟨n, rfl, _, hw⟩ := DataW.trod_int hu h
      refine ⟨[.val (.int k' n)], ⟨rfl, by simp [Value.oneCell'], fun i v d hv hd => ?_⟩, n, rfl, hw⟩
      rcases i with _ | i
      · simp at hv hd; subst hv; subst hd; exact .val _
      · simp at hv
    · cases ht
  | .bool, t, fuel, cs, x, ht, h, _ => by
    unfold tyB at ht
    split at ht
    · rename_i hu
      obtain ⟨b, rfl, _⟩ := DataW.trod_bool hu h
      refine ⟨[.val (.bool b)], ⟨rfl, by simp [Value.oneCell'], fun i v d hv hd => ?_⟩, b, rfl⟩
      rcases i with _ | i
      · simp at hv hd; subst hv; subst hd; exact .val _
      · simp at hv
    · cases ht
  | .sl E s e, t, fuel, cs, x, ht, h, hwt => by
    unfold tyB at ht
    split at ht
    · rename_i E' hu
      simp only [Bool.and_eq_true] at ht
      obtain ⟨h1, h2, h3, h4, h6, h5⟩ := ht
      obtain rfl : E' = E := Nat.eq_of_beq_eq_true h1
      have hs : P.cellsOf E' = s := Nat.eq_of_beq_eq_true h2
      have hes : e.size = s := Nat.eq_of_beq_eq_true h3
      have hs1 : 1 ≤ s := Nat.le_of_ble_eq_true h4
      have one : ∀ v : Value, v.oneCell' = true → ∀ d, xK w (oldD w) v d → RepC w [v] [d] := fun v h1 d h2 => ⟨rfl, by simpa using h1, fun i v' d' hv hd => by
        rcases i with _ | i
        · simp at hv hd; subst hv; subst hd; exact h2
        · simp at hv⟩
      rcases DataW.trod_slice hu h with ⟨rfl, _⟩ | ⟨a, len, cap, elems, zG, n, _, rfl, hx, _, hl, hm, vD, hel, _⟩
      · exact ⟨[.sl E' s []], one _ rfl _ (iK w _ E' s), [], rfl, Nat.zero_le _, by simp⟩
      · have hws : ∀ n ∈ (elems.length + zG.length) * P.bytesOf E' :: (DataW.weightsAll P E' (elems.map (·.1)) ++ DataW.weightsAll P E' (zG.map (·.1))), n ≤ reachBytes := by
          intro n hn
          refine hwt n ?_
          rw [hx]
          simp only [DataW.weights, hu, List.length_map]
          exact hn
        have hlen47 : len ≤ 140737488355328 := by
          have h7 := hws _ (List.mem_cons_self)
          have h8 : 1 ≤ P.bytesOf E' := Nat.le_of_ble_eq_true h6
          have h9 := Nat.mul_le_mul_left (elems.length + zG.length) h8
          have h10 := reachBytes_lt
          omega
        have each : ∀ i, ∃ d : List qF × List Value, i < len → (d.2.length = s ∧ (∀ j, j < s → w.cell? ((a.add (i * s)).add j) = d.2[j]?) ∧ RepC w d.2 d.1 ∧ Sh e d.1) := by
          intro i
          by_cases hi : i < len
          · have he := hel i hi
            rw [List.getElem?_eq_getElem (by omega), hs] at he
            cases hc : w.cells? 0 (a.add (i * s)) s with
            | none => rw [hc] at he; cases he
            | some ci =>
              rw [hc] at he
              obtain ⟨g1, g2⟩ := cells_get hc
              have hmem : elems[i] ∈ elems := List.getElem_mem _
              obtain ⟨ds, r1, r2⟩ := bridge (ty := e) h5 he (fun n hn => hws n (by
                refine List.mem_cons_of_mem _ (List.mem_append_left _ ?_)
                exact fZ (List.mem_map_of_mem (f := (·.1)) hmem) hn))
              exact ⟨(ds, ci), fun _ => ⟨g1, g2, r1, r2⟩⟩
          · exact ⟨([], []), fun h => absurd h hi⟩
        obtain ⟨F, hF⟩ := Classical.axiomOfChoice each
        have hspot : 0 < len → a = ⟨a.block, a.off, none⟩ ∧ a.block < w.heap.size := by
          intro h0
          obtain ⟨q1, q2, _, _⟩ := hF 0 h0
          have q3 := q2 0 (by omega)
          rw [List.getElem?_eq_getElem (by omega)] at q3
          obtain ⟨b, o, sp'⟩ := a
          cases sp' with
          | none =>
            refine ⟨rfl, ?_⟩
            unfold World.cell? at q3
            split at q3
            · rename_i c _ _ hh
              simpa [Addr.add] using (Array.getElem?_eq_some_iff.1 hh).1
            · cases q3
          | some z =>
            exfalso
            unfold World.cell? at q3
            split at q3
            · simp [Addr.add] at q3
            · cases q3
        have hesl : ∀ d ∈ ((List.range len).map fun i => mkD e (F i).1), d.cells.length = s := by
          intro d hd
          rw [List.mem_map] at hd
          obtain ⟨i, hi, rfl⟩ := hd
          obtain ⟨q1, q2, q3, q4⟩ := hF i (by simpa using hi)
          rw [mkD_cells q4, Sh.len q4, hes]
        have hfl := xL hesl
        rw [List.length_map, List.length_range] at hfl
        have hget : ∀ q, q < len * s → ∃ u d, w.cell? (a.add q) = some u ∧ (uU ((List.range len).map fun i => mkD e (F i).1))[q]? = some d ∧ u.oneCell' = true ∧ xK w (oldD w) u d := by
          intro q hq
          have hi : q / s < len := (Nat.div_lt_iff_lt_mul (by omega)).2 hq
          have hj : q % s < s := Nat.mod_lt _ (by omega)
          have hqe : q / s * s + q % s = q := by rw [Nat.mul_comm]; exact Nat.div_add_mod q s
          obtain ⟨q1, q2, q3, q4⟩ := hF (q / s) hi
          have c1 := q2 (q % s) hj
          have c2 : ((a.add (q / s * s)).add (q % s)) = a.add q := by
            rw [(hspot (Nat.lt_of_le_of_lt (Nat.zero_le _) hi)).1, Addr.add_lit, Addr.add_lit, Addr.add_lit, Nat.add_assoc, hqe]
          have hlen1 : (F (q / s)).1.length = s := by rw [q3.1, q1]
          have c4 : (F (q / s)).1[q % s]? = some ((F (q / s)).1[q % s]'(by rw [hlen1]; exact hj)) := List.getElem?_eq_getElem _
          have c5 : (F (q / s)).2[q % s]? = some ((F (q / s)).2[q % s]'(by rw [q1]; exact hj)) := List.getElem?_eq_getElem _
          rw [c2, c5] at c1
          have c3 := flat_get (es := (List.range len).map fun i => mkD e (F i).1) (i := q / s) (j := q % s) (e := mkD e (F (q / s)).1) hesl (by rw [List.getElem?_map, List.getElem?_range hi]; rfl) hj
          rw [hqe, mkD_cells q4, c4] at c3
          exact ⟨_, _, c1, c3, q3.2.1 _ (List.getElem_mem _), q3.2.2 (q % s) _ _ c5 c4⟩
        refine ⟨[.sl E' s ((List.range len).map fun i => mkD e (F i).1)], one _ rfl _ ?_, (List.range len).map fun i => (F i).1, ?_, by simpa using hlen47, ?_⟩
        · rcases Nat.eq_zero_or_pos len with h0 | h0
          · subst h0
            exact xK.sl 0 0 (fun _ => undef) (by simp) hl hm (by simp) (fun h => absurd h (Nat.lt_irrefl 0)) (by simp [uU]) (by simp [uU]) (by simp [uU]) (by simp [uU])
          · obtain ⟨ha, hb⟩ := hspot h0
            refine xK.sl a.block a.off (fun q => (w.cell? (a.add q)).getD undef) (by simp) hl hm hesl (fun _ => congrArg some ha) (fun q hq => hb) (fun q hq => ?_) (fun q hq => ?_) (fun q d hd => ?_)
            · obtain ⟨u, d, g1, _, _, _⟩ := hget q (by omega)
              have e1 : a.add q = ⟨a.block, a.off + q, none⟩ := by rw [ha, Addr.add_lit]
              rw [← e1, g1]; rfl
            · obtain ⟨u, d, g1, _, g3, _⟩ := hget q (by omega)
              rw [g1]; exact g3
            · have hq := (List.getElem?_eq_some_iff.1 hd).1
              obtain ⟨u, d', g1, g2, _, g4⟩ := hget q (by omega)
              rw [hd] at g2
              injection g2 with g2
              subst g2
              rw [g1]; exact g4
        · rw [List.map_map]; rfl
        · intro y hy
          rw [List.mem_map] at hy
          obtain ⟨i, hi, rfl⟩ := hy
          exact (hF i (by simpa using hi)).2.2.2
    · cases ht
  | .st fs, t, fuel, cs, x, ht, h, hwt => by
    unfold tyB at ht
    split at ht
    · rename_i fds hu
      simp only [Bool.and_eq_true] at ht
      obtain ⟨h1, h2, h3⟩ := ht
      obtain ⟨xs, n, _, hx, hl, hxl, hf⟩ := DataW.trod_struct hu h
      have hcl : cs.length = 0 + fs.size := by rw [hl, Nat.eq_of_beq_eq_true h1, Nat.zero_add]
      have key := bridgeL (fs := fs) (off := 0) (cs := cs) (l := fds.toList) (n := n) h2 h3 hcl (fun f hfm => by
        obtain ⟨i, hi⟩ := List.getElem?_of_mem hfm
        have := hf i f (by simpa using hi)
        have hlt : i < xs.length := by
          have := (List.getElem?_eq_some_iff.1 hi).1
          simp at this; omega
        rw [List.getElem?_eq_getElem hlt] at this
        refine ⟨_, this, fun m hm => hwt m ?_⟩
        rw [hx]
        simp only [DataW.weights, hu]
        exact DataW.weights_mem_each (j := i) (by rw [List.getElem?_map, hi]; rfl) (by rw [List.getElem?_map, List.getElem?_eq_getElem hlt]; rfl) m hm)
      rw [List.drop_zero] at key
      exact key
    · cases ht
  | .ar k E fs, t, fuel, cs, x, ht, h, hwt => by
    unfold tyB at ht
    split at ht
    · rename_i k' E' hu
      simp only [Bool.and_eq_true] at ht
      obtain ⟨h0, h1, h4, h2, h3⟩ := ht
      obtain rfl : k' = k := Nat.eq_of_beq_eq_true h0
      obtain rfl : E' = E := Nat.eq_of_beq_eq_true h1
      obtain ⟨xs, n, _, hx, hl, hxl, hf⟩ := DataW.trod_array hu h
      have hcl : cs.length = 0 + fs.size := by rw [hl, Nat.eq_of_beq_eq_true h4, Nat.zero_add]
      have key := bridgeL (fs := fs) (off := 0) (cs := cs) (l := arFs E' (P.cellsOf E') k' 0) (n := n) h2 h3 hcl (fun f hfm => by
        obtain ⟨j, hj, ft, fo⟩ := arFs_mem hfm
        have := hf j hj
        have hlt : j < xs.length := by omega
        rw [List.getElem?_eq_getElem hlt] at this
        refine ⟨xs[j], ?_, fun m hm => hwt m ?_⟩
        · rw [ft, fo, Nat.zero_add]; exact this
        · rw [hx]
          simp only [DataW.weights, hu]
          rw [ft] at hm
          exact fZ (List.mem_map_of_mem (f := (·.1)) (List.getElem_mem hlt)) hm)
      rw [List.drop_zero] at key
      exact key
    · cases ht
theorem bridgeL : ∀ {fs : TyL} {l : List Field} {off n : Nat} {cs : List Value}, fieldsB l off fs = true → tysB P fs = true → cs.length = off + fs.size → (∀ f ∈ l, ∃ y, DataW.trod enc P w 0 sp held n f.type ((cs.drop f.offset).take (P.cellsOf f.type)) = some y ∧ ∀ m ∈ y.1.weights P f.type, m ≤ reachBytes) →
    ∃ ds, RepC w (cs.drop off) ds ∧ ShL fs ds
  | .nil, l, off, n, cs, h1, h2, h3, h4 => by
    have : cs.drop off = [] := List.drop_eq_nil_of_le (by rw [h3]; exact Nat.le_refl _)
    rw [this]
    exact ⟨[], ⟨rfl, by simp, by simp⟩, rfl⟩
  | .cons t ty r, l, off, n, cs, h1, h2, h3, h4 => by
    cases l with
    | nil => cases h1
    | cons f l =>
      simp only [fieldsB, Bool.and_eq_true] at h1
      obtain ⟨e1, e2, e3⟩ := h1
      simp only [tysB, Bool.and_eq_true] at h2
      obtain ⟨f1, f2, f3⟩ := h2
      have et := Nat.eq_of_beq_eq_true e1
      have eo := Nat.eq_of_beq_eq_true e2
      have ec := Nat.eq_of_beq_eq_true f1
      obtain ⟨y, hy, hyw⟩ := h4 f (by simp)
      rw [et, eo, ec] at hy
      rw [et] at hyw
      obtain ⟨d1, r1, s1⟩ := bridge (ty := ty) f2 hy hyw
      have h3' : cs.length = off + ty.size + r.size := by rw [h3]; show off + (ty.size + r.size) = _; omega
      obtain ⟨d2, r2, s2⟩ := bridgeL (fs := r) (off := off + ty.size) (cs := cs) (l := l) (n := n) e3 f3 h3' (fun g hg => h4 g (by simp [hg]))
      refine ⟨d1 ++ d2, ?_, d1, d2, rfl, s1, s2⟩
      rw [drop_take_split (cs := cs) (off := off) (n := ty.size) (m := r.size) (by omega)]
      exact r1.append r2
end
theorem open_arg {ty : Ty} {t : TypeId} {v : Value} {d : DataW H} {p : List MemPlace} (hty : tyB P t ty = true) (hv : isSt ty = true → ∃ cs, v = .agg cs) (hv1 : isSt ty = false → v.cells = #[v]) (h : DataW.Trod enc P w 0 sp held t v d p) (hwt : ∀ n ∈ d.weights P t, n ≤ reachBytes) :
    ∃ ds, xK w (oldD w) v (mkD ty ds) ∧ Sh ty ds := by
  obtain ⟨fuel, hf⟩ := h
  obtain ⟨ds, hr, hs⟩ := bridge (ty := ty) hty hf hwt
  refine ⟨ds, ?_, hs⟩
  cases hst : isSt ty with
  | true =>
    obtain ⟨cs, rfl⟩ := hv hst
    have e : mkD ty ds = .agg ds := by unfold mkD; rw [hst]; rfl
    rw [e]
    have := xK.agg (w := w) (D := oldD w) (cs := ds) cs.toList hr.1.symm hr.2.1 hr.2.2
    simpa using this
  | false =>
    have hv2 := hv1 hst
    have hc := hr.1
    rw [hv2] at hr
    simp only [Array.toList] at hr
    obtain ⟨h1, h2, h3⟩ := hr
    have hl : ds.length = 1 := by simpa using h1
    obtain ⟨d0, rfl⟩ := List.length_eq_one_iff.1 hl
    have e : mkD ty [d0] = d0 := by unfold mkD; rw [hst]; rfl
    rw [e]
    exact h3 0 v d0 rfl rfl
end
theorem oldD_ok (w : World) : DOk (oldD w) w := fun _ _ _ h => h
end Go.Fid
namespace Go.Fid
open Go.RowKit (Below)
open Go.ChangeShapes Go.WideShapes Go.RowKit
inductive ShAll : List Ty → List (List qF) → Prop
  | nil : ShAll [] []
  | cons {ty : Ty} {tys : List Ty} {ds : List qF} {dss : List (List qF)} (h : Sh ty ds) (r : ShAll tys dss) : ShAll (ty :: tys) (ds :: dss)
def mkAll : List Ty → List (List qF) → List qF
  | ty :: tys, ds :: dss => mkD ty ds :: mkAll tys dss
  | _, _ => []
def formsB (P : Program) : List TypeId → List Ty → Bool
  | [], [] => true
  | t :: ts, ty :: tys => tyB P t ty && formsB P ts tys
  | _, _ => false
section
variable {H : Type} {enc : TypeId × Value → H} {P : Program} {w : World} {sp : Nat → Bool} {held : Bool}
theorem ok_st {ty : Ty} {t : TypeId} {v : Value} {base : Nat} (ht : tyB P t ty = true) (h : Value.okWide P w .any base t v) : (isSt ty = true → ∃ cs, v = .agg cs) ∧ (isSt ty = false → v.cells = #[v]) := by
  cases ty with
  | int k =>
    unfold tyB at ht
    split at ht
    · rename_i k' hu
      obtain ⟨n, rfl⟩ := okWide_int hu h
      exact ⟨(fun h => by cases h), fun _ => rfl⟩
    · cases ht
  | bool =>
    unfold tyB at ht
    split at ht
    · rename_i hu
      obtain ⟨b, rfl⟩ := okWide_bool hu h
      exact ⟨(fun h => by cases h), fun _ => rfl⟩
    · cases ht
  | sl E s e =>
    unfold tyB at ht
    split at ht
    · rename_i E' hu
      obtain ⟨a, l, c, rfl⟩ := okWide_slice hu h
      exact ⟨(fun h => by cases h), fun _ => rfl⟩
    · cases ht
  | st fs =>
    unfold tyB at ht
    split at ht
    · rename_i fds hu
      obtain ⟨cs, rfl, _⟩ := okWide_struct hu h
      exact ⟨fun _ => ⟨cs, rfl⟩, (fun h => by cases h)⟩
    · cases ht
  | ar n E fs =>
    unfold tyB at ht
    split at ht
    · rename_i n' E' hu
      simp only [Value.okWide, hu] at h
      obtain ⟨cs, rfl, _⟩ := h
      exact ⟨fun _ => ⟨cs, rfl⟩, (fun h => by cases h)⟩
    · cases ht
theorem each_left : ∀ {ts us : List TypeId} {ds gs : List (DataW H)} {n : Nat}, n ∈ DataW.weightsEach P ts ds → n ∈ DataW.weightsEach P (ts ++ us) (ds ++ gs)
  | [], _, _, _, _, h => by simp [DataW.weightsEach] at h
  | t :: ts, us, [], gs, n, h => by simp [DataW.weightsEach] at h
  | t :: ts, us, d :: ds, gs, n, h => by
    simp only [DataW.weightsEach] at h
    simp only [List.cons_append, DataW.weightsEach]
    rcases List.mem_append.1 h with h | h
    · exact List.mem_append_left _ h
    · exact List.mem_append_right _ (each_left h)
theorem open_args {base : Nat} : ∀ {ts : List TypeId} {tys : List Ty} {vs : List Value} {ds : List (DataW H)} {ps : List MemPlace}, formsB P ts tys = true → (∀ (j : Nat) t v, ts[j]? = some t → vs[j]? = some v → Value.okWide P w .any base t v) → DataW.TrodAll enc P w 0 sp held ts vs ds ps → (∀ n ∈ DataW.weightsEach P ts ds, n ≤ reachBytes) →
    ∃ dss, ShAll tys dss ∧ Args w (oldD w) vs (mkAll tys dss) ∧ vs.length = ts.length
  | [], [], vs, ds, ps, _, _, h, _ => by
    obtain ⟨rfl, rfl, rfl⟩ := trodAll_nil h
    exact ⟨[], .nil, ⟨rfl, by simp⟩, rfl⟩
  | t :: ts, ty :: tys, vs, ds, ps, hf, hok, h, hwt => by
    simp only [formsB, Bool.and_eq_true] at hf
    obtain ⟨v, vs', d, ds', p, q, rfl, rfl, rfl, h1, h2⟩ := trodAll_cons h
    obtain ⟨k1, k2⟩ := ok_st hf.1 (hok 0 t v rfl rfl)
    obtain ⟨dd, r1, r2⟩ := open_arg hf.1 k1 k2 h1 (fun n hn => hwt n (by simp only [DataW.weightsEach]; exact List.mem_append_left _ hn))
    obtain ⟨dss, r3, r4, r5⟩ := open_args (ts := ts) (tys := tys) hf.2 (fun j t v a b => hok (j + 1) t v (by simpa using a) (by simpa using b)) h2 (fun n hn => hwt n (by simp only [DataW.weightsEach]; exact List.mem_append_right _ hn))
    refine ⟨dd :: dss, .cons r2 r3, ⟨by simp [mkAll, r4.1], fun i v' d' hv hd => ?_⟩, by simp [r5]⟩
    rcases i with _ | i
    · simp [mkAll] at hv hd; subst hv; subst hd; exact r1
    · exact r4.2 i v' d' (by simpa using hv) (by simpa [mkAll] using hd)
  | [], _ :: _, _, _, _, hf, _, _, _ => by cases hf
  | _ :: _, [], _, _, _, hf, _, _, _ => by cases hf
theorem again_all {W W' : World} (hl : laidOutB P = true) (hb : Below W.heap.size W W') : ∀ {ts : List TypeId} {vs : List Value} {ds : List (DataW H)} {ps : List MemPlace}, (ts.all fun t => P.readableRec t && Nat.blt t P.types.size) = true → (∀ x ∈ ps, x.block < W.heap.size) → DataW.TrodAll enc P W 0 (fun _ => true) true ts vs ds ps →
    DataW.TrodAll enc P W' 0 (fun b => decide (b < W.heap.size)) true ts vs ds ps
  | [], vs, ds, ps, _, _, h => by
    obtain ⟨rfl, rfl, rfl⟩ := trodAll_nil h
    exact rfl
  | t :: ts, vs, ds, ps, hr, hlt, h => by
    obtain ⟨v, vs', d, ds', p, q, rfl, rfl, rfl, h1, h2⟩ := trodAll_cons h
    simp only [List.all_cons, Bool.and_eq_true] at hr
    exact ⟨p, q, Below.trod hl hr.1.1 (Nat.le_of_ble_eq_true hr.1.2) h1 hb (fun x hx => hlt x (by simp [hx])), again_all hl hb hr.2 (fun x hx => hlt x (by simp [hx])) h2, rfl⟩
end
theorem law_contract {H : Type} {enc : TypeId × Value → H} {P : Program} {f : FuncId} {fn : Func} {s : ChangeSpec} {tys : List Ty} {B : TypeId} (hl : laidOutB P = true) (hvars : s.vars = []) (hres : fn.resultTypes.toList = [B]) (hB : P.underlying B = some .bool)
    (hrr : (fn.params.toList.all fun t => P.readableRec t && Nat.blt t P.types.size) = true) (hty : formsB P fn.params.toList tys = true)
    (hspec : ∀ ds : List (DataW H), ds.length = fn.params.toList.length → (s.fn H ds).results = [.lit (.bool true)] ∧ (s.fn H ds).args = ds ∧ (s.fn H ds).vars = [])
    (ht : ∀ dss, ShAll tys dss → kF P f (mkAll tys dss) (.val (.bool true)))
    (W : World) (base : Nat) (args : Array Value) (ds gs : List (DataW H)) (before : List MemPlace) (bN : ∀ (j : Nat) t v, fn.params[j]? = some t → args[j]? = some v → Value.okWide P W .any base t v)
    (hW : DataW.Whole enc P fn.params.toList s.vars false W args.toList ds gs before) (hwt : (DataW.weightsEach P (fn.params.toList ++ s.plain.varTypes P) (ds ++ gs)).all (· ≤ reachBytes) = true) :
    Calls P f args W fun e W' => ∃ v, e = .returned v ∧ s.post enc P fn false true false false W args v W' := by
  have hW' := hW
  obtain ⟨p, q, hA, hV, rfl, _, _⟩ := hW
  rw [hvars] at hV
  obtain ⟨rfl, rfl⟩ := trodVars_none hV
  obtain ⟨dss, r1, r2, r3⟩ := open_args (P := P) (w := W) (base := base) hty (fun j t v a b => bN j t v (by simpa using a) (by simpa using b)) hA (fun n hn => by
    rw [List.all_eq_true] at hwt
    have := hwt n (each_left hn)
    simpa using this)
  have hlt := hW'.lt
  have vD : ds.length = fn.params.toList.length := by
    have : ∀ {ts : List TypeId} {vs : List Value} {ds : List (DataW H)} {ps : List MemPlace}, DataW.TrodAll enc P W 0 (fun _ => true) true ts vs ds ps → ds.length = ts.length := by
      intro ts
      induction ts with
      | nil => intro vs ds ps h; obtain ⟨_, rfl, _⟩ := trodAll_nil h; rfl
      | cons t ts ih => intro vs ds ps h; obtain ⟨v, vs', d, ds', p, q, rfl, rfl, rfl, h1, h2⟩ := trodAll_cons h; simp [ih h2]
    exact this hA
  have hc := (ht dss r1).run W (oldD W) args.toList (oldD_ok W) r2
  refine hc.mono fun e W' h => ?_
  obtain ⟨v, D', he, h1, h2, h3⟩ := h
  have hv := rep_bool h3
  subst hv
  obtain ⟨s1, s2, s3⟩ := hspec ds vD
  refine ⟨_, he, ds, [], _, [], p, [], hW', ?_, ?_, ?_, h1.frame _, fun h => by cases h⟩
  · rw [List.append_nil, s1, hres]
    have hsz : fn.resultTypes.size = 1 := by
      have := congrArg List.length hres
      simpa using this
    rw [hsz]
    exact trodAll_mk1 (shut_bool hB true)
  · rw [List.append_nil, s2]
    exact again_all hl h1 hrr (fun x hx => hlt x (by simp [hx])) hA
  · rw [List.append_nil, s3, hvars]
    exact rfl
theorem sh_slice {α : Type} {E s : Nat} {ty : Ty} {F : α → qF} {L : α → Prop} (hF : ∀ x, Sh ty x → ∃ a, mkD ty x = F a ∧ L a) {ds : List qF} (h : Sh (.sl E s ty) ds) :
    ∃ l : List α, mkD (.sl E s ty) ds = .sl E s (l.map F) ∧ (∀ a ∈ l, L a) ∧ l.length ≤ 140737488355328 := by
  obtain ⟨es, rfl, h1, h2⟩ := h
  have h3 : ∀ es : List (List qF), (∀ x ∈ es, Sh ty x) → ∃ l : List α, es.map (mkD ty) = l.map F ∧ (∀ a ∈ l, L a) ∧ l.length = es.length := by
    intro es
    induction es with
    | nil => intro _; exact ⟨[], rfl, by simp, rfl⟩
    | cons x es ih =>
      intro hx
      obtain ⟨l, e1, e2, e3⟩ := ih (fun y hy => hx y (by simp [hy]))
      obtain ⟨a, e4, e5⟩ := hF x (hx x (by simp))
      refine ⟨a :: l, by rw [List.map_cons, List.map_cons, e1, e4], fun b hb => ?_, by simp [e3]⟩
      rcases List.mem_cons.1 hb with rfl | hb
      · exact e5
      · exact e2 b hb
  obtain ⟨l, e1, e2, e3⟩ := h3 es h2
  exact ⟨l, by rw [← e1]; rfl, e2, by omega⟩
end Go.Fid
