/- Part 33 of a proof: rules, plain facts, and functions walked. -/
import Derived.Test.YtbecgnplakngdaaGreatM32
import Derived.Test.YtbecgnplakngdaaGreatM21
import Derived.Test.YtbecgnplakngdaaGreatM31
import Derived.Test.YtbecgnplakngdaaGreatM26
import Derived.Test.YtbecgnplakngdaaGreatM9
import Derived.Test.YtbecgnplakngdaaGreatM23
import Derived.Test.YtbecgnplakngdaaGreatM10
import Derived.Test.YtbecgnplakngdaaGreatM27
namespace Go.Proofs.YtbecgnplakngdaaGreat
open Go.Fid
set_option maxRecDepth 4000
set_option linter.unusedVariables false
set_option linter.unusedSimpArgs false
end Go.Proofs.YtbecgnplakngdaaGreat
set_option linter.unusedVariables false
set_option linter.unusedSimpArgs false
namespace Go.Fid
variable {P : Program} {o : Oper} {S : Nat → SV}
end Go.Fid
set_option linter.unusedVariables false
set_option linter.unusedSimpArgs false
namespace Go.Fid
section
variable {lx ly lz la lb lc ld rx ry rz ra rb rc rd : Int} {b0 b1 b2 e00 e01 e02 e10 e11 e12 e20 e21 e22 : Rat}
end
theorem Rcast (a b c d : Int) : gD a b c d = ((a : Rat) * a + b * b - c * c - d * d) ∧ gE a b c d = 2 * ((b : Rat) * c - a * d) ∧ zJ a b c d = 2 * ((b : Rat) * d + a * c) ∧ gK a b c d = 2 * ((b : Rat) * c + a * d) ∧ gJ a b c d = ((a : Rat) * a - b * b + c * c - d * d) ∧ yA a b c d = 2 * ((c : Rat) * d - a * b) ∧ gO a b c d = 2 * ((b : Rat) * d - a * c) ∧ gP a b c d = 2 * ((c : Rat) * d + a * b) ∧ yB a b c d = ((a : Rat) * a - b * b - c * c + d * d) ∧ N4 a b c d = ((a : Rat) * a + b * b + c * c + d * d) := by
  unfold gD gE zJ gK gJ yA gO gP yB N4 r00 r01 r02 r10 r11 r12 r20 r21 r22 nq
  simp only [Rat.intCast_add, Rat.intCast_sub, Rat.intCast_mul, Rat.intCast_ofNat, and_self]
theorem N4_pos {a b c d : Int} (h : gU a b c d = 0) : 0 < N4 a b c d := by
  unfold N4
  exact Rat.intCast_pos.2 (nq_pos h)
section
variable {lx ly lz la lb lc ld rx ry rz ra rb rc rd : Int} {b0 b1 b2 e00 e01 e02 e10 e11 e12 e20 e21 e22 : Rat}
end
theorem ql_dq0 {a b c d p q r s : Int} (h : gU a b c d = 0) (h2 : gU p q r s = 0) : QL (cK a b c d p q r s) 13 ∧ QL (cJ a b c d p q r s) 13 ∧ QL (cM a b c d p q r s) 13 := by
  obtain ⟨ha, hb, hc, hd, -⟩ := xG h
  obtain ⟨hp, hq, hr, hs, -⟩ := xG h2
  have n1 := ql_N4 ha hb hc hd; have n2 := ql_N4 hp hq hr hs
  refine ⟨?_, ?_, ?_⟩
  · exact yX (jV (k := 6) (ql_R02 ha hb hc hd) n2 (by decide)) (jV (k := 6) (ql_R02 hp hq hr hs) n1 (by decide)) (by decide)
  · exact yX (jV (k := 6) (ql_R12 ha hb hc hd) n2 (by decide)) (jV (k := 6) (ql_R12 hp hq hr hs) n1 (by decide)) (by decide)
  · exact yX (jV (k := 6) (ql_R22 ha hb hc hd) n2 (by decide)) (jV (k := 6) (ql_R22 hp hq hr hs) n1 (by decide)) (by decide)
theorem ql_cr {a b c d : Rat} {m n k : Nat} (ha : QL a m) (hb : QL b n) (hc : QL c m) (hd : QL d n) (h : (m + n) + (m + n) + 1 ≤ k) : QL (a * b - c * d) k :=
  qZ (jV ha hb (Nat.le_refl _)) (jV hc hd (Nat.le_refl _)) h
theorem pair_cases (lx ly lz la lb lc ld lf lu lv rx ry rz ra rb rc rd rf ru rv : Int) :
    (∃ c, stn2 (uL lx ly lz lu lv lf la lb lc ld) (uL rx ry rz ru rv rf ra rb rc rd) = c ∧ c ≠ 0) ∨
    (uL lx ly lz lu lv lf la lb lc ld = 0 ∧ uL rx ry rz ru rv rf ra rb rc rd = 0 ∧ ∃ b0 b1 b2 : Rat, (((rx - lx : Int) : Rat) = b0 ∧ ((ry - ly : Int) : Rat) = b1 ∧ ((rz - lz : Int) : Rat) = b2) ∧ (QL b0 3 ∧ QL b1 3 ∧ QL b2 3) ∧ upV la lb lc ld ra rb rc rd b0 b1 b2 = true) ∨
    (uL lx ly lz lu lv lf la lb lc ld = 0 ∧ uL rx ry rz ru rv rf ra rb rc rd = 0 ∧ ∃ b0 b1 b2 e00 e01 e02 e10 e11 e12 e20 e21 e22 : Rat, RFr lx ly lz la lb lc ld rx ry rz ra rb rc rd b0 b1 b2 e00 e01 e02 e10 e11 e12 e20 e21 e22 ∧ upV la lb lc ld ra rb rc rd b0 b1 b2 = false ∧ (QL b0 3 ∧ QL b1 3 ∧ QL b2 3) ∧ (QL e00 400 ∧ QL e01 400 ∧ QL e02 400 ∧ QL e10 400 ∧ QL e11 400 ∧ QL e12 400 ∧ QL e20 400 ∧ QL e21 400 ∧ QL e22 400)) := by
  by_cases hl : uL lx ly lz lu lv lf la lb lc ld = 0
  · by_cases hr : uL rx ry rz ru rv rf ra rb rc rd = 0
    · have hl2 := xF hl; have hr2 := xF hr
      have qb0 : QL ((rx - lx : Int) : Rat) 3 := qC (jU (by omega) (by omega)) (by decide)
      have qb1 : QL ((ry - ly : Int) : Rat) 3 := qC (jU (by omega) (by omega)) (by decide)
      have qb2 : QL ((rz - lz : Int) : Rat) 3 := qC (jU (by omega) (by omega)) (by decide)
      rcases hup : upV la lb lc ld ra rb rc rd ((rx - lx : Int) : Rat) ((ry - ly : Int) : Rat) ((rz - lz : Int) : Rat) with _ | _
      · obtain ⟨d0, d1, d2⟩ := ql_dq0 hl2.2.2.2.2.2.2 hr2.2.2.2.2.2.2
        have k0 := zC qb0 qb1 qb2 (Nat.le_refl _) (by decide)
        have e0 := jV (k := 6) qb0 k0 (by decide)
        have e1 := jV (k := 6) qb1 k0 (by decide)
        have e2 := jV (k := 6) qb2 k0 (by decide)
        have s0 := ql_cr (k := 39) d1 e2 d2 e1 (by decide)
        have s1 := ql_cr (k := 39) d2 e0 d0 e2 (by decide)
        have s2 := ql_cr (k := 39) d0 e1 d1 e0 (by decide)
        have k1 := zC s0 s1 s2 (Nat.le_refl _) (by decide)
        have f0 := jV (k := 78) s0 k1 (by decide)
        have f1 := jV (k := 78) s1 k1 (by decide)
        have f2 := jV (k := 78) s2 k1 (by decide)
        have t0 := ql_cr (k := 169) e1 f2 e2 f1 (by decide)
        have t1 := ql_cr (k := 169) e2 f0 e0 f2 (by decide)
        have t2 := ql_cr (k := 169) e0 f1 e1 f0 (by decide)
        have k2 := zC t0 t1 t2 (Nat.le_refl _) (by decide)
        have g0 := jV (k := 338) t0 k2 (by decide)
        have g1 := jV (k := 338) t1 k2 (by decide)
        have g2 := jV (k := 338) t2 k2 (by decide)
        exact .inr (.inr ⟨hl, hr, _, _, _, _, _, _, _, _, _, _, _, _, ⟨rfl, rfl, rfl, rfl, rfl, rfl, rfl, rfl, rfl, rfl, rfl, rfl⟩, hup, ⟨qb0, qb1, qb2⟩, kB e0 (by decide), kB e1 (by decide), kB e2 (by decide), kB f0 (by decide), kB f1 (by decide), kB f2 (by decide), kB g0 (by decide), kB g1 (by decide), kB g2 (by decide)⟩)
      · exact .inr (.inl ⟨hl, hr, _, _, _, ⟨rfl, rfl, rfl⟩, ⟨qb0, qb1, qb2⟩, hup⟩)
    · exact .inl ⟨_, rfl, by unfold stn2; rw [if_pos hl]; exact hr⟩
  · exact .inl ⟨_, rfl, by unfold stn2; rw [if_neg hl]; exact hl⟩
end Go.Fid
set_option linter.unusedVariables false
set_option linter.unusedSimpArgs false
namespace Go.Fid
theorem briefP_ok {x y : kG} (h : bM x y = true) : eT x (toQ x) 8 ∧ eT y (toQ y) 8 := by
  unfold bM digR at h
  simp only [Bool.and_eq_true, decide_eq_true_eq] at h
  exact ⟨aW (by decide) (by omega) (by omega), aW (by decide) (by omega) (by omega)⟩
theorem valid_ex {x : kG} {n : Nat} (h : uV x = true) (h2 : eT x (toQ x) n) : ∃ q : Rat, x = jC q ∧ QL q n := ⟨toQ x, (ofQ_toQ h).symm, h2.ql⟩
def xW (q : Rat) : Prop := ∃ z : Int, q = (z : Rat)
theorem xW.of (z : Int) : xW (z : Rat) := ⟨z, rfl⟩
theorem xW.mul {p q : Rat} (h : xW p) (h2 : xW q) : xW (p * q) := by
  obtain ⟨a, rfl⟩ := h; obtain ⟨b, rfl⟩ := h2; exact ⟨a * b, (Rat.intCast_mul a b).symm⟩
theorem xW.add {p q : Rat} (h : xW p) (h2 : xW q) : xW (p + q) := by
  obtain ⟨a, rfl⟩ := h; obtain ⟨b, rfl⟩ := h2; exact ⟨a + b, (Rat.intCast_add a b).symm⟩
theorem xW.sub {p q : Rat} (h : xW p) (h2 : xW q) : xW (p - q) := by
  obtain ⟨a, rfl⟩ := h; obtain ⟨b, rfl⟩ := h2; exact ⟨a - b, (Rat.intCast_sub a b).symm⟩
theorem red_z {a g : Int} (h : g ∣ a) : xW ((a : Rat) * Rat.divInt 1 g) := by
  obtain ⟨k, rfl⟩ := h
  by_cases hg : g = 0
  · subst hg; exact ⟨0, by rw [Int.zero_mul]; simp⟩
  · refine ⟨k, ?_⟩
    rw [Rat.divInt_eq_div, Rat.intCast_mul, Rat.intCast_one]
    have h2 : ((g : Int) : Rat) ≠ 0 := fun q => hg (Rat.intCast_eq_zero_iff.1 q)
    grind
theorem xW.red {a b c : Rat} (ha : xW a) (hb : xW b) (hc : xW c) : xW (a * yC a b c) ∧ xW (b * yC a b c) ∧ xW (c * yC a b c) := by
  obtain ⟨x, rfl⟩ := ha; obtain ⟨y, rfl⟩ := hb; obtain ⟨z, rfl⟩ := hc
  unfold yC eU
  rw [Rat.num_intCast, Rat.num_intCast, Rat.num_intCast]
  have h1 : ((Int.gcd x ((Int.gcd y z : Nat) : Int) : Nat) : Int) ∣ x := Int.gcd_dvd_left ..
  have h2 : ((Int.gcd x ((Int.gcd y z : Nat) : Int) : Nat) : Int) ∣ ((Int.gcd y z : Nat) : Int) := Int.gcd_dvd_right ..
  exact ⟨red_z h1, red_z (Int.dvd_trans h2 (Int.gcd_dvd_left ..)), red_z (Int.dvd_trans h2 (Int.gcd_dvd_right ..))⟩
theorem xW.cr {a b c d : Rat} (ha : xW a) (hb : xW b) (hc : xW c) (hd : xW d) : xW (a * b - c * d) := (ha.mul hb).sub (hc.mul hd)
theorem isz_dq (a b c d p q r s : Int) : xW (cK a b c d p q r s) ∧ xW (cJ a b c d p q r s) ∧ xW (cM a b c d p q r s) :=
  ⟨((xW.of _).mul (.of _)).add ((xW.of _).mul (.of _)), ((xW.of _).mul (.of _)).add ((xW.of _).mul (.of _)), ((xW.of _).mul (.of _)).add ((xW.of _).mul (.of _))⟩
section
variable {lx ly lz la lb lc ld rx ry rz ra rb rc rd : Int} {b0 b1 b2 e00 e01 e02 e10 e11 e12 e20 e21 e22 : Rat}
theorem fr_isz (hF : RFr lx ly lz la lb lc ld rx ry rz ra rb rc rd b0 b1 b2 e00 e01 e02 e10 e11 e12 e20 e21 e22) : xW e00 ∧ xW e01 ∧ xW e02 ∧ xW e10 ∧ xW e11 ∧ xW e12 ∧ xW e20 ∧ xW e21 ∧ xW e22 := by
  obtain ⟨rfl, rfl, rfl, h00, h01, h02, h10, h11, h12, h20, h21, h22⟩ := hF
  obtain ⟨d0, d1, d2⟩ := isz_dq la lb lc ld ra rb rc rd
  obtain ⟨e0, e1, e2⟩ := (xW.of (rx - lx)).red (.of (ry - ly)) (.of (rz - lz))
  rw [h00] at e0; rw [h01] at e1; rw [h02] at e2
  obtain ⟨f0, f1, f2⟩ := (d1.cr e2 d2 e1).red (d2.cr e0 d0 e2) (d0.cr e1 d1 e0)
  rw [h10] at f0; rw [h11] at f1; rw [h12] at f2
  obtain ⟨g0, g1, g2⟩ := (e1.cr f2 e2 f1).red (e2.cr f0 e0 f2) (e0.cr f1 e1 f0)
  rw [h20] at g0; rw [h21] at g1; rw [h22] at g2
  exact ⟨e0, e1, e2, f0, f1, f2, g0, g1, g2⟩
end
end Go.Fid
set_option linter.unusedVariables false
set_option linter.unusedSimpArgs false
namespace Go.Fid
section
variable {lx ly lz la lb lc ld rx ry rz ra rb rc rd : Int} {b0 b1 b2 e00 e01 e02 e10 e11 e12 e20 e21 e22 : Rat}
end
end Go.Fid
set_option linter.unusedVariables false
set_option linter.unusedSimpArgs false
namespace Go.Fid
def det2Q (a b c d : Rat) : Rat := a * d - b * c
def cT (a b c d e f g h i : Rat) : Rat := a * det2Q e f h i - b * det2Q d f g i + c * det2Q d e g h
section
variable {a b c d e f g h i : Rat}
end
section
variable {b0 b1 b2 p00 p01 p02 p10 p11 p12 p20 p21 p22 q00 q01 q02 q10 q11 q12 q20 q21 q22 s00 s01 s02 s10 s11 s12 s20 s21 s22 f00 f01 f02 f10 f11 f12 f20 f21 f22 : Rat}
theorem det_mul (q00 q01 q02 q10 q11 q12 q20 q21 q22 s00 s01 s02 s10 s11 s12 s20 s21 s22 : Rat) :
    cT (jM s00 s10 s20 q00 q10 q20) (jM s01 s11 s21 q00 q10 q20) (jM s02 s12 s22 q00 q10 q20) (jM s00 s10 s20 q01 q11 q21) (jM s01 s11 s21 q01 q11 q21) (jM s02 s12 s22 q01 q11 q21) (jM s00 s10 s20 q02 q12 q22) (jM s01 s11 s21 q02 q12 q22) (jM s02 s12 s22 q02 q12 q22)
      = cT q00 q01 q02 q10 q11 q12 q20 q21 q22 * cT s00 s01 s02 s10 s11 s12 s20 s21 s22 := by
  unfold cT det2Q jM; grind
theorem lens_v (m0 m1 m2 x y : Rat) (u v f : Int) : jM (jM ((1 : Int) : Rat) ((0 : Int) : Rat) ((0 : Int) : Rat) m0 m1 m2) (jM ((0 : Int) : Rat) ((1 : Int) : Rat) ((0 : Int) : Rat) m0 m1 m2) (jM ((-u : Int) : Rat) ((-v : Int) : Rat) ((f : Int) : Rat) m0 m1 m2) x y ((1 : Int) : Rat) = jM m0 m1 m2 (x - ((u : Int) : Rat)) (y - ((v : Int) : Rat)) ((f : Int) : Rat) := by
  rw [Rat.intCast_zero, Rat.intCast_one, Rat.intCast_neg, Rat.intCast_neg]; unfold jM; grind
end
end Go.Fid
namespace Go.Proofs.YtbecgnplakngdaaGreat
open Go.Fid
set_option maxRecDepth 4000
set_option linter.unusedVariables false
set_option linter.unusedSimpArgs false
end Go.Proofs.YtbecgnplakngdaaGreat
set_option linter.unusedVariables false
set_option linter.unusedSimpArgs false
namespace Go.Fid
end Go.Fid
set_option linter.unusedVariables false
set_option linter.unusedSimpArgs false
namespace Go.Fid
end Go.Fid
namespace Go.Proofs.YtbecgnplakngdaaGreat
open Go.Fid
theorem take_all {α : Type} {f : α → Bool} {l : List α} {i : Nat} {d : α} (h : i < l.length) : (l.take (i + 1)).all f = ((l.take i).all f && f (l.getD i d)) := by
  rw [List.getD_eq_getElem?_getD, List.getElem?_eq_getElem h, List.take_succ_eq_append_getElem h, List.all_append]
  simp
end Go.Proofs.YtbecgnplakngdaaGreat
namespace Go.Proofs.YtbecgnplakngdaaGreat
open Go.Fid
set_option maxRecDepth 4000
set_option linter.unusedVariables false
set_option linter.unusedSimpArgs false
theorem cb112 : callB Tryz.prog 112 = true := by kernel_rfl
end Go.Proofs.YtbecgnplakngdaaGreat
