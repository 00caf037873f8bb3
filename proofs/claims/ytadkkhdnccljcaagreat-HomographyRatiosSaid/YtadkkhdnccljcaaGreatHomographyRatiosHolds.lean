/- The law HomographyRatios returns true for every input, and its arguments read afterwards as before. No condition. -/
import Derived.Test.YtadkkhdnccljcaaGreatM15
import Derived.Test.YtadkkhdnccljcaaGreatM16
import Derived.Test.YtadkkhdnccljcaaGreatRows
import Derived.JoinedOf
namespace Go.Proofs.YtadkkhdnccljcaaGreat
open Go.Fid Go.RowKit Go.ChangeShapes Go.WideShapes
theorem takes_law (h : A9 RInt) (l : A4 (A3 RInt)) (lh : Len31 h) (ll : Len64 l) : Takes Tryz.prog 7 [encA31 h, encA64 l] (.val (.bool true)) := by
  obtain ⟨p, q, r, s⟩ := l
  obtain ⟨lp, lq, lr, ls⟩ := ll
  obtain ⟨lh0, lh1, lh2, lh3, lh4, lh5, lh6, lh7, lh8⟩ := lh
  obtain ⟨lp0, lp1, lp2⟩ := lp
  obtain ⟨lq0, lq1, lq2⟩ := lq
  obtain ⟨lr0, lr1, lr2⟩ := lr
  obtain ⟨ls0, ls1, ls2⟩ := ls
  rcases hb0 : List.all [h.a0, h.a1, h.a2, h.a3, h.a4, h.a5, h.a6, h.a7, h.a8] short4 with _ | _
  · exact w_ratN0 h _ _ _ _ _ _ _ _ _ (iok_raw lh0.2.2) (iok_raw lh1.2.2) (iok_raw lh2.2.2) (iok_raw lh3.2.2) (iok_raw lh4.2.2) (iok_raw lh5.2.2) (iok_raw lh6.2.2) (iok_raw lh7.2.2) (iok_raw lh8.2.2) p _ _ _ (iok_raw lp0.2.2) (iok_raw lp1.2.2) (iok_raw lp2.2.2) q _ _ _ (iok_raw lq0.2.2) (iok_raw lq1.2.2) (iok_raw lq2.2.2) r _ _ _ (iok_raw lr0.2.2) (iok_raw lr1.2.2) (iok_raw lr2.2.2) s _ _ _ (iok_raw ls0.2.2) (iok_raw ls1.2.2) (iok_raw ls2.2.2) hb0
  rcases hb1 : List.all [p.a0, p.a1, p.a2] short4 with _ | _
  · exact w_ratN1 h _ _ _ _ _ _ _ _ _ (iok_raw lh0.2.2) (iok_raw lh1.2.2) (iok_raw lh2.2.2) (iok_raw lh3.2.2) (iok_raw lh4.2.2) (iok_raw lh5.2.2) (iok_raw lh6.2.2) (iok_raw lh7.2.2) (iok_raw lh8.2.2) p _ _ _ (iok_raw lp0.2.2) (iok_raw lp1.2.2) (iok_raw lp2.2.2) q _ _ _ (iok_raw lq0.2.2) (iok_raw lq1.2.2) (iok_raw lq2.2.2) r _ _ _ (iok_raw lr0.2.2) (iok_raw lr1.2.2) (iok_raw lr2.2.2) s _ _ _ (iok_raw ls0.2.2) (iok_raw ls1.2.2) (iok_raw ls2.2.2) hb0 hb1
  rcases hb2 : List.all [q.a0, q.a1, q.a2] short4 with _ | _
  · exact w_ratN2 h _ _ _ _ _ _ _ _ _ (iok_raw lh0.2.2) (iok_raw lh1.2.2) (iok_raw lh2.2.2) (iok_raw lh3.2.2) (iok_raw lh4.2.2) (iok_raw lh5.2.2) (iok_raw lh6.2.2) (iok_raw lh7.2.2) (iok_raw lh8.2.2) p _ _ _ (iok_raw lp0.2.2) (iok_raw lp1.2.2) (iok_raw lp2.2.2) q _ _ _ (iok_raw lq0.2.2) (iok_raw lq1.2.2) (iok_raw lq2.2.2) r _ _ _ (iok_raw lr0.2.2) (iok_raw lr1.2.2) (iok_raw lr2.2.2) s _ _ _ (iok_raw ls0.2.2) (iok_raw ls1.2.2) (iok_raw ls2.2.2) hb0 hb1 hb2
  rcases hb3 : List.all [r.a0, r.a1, r.a2] short4 with _ | _
  · exact w_ratN3 h _ _ _ _ _ _ _ _ _ (iok_raw lh0.2.2) (iok_raw lh1.2.2) (iok_raw lh2.2.2) (iok_raw lh3.2.2) (iok_raw lh4.2.2) (iok_raw lh5.2.2) (iok_raw lh6.2.2) (iok_raw lh7.2.2) (iok_raw lh8.2.2) p _ _ _ (iok_raw lp0.2.2) (iok_raw lp1.2.2) (iok_raw lp2.2.2) q _ _ _ (iok_raw lq0.2.2) (iok_raw lq1.2.2) (iok_raw lq2.2.2) r _ _ _ (iok_raw lr0.2.2) (iok_raw lr1.2.2) (iok_raw lr2.2.2) s _ _ _ (iok_raw ls0.2.2) (iok_raw ls1.2.2) (iok_raw ls2.2.2) hb0 hb1 hb2 hb3
  rcases hb4 : List.all [s.a0, s.a1, s.a2] short4 with _ | _
  · exact w_ratN4 h _ _ _ _ _ _ _ _ _ (iok_raw lh0.2.2) (iok_raw lh1.2.2) (iok_raw lh2.2.2) (iok_raw lh3.2.2) (iok_raw lh4.2.2) (iok_raw lh5.2.2) (iok_raw lh6.2.2) (iok_raw lh7.2.2) (iok_raw lh8.2.2) p _ _ _ (iok_raw lp0.2.2) (iok_raw lp1.2.2) (iok_raw lp2.2.2) q _ _ _ (iok_raw lq0.2.2) (iok_raw lq1.2.2) (iok_raw lq2.2.2) r _ _ _ (iok_raw lr0.2.2) (iok_raw lr1.2.2) (iok_raw lr2.2.2) s _ _ _ (iok_raw ls0.2.2) (iok_raw ls1.2.2) (iok_raw ls2.2.2) hb0 hb1 hb2 hb3 hb4
  have s0 := hb0
  simp only [List.all_cons, List.all_nil, Bool.and_true, Bool.and_eq_true] at s0
  obtain ⟨s00, s01, s02, s03, s04, s05, s06, s07, s08⟩ := s0
  obtain ⟨h0, eh0, kh0⟩ := iok_ex s00
  obtain ⟨h1, eh1, kh1⟩ := iok_ex s01
  obtain ⟨h2, eh2, kh2⟩ := iok_ex s02
  obtain ⟨h3, eh3, kh3⟩ := iok_ex s03
  obtain ⟨h4, eh4, kh4⟩ := iok_ex s04
  obtain ⟨h5, eh5, kh5⟩ := iok_ex s05
  obtain ⟨h6, eh6, kh6⟩ := iok_ex s06
  obtain ⟨h7, eh7, kh7⟩ := iok_ex s07
  obtain ⟨h8, eh8, kh8⟩ := iok_ex s08
  have s1 := hb1
  simp only [List.all_cons, List.all_nil, Bool.and_true, Bool.and_eq_true] at s1
  obtain ⟨s10, s11, s12⟩ := s1
  obtain ⟨p0, ep0, kp0⟩ := iok_ex s10
  obtain ⟨p1, ep1, kp1⟩ := iok_ex s11
  obtain ⟨p2, ep2, kp2⟩ := iok_ex s12
  have s2 := hb2
  simp only [List.all_cons, List.all_nil, Bool.and_true, Bool.and_eq_true] at s2
  obtain ⟨s20, s21, s22⟩ := s2
  obtain ⟨q0, eq0, kq0⟩ := iok_ex s20
  obtain ⟨q1, eq1, kq1⟩ := iok_ex s21
  obtain ⟨q2, eq2, kq2⟩ := iok_ex s22
  have s3 := hb3
  simp only [List.all_cons, List.all_nil, Bool.and_true, Bool.and_eq_true] at s3
  obtain ⟨s30, s31, s32⟩ := s3
  obtain ⟨r0, er0, kr0⟩ := iok_ex s30
  obtain ⟨r1, er1, kr1⟩ := iok_ex s31
  obtain ⟨r2, er2, kr2⟩ := iok_ex s32
  have s4 := hb4
  simp only [List.all_cons, List.all_nil, Bool.and_true, Bool.and_eq_true] at s4
  obtain ⟨s40, s41, s42⟩ := s4
  obtain ⟨s0, es0, ks0⟩ := iok_ex s40
  obtain ⟨s1, es1, ks1⟩ := iok_ex s41
  obtain ⟨s2, es2, ks2⟩ := iok_ex s42
  rcases hwp : redB [p.a0, p.a1, p.a2] with _ | _
  · exact w_ratE0 h _ _ _ _ _ _ _ _ _ kh0 kh1 kh2 kh3 kh4 kh5 kh6 kh7 kh8 p _ _ _ kp0 kp1 kp2 q _ _ _ kq0 kq1 kq2 r _ _ _ kr0 kr1 kr2 s _ _ _ ks0 ks1 ks2 hb0 hb1 hb2 hb3 hb4 hwp
  rcases hwq : redB [q.a0, q.a1, q.a2] with _ | _
  · exact w_ratE1 h _ _ _ _ _ _ _ _ _ kh0 kh1 kh2 kh3 kh4 kh5 kh6 kh7 kh8 p _ _ _ kp0 kp1 kp2 q _ _ _ kq0 kq1 kq2 r _ _ _ kr0 kr1 kr2 s _ _ _ ks0 ks1 ks2 hb0 hb1 hb2 hb3 hb4 hwp hwq
  rcases hwr : redB [r.a0, r.a1, r.a2] with _ | _
  · exact w_ratE2 h _ _ _ _ _ _ _ _ _ kh0 kh1 kh2 kh3 kh4 kh5 kh6 kh7 kh8 p _ _ _ kp0 kp1 kp2 q _ _ _ kq0 kq1 kq2 r _ _ _ kr0 kr1 kr2 s _ _ _ ks0 ks1 ks2 hb0 hb1 hb2 hb3 hb4 hwp hwq hwr
  rcases hws : redB [s.a0, s.a1, s.a2] with _ | _
  · exact w_ratE3 h _ _ _ _ _ _ _ _ _ kh0 kh1 kh2 kh3 kh4 kh5 kh6 kh7 kh8 p _ _ _ kp0 kp1 kp2 q _ _ _ kq0 kq1 kq2 r _ _ _ kr0 kr1 kr2 s _ _ _ ks0 ks1 ks2 hb0 hb1 hb2 hb3 hb4 hwp hwq hwr hws
  obtain ⟨np, dp, ⟨xp0, xp1, xp2⟩, vp0, vp1, vp2⟩ := redB3 ep0 ep1 ep2 hwp
  obtain ⟨nq, dq, ⟨xq0, xq1, xq2⟩, vq0, vq1, vq2⟩ := redB3 eq0 eq1 eq2 hwq
  obtain ⟨nr, dr, ⟨xr0, xr1, xr2⟩, vr0, vr1, vr2⟩ := redB3 er0 er1 er2 hwr
  obtain ⟨ns, ds, ⟨xs0, xs1, xs2⟩, vs0, vs1, vs2⟩ := redB3 es0 es1 es2 hws
  by_cases hl : sgnL [p1 * s2 - p2 * s1, p2 * s0 - p0 * s2, p0 * s1 - p1 * s0] = 0
  · exact w_ratD0 h _ _ _ _ _ _ _ _ _ kh0 kh1 kh2 kh3 kh4 kh5 kh6 kh7 kh8 p _ _ _ kp0 kp1 kp2 q _ _ _ kq0 kq1 kq2 r _ _ _ kr0 kr1 kr2 s _ _ _ ks0 ks1 ks2 hb0 hb1 hb2 hb3 hb4 hwp hwq hwr hws hl
  obtain ⟨l0, hl0⟩ : ∃ z, p1 * s2 - p2 * s1 = z := ⟨_, rfl⟩
  obtain ⟨l1, hl1⟩ : ∃ z, p2 * s0 - p0 * s2 = z := ⟨_, rfl⟩
  obtain ⟨l2, hl2⟩ : ∃ z, p0 * s1 - p1 * s0 = z := ⟨_, rfl⟩
  have hl' : sgnL [l0, l1, l2] ≠ 0 := by rw [← hl0, ← hl1, ← hl2]; exact hl
  obtain ⟨m0, m1, m2, hm⟩ : ∃ a b c, redL [p1 * s2 - p2 * s1, p2 * s0 - p0 * s2, p0 * s1 - p1 * s0] = [a, b, c] := ⟨_, _, _, rfl⟩
  have hm' : redL [l0, l1, l2] = [m0, m1, m2] := by rw [← hl0, ← hl1, ← hl2]; exact hm
  have dm := dot_red hl' hm'
  by_cases hq : sgnL [q1 * r2 - q2 * r1, q2 * r0 - q0 * r2, q0 * r1 - q1 * r0] = 0
  · obtain ⟨y0, y1, y2⟩ := cross_same nq nr dq dr hq
    by_cases hmq : m0 * q0 + m1 * q1 + m2 * q2 = 0
    · exact w_ratD1y h _ _ _ _ _ _ _ _ _ kh0 kh1 kh2 kh3 kh4 kh5 kh6 kh7 kh8 p _ _ _ kp0 kp1 kp2 q _ _ _ kq0 kq1 kq2 r _ _ _ kr0 kr1 kr2 s _ _ _ ks0 ks1 ks2 m0 m1 m2 hm hb0 hb1 hb2 hb3 hb4 hwp hwq hwr hws hl hq (signI_zero_iff.2 hmq) (signI_zero_iff.2 (by rw [← y0, ← y1, ← y2]; exact hmq)) vq0 vq1 vq2 (by rw [xq0, xr0, y0]; exact sameI_self _) (by rw [xq1, xr1, y1]; exact sameI_self _) (by rw [xq2, xr2, y2]; exact sameI_self _)
    · exact w_ratD1x h _ _ _ _ _ _ _ _ _ kh0 kh1 kh2 kh3 kh4 kh5 kh6 kh7 kh8 p _ _ _ kp0 kp1 kp2 q _ _ _ kq0 kq1 kq2 r _ _ _ kr0 kr1 kr2 s _ _ _ ks0 ks1 ks2 m0 m1 m2 hm hb0 hb1 hb2 hb3 hb4 hwp hwq hwr hws hl hq (signI_ne hmq)
  have eq_ : ((p1 * s2 - p2 * s1) * q0 + (p2 * s0 - p0 * s2) * q1 + (p0 * s1 - p1 * s0) * q2 = 0 ↔ m0 * q0 + m1 * q1 + m2 * q2 = 0) := by rw [hl0, hl1, hl2]; exact dm _ _ _
  have er_ : ((p1 * s2 - p2 * s1) * r0 + (p2 * s0 - p0 * s2) * r1 + (p0 * s1 - p1 * s0) * r2 = 0 ↔ m0 * r0 + m1 * r1 + m2 * r2 = 0) := by rw [hl0, hl1, hl2]; exact dm _ _ _
  by_cases hlq : (p1 * s2 - p2 * s1) * q0 + (p2 * s0 - p0 * s2) * q1 + (p0 * s1 - p1 * s0) * q2 = 0
  case neg => exact w_ratD2 h _ _ _ _ _ _ _ _ _ kh0 kh1 kh2 kh3 kh4 kh5 kh6 kh7 kh8 p _ _ _ kp0 kp1 kp2 q _ _ _ kq0 kq1 kq2 r _ _ _ kr0 kr1 kr2 s _ _ _ ks0 ks1 ks2 m0 m1 m2 hm hb0 hb1 hb2 hb3 hb4 hwp hwq hwr hws hl hq (signI_ne hlq) (signI_ne fun e => hlq (eq_.2 e))
  by_cases hlr : (p1 * s2 - p2 * s1) * r0 + (p2 * s0 - p0 * s2) * r1 + (p0 * s1 - p1 * s0) * r2 = 0
  case neg => exact w_ratD3 h _ _ _ _ _ _ _ _ _ kh0 kh1 kh2 kh3 kh4 kh5 kh6 kh7 kh8 p _ _ _ kp0 kp1 kp2 q _ _ _ kq0 kq1 kq2 r _ _ _ kr0 kr1 kr2 s _ _ _ ks0 ks1 ks2 m0 m1 m2 hm hb0 hb1 hb2 hb3 hb4 hwp hwq hwr hws hl hq (signI_zero_iff.2 hlq) (signI_ne hlr) (signI_zero_iff.2 (eq_.1 hlq)) (signI_ne fun e => hlr (er_.2 e))
  have aq : l0 * q0 + l1 * q1 + l2 * q2 = 0 := by rw [← hl0, ← hl1, ← hl2]; exact hlq
  have ar : l0 * r0 + l1 * r1 + l2 * r2 = 0 := by rw [← hl0, ← hl1, ← hl2]; exact hlr
  have hd := ratio_den hl0 hl1 hl2 hl' aq ar hq
  obtain ⟨_, hdm, hxy⟩ := ratio_red hl' hm' hd
  obtain ⟨a0, a1, a2, ha_⟩ : ∃ a b c, redL [h0 * p0 + h1 * p1 + h2 * p2, h3 * p0 + h4 * p1 + h5 * p2, h6 * p0 + h7 * p1 + h8 * p2] = [a, b, c] := ⟨_, _, _, rfl⟩
  obtain ⟨b0, b1, b2, hb_⟩ : ∃ a b c, redL [h0 * q0 + h1 * q1 + h2 * q2, h3 * q0 + h4 * q1 + h5 * q2, h6 * q0 + h7 * q1 + h8 * q2] = [a, b, c] := ⟨_, _, _, rfl⟩
  obtain ⟨c0, c1, c2, hc_⟩ : ∃ a b c, redL [h0 * r0 + h1 * r1 + h2 * r2, h3 * r0 + h4 * r1 + h5 * r2, h6 * r0 + h7 * r1 + h8 * r2] = [a, b, c] := ⟨_, _, _, rfl⟩
  obtain ⟨d0, d1, d2, hd_⟩ : ∃ a b c, redL [h0 * s0 + h1 * s1 + h2 * s2, h3 * s0 + h4 * s1 + h5 * s2, h6 * s0 + h7 * s1 + h8 * s2] = [a, b, c] := ⟨_, _, _, rfl⟩
  have inv := fun hd => ratio_img (h0 := h0) (h1 := h1) (h2 := h2) (h3 := h3) (h4 := h4) (h5 := h5) (h6 := h6) (h7 := h7) (h8 := h8) hd hl0 hl1 hl2 hl' aq ar hq np ha_ nq hb_ nr hc_ ns hd_
  rcases hv : valH [h.a0, h.a1, h.a2, h.a3, h.a4, h.a5, h.a6, h.a7, h.a8] (det3 h0 h1 h2 h3 h4 h5 h6 h7 h8) with _ | _
  · rcases hs0 : sameI q.a0 r.a0 with _ | _
    · exact w_ratI_0 h _ _ _ _ _ _ _ _ _ kh0 kh1 kh2 kh3 kh4 kh5 kh6 kh7 kh8 p _ _ _ kp0 kp1 kp2 q _ _ _ kq0 kq1 kq2 r _ _ _ kr0 kr1 kr2 s _ _ _ ks0 ks1 ks2 m0 m1 m2 hm  hb0 hb1 hb2 hb3 hb4 hwp hwq hwr hws hl hq (signI_zero_iff.2 hlq) (signI_zero_iff.2 hlr) (by rw [hl0, hl1, hl2]; exact Int.mul_ne_zero hd.1 hd.2) (signI_zero_iff.2 (eq_.1 hlq)) (signI_zero_iff.2 (er_.1 hlr)) hdm (by rw [hl0, hl1, hl2]; exact hxy) vq0  hs0 hv
    rcases hs1 : sameI q.a1 r.a1 with _ | _
    · exact w_ratI_1 h _ _ _ _ _ _ _ _ _ kh0 kh1 kh2 kh3 kh4 kh5 kh6 kh7 kh8 p _ _ _ kp0 kp1 kp2 q _ _ _ kq0 kq1 kq2 r _ _ _ kr0 kr1 kr2 s _ _ _ ks0 ks1 ks2 m0 m1 m2 hm  hb0 hb1 hb2 hb3 hb4 hwp hwq hwr hws hl hq (signI_zero_iff.2 hlq) (signI_zero_iff.2 hlr) (by rw [hl0, hl1, hl2]; exact Int.mul_ne_zero hd.1 hd.2) (signI_zero_iff.2 (eq_.1 hlq)) (signI_zero_iff.2 (er_.1 hlr)) hdm (by rw [hl0, hl1, hl2]; exact hxy) vq0 vq1 hs0 hs1 hv
    rcases hs2 : sameI q.a2 r.a2 with _ | _
    · exact w_ratI_2 h _ _ _ _ _ _ _ _ _ kh0 kh1 kh2 kh3 kh4 kh5 kh6 kh7 kh8 p _ _ _ kp0 kp1 kp2 q _ _ _ kq0 kq1 kq2 r _ _ _ kr0 kr1 kr2 s _ _ _ ks0 ks1 ks2 m0 m1 m2 hm  hb0 hb1 hb2 hb3 hb4 hwp hwq hwr hws hl hq (signI_zero_iff.2 hlq) (signI_zero_iff.2 hlr) (by rw [hl0, hl1, hl2]; exact Int.mul_ne_zero hd.1 hd.2) (signI_zero_iff.2 (eq_.1 hlq)) (signI_zero_iff.2 (er_.1 hlr)) hdm (by rw [hl0, hl1, hl2]; exact hxy) vq0 vq1 vq2 hs0 hs1 hs2 hv
    rw [xq0, xr0] at hs0; rw [xq1, xr1] at hs1; rw [xq2, xr2] at hs2
    exact absurd (same_cross (sameI_ofZ.1 hs0) (sameI_ofZ.1 hs1) (sameI_ofZ.1 hs2)) hq
  obtain ⟨i1, i2, i3, i4, i5, i6⟩ := inv (valH_det hv)
  have hh := valH_det hv
  obtain ⟨_, _, _, _, _, sa, ta⟩ := red3_back (app_nz hh np) ha_
  obtain ⟨_, _, _, _, _, sb, tb⟩ := red3_back (app_nz hh nq) hb_
  obtain ⟨_, _, _, _, _, sc, tc⟩ := red3_back (app_nz hh nr) hc_
  obtain ⟨_, _, _, _, _, sd, td⟩ := red3_back (app_nz hh ns) hd_
  rcases hs0 : sameI q.a0 r.a0 with _ | _
  · exact w_rat_0 h _ _ _ _ _ _ _ _ _ kh0 kh1 kh2 kh3 kh4 kh5 kh6 kh7 kh8 p _ _ _ kp0 kp1 kp2 q _ _ _ kq0 kq1 kq2 r _ _ _ kr0 kr1 kr2 s _ _ _ ks0 ks1 ks2 m0 m1 m2 hm a0 a1 a2 ha_ b0 b1 b2 hb_ c0 c1 c2 hc_ d0 d1 d2 hd_ hb0 hb1 hb2 hb3 hb4 hwp hwq hwr hws hl hq (signI_zero_iff.2 hlq) (signI_zero_iff.2 hlr) (by rw [hl0, hl1, hl2]; exact Int.mul_ne_zero hd.1 hd.2) (signI_zero_iff.2 (eq_.1 hlq)) (signI_zero_iff.2 (er_.1 hlr)) hdm (by rw [hl0, hl1, hl2]; exact hxy) vq0  hs0 hv (app_nz hh np) (app_nz hh nq) (app_nz hh nr) (app_nz hh ns) (red3_redB sa ta) (red3_redB sb tb) (red3_redB sc tc) (red3_redB sd td) i1 i2 (signI_zero_iff.2 i3) (signI_zero_iff.2 i4) i5 (by rw [hl0, hl1, hl2]; exact i6)
  rcases hs1 : sameI q.a1 r.a1 with _ | _
  · exact w_rat_1 h _ _ _ _ _ _ _ _ _ kh0 kh1 kh2 kh3 kh4 kh5 kh6 kh7 kh8 p _ _ _ kp0 kp1 kp2 q _ _ _ kq0 kq1 kq2 r _ _ _ kr0 kr1 kr2 s _ _ _ ks0 ks1 ks2 m0 m1 m2 hm a0 a1 a2 ha_ b0 b1 b2 hb_ c0 c1 c2 hc_ d0 d1 d2 hd_ hb0 hb1 hb2 hb3 hb4 hwp hwq hwr hws hl hq (signI_zero_iff.2 hlq) (signI_zero_iff.2 hlr) (by rw [hl0, hl1, hl2]; exact Int.mul_ne_zero hd.1 hd.2) (signI_zero_iff.2 (eq_.1 hlq)) (signI_zero_iff.2 (er_.1 hlr)) hdm (by rw [hl0, hl1, hl2]; exact hxy) vq0 vq1 hs0 hs1 hv (app_nz hh np) (app_nz hh nq) (app_nz hh nr) (app_nz hh ns) (red3_redB sa ta) (red3_redB sb tb) (red3_redB sc tc) (red3_redB sd td) i1 i2 (signI_zero_iff.2 i3) (signI_zero_iff.2 i4) i5 (by rw [hl0, hl1, hl2]; exact i6)
  rcases hs2 : sameI q.a2 r.a2 with _ | _
  · exact w_rat_2 h _ _ _ _ _ _ _ _ _ kh0 kh1 kh2 kh3 kh4 kh5 kh6 kh7 kh8 p _ _ _ kp0 kp1 kp2 q _ _ _ kq0 kq1 kq2 r _ _ _ kr0 kr1 kr2 s _ _ _ ks0 ks1 ks2 m0 m1 m2 hm a0 a1 a2 ha_ b0 b1 b2 hb_ c0 c1 c2 hc_ d0 d1 d2 hd_ hb0 hb1 hb2 hb3 hb4 hwp hwq hwr hws hl hq (signI_zero_iff.2 hlq) (signI_zero_iff.2 hlr) (by rw [hl0, hl1, hl2]; exact Int.mul_ne_zero hd.1 hd.2) (signI_zero_iff.2 (eq_.1 hlq)) (signI_zero_iff.2 (er_.1 hlr)) hdm (by rw [hl0, hl1, hl2]; exact hxy) vq0 vq1 vq2 hs0 hs1 hs2 hv (app_nz hh np) (app_nz hh nq) (app_nz hh nr) (app_nz hh ns) (red3_redB sa ta) (red3_redB sb tb) (red3_redB sc tc) (red3_redB sd td) i1 i2 (signI_zero_iff.2 i3) (signI_zero_iff.2 i4) i5 (by rw [hl0, hl1, hl2]; exact i6)
  rw [xq0, xr0] at hs0; rw [xq1, xr1] at hs1; rw [xq2, xr2] at hs2
  exact absurd (same_cross (sameI_ofZ.1 hs0) (sameI_ofZ.1 hs1) (sameI_ofZ.1 hs2)) hq
theorem laidOut : laidOutB Tryz.prog = true := by kernel_rfl
set_option maxRecDepth 100000 in
theorem law_lifted (os : Os) (started : os.Started) (H : Type) (enc : TypeId × Value → H) :
    ReturnsInHanded {} Tryz.checked os 7 .any (Rows.homographyRatiosSpec.pre6 enc Tryz.prog Tryz.f7 Rows.homographyRatiosRow.domain false) (Rows.homographyRatiosSpec.post enc Tryz.prog Tryz.f7 false true false false) := by
  refine returnsInHanded_of_change_sized (C := Tryz.checked) (by kernel_rfl) started (by kernel_rfl) Tryz.func7
    (ChangeSpec.witness6 (enc := enc) (C := Tryz.checked) false ⟨#[], #[.agg #[.bool false, .slice none 0 0, .bool false, .slice none 0 0, .bool false, .slice none 0 0, .bool false, .slice none 0 0, .bool false, .slice none 0 0, .bool false, .slice none 0 0, .bool false, .slice none 0 0, .bool false, .slice none 0 0, .bool false, .slice none 0 0], .agg #[.bool false, .slice none 0 0, .bool false, .slice none 0 0, .bool false, .slice none 0 0, .bool false, .slice none 0 0, .bool false, .slice none 0 0, .bool false, .slice none 0 0, .bool false, .slice none 0 0, .bool false, .slice none 0 0, .bool false, .slice none 0 0, .bool false, .slice none 0 0, .bool false, .slice none 0 0, .bool false, .slice none 0 0]], []⟩ 8 (by kernel_rfl) (by kernel_rfl) (by kernel_rfl) (by kernel_rfl)) ?_
  intro W base args ds gs before hval hW _ hwt _
  refine law_contract (tys := [ty31, ty64]) (B := 4) laidOut rfl (by kernel_rfl) (by kernel_rfl) (by kernel_rfl) (by kernel_rfl) ?_ ?_ W base args ds gs before hval hW hwt
  · intro ds hl
    have hl2 : ds.length = 2 := hl
    match ds, hl2 with
    | [d1, d2], _ => exact ⟨rfl, rfl, rfl⟩
  · intro dss h
    cases h with
    | cons h1 r =>
      cases r with
      | cons h2 r =>
        cases r with
        | nil =>
          obtain ⟨h, e1, lh⟩ := sh31_ h1
          obtain ⟨l, e2, ll⟩ := sh64_ h2
          simp only [mkAll]
          rw [e1, e2]
          exact takes_law h l lh ll
theorem law_holds : Rows.HomographyRatiosSaid :=
  OpenClaim.holds_of_wide 7 Tryz.f7 rfl rfl rfl rfl rfl rfl rfl ⟨rfl, rfl, rfl, rfl, rfl⟩ rfl rfl rfl rfl rfl (by kernel_rfl) Tryz.func7 (by kernel_rfl)
    (of_decide_eq_true (by kernel_rfl)) (by unfold Func.isWrapper; rw [if_neg (by decide +kernel)]; exact ⟨rfl, rfl⟩)
    (fun os started H enc _ => law_lifted os started H enc)
end Go.Proofs.YtadkkhdnccljcaaGreat
