/-
  Functions walked: each takes its data to what is said. Printed by a program of ours.
-/
import Derived.Test.YtadkkhdnccljcaaGreatHoD
import Derived.Test.YtadkkhdnccljcaaGreatFraC
namespace Go.Proofs.YtadkkhdnccljcaaGreat
open Go.Fid
set_option maxRecDepth 4000
set_option linter.unusedVariables false
set_option linter.unusedSimpArgs false
theorem by30 : bytesB Tryz.prog 30 = some 32 := by kernel_rfl
theorem cb17 : callB Tryz.prog 17 = true := by kernel_rfl
theorem cb23 : callB Tryz.prog 23 = true := by kernel_rfl
theorem cb24 : callB Tryz.prog 24 = true := by kernel_rfl
theorem cb25 : callB Tryz.prog 25 = true := by kernel_rfl
theorem cb40 : callB Tryz.prog 40 = true := by kernel_rfl
theorem cb44 : callB Tryz.prog 44 = true := by kernel_rfl
theorem cb54 : callB Tryz.prog 54 = true := by kernel_rfl
theorem cb74 : callB Tryz.prog 74 = true := by kernel_rfl
theorem cb80 : callB Tryz.prog 80 = true := by kernel_rfl
theorem cb81 : callB Tryz.prog 81 = true := by kernel_rfl
theorem cb82 : callB Tryz.prog 82 = true := by kernel_rfl
theorem cb107 : callB Tryz.prog 107 = true := by kernel_rfl
theorem r_same (x y : RInt) (hx : x.gs.length ≤ 1099511627776) (hy : y.gs.length ≤ 1099511627776) : Takes Tryz.prog 74 [(encI x), (encI y)] (.val (.bool ((sameI x y)))) := by
  refine fn_intro Tryz.func74 rfl cb74 rfl ?_
  show PWp _ _ _ _ ⟨[(0, (.d (encI x))), (1, (.d (encI y)))], []⟩
  refine pwp_seq <| pwp_S (S' := [(2, (.ref 0 0)), (3, (.ref 1 0))]) (B' := [(0, some (bx (encI x))), (1, some (bx (encI y)))]) ?_ ?_
  · exact sN (n_bx (d := (encI x)) (cs := (bx (encI x))) 0 rfl rfl rfl rfl) rfl rfl rfl rfl <| sN (n_bx (d := (encI y)) (cs := (bx (encI y))) 1 rfl rfl rfl rfl) rfl rfl rfl rfl <| sM (vb false) rfl rfl <| sNil rfl rfl
  refine pwp_seq <| pwp_seq <| pwp_S (S' := [(2, (.ref 0 0)), (3, (.ref 1 0)), (19, (vb (!(x.neg == y.neg) || (((x.gs.length : Nat) : Int) != ((y.gs.length : Nat) : Int)))))]) (B' := [(0, some (bx (encI x))), (1, some (bx (encI y)))]) ?_ ?_
  · refine sE' (e_fldr (q := 0) rfl rfl fo30_0 rfl) rfl <| sR (e_ld1 (cs := (bx (encI x))) (y := (vb x.neg)) rfl rfl sh4 rfl) rfl rfl rfl rfl <| sE' (e_fldr (q := 0) rfl rfl fo30_0 rfl) rfl <| sR (e_ld1 (cs := (bx (encI y))) (y := (vb y.neg)) rfl rfl sh4 rfl) rfl rfl rfl rfl <| sE' (e_neqb rfl bo4 rfl rfl) rfl <| sM (vb (!(x.neg == y.neg))) rfl rfl <| ?_
    rcases hb1 : (!(x.neg == y.neg)) with _ | _
    · exact sE' (e_fldr (q := 1) rfl rfl fo30_1 rfl) rfl <| sR (e_ld1 (cs := (bx (encI x))) (y := (vl 138 1 enc_u32 x.gs)) rfl rfl sh28 rfl) rfl rfl rfl rfl <| sE' (e_ln (r := ((x.gs.length : Nat) : Int)) rfl el28 rfl (by simp)) rfl <| sE' (e_fldr (q := 1) rfl rfl fo30_1 rfl) rfl <| sR (e_ld1 (cs := (bx (encI y))) (y := (vl 138 1 enc_u32 y.gs)) rfl rfl sh28 rfl) rfl rfl rfl rfl <| sE' (e_ln (r := ((y.gs.length : Nat) : Int)) rfl el28 rfl (by simp)) rfl <| sE' (e_neq rfl rfl rfl) rfl <| sE' (e_pkfo rfl rfl rfl) rfl <| sNil rfl rfl
    · exact sK rfl rfl rfl <| sK rfl rfl rfl <| sK rfl rfl rfl <| sK rfl rfl rfl <| sK rfl rfl rfl <| sK rfl rfl rfl <| sK rfl rfl rfl <| sE' (e_pkt (z := (vb true)) rfl rfl rfl) rfl <| sNil rfl rfl
  refine pwp_cond (b := (!(x.neg == y.neg) || (((x.gs.length : Nat) : Int) != ((y.gs.length : Nat) : Int)))) rfl (fun h2 => ?_) (fun h2 => ?_)
  · refine pwp_seq <| pwp_S (S' := [(4, (vb false))]) (B' := []) ?_ ?_
    · exact sM (vb false) rfl rfl <| sNil rfl rfl
    refine pwp_ret ⟨_, (.tmp (d := (.val (.bool (false)))) rfl .nil), ?_⟩
    rw [same_no1 h2]; rfl
  · obtain ⟨hn1, hn2⟩ := same_head h2
    refine pwp_skip <| pwp_seq <| pwp_seq <| pwp_S (S' := [(2, (.ref 0 0)), (3, (.ref 1 0)), (5, (vin 0))]) (B' := [(0, some (bx (encI x))), (1, some (bx (encI y)))]) ?_ ?_
    · exact sM (vin 0) rfl rfl <| sNil rfl rfl
    refine pwp_block <| pwp_loop (α := Nat) (fun i => ⟨[(2, (.ref 0 0)), (3, (.ref 1 0)), (5, (vin i))], [(0, some (bx (encI x))), (1, some (bx (encI y)))]⟩) (fun i => i ≤ x.gs.length ∧ x.gs.take i = y.gs.take i) (fun i => x.gs.length - i) 0 (weak rfl rfl) ⟨Nat.zero_le _, by simp⟩ ?_
    rintro i ⟨hi, hv⟩
    refine pwp_seq <| pwp_seq <| pwp_S (S' := [(2, (.ref 0 0)), (3, (.ref 1 0)), (5, (vin i)), (24, (vb (decide (((i : Nat) : Int) < ((x.gs.length : Nat) : Int)))))]) (B' := [(0, some (bx (encI x))), (1, some (bx (encI y)))]) ?_ ?_
    · exact sM (vin i) rfl rfl <| sE' (e_fldr (q := 1) rfl rfl fo30_1 rfl) rfl <| sR (e_ld1 (cs := (bx (encI x))) (y := (vl 138 1 enc_u32 x.gs)) rfl rfl sh28 rfl) rfl rfl rfl rfl <| sE' (e_ln (r := ((x.gs.length : Nat) : Int)) rfl el28 rfl (by simp)) rfl <| sE' (e_lss rfl rfl rfl) rfl <| sNil rfl rfl
    refine pwp_cond (b := decide (((i : Nat) : Int) < ((x.gs.length : Nat) : Int))) rfl (fun h3 => ?_) (fun h3 => ?_)
    · replace h3 := of_decide_eq_true h3
      refine pwp_skip <| pwp_seq <| pwp_block <| pwp_seq <| pwp_D (S' := [(2, (.ref 0 0)), (3, (.ref 1 0)), (5, (vin i)), (37, (vb ((((x.gs.getD i 0) : Nat) : Int) != (((y.gs.getD i 0) : Nat) : Int))))]) (B' := [(0, some (bx (encI x))), (1, some (bx (encI y)))]) mo (by kernel_rfl) ?_ ?_
      · exact dE' (e_fldr (q := 1) rfl rfl fo30_1 rfl) rfl rfl <| dR (e_ld1 (cs := (bx (encI x))) (y := (vl 138 1 enc_u32 x.gs)) rfl rfl sh28 rfl) rfl rfl rfl rfl rfl <| dM (vin i) rfl rfl rfl <| dE' (e_ixs (j := i) (cs := (Dat.cells (.val (.int .u32 ((((x.gs.getD i 0) : Nat) : Int)))))) rfl el28 rfl rfl (by omega) (ixm _ _ _ _ (by omega))) rfl rfl <| dE' (e_lc1 (cs := (Dat.cells (.val (.int .u32 ((((x.gs.getD i 0) : Nat) : Int)))))) (y := (.val (.int .u32 ((((x.gs.getD i 0) : Nat) : Int))))) rfl rfl sh138 rfl) rfl rfl <| dE' (e_fldr (q := 1) rfl rfl fo30_1 rfl) rfl rfl <| dR (e_ld1 (cs := (bx (encI y))) (y := (vl 138 1 enc_u32 y.gs)) rfl rfl sh28 rfl) rfl rfl rfl rfl rfl <| dM (vin i) rfl rfl rfl <| dE' (e_ixs (j := i) (cs := (Dat.cells (.val (.int .u32 ((((y.gs.getD i 0) : Nat) : Int)))))) rfl el28 rfl rfl (by omega) (ixm _ _ _ _ (by omega))) rfl rfl <| dE' (e_lc1 (cs := (Dat.cells (.val (.int .u32 ((((y.gs.getD i 0) : Nat) : Int)))))) (y := (.val (.int .u32 ((((y.gs.getD i 0) : Nat) : Int))))) rfl rfl sh138 rfl) rfl rfl <| dE' (e_neq rfl rfl rfl) rfl rfl <| dNil rfl rfl (by kernel_rfl)
      refine pwp_cond (b := ((((x.gs.getD i 0) : Nat) : Int) != (((y.gs.getD i 0) : Nat) : Int))) rfl (fun h4 => ?_) (fun h4 => ?_)
      · replace h4 := bne_iff_ne.1 h4
        refine pwp_seq <| pwp_S (S' := [(4, (vb false))]) (B' := []) ?_ ?_
        · exact sM (vb false) rfl rfl <| sNil rfl rfl
        refine pwp_ret ⟨_, (.tmp (d := (.val (.bool (false)))) rfl .nil), ?_⟩
        rw [same_no2 (by omega) h4]; rfl
      · replace h4 := bne_eq_false_iff_eq.1 h4
        refine pwp_skip <| pwp_S (S' := [(2, (.ref 0 0)), (3, (.ref 1 0)), (5, (vin (i + 1)))]) (B' := [(0, some (bx (encI x))), (1, some (bx (encI y)))]) ?_ ?_
        · exact sM (vin i) rfl rfl <| sE' (e_add (r := (((i + 1) : Nat) : Int)) rfl rfl rfl (wi64 (by omega) (by omega) (by omega))) rfl <| sM (vin (i + 1)) rfl rfl <| sNil rfl rfl
        exact ⟨(i + 1), (weak rfl rfl), ⟨by omega, take_same (by omega) (by omega) hv h4⟩, (by first | omega | (dsimp only; omega))⟩
    · replace h3 := of_decide_eq_false h3
      have hie : i = x.gs.length := by omega
      rw [hie, List.take_length] at hv
      rw [List.take_of_length_le (by omega)] at hv
      refine pwp_exit <| pwp_seq <| pwp_S (S' := [(4, (vb true))]) (B' := []) ?_ ?_
      · exact sM (vb true) rfl rfl <| sNil rfl rfl
      refine pwp_ret ⟨_, (.tmp (d := (.val (.bool (true)))) rfl .nil), ?_⟩
      rw [same_yes hn1 hv]; rfl
theorem l_wholeI (n : Int) (hlo : -9223372036854775808 ≤ n) (hhi : n ≤ 9223372036854775807) : Takes Tryz.prog 44 [(.val (.int .i64 (n)))] (encI (ofZ n)) := by
  refine fn_intro Tryz.func44 rfl cb44 rfl ?_
  show PWp _ _ _ _ ⟨[(0, (vi n))], []⟩
  refine pwp_seq <| pwp_S (S' := [(0, (vi n)), (2, (.ref 0 0))]) (B' := [(0, some (bx (encI (RInt.mk false []))))]) ?_ ?_
  · exact sN (n_al (cs := (bx (encI (RInt.mk false [])))) 0 rfl ze30 zo30 rfl) rfl rfl rfl rfl <| sNil rfl rfl
  refine pwp_seq <| pwp_S (S' := [(2, (.ref 0 0))]) (B' := [(0, some (bx (encI (ofZ n))))]) ?_ ?_
  · exact sM (vi n) rfl rfl <| sE' (e_cl (r_of n (by omega) (by omega)) rfl rfl rfl) rfl <| sT (t_std (d := (encI (ofZ n))) (cs := (bx (encI (ofZ n)))) rfl rfl rfl sh30 rfl rfl rfl rfl) rfl rfl rfl <| sNil rfl rfl
  refine pwp_ret ⟨_, (res_a (cs := (bx (encI (ofZ n)))) (d := (encI (ofZ n))) rfl rfl sh30 rfl rfl .nil), ?_⟩
  rfl
theorem l_zero (x : RInt) (a : Int) (hx : IOk x a 5000000000) : Takes Tryz.prog 40 [(encI x)] (.val (.bool ((signI a == 0)))) := by
  refine fn_intro Tryz.func40 rfl cb40 rfl ?_
  show PWp _ _ _ _ ⟨[(0, (.d (encI x)))], []⟩
  refine pwp_seq <| pwp_S (S' := [(1, (.ref 0 0))]) (B' := [(0, some (bx (encI x)))]) ?_ ?_
  · exact sN (n_bx (d := (encI x)) (cs := (bx (encI x))) 0 rfl rfl rfl rfl) rfl rfl rfl rfl <| sM (vb false) rfl rfl <| sNil rfl rfl
  refine pwp_seq <| pwp_S (S' := [(2, (vb ((signI a) == 0)))]) (B' := []) ?_ ?_
  · exact sR (e_lda (cs := (bx (encI x))) (y := (.d (encI x))) rfl rfl sh30 rfl rfl) rfl rfl rfl rfl <| sE' (e_cl (rs_sign hx (by decide)) rfl rfl rfl) rfl <| sE' (e_eql rfl rfl rfl) rfl <| sM (vb ((signI a) == 0)) rfl rfl <| sNil rfl rfl
  refine pwp_ret ⟨_, (.tmp (d := (.val (.bool (((signI a) == 0))))) rfl .nil), ?_⟩
  rfl
theorem l_det (p : A3 RInt) (p0 p1 p2 : Int) (hp0 : IOk p.a0 p0 1000000) (hp1 : IOk p.a1 p1 1000000) (hp2 : IOk p.a2 p2 1000000) (q : A3 RInt) (q0 q1 q2 : Int) (hq0 : IOk q.a0 q0 1000000) (hq1 : IOk q.a1 q1 1000000) (hq2 : IOk q.a2 q2 1000000) (r : A3 RInt) (r0 r1 r2 : Int) (hr0 : IOk r.a0 r0 1000000) (hr1 : IOk r.a1 r1 1000000) (hr2 : IOk r.a2 r2 1000000) : Takes Tryz.prog 81 [(encA43 p), (encA43 q), (encA43 r)] (encI (ofZ (det3 p0 p1 p2 q0 q1 q2 r0 r1 r2))) := by
  let y1 := (encI (ofZ (((p0 * ((q1 * r2) - (q2 * r1))) + (p1 * ((q2 * r0) - (q0 * r2)))) + (p2 * ((q0 * r1) - (q1 * r0))))))
  refine fn_intro Tryz.func81 rfl cb81 rfl ?_
  show PWp _ _ _ _ ⟨[(0, (.d (encA43 p))), (1, (.d (encA43 q))), (2, (.d (encA43 r)))], []⟩
  refine pwp_seq <| pwp_S (S' := [(3, (.ref 0 0)), (4, (.ref 1 0)), (5, (.ref 2 0)), (6, (.ref 3 0))]) (B' := [(0, some (bx (encA43 p))), (1, some (bx (encA43 q))), (2, some (bx (encA43 r))), (3, some (bx (encI (RInt.mk false []))))]) ?_ ?_
  · exact sN (n_bx (d := (encA43 p)) (cs := (bx (encA43 p))) 0 rfl rfl rfl rfl) rfl rfl rfl rfl <| sN (n_bx (d := (encA43 q)) (cs := (bx (encA43 q))) 1 rfl rfl rfl rfl) rfl rfl rfl rfl <| sN (n_bx (d := (encA43 r)) (cs := (bx (encA43 r))) 2 rfl rfl rfl rfl) rfl rfl rfl rfl <| sN (n_al (cs := (bx (encI (RInt.mk false [])))) 3 rfl ze30 zo30 rfl) rfl rfl rfl rfl <| sNil rfl rfl
  refine pwp_seq ?_
  have bn1 : IOk (ofZ ((q1 * r2) - (q2 * r1))) ((q1 * r2) - (q2 * r1)) 2000001 := (iok_sub (k := 2000001) (iok_mul (k := 2000000) hq1 hr2 (by decide)) (iok_mul (k := 2000000) hq2 hr1 (by decide)) (by decide))
  have bn2 : IOk (ofZ ((q2 * r0) - (q0 * r2))) ((q2 * r0) - (q0 * r2)) 2000001 := (iok_sub (k := 2000001) (iok_mul (k := 2000000) hq2 hr0 (by decide)) (iok_mul (k := 2000000) hq0 hr2 (by decide)) (by decide))
  have bn3 : IOk (ofZ ((q0 * r1) - (q1 * r0))) ((q0 * r1) - (q1 * r0)) 2000001 := (iok_sub (k := 2000001) (iok_mul (k := 2000000) hq0 hr1 (by decide)) (iok_mul (k := 2000000) hq1 hr0 (by decide)) (by decide))
  have bn4 : IOk (ofZ (((p0 * ((q1 * r2) - (q2 * r1))) + (p1 * ((q2 * r0) - (q0 * r2)))) + (p2 * ((q0 * r1) - (q1 * r0))))) (((p0 * ((q1 * r2) - (q2 * r1))) + (p1 * ((q2 * r0) - (q0 * r2)))) + (p2 * ((q0 * r1) - (q1 * r0)))) 3000003 := (iok_add (k := 3000003) (iok_add (k := 3000002) (iok_mul (k := 3000001) hp0 bn1 (by decide)) (iok_mul (k := 3000001) hp1 bn2 (by decide)) (by decide)) (iok_mul (k := 3000001) hp2 bn3 (by decide)) (by decide))
  refine pwp_D (S' := [(6, (.ref 3 0))]) (B' := [(3, some (bx y1))]) mo (by kernel_rfl) ?_ ?_
  · exact dR (e_lda (cs := (bx (encA43 p))) (y := (.d (encA43 p))) rfl rfl sh44 rfl rfl) rfl rfl rfl rfl rfl <| dR (e_lda (cs := (bx (encA43 q))) (y := (.d (encA43 q))) rfl rfl sh44 rfl rfl) rfl rfl rfl rfl rfl <| dR (e_lda (cs := (bx (encA43 r))) (y := (.d (encA43 r))) rfl rfl sh44 rfl rfl) rfl rfl rfl rfl rfl <| dE' (e_cl (l_cross q q0 q1 q2 (iu hq0) (iu hq1) (iu hq2) r r0 r1 r2 (iu hr0) (iu hr1) (iu hr2)) rfl rfl rfl) rfl rfl <| dE' (e_cl (l_dot p p0 p1 p2 (iu hp0) (iu hp1) (iu hp2) (A3.mk (ofZ ((q1 * r2) - (q2 * r1))) (ofZ ((q2 * r0) - (q0 * r2))) (ofZ ((q0 * r1) - (q1 * r0)))) ((q1 * r2) - (q2 * r1)) ((q2 * r0) - (q0 * r2)) ((q0 * r1) - (q1 * r0)) (iu bn1) (iu bn2) (iu bn3)) rfl rfl rfl) rfl rfl <| dT (t_std (d := y1) (cs := (bx y1)) rfl rfl rfl sh30 rfl rfl rfl rfl) rfl rfl rfl rfl <| dNil rfl rfl (by kernel_rfl)
  refine pwp_ret ⟨_, (res_a (cs := (bx (encI (ofZ (((p0 * ((q1 * r2) - (q2 * r1))) + (p1 * ((q2 * r0) - (q0 * r2)))) + (p2 * ((q0 * r1) - (q1 * r0)))))))) (d := (encI (ofZ (((p0 * ((q1 * r2) - (q2 * r1))) + (p1 * ((q2 * r0) - (q0 * r2)))) + (p2 * ((q0 * r1) - (q1 * r0))))))) rfl rfl sh30 rfl rfl .nil), ?_⟩
  rfl
theorem l_redN (tau : Nat) (l : List RInt) (zs : List Int) (hl : LOk 1000000 l zs) (hb : l.length ≤ 1000000) (hnz : sgnL zs = 0) : Takes Tryz.prog 107 [(.sl tau 2 (List.map encI l))] (.val (.slice none 0 0)) := by
  have hlen := hl.len
  refine fn_intro Tryz.func107 rfl cb107 rfl ?_
  show PWp _ _ _ _ ⟨[(0, (vl tau 2 encI l))], []⟩
  refine pwp_seq <| pwp_S (S' := [(0, (vl tau 2 encI l))]) (B' := []) ?_ ?_
  · exact sM (.d (.val (.slice none 0 0))) rfl rfl <| sNil rfl rfl
  refine pwp_seq <| pwp_S (S' := [(0, (vl tau 2 encI l)), (3, (.ref 0 0))]) (B' := [(0, some (bx (encI (ofZ 0))))]) ?_ ?_
  · exact sE' (e_cl (l_wholeI 0 (by decide) (by decide)) rfl rfl rfl) rfl <| sN (n_al (cs := (bx (encI (RInt.mk false [])))) 0 rfl ze30 zo30 rfl) rfl rfl rfl rfl <| sT (t_std (d := (encI (ofZ 0))) (cs := (bx (encI (ofZ 0)))) rfl rfl rfl sh30 rfl rfl rfl rfl) rfl rfl rfl <| sNil rfl rfl
  refine pwp_seq <| pwp_S (S' := [(0, (vl tau 2 encI l)), (3, (.ref 0 0)), (4, (vin 0))]) (B' := [(0, some (bx (encI (ofZ 0))))]) ?_ ?_
  · exact sM (vin 0) rfl rfl <| sNil rfl rfl
  refine pwp_seq <| pwp_seq <| pwp_S (S' := [(0, (vl tau 2 encI l)), (3, (.ref 0 0)), (4, (vin 0)), (14, (vl tau 2 encI l)), (15, (vin l.length)), (16, (vin 0))]) (B' := [(0, some (bx (encI (ofZ 0))))]) ?_ ?_
  · exact sM (vl tau 2 encI l) rfl rfl <| sE' (e_ln (r := ((l.length : Nat) : Int)) rfl el40 rfl (by simp)) rfl <| sM (vin 0) rfl rfl <| sNil rfl rfl
  refine pwp_block <| pwp_loop (α := Nat × Nat × Int) (fun (i, g, s) => ⟨[(0, (vl tau 2 encI l)), (3, (.ref 0 0)), (4, (vi s)), (14, (vl tau 2 encI l)), (15, (vin l.length)), (16, (vin i))], [(0, some (bx (encI (ofZ ((g : Nat) : Int)))))]⟩) (fun (i, g, s) => i ≤ l.length ∧ g = gcdL (zs.take i) ∧ s = sgnL (zs.take i)) (fun (i, g, s) => l.length - i) (0, 0, 0) (weak rfl rfl) ⟨Nat.zero_le _, rfl, rfl⟩ ?_
  rintro ⟨i, g, s⟩ ⟨hi, hgv, hsv⟩
  have hg : IOk (ofZ ((g : Nat) : Int)) ((g : Nat) : Int) 1000000 := by rw [hgv]; exact gcdL_takelen hl.all i
  refine pwp_seq <| pwp_S (S' := [(0, (vl tau 2 encI l)), (3, (.ref 0 0)), (4, (vi s)), (14, (vl tau 2 encI l)), (15, (vin l.length)), (16, (vin i)), (17, (vb (decide (((i : Nat) : Int) < ((l.length : Nat) : Int)))))]) (B' := [(0, some (bx (encI (ofZ ((g : Nat) : Int)))))]) ?_ ?_
  · exact sE' (e_lss rfl rfl rfl) rfl <| sNil rfl rfl
  refine pwp_seq <| pwp_cond (b := decide (((i : Nat) : Int) < ((l.length : Nat) : Int))) rfl (fun h1 => ?_) (fun h1 => ?_)
  · replace h1 := of_decide_eq_true h1
    refine pwp_skip <| pwp_seq <| pwp_block <| pwp_seq <| pwp_S (S' := [(0, (vl tau 2 encI l)), (3, (.ref 0 0)), (4, (vi s)), (6, (.ref 1 0)), (14, (vl tau 2 encI l)), (15, (vin l.length)), (16, (vin i))]) (B' := [(0, some (bx (encI (ofZ ((g : Nat) : Int))))), (1, some (bx (encI (l.getD i (RInt.mk false [])))))]) ?_ ?_
    · exact sE' (e_ixs (j := i) (cs := (Dat.cells (encI (l.getD i (RInt.mk false []))))) rfl el40 rfl rfl (by omega) (ixm _ _ _ _ (by omega))) rfl <| sE' (e_lca (cs := (Dat.cells (encI (l.getD i (RInt.mk false []))))) (y := (.d (encI (l.getD i (RInt.mk false []))))) rfl rfl sh30 rfl rfl) rfl <| sN (n_al (cs := (bx (encI (RInt.mk false [])))) 1 rfl ze30 zo30 rfl) rfl rfl rfl rfl <| sT (t_std (d := (encI (l.getD i (RInt.mk false [])))) (cs := (bx (encI (l.getD i (RInt.mk false []))))) rfl rfl rfl sh30 rfl rfl rfl rfl) rfl rfl rfl <| sNil rfl rfl
    refine pwp_seq <| pwp_S (S' := [(0, (vl tau 2 encI l)), (3, (.ref 0 0)), (4, (vi s)), (6, (.ref 1 0)), (14, (vl tau 2 encI l)), (15, (vin l.length)), (16, (vin i))]) (B' := [(0, some (bx (encI (ofZ ((Int.gcd ((g : Nat) : Int) (zs.getD i 0) : Nat) : Int))))), (1, some (bx (encI (l.getD i (RInt.mk false [])))))]) ?_ ?_
    · exact sR (e_lda (cs := (bx (encI (ofZ ((g : Nat) : Int))))) (y := (.d (encI (ofZ ((g : Nat) : Int))))) rfl rfl sh30 rfl rfl) rfl rfl rfl rfl <| sR (e_lda (cs := (bx (encI (l.getD i (RInt.mk false []))))) (y := (.d (encI (l.getD i (RInt.mk false []))))) rfl rfl sh30 rfl rfl) rfl rfl rfl rfl <| sE' (e_cl (rs_gcd hg (hl.get i) (by decide) (by decide)) rfl rfl rfl) rfl <| sT (t_std (d := (encI (ofZ ((Int.gcd ((g : Nat) : Int) (zs.getD i 0) : Nat) : Int)))) (cs := (bx (encI (ofZ ((Int.gcd ((g : Nat) : Int) (zs.getD i 0) : Nat) : Int))))) rfl rfl rfl sh30 rfl rfl rfl rfl) rfl rfl rfl <| sNil rfl rfl
    refine pwp_seq <| pwp_S (S' := [(0, (vl tau 2 encI l)), (3, (.ref 0 0)), (4, (vi s)), (6, (.ref 1 0)), (14, (vl tau 2 encI l)), (15, (vin l.length)), (16, (vin i)), (24, (vb (s == 0)))]) (B' := [(0, some (bx (encI (ofZ ((Int.gcd ((g : Nat) : Int) (zs.getD i 0) : Nat) : Int))))), (1, some (bx (encI (l.getD i (RInt.mk false [])))))]) ?_ ?_
    · exact sM (vi s) rfl rfl <| sE' (e_eql rfl rfl rfl) rfl <| sNil rfl rfl
    refine pwp_cond (b := (s == 0)) rfl (fun h2 => ?_) (fun h2 => ?_)
    · replace h2 := eq_of_beq h2
      refine pwp_S (S' := [(0, (vl tau 2 encI l)), (3, (.ref 0 0)), (4, (vi (signI (zs.getD i 0)))), (14, (vl tau 2 encI l)), (15, (vin l.length)), (16, (vin i))]) (B' := [(0, some (bx (encI (ofZ ((Int.gcd ((g : Nat) : Int) (zs.getD i 0) : Nat) : Int)))))]) ?_ ?_
      · exact sR (e_lda (cs := (bx (encI (l.getD i (RInt.mk false []))))) (y := (.d (encI (l.getD i (RInt.mk false []))))) rfl rfl sh30 rfl rfl) rfl rfl rfl rfl <| sE' (e_cl (rs_sign (hl.get i) (by decide)) rfl rfl rfl) rfl <| sM (vi (signI (zs.getD i 0))) rfl rfl <| sNil rfl rfl
      refine pwp_S (S' := [(0, (vl tau 2 encI l)), (3, (.ref 0 0)), (4, (vi (signI (zs.getD i 0)))), (14, (vl tau 2 encI l)), (15, (vin l.length)), (16, (vin (i + 1)))]) (B' := [(0, some (bx (encI (ofZ ((Int.gcd ((g : Nat) : Int) (zs.getD i 0) : Nat) : Int)))))]) ?_ ?_
      · exact sE' (e_add (r := (((i + 1) : Nat) : Int)) rfl rfl rfl (wi64 (by omega) (by omega) (by omega))) rfl <| sM (vin (i + 1)) rfl rfl <| sNil rfl rfl
      exact ⟨(i + 1, Int.gcd ((g : Nat) : Int) (zs.getD i 0), signI (zs.getD i 0)), (weak rfl rfl), ⟨by omega, by rw [hgv]; exact (gcdL_step (by omega)).symm, sgnL_step0 (by omega) hsv h2⟩, (by first | omega | (dsimp only; omega))⟩
    · replace h2 := ne_of_beq_false h2
      refine pwp_skip <| pwp_S (S' := [(0, (vl tau 2 encI l)), (3, (.ref 0 0)), (4, (vi s)), (14, (vl tau 2 encI l)), (15, (vin l.length)), (16, (vin (i + 1)))]) (B' := [(0, some (bx (encI (ofZ ((Int.gcd ((g : Nat) : Int) (zs.getD i 0) : Nat) : Int)))))]) ?_ ?_
      · exact sE' (e_add (r := (((i + 1) : Nat) : Int)) rfl rfl rfl (wi64 (by omega) (by omega) (by omega))) rfl <| sM (vin (i + 1)) rfl rfl <| sNil rfl rfl
      exact ⟨(i + 1, Int.gcd ((g : Nat) : Int) (zs.getD i 0), s), (weak rfl rfl), ⟨by omega, by rw [hgv]; exact (gcdL_step (by omega)).symm, sgnL_step1 (by omega) hsv h2⟩, (by first | omega | (dsimp only; omega))⟩
  · replace h1 := of_decide_eq_false h1
    have hie : i = l.length := by omega
    rw [hie, hlen, List.take_length] at hgv hsv
    refine pwp_exit <| pwp_seq <| pwp_seq <| pwp_S (S' := [(0, (vl tau 2 encI l)), (3, (.ref 0 0)), (4, (vi s)), (29, (vb (s == 0)))]) (B' := [(0, some (bx (encI (ofZ ((g : Nat) : Int)))))]) ?_ ?_
    · exact sM (vi s) rfl rfl <| sE' (e_eql rfl rfl rfl) rfl <| sNil rfl rfl
    refine pwp_cond (b := (s == 0)) rfl (fun h3 => ?_) (fun h3 => ?_)
    · replace h3 := eq_of_beq h3
      refine pwp_seq <| pwp_S (S' := [(2, (.d (.val (.slice none 0 0))))]) (B' := []) ?_ ?_
      · exact sM (.d (.val (.slice none 0 0))) rfl rfl <| sNil rfl rfl
      refine pwp_ret ⟨_, (.tmp (d := (.val (.slice none 0 0))) rfl .nil), ?_⟩
      rfl
    · replace h3 := ne_of_beq_false h3
      exact absurd (hsv.trans hnz) h3
theorem l_red (tau : Nat) (l : List RInt) (zs : List Int) (hl : LOk 1000000 l zs) (hb : l.length ≤ 1000000) (hnz : sgnL zs ≠ 0) : Takes Tryz.prog 107 [(.sl tau 2 (List.map encI l))] (.sl 30 2 (List.map encI (List.map ofZ (redL zs)))) := by
  have hlen := hl.len
  refine fn_intro Tryz.func107 rfl cb107 rfl ?_
  show PWp _ _ _ _ ⟨[(0, (vl tau 2 encI l))], []⟩
  refine pwp_seq <| pwp_S (S' := [(0, (vl tau 2 encI l))]) (B' := []) ?_ ?_
  · exact sE' (e_asgnil 30 2 rfl) rfl <| sNil rfl rfl
  refine pwp_seq <| pwp_S (S' := [(0, (vl tau 2 encI l)), (3, (.ref 0 0))]) (B' := [(0, some (bx (encI (ofZ 0))))]) ?_ ?_
  · exact sE' (e_cl (l_wholeI 0 (by decide) (by decide)) rfl rfl rfl) rfl <| sN (n_al (cs := (bx (encI (RInt.mk false [])))) 0 rfl ze30 zo30 rfl) rfl rfl rfl rfl <| sT (t_std (d := (encI (ofZ 0))) (cs := (bx (encI (ofZ 0)))) rfl rfl rfl sh30 rfl rfl rfl rfl) rfl rfl rfl <| sNil rfl rfl
  refine pwp_seq <| pwp_S (S' := [(0, (vl tau 2 encI l)), (3, (.ref 0 0)), (4, (vin 0))]) (B' := [(0, some (bx (encI (ofZ 0))))]) ?_ ?_
  · exact sM (vin 0) rfl rfl <| sNil rfl rfl
  refine pwp_seq <| pwp_seq <| pwp_S (S' := [(0, (vl tau 2 encI l)), (3, (.ref 0 0)), (4, (vin 0)), (14, (vl tau 2 encI l)), (15, (vin l.length)), (16, (vin 0))]) (B' := [(0, some (bx (encI (ofZ 0))))]) ?_ ?_
  · exact sM (vl tau 2 encI l) rfl rfl <| sE' (e_ln (r := ((l.length : Nat) : Int)) rfl el40 rfl (by simp)) rfl <| sM (vin 0) rfl rfl <| sNil rfl rfl
  refine pwp_block <| pwp_loop (α := Nat × Nat × Int) (fun (i, g, s) => ⟨[(0, (vl tau 2 encI l)), (3, (.ref 0 0)), (4, (vi s)), (14, (vl tau 2 encI l)), (15, (vin l.length)), (16, (vin i))], [(0, some (bx (encI (ofZ ((g : Nat) : Int)))))]⟩) (fun (i, g, s) => i ≤ l.length ∧ g = gcdL (zs.take i) ∧ s = sgnL (zs.take i)) (fun (i, g, s) => l.length - i) (0, 0, 0) (weak rfl rfl) ⟨Nat.zero_le _, rfl, rfl⟩ ?_
  rintro ⟨i, g, s⟩ ⟨hi, hgv, hsv⟩
  have hg : IOk (ofZ ((g : Nat) : Int)) ((g : Nat) : Int) 1000000 := by rw [hgv]; exact gcdL_takelen hl.all i
  refine pwp_seq <| pwp_S (S' := [(0, (vl tau 2 encI l)), (3, (.ref 0 0)), (4, (vi s)), (14, (vl tau 2 encI l)), (15, (vin l.length)), (16, (vin i)), (17, (vb (decide (((i : Nat) : Int) < ((l.length : Nat) : Int)))))]) (B' := [(0, some (bx (encI (ofZ ((g : Nat) : Int)))))]) ?_ ?_
  · exact sE' (e_lss rfl rfl rfl) rfl <| sNil rfl rfl
  refine pwp_seq <| pwp_cond (b := decide (((i : Nat) : Int) < ((l.length : Nat) : Int))) rfl (fun h1 => ?_) (fun h1 => ?_)
  · replace h1 := of_decide_eq_true h1
    refine pwp_skip <| pwp_seq <| pwp_block <| pwp_seq <| pwp_S (S' := [(0, (vl tau 2 encI l)), (3, (.ref 0 0)), (4, (vi s)), (6, (.ref 1 0)), (14, (vl tau 2 encI l)), (15, (vin l.length)), (16, (vin i))]) (B' := [(0, some (bx (encI (ofZ ((g : Nat) : Int))))), (1, some (bx (encI (l.getD i (RInt.mk false [])))))]) ?_ ?_
    · exact sE' (e_ixs (j := i) (cs := (Dat.cells (encI (l.getD i (RInt.mk false []))))) rfl el40 rfl rfl (by omega) (ixm _ _ _ _ (by omega))) rfl <| sE' (e_lca (cs := (Dat.cells (encI (l.getD i (RInt.mk false []))))) (y := (.d (encI (l.getD i (RInt.mk false []))))) rfl rfl sh30 rfl rfl) rfl <| sN (n_al (cs := (bx (encI (RInt.mk false [])))) 1 rfl ze30 zo30 rfl) rfl rfl rfl rfl <| sT (t_std (d := (encI (l.getD i (RInt.mk false [])))) (cs := (bx (encI (l.getD i (RInt.mk false []))))) rfl rfl rfl sh30 rfl rfl rfl rfl) rfl rfl rfl <| sNil rfl rfl
    refine pwp_seq <| pwp_S (S' := [(0, (vl tau 2 encI l)), (3, (.ref 0 0)), (4, (vi s)), (6, (.ref 1 0)), (14, (vl tau 2 encI l)), (15, (vin l.length)), (16, (vin i))]) (B' := [(0, some (bx (encI (ofZ ((Int.gcd ((g : Nat) : Int) (zs.getD i 0) : Nat) : Int))))), (1, some (bx (encI (l.getD i (RInt.mk false [])))))]) ?_ ?_
    · exact sR (e_lda (cs := (bx (encI (ofZ ((g : Nat) : Int))))) (y := (.d (encI (ofZ ((g : Nat) : Int))))) rfl rfl sh30 rfl rfl) rfl rfl rfl rfl <| sR (e_lda (cs := (bx (encI (l.getD i (RInt.mk false []))))) (y := (.d (encI (l.getD i (RInt.mk false []))))) rfl rfl sh30 rfl rfl) rfl rfl rfl rfl <| sE' (e_cl (rs_gcd hg (hl.get i) (by decide) (by decide)) rfl rfl rfl) rfl <| sT (t_std (d := (encI (ofZ ((Int.gcd ((g : Nat) : Int) (zs.getD i 0) : Nat) : Int)))) (cs := (bx (encI (ofZ ((Int.gcd ((g : Nat) : Int) (zs.getD i 0) : Nat) : Int))))) rfl rfl rfl sh30 rfl rfl rfl rfl) rfl rfl rfl <| sNil rfl rfl
    refine pwp_seq <| pwp_S (S' := [(0, (vl tau 2 encI l)), (3, (.ref 0 0)), (4, (vi s)), (6, (.ref 1 0)), (14, (vl tau 2 encI l)), (15, (vin l.length)), (16, (vin i)), (24, (vb (s == 0)))]) (B' := [(0, some (bx (encI (ofZ ((Int.gcd ((g : Nat) : Int) (zs.getD i 0) : Nat) : Int))))), (1, some (bx (encI (l.getD i (RInt.mk false [])))))]) ?_ ?_
    · exact sM (vi s) rfl rfl <| sE' (e_eql rfl rfl rfl) rfl <| sNil rfl rfl
    refine pwp_cond (b := (s == 0)) rfl (fun h2 => ?_) (fun h2 => ?_)
    · replace h2 := eq_of_beq h2
      refine pwp_S (S' := [(0, (vl tau 2 encI l)), (3, (.ref 0 0)), (4, (vi (signI (zs.getD i 0)))), (14, (vl tau 2 encI l)), (15, (vin l.length)), (16, (vin i))]) (B' := [(0, some (bx (encI (ofZ ((Int.gcd ((g : Nat) : Int) (zs.getD i 0) : Nat) : Int)))))]) ?_ ?_
      · exact sR (e_lda (cs := (bx (encI (l.getD i (RInt.mk false []))))) (y := (.d (encI (l.getD i (RInt.mk false []))))) rfl rfl sh30 rfl rfl) rfl rfl rfl rfl <| sE' (e_cl (rs_sign (hl.get i) (by decide)) rfl rfl rfl) rfl <| sM (vi (signI (zs.getD i 0))) rfl rfl <| sNil rfl rfl
      refine pwp_S (S' := [(0, (vl tau 2 encI l)), (3, (.ref 0 0)), (4, (vi (signI (zs.getD i 0)))), (14, (vl tau 2 encI l)), (15, (vin l.length)), (16, (vin (i + 1)))]) (B' := [(0, some (bx (encI (ofZ ((Int.gcd ((g : Nat) : Int) (zs.getD i 0) : Nat) : Int)))))]) ?_ ?_
      · exact sE' (e_add (r := (((i + 1) : Nat) : Int)) rfl rfl rfl (wi64 (by omega) (by omega) (by omega))) rfl <| sM (vin (i + 1)) rfl rfl <| sNil rfl rfl
      exact ⟨(i + 1, Int.gcd ((g : Nat) : Int) (zs.getD i 0), signI (zs.getD i 0)), (weak rfl rfl), ⟨by omega, by rw [hgv]; exact (gcdL_step (by omega)).symm, sgnL_step0 (by omega) hsv h2⟩, (by first | omega | (dsimp only; omega))⟩
    · replace h2 := ne_of_beq_false h2
      refine pwp_skip <| pwp_S (S' := [(0, (vl tau 2 encI l)), (3, (.ref 0 0)), (4, (vi s)), (14, (vl tau 2 encI l)), (15, (vin l.length)), (16, (vin (i + 1)))]) (B' := [(0, some (bx (encI (ofZ ((Int.gcd ((g : Nat) : Int) (zs.getD i 0) : Nat) : Int)))))]) ?_ ?_
      · exact sE' (e_add (r := (((i + 1) : Nat) : Int)) rfl rfl rfl (wi64 (by omega) (by omega) (by omega))) rfl <| sM (vin (i + 1)) rfl rfl <| sNil rfl rfl
      exact ⟨(i + 1, Int.gcd ((g : Nat) : Int) (zs.getD i 0), s), (weak rfl rfl), ⟨by omega, by rw [hgv]; exact (gcdL_step (by omega)).symm, sgnL_step1 (by omega) hsv h2⟩, (by first | omega | (dsimp only; omega))⟩
  · replace h1 := of_decide_eq_false h1
    have hie : i = l.length := by omega
    rw [hie, hlen, List.take_length] at hgv hsv
    refine pwp_exit <| pwp_seq <| pwp_seq <| pwp_S (S' := [(0, (vl tau 2 encI l)), (3, (.ref 0 0)), (4, (vi s)), (29, (vb (s == 0)))]) (B' := [(0, some (bx (encI (ofZ ((g : Nat) : Int)))))]) ?_ ?_
    · exact sM (vi s) rfl rfl <| sE' (e_eql rfl rfl rfl) rfl <| sNil rfl rfl
    refine pwp_cond (b := (s == 0)) rfl (fun h3 => ?_) (fun h3 => ?_)
    · replace h3 := eq_of_beq h3
      exact absurd (hsv.symm.trans h3) hnz
    · replace h3 := ne_of_beq_false h3
      refine pwp_skip <| pwp_seq <| pwp_seq <| pwp_S (S' := [(0, (vl tau 2 encI l)), (3, (.ref 0 0)), (31, (vb (decide (s < 0))))]) (B' := [(0, some (bx (encI (ofZ ((g : Nat) : Int)))))]) ?_ ?_
      · exact sM (vi s) rfl rfl <| sE' (e_lss rfl rfl rfl) rfl <| sNil rfl rfl
      refine pwp_cond (b := decide (s < 0)) rfl (fun h4 => ?_) (fun h4 => ?_)
      · replace h4 := of_decide_eq_true h4
        have hdv := dv_neg hsv hgv h4
        have hd0 : (-((g : Nat) : Int)) ≠ 0 := by rw [← hdv]; exact dvL_ne hnz
        refine pwp_S (S' := [(0, (vl tau 2 encI l)), (3, (.ref 0 0))]) (B' := [(0, some (bx (encI (ofZ (-((g : Nat) : Int))))))]) ?_ ?_
        · exact sR (e_lda (cs := (bx (encI (ofZ ((g : Nat) : Int))))) (y := (.d (encI (ofZ ((g : Nat) : Int))))) rfl rfl sh30 rfl rfl) rfl rfl rfl rfl <| sE' (e_cl (rs_neg hg (by decide)) rfl rfl rfl) rfl <| sT (t_std (d := (encI (ofZ (-((g : Nat) : Int))))) (cs := (bx (encI (ofZ (-((g : Nat) : Int)))))) rfl rfl rfl sh30 rfl rfl rfl rfl) rfl rfl rfl <| sNil rfl rfl
        refine pwp_seq <| pwp_S (S' := [(0, (vl tau 2 encI l)), (3, (.ref 0 0)), (7, (.own 2 30 2 0))]) (B' := [(0, some (bx (encI (ofZ (-((g : Nat) : Int)))))), (2, some (bxs encI []))]) ?_ ?_
        · exact sN (n_bso (pd := []) (es := List.map encI []) (cs := (bxs encI [])) 2 rfl el40 ze30 zo30 rfl rfl rfl rfl rfl rfl rfl rfl rfl) rfl rfl rfl rfl <| sM (.own 2 30 2 0) rfl rfl <| sNil rfl rfl
        refine pwp_seq <| pwp_seq <| pwp_S (S' := [(3, (.ref 0 0)), (7, (.own 2 30 2 0)), (35, (vl tau 2 encI l)), (36, (vin l.length)), (37, (vin 0))]) (B' := [(0, some (bx (encI (ofZ (-((g : Nat) : Int)))))), (2, some (bxs encI []))]) ?_ ?_
        · exact sM (vl tau 2 encI l) rfl rfl <| sE' (e_ln (r := ((l.length : Nat) : Int)) rfl el40 rfl (by simp)) rfl <| sM (vin 0) rfl rfl <| sNil rfl rfl
        refine pwp_block <| pwp_loop (α := Nat × List RInt) (fun (j, o) => ⟨[(3, (.ref 0 0)), (7, (.own 2 30 2 o.length)), (35, (vl tau 2 encI l)), (36, (vin l.length)), (37, (vin j))], [(0, some (bx (encI (ofZ (-((g : Nat) : Int)))))), (2, some (bxs encI o))]⟩) (fun (j, o) => j ≤ l.length ∧ o = List.map ofZ ((redL zs).take j)) (fun (j, o) => l.length - j) (0, []) (weak rfl rfl) ⟨Nat.zero_le _, rfl⟩ ?_
        rintro ⟨j, o⟩ ⟨hj, hov⟩
        have hol : o.length = j := by rw [hov]; simp [redL]; omega
        refine pwp_seq <| pwp_S (S' := [(3, (.ref 0 0)), (7, (.own 2 30 2 o.length)), (35, (vl tau 2 encI l)), (36, (vin l.length)), (37, (vin j)), (38, (vb (decide (((j : Nat) : Int) < ((l.length : Nat) : Int)))))]) (B' := [(0, some (bx (encI (ofZ (-((g : Nat) : Int)))))), (2, some (bxs encI o))]) ?_ ?_
        · exact sE' (e_lss rfl rfl rfl) rfl <| sNil rfl rfl
        refine pwp_seq <| pwp_cond (b := decide (((j : Nat) : Int) < ((l.length : Nat) : Int))) rfl (fun h5 => ?_) (fun h5 => ?_)
        · replace h5 := of_decide_eq_true h5
          refine pwp_skip <| pwp_seq <| pwp_block <| pwp_seq <| pwp_S (S' := [(3, (.ref 0 0)), (7, (.own 2 30 2 o.length)), (9, (.ref 3 0)), (35, (vl tau 2 encI l)), (36, (vin l.length)), (37, (vin j))]) (B' := [(0, some (bx (encI (ofZ (-((g : Nat) : Int)))))), (2, some (bxs encI o)), (3, some (bx (encI (l.getD j (RInt.mk false [])))))]) ?_ ?_
          · exact sE' (e_ixs (j := j) (cs := (Dat.cells (encI (l.getD j (RInt.mk false []))))) rfl el40 rfl rfl (by omega) (ixm _ _ _ _ (by omega))) rfl <| sE' (e_lca (cs := (Dat.cells (encI (l.getD j (RInt.mk false []))))) (y := (.d (encI (l.getD j (RInt.mk false []))))) rfl rfl sh30 rfl rfl) rfl <| sN (n_al (cs := (bx (encI (RInt.mk false [])))) 3 rfl ze30 zo30 rfl) rfl rfl rfl (freshB_of rfl (by repeat first | exact frb_nil _ | refine frb_map rfl ?_ | refine frb_d rfl ?_ | refine frb_cs rfl rfl ?_ | refine frb_none rfl ?_)) <| sT (t_std (d := (encI (l.getD j (RInt.mk false [])))) (cs := (bx (encI (l.getD j (RInt.mk false []))))) rfl rfl rfl sh30 rfl rfl rfl rfl) rfl rfl rfl <| sNil rfl rfl
          refine pwp_seq <| pwp_S (S' := [(3, (.ref 0 0)), (7, (.own 2 30 2 o.length)), (10, (.ref 4 0)), (35, (vl tau 2 encI l)), (36, (vin l.length)), (37, (vin j))]) (B' := [(0, some (bx (encI (ofZ (-((g : Nat) : Int)))))), (2, some (bxs encI o)), (4, some (bx (encI (ofZ ((zs.getD j 0).fdiv (-((g : Nat) : Int)))))))]) ?_ ?_
          · exact sR (e_lda (cs := (bx (encI (l.getD j (RInt.mk false []))))) (y := (.d (encI (l.getD j (RInt.mk false []))))) rfl rfl sh30 rfl rfl) rfl rfl rfl rfl <| sR (e_lda (cs := (bx (encI (ofZ (-((g : Nat) : Int)))))) (y := (.d (encI (ofZ (-((g : Nat) : Int)))))) rfl rfl sh30 rfl rfl) rfl rfl rfl rfl <| sE' (e_cl (rs_divide (hl.get j) (iok_neg hg) (by decide) (by decide) hd0) rfl rfl rfl) rfl <| sM (.d (.tup [(encI (ofZ ((zs.getD j 0).fdiv (-((g : Nat) : Int))))), (encI (ofZ ((zs.getD j 0).fmod (-((g : Nat) : Int))))), (.val (.int .i64 (0)))])) rfl rfl <| sE' (e_exD (d := (encI (ofZ ((zs.getD j 0).fdiv (-((g : Nat) : Int)))))) rfl rfl rfl) rfl <| sE' (e_exD (d := (encI (ofZ ((zs.getD j 0).fmod (-((g : Nat) : Int)))))) rfl rfl rfl) rfl <| sE' (e_exD (d := (.val (.int .i64 (0)))) rfl rfl rfl) rfl <| sN (n_al (cs := (bx (encI (RInt.mk false [])))) 4 rfl ze30 zo30 rfl) rfl rfl rfl (freshB_of rfl (by repeat first | exact frb_nil _ | refine frb_map rfl ?_ | refine frb_d rfl ?_ | refine frb_cs rfl rfl ?_ | refine frb_none rfl ?_)) <| sN (n_al (cs := (bx (encI (RInt.mk false [])))) 5 rfl ze30 zo30 rfl) rfl rfl rfl (freshB_of rfl (by repeat first | exact frb_nil _ | refine frb_map rfl ?_ | refine frb_d rfl ?_ | refine frb_cs rfl rfl ?_ | refine frb_none rfl ?_)) <| sT (t_std (d := (encI (ofZ ((zs.getD j 0).fdiv (-((g : Nat) : Int)))))) (cs := (bx (encI (ofZ ((zs.getD j 0).fdiv (-((g : Nat) : Int))))))) rfl rfl rfl sh30 rfl rfl rfl rfl) rfl rfl rfl <| sT (t_std (d := (encI (ofZ ((zs.getD j 0).fmod (-((g : Nat) : Int)))))) (cs := (bx (encI (ofZ ((zs.getD j 0).fmod (-((g : Nat) : Int))))))) rfl rfl rfl sh30 rfl rfl rfl rfl) rfl rfl rfl <| sM (vi 0) rfl rfl <| sNil rfl rfl
          refine pwp_S (S' := [(3, (.ref 0 0)), (7, (.own 2 30 2 ((o ++ [(ofZ ((zs.getD j 0).fdiv (-((g : Nat) : Int))))]).length))), (35, (vl tau 2 encI l)), (36, (vin l.length)), (37, (vin j))]) (B' := [(0, some (bx (encI (ofZ (-((g : Nat) : Int)))))), (2, some (bxs encI (o ++ [(ofZ ((zs.getD j 0).fdiv (-((g : Nat) : Int))))])))]) ?_ ?_
          · exact sM (.own 2 30 2 o.length) rfl rfl <| sR (e_lda (cs := (bx (encI (ofZ ((zs.getD j 0).fdiv (-((g : Nat) : Int))))))) (y := (.d (encI (ofZ ((zs.getD j 0).fdiv (-((g : Nat) : Int))))))) rfl rfl sh30 rfl rfl) rfl rfl rfl rfl <| sE' (e_bsl (pd := [(0, (encI (ofZ ((zs.getD j 0).fdiv (-((g : Nat) : Int))))))]) (es := List.map encI [(ofZ ((zs.getD j 0).fdiv (-((g : Nat) : Int))))]) rfl el40 ze30 zo30 rfl rfl rfl rfl rfl rfl rfl rfl) rfl <| sAppS (m2 := (o ++ [(ofZ ((zs.getD j 0).fdiv (-((g : Nat) : Int))))]).length) encI o [(ofZ ((zs.getD j 0).fdiv (-((g : Nat) : Int))))] (fun _ => rfl) rfl rfl rfl rfl el40 ze30 rfl by30 rfl rfl rfl rfl (by simp only [List.length_cons, List.length_nil, maxLen]; omega) (by first | omega | (simp only [List.length_cons, List.length_nil]; omega)) (by repeat first | exact clr_nil _ | refine clr_self ?_ | refine clr_map ?_ | refine clr_bx ?_ | refine clr_d ?_) (by simp; try omega) <| sM (.own 2 30 2 ((o ++ [(ofZ ((zs.getD j 0).fdiv (-((g : Nat) : Int))))]).length)) rfl rfl <| sNil rfl rfl
          refine pwp_S (S' := [(3, (.ref 0 0)), (7, (.own 2 30 2 ((o ++ [(ofZ ((zs.getD j 0).fdiv (-((g : Nat) : Int))))]).length))), (35, (vl tau 2 encI l)), (36, (vin l.length)), (37, (vin (j + 1)))]) (B' := [(0, some (bx (encI (ofZ (-((g : Nat) : Int)))))), (2, some (bxs encI (o ++ [(ofZ ((zs.getD j 0).fdiv (-((g : Nat) : Int))))])))]) ?_ ?_
          · exact sE' (e_add (r := (((j + 1) : Nat) : Int)) rfl rfl rfl (wi64 (by omega) (by omega) (by omega))) rfl <| sM (vin (j + 1)) rfl rfl <| sNil rfl rfl
          exact ⟨(j + 1, o ++ [ofZ ((zs.getD j 0).fdiv (-((g : Nat) : Int)))]), (weak rfl rfl), ⟨by omega, redL_push (by omega) hov hdv⟩, (by first | omega | (dsimp only; omega))⟩
        · replace h5 := of_decide_eq_false h5
          have hje : j = zs.length := by omega
          rw [hje, show zs.length = (redL zs).length from (redL_length zs).symm, List.take_length] at hov
          subst hov
          refine pwp_exit <| pwp_seq <| pwp_sim (publish (t := 7) (k := 2) (es := List.map encI (List.map ofZ (redL zs))) rfl rfl (pubs_cells _ _ (fun _ => rfl)) (map_len _ _ rfl) (pubs_take encI (List.map ofZ (redL zs)) (fun _ => rfl) rfl)) ?_
          refine pwp_sim (weak (l := [(3, (.ref 0 0)), (7, (vl 30 2 encI (List.map ofZ (redL zs)))), (35, (vl tau 2 encI l)), (36, (vin l.length)), (37, (vin j)), (38, (vb (decide (((j : Nat) : Int) < ((l.length : Nat) : Int)))))]) (b := [(0, some (bx (encI (ofZ (-((g : Nat) : Int))))))]) rfl rfl) ?_
          refine pwp_S (S' := [(2, (vl 30 2 encI (List.map ofZ (redL zs))))]) (B' := []) ?_ ?_
          · exact sM (vl 30 2 encI (List.map ofZ (redL zs))) rfl rfl <| sM (vl 30 2 encI (List.map ofZ (redL zs))) rfl rfl <| sNil rfl rfl
          refine pwp_ret ⟨_, (.tmp (d := (.sl 30 2 (List.map encI (List.map ofZ (redL zs))))) rfl .nil), ?_⟩
          rfl
      · replace h4 := of_decide_eq_false h4
        have hdv := dv_pos hsv hgv h4
        have hd0 : ((g : Nat) : Int) ≠ 0 := by rw [← hdv]; exact dvL_ne hnz
        refine pwp_skip <| pwp_seq <| pwp_S (S' := [(0, (vl tau 2 encI l)), (3, (.ref 0 0)), (7, (.own 6 30 2 0))]) (B' := [(0, some (bx (encI (ofZ ((g : Nat) : Int))))), (6, some (bxs encI []))]) ?_ ?_
        · exact sN (n_bso (pd := []) (es := List.map encI []) (cs := (bxs encI [])) 6 rfl el40 ze30 zo30 rfl rfl rfl rfl rfl rfl rfl rfl rfl) rfl rfl rfl rfl <| sM (.own 6 30 2 0) rfl rfl <| sNil rfl rfl
        refine pwp_seq <| pwp_seq <| pwp_S (S' := [(3, (.ref 0 0)), (7, (.own 6 30 2 0)), (35, (vl tau 2 encI l)), (36, (vin l.length)), (37, (vin 0))]) (B' := [(0, some (bx (encI (ofZ ((g : Nat) : Int))))), (6, some (bxs encI []))]) ?_ ?_
        · exact sM (vl tau 2 encI l) rfl rfl <| sE' (e_ln (r := ((l.length : Nat) : Int)) rfl el40 rfl (by simp)) rfl <| sM (vin 0) rfl rfl <| sNil rfl rfl
        refine pwp_block <| pwp_loop (α := Nat × List RInt) (fun (j, o) => ⟨[(3, (.ref 0 0)), (7, (.own 6 30 2 o.length)), (35, (vl tau 2 encI l)), (36, (vin l.length)), (37, (vin j))], [(0, some (bx (encI (ofZ ((g : Nat) : Int))))), (6, some (bxs encI o))]⟩) (fun (j, o) => j ≤ l.length ∧ o = List.map ofZ ((redL zs).take j)) (fun (j, o) => l.length - j) (0, []) (weak rfl rfl) ⟨Nat.zero_le _, rfl⟩ ?_
        rintro ⟨j, o⟩ ⟨hj, hov⟩
        have hol : o.length = j := by rw [hov]; simp [redL]; omega
        refine pwp_seq <| pwp_S (S' := [(3, (.ref 0 0)), (7, (.own 6 30 2 o.length)), (35, (vl tau 2 encI l)), (36, (vin l.length)), (37, (vin j)), (38, (vb (decide (((j : Nat) : Int) < ((l.length : Nat) : Int)))))]) (B' := [(0, some (bx (encI (ofZ ((g : Nat) : Int))))), (6, some (bxs encI o))]) ?_ ?_
        · exact sE' (e_lss rfl rfl rfl) rfl <| sNil rfl rfl
        refine pwp_seq <| pwp_cond (b := decide (((j : Nat) : Int) < ((l.length : Nat) : Int))) rfl (fun h6 => ?_) (fun h6 => ?_)
        · replace h6 := of_decide_eq_true h6
          refine pwp_skip <| pwp_seq <| pwp_block <| pwp_seq <| pwp_S (S' := [(3, (.ref 0 0)), (7, (.own 6 30 2 o.length)), (9, (.ref 7 0)), (35, (vl tau 2 encI l)), (36, (vin l.length)), (37, (vin j))]) (B' := [(0, some (bx (encI (ofZ ((g : Nat) : Int))))), (6, some (bxs encI o)), (7, some (bx (encI (l.getD j (RInt.mk false [])))))]) ?_ ?_
          · exact sE' (e_ixs (j := j) (cs := (Dat.cells (encI (l.getD j (RInt.mk false []))))) rfl el40 rfl rfl (by omega) (ixm _ _ _ _ (by omega))) rfl <| sE' (e_lca (cs := (Dat.cells (encI (l.getD j (RInt.mk false []))))) (y := (.d (encI (l.getD j (RInt.mk false []))))) rfl rfl sh30 rfl rfl) rfl <| sN (n_al (cs := (bx (encI (RInt.mk false [])))) 7 rfl ze30 zo30 rfl) rfl rfl rfl (freshB_of rfl (by repeat first | exact frb_nil _ | refine frb_map rfl ?_ | refine frb_d rfl ?_ | refine frb_cs rfl rfl ?_ | refine frb_none rfl ?_)) <| sT (t_std (d := (encI (l.getD j (RInt.mk false [])))) (cs := (bx (encI (l.getD j (RInt.mk false []))))) rfl rfl rfl sh30 rfl rfl rfl rfl) rfl rfl rfl <| sNil rfl rfl
          refine pwp_seq <| pwp_S (S' := [(3, (.ref 0 0)), (7, (.own 6 30 2 o.length)), (10, (.ref 8 0)), (35, (vl tau 2 encI l)), (36, (vin l.length)), (37, (vin j))]) (B' := [(0, some (bx (encI (ofZ ((g : Nat) : Int))))), (6, some (bxs encI o)), (8, some (bx (encI (ofZ ((zs.getD j 0).fdiv ((g : Nat) : Int))))))]) ?_ ?_
          · exact sR (e_lda (cs := (bx (encI (l.getD j (RInt.mk false []))))) (y := (.d (encI (l.getD j (RInt.mk false []))))) rfl rfl sh30 rfl rfl) rfl rfl rfl rfl <| sR (e_lda (cs := (bx (encI (ofZ ((g : Nat) : Int))))) (y := (.d (encI (ofZ ((g : Nat) : Int))))) rfl rfl sh30 rfl rfl) rfl rfl rfl rfl <| sE' (e_cl (rs_divide (hl.get j) hg (by decide) (by decide) hd0) rfl rfl rfl) rfl <| sM (.d (.tup [(encI (ofZ ((zs.getD j 0).fdiv ((g : Nat) : Int)))), (encI (ofZ ((zs.getD j 0).fmod ((g : Nat) : Int)))), (.val (.int .i64 (0)))])) rfl rfl <| sE' (e_exD (d := (encI (ofZ ((zs.getD j 0).fdiv ((g : Nat) : Int))))) rfl rfl rfl) rfl <| sE' (e_exD (d := (encI (ofZ ((zs.getD j 0).fmod ((g : Nat) : Int))))) rfl rfl rfl) rfl <| sE' (e_exD (d := (.val (.int .i64 (0)))) rfl rfl rfl) rfl <| sN (n_al (cs := (bx (encI (RInt.mk false [])))) 8 rfl ze30 zo30 rfl) rfl rfl rfl (freshB_of rfl (by repeat first | exact frb_nil _ | refine frb_map rfl ?_ | refine frb_d rfl ?_ | refine frb_cs rfl rfl ?_ | refine frb_none rfl ?_)) <| sN (n_al (cs := (bx (encI (RInt.mk false [])))) 9 rfl ze30 zo30 rfl) rfl rfl rfl (freshB_of rfl (by repeat first | exact frb_nil _ | refine frb_map rfl ?_ | refine frb_d rfl ?_ | refine frb_cs rfl rfl ?_ | refine frb_none rfl ?_)) <| sT (t_std (d := (encI (ofZ ((zs.getD j 0).fdiv ((g : Nat) : Int))))) (cs := (bx (encI (ofZ ((zs.getD j 0).fdiv ((g : Nat) : Int)))))) rfl rfl rfl sh30 rfl rfl rfl rfl) rfl rfl rfl <| sT (t_std (d := (encI (ofZ ((zs.getD j 0).fmod ((g : Nat) : Int))))) (cs := (bx (encI (ofZ ((zs.getD j 0).fmod ((g : Nat) : Int)))))) rfl rfl rfl sh30 rfl rfl rfl rfl) rfl rfl rfl <| sM (vi 0) rfl rfl <| sNil rfl rfl
          refine pwp_S (S' := [(3, (.ref 0 0)), (7, (.own 6 30 2 ((o ++ [(ofZ ((zs.getD j 0).fdiv ((g : Nat) : Int)))]).length))), (35, (vl tau 2 encI l)), (36, (vin l.length)), (37, (vin j))]) (B' := [(0, some (bx (encI (ofZ ((g : Nat) : Int))))), (6, some (bxs encI (o ++ [(ofZ ((zs.getD j 0).fdiv ((g : Nat) : Int)))])))]) ?_ ?_
          · exact sM (.own 6 30 2 o.length) rfl rfl <| sR (e_lda (cs := (bx (encI (ofZ ((zs.getD j 0).fdiv ((g : Nat) : Int)))))) (y := (.d (encI (ofZ ((zs.getD j 0).fdiv ((g : Nat) : Int)))))) rfl rfl sh30 rfl rfl) rfl rfl rfl rfl <| sE' (e_bsl (pd := [(0, (encI (ofZ ((zs.getD j 0).fdiv ((g : Nat) : Int)))))]) (es := List.map encI [(ofZ ((zs.getD j 0).fdiv ((g : Nat) : Int)))]) rfl el40 ze30 zo30 rfl rfl rfl rfl rfl rfl rfl rfl) rfl <| sAppS (m2 := (o ++ [(ofZ ((zs.getD j 0).fdiv ((g : Nat) : Int)))]).length) encI o [(ofZ ((zs.getD j 0).fdiv ((g : Nat) : Int)))] (fun _ => rfl) rfl rfl rfl rfl el40 ze30 rfl by30 rfl rfl rfl rfl (by simp only [List.length_cons, List.length_nil, maxLen]; omega) (by first | omega | (simp only [List.length_cons, List.length_nil]; omega)) (by repeat first | exact clr_nil _ | refine clr_self ?_ | refine clr_map ?_ | refine clr_bx ?_ | refine clr_d ?_) (by simp; try omega) <| sM (.own 6 30 2 ((o ++ [(ofZ ((zs.getD j 0).fdiv ((g : Nat) : Int)))]).length)) rfl rfl <| sNil rfl rfl
          refine pwp_S (S' := [(3, (.ref 0 0)), (7, (.own 6 30 2 ((o ++ [(ofZ ((zs.getD j 0).fdiv ((g : Nat) : Int)))]).length))), (35, (vl tau 2 encI l)), (36, (vin l.length)), (37, (vin (j + 1)))]) (B' := [(0, some (bx (encI (ofZ ((g : Nat) : Int))))), (6, some (bxs encI (o ++ [(ofZ ((zs.getD j 0).fdiv ((g : Nat) : Int)))])))]) ?_ ?_
          · exact sE' (e_add (r := (((j + 1) : Nat) : Int)) rfl rfl rfl (wi64 (by omega) (by omega) (by omega))) rfl <| sM (vin (j + 1)) rfl rfl <| sNil rfl rfl
          exact ⟨(j + 1, o ++ [ofZ ((zs.getD j 0).fdiv ((g : Nat) : Int))]), (weak rfl rfl), ⟨by omega, redL_push (by omega) hov hdv⟩, (by first | omega | (dsimp only; omega))⟩
        · replace h6 := of_decide_eq_false h6
          have hje : j = zs.length := by omega
          rw [hje, show zs.length = (redL zs).length from (redL_length zs).symm, List.take_length] at hov
          subst hov
          refine pwp_exit <| pwp_seq <| pwp_sim (publish (t := 7) (k := 6) (es := List.map encI (List.map ofZ (redL zs))) rfl rfl (pubs_cells _ _ (fun _ => rfl)) (map_len _ _ rfl) (pubs_take encI (List.map ofZ (redL zs)) (fun _ => rfl) rfl)) ?_
          refine pwp_sim (weak (l := [(3, (.ref 0 0)), (7, (vl 30 2 encI (List.map ofZ (redL zs)))), (35, (vl tau 2 encI l)), (36, (vin l.length)), (37, (vin j)), (38, (vb (decide (((j : Nat) : Int) < ((l.length : Nat) : Int)))))]) (b := [(0, some (bx (encI (ofZ ((g : Nat) : Int)))))]) rfl rfl) ?_
          refine pwp_S (S' := [(2, (vl 30 2 encI (List.map ofZ (redL zs))))]) (B' := []) ?_ ?_
          · exact sM (vl 30 2 encI (List.map ofZ (redL zs))) rfl rfl <| sM (vl 30 2 encI (List.map ofZ (redL zs))) rfl rfl <| sNil rfl rfl
          refine pwp_ret ⟨_, (.tmp (d := (.sl 30 2 (List.map encI (List.map ofZ (redL zs))))) rfl .nil), ?_⟩
          rfl
theorem l_trip (p : A3 RInt) (p0 p1 p2 : Int) (hp0 : IOk p.a0 p0 1000000) (hp1 : IOk p.a1 p1 1000000) (hp2 : IOk p.a2 p2 1000000) (c0 c1 c2 : Int) (hc : redL [p0, p1, p2] = [c0, c1, c2]) (hnz : sgnL [p0, p1, p2] ≠ 0) : Takes Tryz.prog 54 [(encA43 p)] (.tup [(encA43 (A3.mk (ofZ c0) (ofZ c1) (ofZ c2))), (.val (.bool (true)))]) := by
  let y2 := (encA43 (A3.mk (ofZ c0) (ofZ c1) (ofZ c2)))
  let y1 := (bx (encA43 (A3.mk (RInt.mk false []) (RInt.mk false []) (RInt.mk false []))))
  refine fn_intro Tryz.func54 rfl cb54 rfl ?_
  show PWp _ _ _ _ ⟨[(0, (.d (encA43 p)))], []⟩
  refine pwp_seq <| pwp_S (S' := [(1, (.ref 0 0)), (2, (.ref 1 0))]) (B' := [(0, some (bx (encA43 p))), (1, some y1)]) ?_ ?_
  · exact sN (n_bx (d := (encA43 p)) (cs := (bx (encA43 p))) 0 rfl rfl rfl rfl) rfl rfl rfl rfl <| sN (n_al (cs := y1) 1 rfl ze44 zo44 rfl) rfl rfl rfl rfl <| sM (vb false) rfl rfl <| sNil rfl rfl
  refine pwp_seq ?_
  have bn1 : ∀ c ∈ [c0, c1, c2], IOk (ofZ c) c 1000000 := red_iok (n := 1000000) (.cons hp0 (.cons hp1 (.cons hp2 .nil))) hc
  refine pwp_S (S' := [(2, (.ref 1 0)), (4, (vl 30 2 encI [(ofZ c0), (ofZ c1), (ofZ c2)]))]) (B' := [(1, some y1)]) ?_ ?_
  · exact sE' (e_slv rfl ar44 rfl rfl rfl) rfl <| sR (e_clv (cs := (bx (encA43 p))) (es := List.map encI [p.a0, p.a1, p.a2]) (by have h := l_red 1000000 [p.a0, p.a1, p.a2] [p0, p1, p2] (.cons hp0 (.cons hp1 (.cons hp2 .nil))) (Nat.le_of_ble_eq_true rfl) hnz; rw [hc] at h; exact h) rfl rfl rfl (.v .nil) (pubs_cells _ _ (fun _ => rfl)) rfl rfl (avo_sl_30 (by decide) (by decide) _)) rfl rfl rfl rfl <| sM (vl 30 2 encI [(ofZ c0), (ofZ c1), (ofZ c2)]) rfl rfl <| sNil rfl rfl
  refine pwp_seq <| pwp_seq <| pwp_S (S' := [(2, (.ref 1 0)), (4, (vl 30 2 encI [(ofZ c0), (ofZ c1), (ofZ c2)])), (8, (vb false))]) (B' := [(1, some y1)]) ?_ ?_
  · exact sM (vl 30 2 encI [(ofZ c0), (ofZ c1), (ofZ c2)]) rfl rfl <| sE' (e_nilF rfl el40 rfl (by exact Nat.succ_pos _)) rfl <| sNil rfl rfl
  refine pwp_cond (b := false) rfl (fun h => by cases h) (fun _ => ?_)
  refine pwp_skip <| pwp_seq <| pwp_S (S' := [(2, (.ref 1 0)), (3, (vb true))]) (B' := [(1, some (bx y2))]) ?_ ?_
  · exact sM (vl 30 2 encI [(ofZ c0), (ofZ c1), (ofZ c2)]) rfl rfl <| sE' (e_sap (cs := (Dat.cells y2)) rfl ar44 rfl rfl rfl rfl) rfl <| sE' (e_lca (cs := (Dat.cells y2)) (y := (.d y2)) rfl rfl sh44 rfl rfl) rfl <| sT (t_std (d := y2) (cs := (bx y2)) rfl rfl rfl sh44 rfl rfl rfl rfl) rfl rfl rfl <| sM (vb true) rfl rfl <| sNil rfl rfl
  refine pwp_ret ⟨_, (res_a (cs := (bx (encA43 (A3.mk (ofZ c0) (ofZ c1) (ofZ c2))))) (d := (encA43 (A3.mk (ofZ c0) (ofZ c1) (ofZ c2)))) rfl rfl sh44 rfl rfl (.tmp (d := (.val (.bool (true)))) rfl .nil)), ?_⟩
  rfl
theorem l_plainV (tau : Nat) (l : List RInt) (zs : List Int) (hl : LOk 1000000 l zs) (hb : l.length ≤ 1000000) (hv : List.all l validI = false) : Takes Tryz.prog 80 [(.sl tau 2 (List.map encI l))] (.val (.bool (false))) := by
  refine fn_intro Tryz.func80 rfl cb80 rfl ?_
  show PWp _ _ _ _ ⟨[(0, (vl tau 2 encI l))], []⟩
  refine pwp_seq <| pwp_S (S' := [(0, (vl tau 2 encI l))]) (B' := []) ?_ ?_
  · exact sM (vb false) rfl rfl <| sNil rfl rfl
  refine pwp_seq <| pwp_seq <| pwp_S (S' := [(0, (vl tau 2 encI l)), (7, (vl tau 2 encI l)), (8, (vin l.length)), (9, (vin 0))]) (B' := []) ?_ ?_
  · exact sM (vl tau 2 encI l) rfl rfl <| sE' (e_ln (r := ((l.length : Nat) : Int)) rfl el40 rfl (by simp)) rfl <| sM (vin 0) rfl rfl <| sNil rfl rfl
  refine pwp_block <| pwp_loop (α := Nat) (fun i => ⟨[(0, (vl tau 2 encI l)), (7, (vl tau 2 encI l)), (8, (vin l.length)), (9, (vin i))], []⟩) (fun i => i ≤ l.length ∧ (l.take i).all validI = true) (fun i => l.length - i) 0 (weak rfl rfl) ⟨Nat.zero_le _, by simp⟩ ?_
  rintro i ⟨hi, hal⟩
  refine pwp_seq <| pwp_S (S' := [(0, (vl tau 2 encI l)), (7, (vl tau 2 encI l)), (8, (vin l.length)), (9, (vin i)), (10, (vb (decide (((i : Nat) : Int) < ((l.length : Nat) : Int)))))]) (B' := []) ?_ ?_
  · exact sE' (e_lss rfl rfl rfl) rfl <| sNil rfl rfl
  refine pwp_seq <| pwp_cond (b := decide (((i : Nat) : Int) < ((l.length : Nat) : Int))) rfl (fun h1 => ?_) (fun h1 => ?_)
  · replace h1 := of_decide_eq_true h1
    refine pwp_skip <| pwp_seq <| pwp_block <| pwp_seq <| pwp_S (S' := [(0, (vl tau 2 encI l)), (4, (.ref 0 0)), (7, (vl tau 2 encI l)), (8, (vin l.length)), (9, (vin i))]) (B' := [(0, some (bx (encI (l.getD i (RInt.mk false [])))))]) ?_ ?_
    · exact sE' (e_ixs (j := i) (cs := (Dat.cells (encI (l.getD i (RInt.mk false []))))) rfl el40 rfl rfl (by omega) (ixm _ _ _ _ (by omega))) rfl <| sE' (e_lca (cs := (Dat.cells (encI (l.getD i (RInt.mk false []))))) (y := (.d (encI (l.getD i (RInt.mk false []))))) rfl rfl sh30 rfl rfl) rfl <| sN (n_al (cs := (bx (encI (RInt.mk false [])))) 0 rfl ze30 zo30 rfl) rfl rfl rfl rfl <| sT (t_std (d := (encI (l.getD i (RInt.mk false [])))) (cs := (bx (encI (l.getD i (RInt.mk false []))))) rfl rfl rfl sh30 rfl rfl rfl rfl) rfl rfl rfl <| sNil rfl rfl
    refine pwp_seq <| pwp_S (S' := [(0, (vl tau 2 encI l)), (7, (vl tau 2 encI l)), (8, (vin l.length)), (9, (vin i)), (15, (vb (!(validI (l.getD i (RInt.mk false []))))))]) (B' := []) ?_ ?_
    · exact sR (e_lda (cs := (bx (encI (l.getD i (RInt.mk false []))))) (y := (.d (encI (l.getD i (RInt.mk false []))))) rfl rfl sh30 rfl rfl) rfl rfl rfl rfl <| sE' (e_cl (r_valid (l.getD i (RInt.mk false [])) (Nat.le_trans (hl.get i).l (by decide))) rfl rfl rfl) rfl <| sE' (e_not rfl rfl) rfl <| sNil rfl rfl
    refine pwp_cond (b := !(validI (l.getD i (RInt.mk false [])))) rfl (fun h2 => ?_) (fun h2 => ?_)
    · refine pwp_seq <| pwp_S (S' := [(2, (vb false))]) (B' := []) ?_ ?_
      · exact sM (vb false) rfl rfl <| sNil rfl rfl
      refine pwp_ret ⟨_, (.tmp (d := (.val (.bool (false)))) rfl .nil), ?_⟩
      rfl
    · refine pwp_skip <| pwp_S (S' := [(0, (vl tau 2 encI l)), (7, (vl tau 2 encI l)), (8, (vin l.length)), (9, (vin (i + 1)))]) (B' := []) ?_ ?_
      · exact sE' (e_add (r := (((i + 1) : Nat) : Int)) rfl rfl rfl (wi64 (by omega) (by omega) (by omega))) rfl <| sM (vin (i + 1)) rfl rfl <| sNil rfl rfl
      exact ⟨(i + 1), (weak rfl rfl), ⟨by omega, all_take (d := ⟨false, []⟩) (by omega) hal (by simpa using h2)⟩, (by first | omega | (dsimp only; omega))⟩
  · replace h1 := of_decide_eq_false h1
    exfalso; have hie : i = l.length := (by omega); rw [hie, List.take_length, hv] at hal; cases hal
theorem l_plain0 (tau : Nat) (l : List RInt) (zs : List Int) (hl : LOk 1000000 l zs) (hb : l.length ≤ 1000000) (hv : List.all l validI = true) (hz : sgnL zs = 0) : Takes Tryz.prog 80 [(.sl tau 2 (List.map encI l))] (.val (.bool (false))) := by
  refine fn_intro Tryz.func80 rfl cb80 rfl ?_
  show PWp _ _ _ _ ⟨[(0, (vl tau 2 encI l))], []⟩
  refine pwp_seq <| pwp_S (S' := [(0, (vl tau 2 encI l))]) (B' := []) ?_ ?_
  · exact sM (vb false) rfl rfl <| sNil rfl rfl
  refine pwp_seq <| pwp_seq <| pwp_S (S' := [(0, (vl tau 2 encI l)), (7, (vl tau 2 encI l)), (8, (vin l.length)), (9, (vin 0))]) (B' := []) ?_ ?_
  · exact sM (vl tau 2 encI l) rfl rfl <| sE' (e_ln (r := ((l.length : Nat) : Int)) rfl el40 rfl (by simp)) rfl <| sM (vin 0) rfl rfl <| sNil rfl rfl
  refine pwp_block <| pwp_loop (α := Nat) (fun i => ⟨[(0, (vl tau 2 encI l)), (7, (vl tau 2 encI l)), (8, (vin l.length)), (9, (vin i))], []⟩) (fun i => i ≤ l.length) (fun i => l.length - i) 0 (weak rfl rfl) (Nat.zero_le _) ?_
  rintro i hi
  refine pwp_seq <| pwp_S (S' := [(0, (vl tau 2 encI l)), (7, (vl tau 2 encI l)), (8, (vin l.length)), (9, (vin i)), (10, (vb (decide (((i : Nat) : Int) < ((l.length : Nat) : Int)))))]) (B' := []) ?_ ?_
  · exact sE' (e_lss rfl rfl rfl) rfl <| sNil rfl rfl
  refine pwp_seq <| pwp_cond (b := decide (((i : Nat) : Int) < ((l.length : Nat) : Int))) rfl (fun h1 => ?_) (fun h1 => ?_)
  · replace h1 := of_decide_eq_true h1
    refine pwp_skip <| pwp_seq <| pwp_block <| pwp_seq <| pwp_S (S' := [(0, (vl tau 2 encI l)), (4, (.ref 0 0)), (7, (vl tau 2 encI l)), (8, (vin l.length)), (9, (vin i))]) (B' := [(0, some (bx (encI (l.getD i (RInt.mk false [])))))]) ?_ ?_
    · exact sE' (e_ixs (j := i) (cs := (Dat.cells (encI (l.getD i (RInt.mk false []))))) rfl el40 rfl rfl (by omega) (ixm _ _ _ _ (by omega))) rfl <| sE' (e_lca (cs := (Dat.cells (encI (l.getD i (RInt.mk false []))))) (y := (.d (encI (l.getD i (RInt.mk false []))))) rfl rfl sh30 rfl rfl) rfl <| sN (n_al (cs := (bx (encI (RInt.mk false [])))) 0 rfl ze30 zo30 rfl) rfl rfl rfl rfl <| sT (t_std (d := (encI (l.getD i (RInt.mk false [])))) (cs := (bx (encI (l.getD i (RInt.mk false []))))) rfl rfl rfl sh30 rfl rfl rfl rfl) rfl rfl rfl <| sNil rfl rfl
    refine pwp_seq <| pwp_S (S' := [(0, (vl tau 2 encI l)), (7, (vl tau 2 encI l)), (8, (vin l.length)), (9, (vin i)), (15, (vb false))]) (B' := []) ?_ ?_
    · exact sR (e_lda (cs := (bx (encI (l.getD i (RInt.mk false []))))) (y := (.d (encI (l.getD i (RInt.mk false []))))) rfl rfl sh30 rfl rfl) rfl rfl rfl rfl <| sE' (e_bk (c := true) (e_cl (r_valid (l.getD i (RInt.mk false [])) (Nat.le_trans (hl.get i).l (by decide))) rfl rfl rfl) (all_getD hv (by omega))) rfl <| sE' (e_not (b := true) rfl rfl) rfl <| sNil rfl rfl
    refine pwp_cond (b := false) rfl (fun h => by cases h) (fun _ => ?_)
    refine pwp_skip <| pwp_S (S' := [(0, (vl tau 2 encI l)), (7, (vl tau 2 encI l)), (8, (vin l.length)), (9, (vin (i + 1)))]) (B' := []) ?_ ?_
    · exact sE' (e_add (r := (((i + 1) : Nat) : Int)) rfl rfl rfl (wi64 (by omega) (by omega) (by omega))) rfl <| sM (vin (i + 1)) rfl rfl <| sNil rfl rfl
    exact ⟨(i + 1), (weak rfl rfl), (by show i + 1 ≤ l.length; omega), (by first | omega | (dsimp only; omega))⟩
  · replace h1 := of_decide_eq_false h1
    refine pwp_exit <| pwp_seq <| pwp_S (S' := [(0, (vl tau 2 encI l)), (5, (.d (.val (.slice none 0 0))))]) (B' := []) ?_ ?_
    · exact sM (vl tau 2 encI l) rfl rfl <| sE' (e_cl (l_redN tau l zs hl hb hz) rfl rfl rfl) rfl <| sM (.d (.val (.slice none 0 0))) rfl rfl <| sNil rfl rfl
    refine pwp_seq <| pwp_seq <| pwp_S (S' := [(0, (vl tau 2 encI l)), (5, (.d (.val (.slice none 0 0)))), (20, (vb true))]) (B' := []) ?_ ?_
    · exact sM (.d (.val (.slice none 0 0))) rfl rfl <| sE' (e_nilT rfl el40 rfl) rfl <| sNil rfl rfl
    refine pwp_cond (b := true) rfl (fun _ => ?_) (fun h => by cases h)
    refine pwp_seq <| pwp_S (S' := [(2, (vb false))]) (B' := []) ?_ ?_
    · exact sM (vb false) rfl rfl <| sNil rfl rfl
    refine pwp_ret ⟨_, (.tmp (d := (.val (.bool (false)))) rfl .nil), ?_⟩
    rfl
theorem l_plainT (tau : Nat) (l : List RInt) (zs : List Int) (hl : LOk 1000000 l zs) (hb : l.length ≤ 1000000) (hv : List.all l validI = true) (hnz : sgnL zs ≠ 0) (hd : dvL zs = 1) : Takes Tryz.prog 80 [(.sl tau 2 (List.map encI l))] (.val (.bool (true))) := by
  have hlen := hl.len
  have hpos := sgnL_pos hnz
  refine fn_intro Tryz.func80 rfl cb80 rfl ?_
  show PWp _ _ _ _ ⟨[(0, (vl tau 2 encI l))], []⟩
  refine pwp_seq <| pwp_S (S' := [(0, (vl tau 2 encI l))]) (B' := []) ?_ ?_
  · exact sM (vb false) rfl rfl <| sNil rfl rfl
  refine pwp_seq <| pwp_seq <| pwp_S (S' := [(0, (vl tau 2 encI l)), (7, (vl tau 2 encI l)), (8, (vin l.length)), (9, (vin 0))]) (B' := []) ?_ ?_
  · exact sM (vl tau 2 encI l) rfl rfl <| sE' (e_ln (r := ((l.length : Nat) : Int)) rfl el40 rfl (by simp)) rfl <| sM (vin 0) rfl rfl <| sNil rfl rfl
  refine pwp_block <| pwp_loop (α := Nat) (fun i => ⟨[(0, (vl tau 2 encI l)), (7, (vl tau 2 encI l)), (8, (vin l.length)), (9, (vin i))], []⟩) (fun i => i ≤ l.length) (fun i => l.length - i) 0 (weak rfl rfl) (Nat.zero_le _) ?_
  rintro i hi
  refine pwp_seq <| pwp_S (S' := [(0, (vl tau 2 encI l)), (7, (vl tau 2 encI l)), (8, (vin l.length)), (9, (vin i)), (10, (vb (decide (((i : Nat) : Int) < ((l.length : Nat) : Int)))))]) (B' := []) ?_ ?_
  · exact sE' (e_lss rfl rfl rfl) rfl <| sNil rfl rfl
  refine pwp_seq <| pwp_cond (b := decide (((i : Nat) : Int) < ((l.length : Nat) : Int))) rfl (fun h1 => ?_) (fun h1 => ?_)
  · replace h1 := of_decide_eq_true h1
    refine pwp_skip <| pwp_seq <| pwp_block <| pwp_seq <| pwp_S (S' := [(0, (vl tau 2 encI l)), (4, (.ref 0 0)), (7, (vl tau 2 encI l)), (8, (vin l.length)), (9, (vin i))]) (B' := [(0, some (bx (encI (l.getD i (RInt.mk false [])))))]) ?_ ?_
    · exact sE' (e_ixs (j := i) (cs := (Dat.cells (encI (l.getD i (RInt.mk false []))))) rfl el40 rfl rfl (by omega) (ixm _ _ _ _ (by omega))) rfl <| sE' (e_lca (cs := (Dat.cells (encI (l.getD i (RInt.mk false []))))) (y := (.d (encI (l.getD i (RInt.mk false []))))) rfl rfl sh30 rfl rfl) rfl <| sN (n_al (cs := (bx (encI (RInt.mk false [])))) 0 rfl ze30 zo30 rfl) rfl rfl rfl rfl <| sT (t_std (d := (encI (l.getD i (RInt.mk false [])))) (cs := (bx (encI (l.getD i (RInt.mk false []))))) rfl rfl rfl sh30 rfl rfl rfl rfl) rfl rfl rfl <| sNil rfl rfl
    refine pwp_seq <| pwp_S (S' := [(0, (vl tau 2 encI l)), (7, (vl tau 2 encI l)), (8, (vin l.length)), (9, (vin i)), (15, (vb false))]) (B' := []) ?_ ?_
    · exact sR (e_lda (cs := (bx (encI (l.getD i (RInt.mk false []))))) (y := (.d (encI (l.getD i (RInt.mk false []))))) rfl rfl sh30 rfl rfl) rfl rfl rfl rfl <| sE' (e_bk (c := true) (e_cl (r_valid (l.getD i (RInt.mk false [])) (Nat.le_trans (hl.get i).l (by decide))) rfl rfl rfl) (all_getD hv (by omega))) rfl <| sE' (e_not (b := true) rfl rfl) rfl <| sNil rfl rfl
    refine pwp_cond (b := false) rfl (fun h => by cases h) (fun _ => ?_)
    refine pwp_skip <| pwp_S (S' := [(0, (vl tau 2 encI l)), (7, (vl tau 2 encI l)), (8, (vin l.length)), (9, (vin (i + 1)))]) (B' := []) ?_ ?_
    · exact sE' (e_add (r := (((i + 1) : Nat) : Int)) rfl rfl rfl (wi64 (by omega) (by omega) (by omega))) rfl <| sM (vin (i + 1)) rfl rfl <| sNil rfl rfl
    exact ⟨(i + 1), (weak rfl rfl), (by show i + 1 ≤ l.length; omega), (by first | omega | (dsimp only; omega))⟩
  · replace h1 := of_decide_eq_false h1
    refine pwp_exit <| pwp_seq <| pwp_S (S' := [(0, (vl tau 2 encI l)), (5, (vl 30 2 encI (List.map ofZ (redL zs))))]) (B' := []) ?_ ?_
    · exact sM (vl tau 2 encI l) rfl rfl <| sE' (e_cl (l_red tau l zs hl hb hnz) rfl rfl rfl) rfl <| sM (vl 30 2 encI (List.map ofZ (redL zs))) rfl rfl <| sNil rfl rfl
    refine pwp_seq <| pwp_seq <| pwp_S (S' := [(0, (vl tau 2 encI l)), (5, (vl 30 2 encI (List.map ofZ (redL zs)))), (20, (vb false))]) (B' := []) ?_ ?_
    · exact sM (vl 30 2 encI (List.map ofZ (redL zs))) rfl rfl <| sE' (e_nilF rfl el40 rfl (by simp [redL]; omega)) rfl <| sNil rfl rfl
    refine pwp_cond (b := false) rfl (fun h => by cases h) (fun _ => ?_)
    refine pwp_skip <| pwp_seq <| pwp_seq <| pwp_S (S' := [(0, (vl tau 2 encI l)), (5, (vl 30 2 encI (List.map ofZ (redL zs)))), (22, (vin l.length)), (23, (vin 0))]) (B' := []) ?_ ?_
    · exact sM (vl tau 2 encI l) rfl rfl <| sE' (e_ln (r := ((l.length : Nat) : Int)) rfl el40 rfl (by simp)) rfl <| sM (vin 0) rfl rfl <| sNil rfl rfl
    refine pwp_block <| pwp_loop (α := Nat) (fun i => ⟨[(0, (vl tau 2 encI l)), (5, (vl 30 2 encI (List.map ofZ (redL zs)))), (22, (vin l.length)), (23, (vin i))], []⟩) (fun i => i ≤ l.length) (fun i => l.length - i) 0 (weak rfl rfl) (Nat.zero_le _) ?_
    rintro i hi
    refine pwp_seq <| pwp_S (S' := [(0, (vl tau 2 encI l)), (5, (vl 30 2 encI (List.map ofZ (redL zs)))), (22, (vin l.length)), (23, (vin i)), (24, (vb (decide (((i : Nat) : Int) < ((l.length : Nat) : Int)))))]) (B' := []) ?_ ?_
    · exact sE' (e_lss rfl rfl rfl) rfl <| sNil rfl rfl
    refine pwp_seq <| pwp_cond (b := decide (((i : Nat) : Int) < ((l.length : Nat) : Int))) rfl (fun h2 => ?_) (fun h2 => ?_)
    · replace h2 := of_decide_eq_true h2
      refine pwp_skip <| pwp_seq <| pwp_block <| pwp_seq <| pwp_S (S' := [(0, (vl tau 2 encI l)), (5, (vl 30 2 encI (List.map ofZ (redL zs)))), (6, (vin i)), (22, (vin l.length)), (23, (vin i))]) (B' := []) ?_ ?_
      · exact sM (vin i) rfl rfl <| sM (vin i) rfl rfl <| sNil rfl rfl
      refine pwp_seq <| pwp_D (S' := [(0, (vl tau 2 encI l)), (5, (vl 30 2 encI (List.map ofZ (redL zs)))), (22, (vin l.length)), (23, (vin i)), (35, (vb false))]) (B' := []) mo (by kernel_rfl) ?_ ?_
      · exact dM (vl tau 2 encI l) rfl rfl rfl <| dM (vin i) rfl rfl rfl <| dE' (e_ixs (j := i) (cs := (Dat.cells (encI (l.getD i (RInt.mk false []))))) rfl el40 rfl rfl (by omega) (ixm _ _ _ _ (by omega))) rfl rfl <| dE' (e_lca (cs := (Dat.cells (encI (l.getD i (RInt.mk false []))))) (y := (.d (encI (l.getD i (RInt.mk false []))))) rfl rfl sh30 rfl rfl) rfl rfl <| dM (vl 30 2 encI (List.map ofZ (redL zs))) rfl rfl rfl <| dM (vin i) rfl rfl rfl <| dE' (e_ixs (j := i) (cs := (Dat.cells (encI ((List.map ofZ (redL zs)).getD i (RInt.mk false []))))) rfl el40 rfl rfl (by first | omega | (rw [List.length_map, redL_length]; omega)) (ixm _ _ _ _ (by first | omega | (rw [List.length_map, redL_length]; omega)))) rfl rfl <| dE' (e_lca (cs := (Dat.cells (encI ((List.map ofZ (redL zs)).getD i (RInt.mk false []))))) (y := (.d (encI ((List.map ofZ (redL zs)).getD i (RInt.mk false []))))) rfl rfl sh30 rfl rfl) rfl rfl <| dE' (e_bk (c := true) (e_cl (r_same (l.getD i (RInt.mk false [])) ((List.map ofZ (redL zs)).getD i (RInt.mk false [])) (Nat.le_trans (hl.get i).l (by decide)) (Nat.le_trans (redL_iok hl i).l (by decide))) rfl rfl rfl) (plain_same hl hv hd (by omega))) rfl rfl <| dE' (e_not (b := true) rfl rfl) rfl rfl <| dNil rfl rfl (by kernel_rfl)
      refine pwp_cond (b := false) rfl (fun h => by cases h) (fun _ => ?_)
      refine pwp_skip <| pwp_S (S' := [(0, (vl tau 2 encI l)), (5, (vl 30 2 encI (List.map ofZ (redL zs)))), (22, (vin l.length)), (23, (vin (i + 1)))]) (B' := []) ?_ ?_
      · exact sE' (e_add (r := (((i + 1) : Nat) : Int)) rfl rfl rfl (wi64 (by omega) (by omega) (by omega))) rfl <| sM (vin (i + 1)) rfl rfl <| sNil rfl rfl
      exact ⟨(i + 1), (weak rfl rfl), (by show i + 1 ≤ l.length; omega), (by first | omega | (dsimp only; omega))⟩
    · replace h2 := of_decide_eq_false h2
      refine pwp_exit <| pwp_seq <| pwp_S (S' := [(2, (vb true))]) (B' := []) ?_ ?_
      · exact sM (vb true) rfl rfl <| sNil rfl rfl
      refine pwp_ret ⟨_, (.tmp (d := (.val (.bool (true)))) rfl .nil), ?_⟩
      rfl
theorem l_plainF (tau : Nat) (l : List RInt) (zs : List Int) (hl : LOk 1000000 l zs) (hb : l.length ≤ 1000000) (hv : List.all l validI = true) (hnz : sgnL zs ≠ 0) (hd : dvL zs ≠ 1) : Takes Tryz.prog 80 [(.sl tau 2 (List.map encI l))] (.val (.bool (false))) := by
  have hlen := hl.len
  have hpos := sgnL_pos hnz
  refine fn_intro Tryz.func80 rfl cb80 rfl ?_
  show PWp _ _ _ _ ⟨[(0, (vl tau 2 encI l))], []⟩
  refine pwp_seq <| pwp_S (S' := [(0, (vl tau 2 encI l))]) (B' := []) ?_ ?_
  · exact sM (vb false) rfl rfl <| sNil rfl rfl
  refine pwp_seq <| pwp_seq <| pwp_S (S' := [(0, (vl tau 2 encI l)), (7, (vl tau 2 encI l)), (8, (vin l.length)), (9, (vin 0))]) (B' := []) ?_ ?_
  · exact sM (vl tau 2 encI l) rfl rfl <| sE' (e_ln (r := ((l.length : Nat) : Int)) rfl el40 rfl (by simp)) rfl <| sM (vin 0) rfl rfl <| sNil rfl rfl
  refine pwp_block <| pwp_loop (α := Nat) (fun i => ⟨[(0, (vl tau 2 encI l)), (7, (vl tau 2 encI l)), (8, (vin l.length)), (9, (vin i))], []⟩) (fun i => i ≤ l.length) (fun i => l.length - i) 0 (weak rfl rfl) (Nat.zero_le _) ?_
  rintro i hi
  refine pwp_seq <| pwp_S (S' := [(0, (vl tau 2 encI l)), (7, (vl tau 2 encI l)), (8, (vin l.length)), (9, (vin i)), (10, (vb (decide (((i : Nat) : Int) < ((l.length : Nat) : Int)))))]) (B' := []) ?_ ?_
  · exact sE' (e_lss rfl rfl rfl) rfl <| sNil rfl rfl
  refine pwp_seq <| pwp_cond (b := decide (((i : Nat) : Int) < ((l.length : Nat) : Int))) rfl (fun h1 => ?_) (fun h1 => ?_)
  · replace h1 := of_decide_eq_true h1
    refine pwp_skip <| pwp_seq <| pwp_block <| pwp_seq <| pwp_S (S' := [(0, (vl tau 2 encI l)), (4, (.ref 0 0)), (7, (vl tau 2 encI l)), (8, (vin l.length)), (9, (vin i))]) (B' := [(0, some (bx (encI (l.getD i (RInt.mk false [])))))]) ?_ ?_
    · exact sE' (e_ixs (j := i) (cs := (Dat.cells (encI (l.getD i (RInt.mk false []))))) rfl el40 rfl rfl (by omega) (ixm _ _ _ _ (by omega))) rfl <| sE' (e_lca (cs := (Dat.cells (encI (l.getD i (RInt.mk false []))))) (y := (.d (encI (l.getD i (RInt.mk false []))))) rfl rfl sh30 rfl rfl) rfl <| sN (n_al (cs := (bx (encI (RInt.mk false [])))) 0 rfl ze30 zo30 rfl) rfl rfl rfl rfl <| sT (t_std (d := (encI (l.getD i (RInt.mk false [])))) (cs := (bx (encI (l.getD i (RInt.mk false []))))) rfl rfl rfl sh30 rfl rfl rfl rfl) rfl rfl rfl <| sNil rfl rfl
    refine pwp_seq <| pwp_S (S' := [(0, (vl tau 2 encI l)), (7, (vl tau 2 encI l)), (8, (vin l.length)), (9, (vin i)), (15, (vb false))]) (B' := []) ?_ ?_
    · exact sR (e_lda (cs := (bx (encI (l.getD i (RInt.mk false []))))) (y := (.d (encI (l.getD i (RInt.mk false []))))) rfl rfl sh30 rfl rfl) rfl rfl rfl rfl <| sE' (e_bk (c := true) (e_cl (r_valid (l.getD i (RInt.mk false [])) (Nat.le_trans (hl.get i).l (by decide))) rfl rfl rfl) (all_getD hv (by omega))) rfl <| sE' (e_not (b := true) rfl rfl) rfl <| sNil rfl rfl
    refine pwp_cond (b := false) rfl (fun h => by cases h) (fun _ => ?_)
    refine pwp_skip <| pwp_S (S' := [(0, (vl tau 2 encI l)), (7, (vl tau 2 encI l)), (8, (vin l.length)), (9, (vin (i + 1)))]) (B' := []) ?_ ?_
    · exact sE' (e_add (r := (((i + 1) : Nat) : Int)) rfl rfl rfl (wi64 (by omega) (by omega) (by omega))) rfl <| sM (vin (i + 1)) rfl rfl <| sNil rfl rfl
    exact ⟨(i + 1), (weak rfl rfl), (by show i + 1 ≤ l.length; omega), (by first | omega | (dsimp only; omega))⟩
  · replace h1 := of_decide_eq_false h1
    refine pwp_exit <| pwp_seq <| pwp_S (S' := [(0, (vl tau 2 encI l)), (5, (vl 30 2 encI (List.map ofZ (redL zs))))]) (B' := []) ?_ ?_
    · exact sM (vl tau 2 encI l) rfl rfl <| sE' (e_cl (l_red tau l zs hl hb hnz) rfl rfl rfl) rfl <| sM (vl 30 2 encI (List.map ofZ (redL zs))) rfl rfl <| sNil rfl rfl
    refine pwp_seq <| pwp_seq <| pwp_S (S' := [(0, (vl tau 2 encI l)), (5, (vl 30 2 encI (List.map ofZ (redL zs)))), (20, (vb false))]) (B' := []) ?_ ?_
    · exact sM (vl 30 2 encI (List.map ofZ (redL zs))) rfl rfl <| sE' (e_nilF rfl el40 rfl (by simp [redL]; omega)) rfl <| sNil rfl rfl
    refine pwp_cond (b := false) rfl (fun h => by cases h) (fun _ => ?_)
    refine pwp_skip <| pwp_seq <| pwp_seq <| pwp_S (S' := [(0, (vl tau 2 encI l)), (5, (vl 30 2 encI (List.map ofZ (redL zs)))), (22, (vin l.length)), (23, (vin 0))]) (B' := []) ?_ ?_
    · exact sM (vl tau 2 encI l) rfl rfl <| sE' (e_ln (r := ((l.length : Nat) : Int)) rfl el40 rfl (by simp)) rfl <| sM (vin 0) rfl rfl <| sNil rfl rfl
    refine pwp_block <| pwp_loop (α := Nat) (fun i => ⟨[(0, (vl tau 2 encI l)), (5, (vl 30 2 encI (List.map ofZ (redL zs)))), (22, (vin l.length)), (23, (vin i))], []⟩) (fun i => i ≤ l.length ∧ l.take i = (List.map ofZ (redL zs)).take i) (fun i => l.length - i) 0 (weak rfl rfl) ⟨Nat.zero_le _, by simp⟩ ?_
    rintro i ⟨hi, hal⟩
    refine pwp_seq <| pwp_S (S' := [(0, (vl tau 2 encI l)), (5, (vl 30 2 encI (List.map ofZ (redL zs)))), (22, (vin l.length)), (23, (vin i)), (24, (vb (decide (((i : Nat) : Int) < ((l.length : Nat) : Int)))))]) (B' := []) ?_ ?_
    · exact sE' (e_lss rfl rfl rfl) rfl <| sNil rfl rfl
    refine pwp_seq <| pwp_cond (b := decide (((i : Nat) : Int) < ((l.length : Nat) : Int))) rfl (fun h2 => ?_) (fun h2 => ?_)
    · replace h2 := of_decide_eq_true h2
      refine pwp_skip <| pwp_seq <| pwp_block <| pwp_seq <| pwp_S (S' := [(0, (vl tau 2 encI l)), (5, (vl 30 2 encI (List.map ofZ (redL zs)))), (6, (vin i)), (22, (vin l.length)), (23, (vin i))]) (B' := []) ?_ ?_
      · exact sM (vin i) rfl rfl <| sM (vin i) rfl rfl <| sNil rfl rfl
      refine pwp_seq <| pwp_D (S' := [(0, (vl tau 2 encI l)), (5, (vl 30 2 encI (List.map ofZ (redL zs)))), (22, (vin l.length)), (23, (vin i)), (35, (vb (!(sameI (l.getD i (RInt.mk false [])) ((List.map ofZ (redL zs)).getD i (RInt.mk false []))))))]) (B' := []) mo (by kernel_rfl) ?_ ?_
      · exact dM (vl tau 2 encI l) rfl rfl rfl <| dM (vin i) rfl rfl rfl <| dE' (e_ixs (j := i) (cs := (Dat.cells (encI (l.getD i (RInt.mk false []))))) rfl el40 rfl rfl (by omega) (ixm _ _ _ _ (by omega))) rfl rfl <| dE' (e_lca (cs := (Dat.cells (encI (l.getD i (RInt.mk false []))))) (y := (.d (encI (l.getD i (RInt.mk false []))))) rfl rfl sh30 rfl rfl) rfl rfl <| dM (vl 30 2 encI (List.map ofZ (redL zs))) rfl rfl rfl <| dM (vin i) rfl rfl rfl <| dE' (e_ixs (j := i) (cs := (Dat.cells (encI ((List.map ofZ (redL zs)).getD i (RInt.mk false []))))) rfl el40 rfl rfl (by first | omega | (rw [List.length_map, redL_length]; omega)) (ixm _ _ _ _ (by first | omega | (rw [List.length_map, redL_length]; omega)))) rfl rfl <| dE' (e_lca (cs := (Dat.cells (encI ((List.map ofZ (redL zs)).getD i (RInt.mk false []))))) (y := (.d (encI ((List.map ofZ (redL zs)).getD i (RInt.mk false []))))) rfl rfl sh30 rfl rfl) rfl rfl <| dE' (e_cl (r_same (l.getD i (RInt.mk false [])) ((List.map ofZ (redL zs)).getD i (RInt.mk false [])) (Nat.le_trans (hl.get i).l (by decide)) (Nat.le_trans (redL_iok hl i).l (by decide))) rfl rfl rfl) rfl rfl <| dE' (e_not rfl rfl) rfl rfl <| dNil rfl rfl (by kernel_rfl)
      refine pwp_cond (b := !(sameI (l.getD i (RInt.mk false [])) ((List.map ofZ (redL zs)).getD i (RInt.mk false [])))) rfl (fun h3 => ?_) (fun h3 => ?_)
      · refine pwp_seq <| pwp_S (S' := [(2, (vb false))]) (B' := []) ?_ ?_
        · exact sM (vb false) rfl rfl <| sNil rfl rfl
        refine pwp_ret ⟨_, (.tmp (d := (.val (.bool (false)))) rfl .nil), ?_⟩
        rfl
      · refine pwp_skip <| pwp_S (S' := [(0, (vl tau 2 encI l)), (5, (vl 30 2 encI (List.map ofZ (redL zs)))), (22, (vin l.length)), (23, (vin (i + 1)))]) (B' := []) ?_ ?_
        · exact sE' (e_add (r := (((i + 1) : Nat) : Int)) rfl rfl rfl (wi64 (by omega) (by omega) (by omega))) rfl <| sM (vin (i + 1)) rfl rfl <| sNil rfl rfl
        exact ⟨(i + 1), (weak rfl rfl), ⟨by omega, plain_step (by omega) (by rw [List.length_map, redL_length]; omega) hal (by simpa using h3)⟩, (by first | omega | (dsimp only; omega))⟩
    · replace h2 := of_decide_eq_false h2
      exfalso; have hie : i = l.length := (by omega); exact hd (plain_end hl hnz (by rw [hie] at hal; exact hal))
theorem l_plain (tau : Nat) (l : List RInt) (zs : List Int) (hl : LOk 1000000 l zs) (hb : l.length ≤ 1000000) : Takes Tryz.prog 80 [.sl tau 2 (List.map encI l)] (.val (.bool (redB l))) := by
  rcases hv : List.all l validI with _ | _
  · have h := l_plainV tau l zs hl hb hv
    rw [show redB l = false from by unfold redB; rw [hv]; rfl]; exact h
  by_cases hz : sgnL zs = 0
  · rw [show redB l = false from by rw [redB_eq hl hv, hz]; rfl]; exact l_plain0 tau l zs hl hb hv hz
  by_cases hd : dvL zs = 1
  · rw [show redB l = true from redB_yes hl hv hz hd]; exact l_plainT tau l zs hl hb hv hz hd
  · rw [show redB l = false from redB_no hl hd]; exact l_plainF tau l zs hl hb hv hz hd
theorem l_proper (p : A3 RInt) (p0 p1 p2 : Int) (hp0 : IOk p.a0 p0 1000000) (hp1 : IOk p.a1 p1 1000000) (hp2 : IOk p.a2 p2 1000000) : Takes Tryz.prog 24 [(encA43 p)] (.val (.bool ((redB [p.a0, p.a1, p.a2])))) := by
  refine fn_intro Tryz.func24 rfl cb24 rfl ?_
  show PWp _ _ _ _ ⟨[(0, (.d (encA43 p)))], []⟩
  refine pwp_seq <| pwp_S (S' := [(1, (.ref 0 0))]) (B' := [(0, some (bx (encA43 p)))]) ?_ ?_
  · exact sN (n_bx (d := (encA43 p)) (cs := (bx (encA43 p))) 0 rfl rfl rfl rfl) rfl rfl rfl rfl <| sM (vb false) rfl rfl <| sNil rfl rfl
  refine pwp_seq <| pwp_S (S' := [(2, (vb (redB [p.a0, p.a1, p.a2])))]) (B' := []) ?_ ?_
  · exact sE' (e_slv rfl ar44 rfl rfl rfl) rfl <| sR (e_clv (cs := (bx (encA43 p))) (es := List.map encI [p.a0, p.a1, p.a2]) (l_plain 1000000 [p.a0, p.a1, p.a2] [p0, p1, p2] (.cons hp0 (.cons hp1 (.cons hp2 .nil))) (Nat.le_of_ble_eq_true rfl)) rfl rfl rfl (.v .nil) (pubs_cells _ _ (fun _ => rfl)) rfl rfl (.val _)) rfl rfl rfl rfl <| sM (vb (redB [p.a0, p.a1, p.a2])) rfl rfl <| sNil rfl rfl
  refine pwp_ret ⟨_, (.tmp (d := (.val (.bool ((redB [p.a0, p.a1, p.a2]))))) rfl .nil), ?_⟩
  rfl
theorem l_valid (h : A9 RInt) (h0 h1 h2 h3 h4 h5 h6 h7 h8 : Int) (hh0 : IOk h.a0 h0 1000000) (hh1 : IOk h.a1 h1 1000000) (hh2 : IOk h.a2 h2 1000000) (hh3 : IOk h.a3 h3 1000000) (hh4 : IOk h.a4 h4 1000000) (hh5 : IOk h.a5 h5 1000000) (hh6 : IOk h.a6 h6 1000000) (hh7 : IOk h.a7 h7 1000000) (hh8 : IOk h.a8 h8 1000000) : Takes Tryz.prog 23 [(encA31 h)] (.val (.bool ((valH [h.a0, h.a1, h.a2, h.a3, h.a4, h.a5, h.a6, h.a7, h.a8] (det3 h0 h1 h2 h3 h4 h5 h6 h7 h8))))) := by
  refine fn_intro Tryz.func23 rfl cb23 rfl ?_
  show PWp _ _ _ _ ⟨[(0, (.d (encA31 h)))], []⟩
  refine pwp_seq <| pwp_S (S' := [(1, (.ref 0 0))]) (B' := [(0, some (bx (encA31 h)))]) ?_ ?_
  · exact sN (n_bx (d := (encA31 h)) (cs := (bx (encA31 h))) 0 rfl rfl rfl rfl) rfl rfl rfl rfl <| sM (vb false) rfl rfl <| sNil rfl rfl
  refine pwp_seq ?_
  have bn1 : IOk (ofZ (det3 h0 h1 h2 h3 h4 h5 h6 h7 h8)) (det3 h0 h1 h2 h3 h4 h5 h6 h7 h8) 3000003 := (iok_eqz (det3_cr _ _ _ _ _ _ _ _ _) (iok_add (k := 3000003) (iok_add (k := 3000002) (iok_mul (k := 3000001) (iok_sub (k := 2000001) (iok_mul (k := 2000000) hh1 hh5 (by decide)) (iok_mul (k := 2000000) hh2 hh4 (by decide)) (by decide)) hh6 (by decide)) (iok_mul (k := 3000001) (iok_sub (k := 2000001) (iok_mul (k := 2000000) hh2 hh3 (by decide)) (iok_mul (k := 2000000) hh0 hh5 (by decide)) (by decide)) hh7 (by decide)) (by decide)) (iok_mul (k := 3000001) (iok_sub (k := 2000001) (iok_mul (k := 2000000) hh0 hh4 (by decide)) (iok_mul (k := 2000000) hh1 hh3 (by decide)) (by decide)) hh8 (by decide)) (by decide)))
  refine pwp_D (S' := [(2, (vb ((redB [h.a0, h.a1, h.a2, h.a3, h.a4, h.a5, h.a6, h.a7, h.a8]) && !(signI (det3 h0 h1 h2 h3 h4 h5 h6 h7 h8) == 0))))]) (B' := []) mo (by kernel_rfl) ?_ ?_
  · refine dE' (e_slv rfl ar32 rfl rfl rfl) rfl rfl <| dR (e_clv (cs := (bx (encA31 h))) (es := List.map encI [h.a0, h.a1, h.a2, h.a3, h.a4, h.a5, h.a6, h.a7, h.a8]) (l_plain 1000000 [h.a0, h.a1, h.a2, h.a3, h.a4, h.a5, h.a6, h.a7, h.a8] [h0, h1, h2, h3, h4, h5, h6, h7, h8] (.cons hh0 (.cons hh1 (.cons hh2 (.cons hh3 (.cons hh4 (.cons hh5 (.cons hh6 (.cons hh7 (.cons hh8 .nil))))))))) (Nat.le_of_ble_eq_true rfl)) rfl rfl rfl (.v .nil) (pubs_cells _ _ (fun _ => rfl)) rfl rfl (.val _)) rfl rfl rfl rfl rfl <| dM (vb (redB [h.a0, h.a1, h.a2, h.a3, h.a4, h.a5, h.a6, h.a7, h.a8])) rfl rfl rfl <| ?_
    rcases hb1 : (redB [h.a0, h.a1, h.a2, h.a3, h.a4, h.a5, h.a6, h.a7, h.a8]) with _ | _
    · exact dK rfl rfl rfl <| dK rfl rfl rfl <| dK rfl rfl rfl <| dK rfl rfl rfl <| dK rfl rfl rfl <| dK rfl rfl rfl <| dK rfl rfl rfl <| dK rfl rfl rfl <| dK rfl rfl rfl <| dE' (e_pkf (z := (vb false)) rfl rfl rfl) rfl rfl <| dM (vb false) rfl rfl rfl <| dNil rfl rfl (by kernel_rfl)
    · exact dR (e_lda (cs := (bx (encA31 h))) (y := (.d (encA31 h))) rfl rfl sh32 rfl rfl) rfl rfl rfl rfl rfl <| dE' (e_cl (l_row0 h h0 h1 h2 h3 h4 h5 h6 h7 h8 (iu hh0) (iu hh1) (iu hh2) (iu hh3) (iu hh4) (iu hh5) (iu hh6) (iu hh7) (iu hh8)) rfl rfl rfl) rfl rfl <| dR (e_lda (cs := (bx (encA31 h))) (y := (.d (encA31 h))) rfl rfl sh32 rfl rfl) rfl rfl rfl rfl rfl <| dE' (e_cl (l_row1 h h0 h1 h2 h3 h4 h5 h6 h7 h8 (iu hh0) (iu hh1) (iu hh2) (iu hh3) (iu hh4) (iu hh5) (iu hh6) (iu hh7) (iu hh8)) rfl rfl rfl) rfl rfl <| dR (e_lda (cs := (bx (encA31 h))) (y := (.d (encA31 h))) rfl rfl sh32 rfl rfl) rfl rfl rfl rfl rfl <| dE' (e_cl (l_row2 h h0 h1 h2 h3 h4 h5 h6 h7 h8 (iu hh0) (iu hh1) (iu hh2) (iu hh3) (iu hh4) (iu hh5) (iu hh6) (iu hh7) (iu hh8)) rfl rfl rfl) rfl rfl <| dE' (e_cl (l_det (A3.mk h.a0 h.a1 h.a2) h0 h1 h2 hh0 hh1 hh2 (A3.mk h.a3 h.a4 h.a5) h3 h4 h5 hh3 hh4 hh5 (A3.mk h.a6 h.a7 h.a8) h6 h7 h8 hh6 hh7 hh8) rfl rfl rfl) rfl rfl <| dE' (e_cl (l_zero (ofZ (det3 h0 h1 h2 h3 h4 h5 h6 h7 h8)) (det3 h0 h1 h2 h3 h4 h5 h6 h7 h8) (iu bn1)) rfl rfl rfl) rfl rfl <| dE' (e_not rfl rfl) rfl rfl <| dE' (e_pkta rfl rfl rfl) rfl rfl <| dM (vb (true && !(signI (det3 h0 h1 h2 h3 h4 h5 h6 h7 h8) == 0))) rfl rfl rfl <| dNil rfl rfl (by kernel_rfl)
  refine pwp_ret ⟨_, (.tmp (d := (.val (.bool (((redB [h.a0, h.a1, h.a2, h.a3, h.a4, h.a5, h.a6, h.a7, h.a8]) && !(signI (det3 h0 h1 h2 h3 h4 h5 h6 h7 h8) == 0)))))) rfl .nil), ?_⟩
  rfl
theorem l_apply (h : A9 RInt) (h0 h1 h2 h3 h4 h5 h6 h7 h8 : Int) (hh0 : IOk h.a0 h0 1000) (hh1 : IOk h.a1 h1 1000) (hh2 : IOk h.a2 h2 1000) (hh3 : IOk h.a3 h3 1000) (hh4 : IOk h.a4 h4 1000) (hh5 : IOk h.a5 h5 1000) (hh6 : IOk h.a6 h6 1000) (hh7 : IOk h.a7 h7 1000) (hh8 : IOk h.a8 h8 1000) (p : A3 RInt) (p0 p1 p2 : Int) (hp0 : IOk p.a0 p0 1000) (hp1 : IOk p.a1 p1 1000) (hp2 : IOk p.a2 p2 1000) (c0 c1 c2 : Int) (hc : redL [(((h0 * p0) + (h1 * p1)) + (h2 * p2)), (((h3 * p0) + (h4 * p1)) + (h5 * p2)), (((h6 * p0) + (h7 * p1)) + (h8 * p2))] = [c0, c1, c2]) (hnz : sgnL [(((h0 * p0) + (h1 * p1)) + (h2 * p2)), (((h3 * p0) + (h4 * p1)) + (h5 * p2)), (((h6 * p0) + (h7 * p1)) + (h8 * p2))] ≠ 0) : Takes Tryz.prog 17 [(encA31 h), (encA43 p)] (encA43 (A3.mk (ofZ c0) (ofZ c1) (ofZ c2))) := by
  let y3 := (encA43 (A3.mk (ofZ c0) (ofZ c1) (ofZ c2)))
  let y2 := (bx y3)
  let y1 := (bx (encA43 (A3.mk (RInt.mk false []) (RInt.mk false []) (RInt.mk false []))))
  refine fn_intro Tryz.func17 rfl cb17 rfl ?_
  show PWp _ _ _ _ ⟨[(0, (.d (encA31 h))), (1, (.d (encA43 p)))], []⟩
  refine pwp_seq <| pwp_S (S' := [(2, (.ref 0 0)), (3, (.ref 1 0)), (4, (.ref 2 0))]) (B' := [(0, some (bx (encA31 h))), (1, some (bx (encA43 p))), (2, some y1)]) ?_ ?_
  · exact sN (n_bx (d := (encA31 h)) (cs := (bx (encA31 h))) 0 rfl rfl rfl rfl) rfl rfl rfl rfl <| sN (n_bx (d := (encA43 p)) (cs := (bx (encA43 p))) 1 rfl rfl rfl rfl) rfl rfl rfl rfl <| sN (n_al (cs := y1) 2 rfl ze44 zo44 rfl) rfl rfl rfl rfl <| sNil rfl rfl
  refine pwp_seq ?_
  have bn1 : IOk (ofZ (((h0 * p0) + (h1 * p1)) + (h2 * p2))) (((h0 * p0) + (h1 * p1)) + (h2 * p2)) 2002 := (iok_add (k := 2002) (iok_add (k := 2001) (iok_mul (k := 2000) hh0 hp0 (by decide)) (iok_mul (k := 2000) hh1 hp1 (by decide)) (by decide)) (iok_mul (k := 2000) hh2 hp2 (by decide)) (by decide))
  have bn2 : IOk (ofZ (((h3 * p0) + (h4 * p1)) + (h5 * p2))) (((h3 * p0) + (h4 * p1)) + (h5 * p2)) 2002 := (iok_add (k := 2002) (iok_add (k := 2001) (iok_mul (k := 2000) hh3 hp0 (by decide)) (iok_mul (k := 2000) hh4 hp1 (by decide)) (by decide)) (iok_mul (k := 2000) hh5 hp2 (by decide)) (by decide))
  have bn3 : IOk (ofZ (((h6 * p0) + (h7 * p1)) + (h8 * p2))) (((h6 * p0) + (h7 * p1)) + (h8 * p2)) 2002 := (iok_add (k := 2002) (iok_add (k := 2001) (iok_mul (k := 2000) hh6 hp0 (by decide)) (iok_mul (k := 2000) hh7 hp1 (by decide)) (by decide)) (iok_mul (k := 2000) hh8 hp2 (by decide)) (by decide))
  have bn4 : ∀ c ∈ [c0, c1, c2], IOk (ofZ c) c 2002 := red_iok (n := 2002) (.cons bn1 (.cons bn2 (.cons bn3 .nil))) hc
  refine pwp_D (S' := [(4, (.ref 2 0)), (5, (.ref 3 0))]) (B' := [(2, some y1), (3, some y2)]) mo (by kernel_rfl) ?_ ?_
  · exact dR (e_lda (cs := (bx (encA31 h))) (y := (.d (encA31 h))) rfl rfl sh32 rfl rfl) rfl rfl rfl rfl rfl <| dE' (e_cl (l_row0 h h0 h1 h2 h3 h4 h5 h6 h7 h8 (iu hh0) (iu hh1) (iu hh2) (iu hh3) (iu hh4) (iu hh5) (iu hh6) (iu hh7) (iu hh8)) rfl rfl rfl) rfl rfl <| dR (e_lda (cs := (bx (encA43 p))) (y := (.d (encA43 p))) rfl rfl sh44 rfl rfl) rfl rfl rfl rfl rfl <| dE' (e_cl (l_dot (A3.mk h.a0 h.a1 h.a2) h0 h1 h2 (iu hh0) (iu hh1) (iu hh2) p p0 p1 p2 (iu hp0) (iu hp1) (iu hp2)) rfl rfl rfl) rfl rfl <| dR (e_lda (cs := (bx (encA31 h))) (y := (.d (encA31 h))) rfl rfl sh32 rfl rfl) rfl rfl rfl rfl rfl <| dE' (e_cl (l_row1 h h0 h1 h2 h3 h4 h5 h6 h7 h8 (iu hh0) (iu hh1) (iu hh2) (iu hh3) (iu hh4) (iu hh5) (iu hh6) (iu hh7) (iu hh8)) rfl rfl rfl) rfl rfl <| dR (e_lda (cs := (bx (encA43 p))) (y := (.d (encA43 p))) rfl rfl sh44 rfl rfl) rfl rfl rfl rfl rfl <| dE' (e_cl (l_dot (A3.mk h.a3 h.a4 h.a5) h3 h4 h5 (iu hh3) (iu hh4) (iu hh5) p p0 p1 p2 (iu hp0) (iu hp1) (iu hp2)) rfl rfl rfl) rfl rfl <| dR (e_lda (cs := (bx (encA31 h))) (y := (.d (encA31 h))) rfl rfl sh32 rfl rfl) rfl rfl rfl rfl rfl <| dE' (e_cl (l_row2 h h0 h1 h2 h3 h4 h5 h6 h7 h8 (iu hh0) (iu hh1) (iu hh2) (iu hh3) (iu hh4) (iu hh5) (iu hh6) (iu hh7) (iu hh8)) rfl rfl rfl) rfl rfl <| dR (e_lda (cs := (bx (encA43 p))) (y := (.d (encA43 p))) rfl rfl sh44 rfl rfl) rfl rfl rfl rfl rfl <| dE' (e_cl (l_dot (A3.mk h.a6 h.a7 h.a8) h6 h7 h8 (iu hh6) (iu hh7) (iu hh8) p p0 p1 p2 (iu hp0) (iu hp1) (iu hp2)) rfl rfl rfl) rfl rfl <| dE' (e_bldF (ds := [(encI (ofZ (((h0 * p0) + (h1 * p1)) + (h2 * p2)))), (encI (ofZ (((h3 * p0) + (h4 * p1)) + (h5 * p2)))), (encI (ofZ (((h6 * p0) + (h7 * p1)) + (h8 * p2))))]) (y := (encA43 (A3.mk (ofZ (((h0 * p0) + (h1 * p1)) + (h2 * p2))) (ofZ (((h3 * p0) + (h4 * p1)) + (h5 * p2))) (ofZ (((h6 * p0) + (h7 * p1)) + (h8 * p2)))))) rfl ar44 ze44 zo44 rfl rfl rfl rfl rfl) rfl rfl <| dE' (e_cl (l_trip (A3.mk (ofZ (((h0 * p0) + (h1 * p1)) + (h2 * p2))) (ofZ (((h3 * p0) + (h4 * p1)) + (h5 * p2))) (ofZ (((h6 * p0) + (h7 * p1)) + (h8 * p2)))) (((h0 * p0) + (h1 * p1)) + (h2 * p2)) (((h3 * p0) + (h4 * p1)) + (h5 * p2)) (((h6 * p0) + (h7 * p1)) + (h8 * p2)) (iu bn1) (iu bn2) (iu bn3) c0 c1 c2 hc hnz) rfl rfl rfl) rfl rfl <| dM (.d (.tup [y3, (.val (.bool (true)))])) rfl rfl rfl <| dE' (e_exD (d := y3) rfl rfl rfl) rfl rfl <| dE' (e_exD (d := (.val (.bool (true)))) rfl rfl rfl) rfl rfl <| dN (n_al (cs := y1) 3 rfl ze44 zo44 rfl) rfl rfl rfl rfl rfl rfl <| dT (t_std (d := y3) (cs := y2) rfl rfl rfl sh44 rfl rfl rfl rfl) rfl rfl rfl rfl <| dM (vb true) rfl rfl rfl <| dNil rfl rfl (by kernel_rfl)
  refine pwp_seq <| pwp_S (S' := [(4, (.ref 2 0))]) (B' := [(2, some y2)]) ?_ ?_
  · exact sR (e_lda (cs := y2) (y := (.d y3)) rfl rfl sh44 rfl rfl) rfl rfl rfl rfl <| sT (t_std (d := y3) (cs := y2) rfl rfl rfl sh44 rfl rfl rfl rfl) rfl rfl rfl <| sNil rfl rfl
  refine pwp_ret ⟨_, (res_a (cs := (bx (encA43 (A3.mk (ofZ c0) (ofZ c1) (ofZ c2))))) (d := (encA43 (A3.mk (ofZ c0) (ofZ c1) (ofZ c2)))) rfl rfl sh44 rfl rfl .nil), ?_⟩
  rfl
theorem l_adj (h : A9 RInt) (h0 h1 h2 h3 h4 h5 h6 h7 h8 : Int) (hh0 : IOk h.a0 h0 1000000) (hh1 : IOk h.a1 h1 1000000) (hh2 : IOk h.a2 h2 1000000) (hh3 : IOk h.a3 h3 1000000) (hh4 : IOk h.a4 h4 1000000) (hh5 : IOk h.a5 h5 1000000) (hh6 : IOk h.a6 h6 1000000) (hh7 : IOk h.a7 h7 1000000) (hh8 : IOk h.a8 h8 1000000) : Takes Tryz.prog 82 [(encA31 h)] (encA31 (A9.mk (ofZ ((h4 * h8) - (h5 * h7))) (ofZ ((h7 * h2) - (h8 * h1))) (ofZ ((h1 * h5) - (h2 * h4))) (ofZ ((h5 * h6) - (h3 * h8))) (ofZ ((h8 * h0) - (h6 * h2))) (ofZ ((h2 * h3) - (h0 * h5))) (ofZ ((h3 * h7) - (h4 * h6))) (ofZ ((h6 * h1) - (h7 * h0))) (ofZ ((h0 * h4) - (h1 * h3))))) := by
  let y6 := (bx (encA43 (A3.mk (ofZ ((h1 * h5) - (h2 * h4))) (ofZ ((h2 * h3) - (h0 * h5))) (ofZ ((h0 * h4) - (h1 * h3))))))
  let y5 := (bx (encA43 (A3.mk (ofZ ((h7 * h2) - (h8 * h1))) (ofZ ((h8 * h0) - (h6 * h2))) (ofZ ((h6 * h1) - (h7 * h0))))))
  let y4 := (bx (encA43 (A3.mk (ofZ ((h4 * h8) - (h5 * h7))) (ofZ ((h5 * h6) - (h3 * h8))) (ofZ ((h3 * h7) - (h4 * h6))))))
  let y3 := (bx (encA31 (A9.mk (RInt.mk false []) (RInt.mk false []) (RInt.mk false []) (RInt.mk false []) (RInt.mk false []) (RInt.mk false []) (RInt.mk false []) (RInt.mk false []) (RInt.mk false []))))
  let y2 := (encA31 (A9.mk (ofZ ((h4 * h8) - (h5 * h7))) (ofZ ((h7 * h2) - (h8 * h1))) (ofZ ((h1 * h5) - (h2 * h4))) (ofZ ((h5 * h6) - (h3 * h8))) (ofZ ((h8 * h0) - (h6 * h2))) (ofZ ((h2 * h3) - (h0 * h5))) (ofZ ((h3 * h7) - (h4 * h6))) (ofZ ((h6 * h1) - (h7 * h0))) (ofZ ((h0 * h4) - (h1 * h3)))))
  let y1 := (bx y2)
  refine fn_intro Tryz.func82 rfl cb82 rfl ?_
  show PWp _ _ _ _ ⟨[(0, (.d (encA31 h)))], []⟩
  refine pwp_seq <| pwp_S (S' := [(1, (.ref 0 0)), (2, (.ref 1 0))]) (B' := [(0, some (bx (encA31 h))), (1, some y3)]) ?_ ?_
  · exact sN (n_bx (d := (encA31 h)) (cs := (bx (encA31 h))) 0 rfl rfl rfl rfl) rfl rfl rfl rfl <| sN (n_al (cs := y3) 1 rfl ze32 zo32 rfl) rfl rfl rfl rfl <| sNil rfl rfl
  refine pwp_seq ?_
  have bn1 : IOk (ofZ ((h4 * h8) - (h5 * h7))) ((h4 * h8) - (h5 * h7)) 2000001 := (iok_sub (k := 2000001) (iok_mul (k := 2000000) hh4 hh8 (by decide)) (iok_mul (k := 2000000) hh5 hh7 (by decide)) (by decide))
  have bn2 : IOk (ofZ ((h5 * h6) - (h3 * h8))) ((h5 * h6) - (h3 * h8)) 2000001 := (iok_sub (k := 2000001) (iok_mul (k := 2000000) hh5 hh6 (by decide)) (iok_mul (k := 2000000) hh3 hh8 (by decide)) (by decide))
  have bn3 : IOk (ofZ ((h3 * h7) - (h4 * h6))) ((h3 * h7) - (h4 * h6)) 2000001 := (iok_sub (k := 2000001) (iok_mul (k := 2000000) hh3 hh7 (by decide)) (iok_mul (k := 2000000) hh4 hh6 (by decide)) (by decide))
  have bn4 : IOk (ofZ ((h7 * h2) - (h8 * h1))) ((h7 * h2) - (h8 * h1)) 2000001 := (iok_sub (k := 2000001) (iok_mul (k := 2000000) hh7 hh2 (by decide)) (iok_mul (k := 2000000) hh8 hh1 (by decide)) (by decide))
  have bn5 : IOk (ofZ ((h8 * h0) - (h6 * h2))) ((h8 * h0) - (h6 * h2)) 2000001 := (iok_sub (k := 2000001) (iok_mul (k := 2000000) hh8 hh0 (by decide)) (iok_mul (k := 2000000) hh6 hh2 (by decide)) (by decide))
  have bn6 : IOk (ofZ ((h6 * h1) - (h7 * h0))) ((h6 * h1) - (h7 * h0)) 2000001 := (iok_sub (k := 2000001) (iok_mul (k := 2000000) hh6 hh1 (by decide)) (iok_mul (k := 2000000) hh7 hh0 (by decide)) (by decide))
  have bn7 : IOk (ofZ ((h1 * h5) - (h2 * h4))) ((h1 * h5) - (h2 * h4)) 2000001 := (iok_sub (k := 2000001) (iok_mul (k := 2000000) hh1 hh5 (by decide)) (iok_mul (k := 2000000) hh2 hh4 (by decide)) (by decide))
  have bn8 : IOk (ofZ ((h2 * h3) - (h0 * h5))) ((h2 * h3) - (h0 * h5)) 2000001 := (iok_sub (k := 2000001) (iok_mul (k := 2000000) hh2 hh3 (by decide)) (iok_mul (k := 2000000) hh0 hh5 (by decide)) (by decide))
  have bn9 : IOk (ofZ ((h0 * h4) - (h1 * h3))) ((h0 * h4) - (h1 * h3)) 2000001 := (iok_sub (k := 2000001) (iok_mul (k := 2000000) hh0 hh4 (by decide)) (iok_mul (k := 2000000) hh1 hh3 (by decide)) (by decide))
  refine pwp_D (S' := [(2, (.ref 1 0)), (3, (.ref 2 0)), (4, (.ref 3 0)), (5, (.ref 4 0))]) (B' := [(1, some y3), (2, some y4), (3, some y5), (4, some y6)]) mo (by kernel_rfl) ?_ ?_
  · exact dR (e_lda (cs := (bx (encA31 h))) (y := (.d (encA31 h))) rfl rfl sh32 rfl rfl) rfl rfl rfl rfl rfl <| dE' (e_cl (l_row1 h h0 h1 h2 h3 h4 h5 h6 h7 h8 (iu hh0) (iu hh1) (iu hh2) (iu hh3) (iu hh4) (iu hh5) (iu hh6) (iu hh7) (iu hh8)) rfl rfl rfl) rfl rfl <| dR (e_lda (cs := (bx (encA31 h))) (y := (.d (encA31 h))) rfl rfl sh32 rfl rfl) rfl rfl rfl rfl rfl <| dE' (e_cl (l_row2 h h0 h1 h2 h3 h4 h5 h6 h7 h8 (iu hh0) (iu hh1) (iu hh2) (iu hh3) (iu hh4) (iu hh5) (iu hh6) (iu hh7) (iu hh8)) rfl rfl rfl) rfl rfl <| dE' (e_cl (l_cross (A3.mk h.a3 h.a4 h.a5) h3 h4 h5 (iu hh3) (iu hh4) (iu hh5) (A3.mk h.a6 h.a7 h.a8) h6 h7 h8 (iu hh6) (iu hh7) (iu hh8)) rfl rfl rfl) rfl rfl <| dR (e_lda (cs := (bx (encA31 h))) (y := (.d (encA31 h))) rfl rfl sh32 rfl rfl) rfl rfl rfl rfl rfl <| dE' (e_cl (l_row2 h h0 h1 h2 h3 h4 h5 h6 h7 h8 (iu hh0) (iu hh1) (iu hh2) (iu hh3) (iu hh4) (iu hh5) (iu hh6) (iu hh7) (iu hh8)) rfl rfl rfl) rfl rfl <| dR (e_lda (cs := (bx (encA31 h))) (y := (.d (encA31 h))) rfl rfl sh32 rfl rfl) rfl rfl rfl rfl rfl <| dE' (e_cl (l_row0 h h0 h1 h2 h3 h4 h5 h6 h7 h8 (iu hh0) (iu hh1) (iu hh2) (iu hh3) (iu hh4) (iu hh5) (iu hh6) (iu hh7) (iu hh8)) rfl rfl rfl) rfl rfl <| dE' (e_cl (l_cross (A3.mk h.a6 h.a7 h.a8) h6 h7 h8 (iu hh6) (iu hh7) (iu hh8) (A3.mk h.a0 h.a1 h.a2) h0 h1 h2 (iu hh0) (iu hh1) (iu hh2)) rfl rfl rfl) rfl rfl <| dR (e_lda (cs := (bx (encA31 h))) (y := (.d (encA31 h))) rfl rfl sh32 rfl rfl) rfl rfl rfl rfl rfl <| dE' (e_cl (l_row0 h h0 h1 h2 h3 h4 h5 h6 h7 h8 (iu hh0) (iu hh1) (iu hh2) (iu hh3) (iu hh4) (iu hh5) (iu hh6) (iu hh7) (iu hh8)) rfl rfl rfl) rfl rfl <| dR (e_lda (cs := (bx (encA31 h))) (y := (.d (encA31 h))) rfl rfl sh32 rfl rfl) rfl rfl rfl rfl rfl <| dE' (e_cl (l_row1 h h0 h1 h2 h3 h4 h5 h6 h7 h8 (iu hh0) (iu hh1) (iu hh2) (iu hh3) (iu hh4) (iu hh5) (iu hh6) (iu hh7) (iu hh8)) rfl rfl rfl) rfl rfl <| dE' (e_cl (l_cross (A3.mk h.a0 h.a1 h.a2) h0 h1 h2 (iu hh0) (iu hh1) (iu hh2) (A3.mk h.a3 h.a4 h.a5) h3 h4 h5 (iu hh3) (iu hh4) (iu hh5)) rfl rfl rfl) rfl rfl <| dN (n_al (cs := (bx (encA43 (A3.mk (RInt.mk false []) (RInt.mk false []) (RInt.mk false []))))) 2 rfl ze44 zo44 rfl) rfl rfl rfl rfl rfl rfl <| dN (n_al (cs := (bx (encA43 (A3.mk (RInt.mk false []) (RInt.mk false []) (RInt.mk false []))))) 3 rfl ze44 zo44 rfl) rfl rfl rfl rfl rfl rfl <| dN (n_al (cs := (bx (encA43 (A3.mk (RInt.mk false []) (RInt.mk false []) (RInt.mk false []))))) 4 rfl ze44 zo44 rfl) rfl rfl rfl rfl rfl rfl <| dT (t_std (d := (encA43 (A3.mk (ofZ ((h4 * h8) - (h5 * h7))) (ofZ ((h5 * h6) - (h3 * h8))) (ofZ ((h3 * h7) - (h4 * h6)))))) (cs := y4) rfl rfl rfl sh44 rfl rfl rfl rfl) rfl rfl rfl rfl <| dT (t_std (d := (encA43 (A3.mk (ofZ ((h7 * h2) - (h8 * h1))) (ofZ ((h8 * h0) - (h6 * h2))) (ofZ ((h6 * h1) - (h7 * h0)))))) (cs := y5) rfl rfl rfl sh44 rfl rfl rfl rfl) rfl rfl rfl rfl <| dT (t_std (d := (encA43 (A3.mk (ofZ ((h1 * h5) - (h2 * h4))) (ofZ ((h2 * h3) - (h0 * h5))) (ofZ ((h0 * h4) - (h1 * h3)))))) (cs := y6) rfl rfl rfl sh44 rfl rfl rfl rfl) rfl rfl rfl rfl <| dNil rfl rfl (by kernel_rfl)
  refine pwp_seq <| pwp_S (S' := [(2, (.ref 1 0))]) (B' := [(1, some y1)]) ?_ ?_
  · exact sE' (e_ixar (j := 0) (q := 0) rfl ar44 rfl rfl rfl (by decide) rfl) rfl <| sR (e_lda (cs := y4) (y := (.d (encI (ofZ ((h4 * h8) - (h5 * h7)))))) rfl rfl sh30 rfl rfl) rfl rfl rfl rfl <| sE' (e_ixar (j := 0) (q := 0) rfl ar44 rfl rfl rfl (by decide) rfl) rfl <| sR (e_lda (cs := y5) (y := (.d (encI (ofZ ((h7 * h2) - (h8 * h1)))))) rfl rfl sh30 rfl rfl) rfl rfl rfl rfl <| sE' (e_ixar (j := 0) (q := 0) rfl ar44 rfl rfl rfl (by decide) rfl) rfl <| sR (e_lda (cs := y6) (y := (.d (encI (ofZ ((h1 * h5) - (h2 * h4)))))) rfl rfl sh30 rfl rfl) rfl rfl rfl rfl <| sE' (e_ixar (j := 1) (q := 2) rfl ar44 rfl rfl rfl (by decide) rfl) rfl <| sR (e_lda (cs := y4) (y := (.d (encI (ofZ ((h5 * h6) - (h3 * h8)))))) rfl rfl sh30 rfl rfl) rfl rfl rfl rfl <| sE' (e_ixar (j := 1) (q := 2) rfl ar44 rfl rfl rfl (by decide) rfl) rfl <| sR (e_lda (cs := y5) (y := (.d (encI (ofZ ((h8 * h0) - (h6 * h2)))))) rfl rfl sh30 rfl rfl) rfl rfl rfl rfl <| sE' (e_ixar (j := 1) (q := 2) rfl ar44 rfl rfl rfl (by decide) rfl) rfl <| sR (e_lda (cs := y6) (y := (.d (encI (ofZ ((h2 * h3) - (h0 * h5)))))) rfl rfl sh30 rfl rfl) rfl rfl rfl rfl <| sE' (e_ixar (j := 2) (q := 4) rfl ar44 rfl rfl rfl (by decide) rfl) rfl <| sR (e_lda (cs := y4) (y := (.d (encI (ofZ ((h3 * h7) - (h4 * h6)))))) rfl rfl sh30 rfl rfl) rfl rfl rfl rfl <| sE' (e_ixar (j := 2) (q := 4) rfl ar44 rfl rfl rfl (by decide) rfl) rfl <| sR (e_lda (cs := y5) (y := (.d (encI (ofZ ((h6 * h1) - (h7 * h0)))))) rfl rfl sh30 rfl rfl) rfl rfl rfl rfl <| sE' (e_ixar (j := 2) (q := 4) rfl ar44 rfl rfl rfl (by decide) rfl) rfl <| sR (e_lda (cs := y6) (y := (.d (encI (ofZ ((h0 * h4) - (h1 * h3)))))) rfl rfl sh30 rfl rfl) rfl rfl rfl rfl <| sE' (e_bldF (ds := [(encI (ofZ ((h4 * h8) - (h5 * h7)))), (encI (ofZ ((h7 * h2) - (h8 * h1)))), (encI (ofZ ((h1 * h5) - (h2 * h4)))), (encI (ofZ ((h5 * h6) - (h3 * h8)))), (encI (ofZ ((h8 * h0) - (h6 * h2)))), (encI (ofZ ((h2 * h3) - (h0 * h5)))), (encI (ofZ ((h3 * h7) - (h4 * h6)))), (encI (ofZ ((h6 * h1) - (h7 * h0)))), (encI (ofZ ((h0 * h4) - (h1 * h3))))]) (y := y2) rfl ar32 ze32 zo32 rfl rfl rfl rfl rfl) rfl <| sT (t_std (d := y2) (cs := y1) rfl rfl rfl sh32 rfl rfl rfl rfl) rfl rfl rfl <| sNil rfl rfl
  refine pwp_ret ⟨_, (res_a (cs := (bx (encA31 (A9.mk (ofZ ((h4 * h8) - (h5 * h7))) (ofZ ((h7 * h2) - (h8 * h1))) (ofZ ((h1 * h5) - (h2 * h4))) (ofZ ((h5 * h6) - (h3 * h8))) (ofZ ((h8 * h0) - (h6 * h2))) (ofZ ((h2 * h3) - (h0 * h5))) (ofZ ((h3 * h7) - (h4 * h6))) (ofZ ((h6 * h1) - (h7 * h0))) (ofZ ((h0 * h4) - (h1 * h3))))))) (d := (encA31 (A9.mk (ofZ ((h4 * h8) - (h5 * h7))) (ofZ ((h7 * h2) - (h8 * h1))) (ofZ ((h1 * h5) - (h2 * h4))) (ofZ ((h5 * h6) - (h3 * h8))) (ofZ ((h8 * h0) - (h6 * h2))) (ofZ ((h2 * h3) - (h0 * h5))) (ofZ ((h3 * h7) - (h4 * h6))) (ofZ ((h6 * h1) - (h7 * h0))) (ofZ ((h0 * h4) - (h1 * h3)))))) rfl rfl sh32 rfl rfl .nil), ?_⟩
  rfl
theorem l_line (h : A9 RInt) (h0 h1 h2 h3 h4 h5 h6 h7 h8 : Int) (hh0 : IOk h.a0 h0 1000) (hh1 : IOk h.a1 h1 1000) (hh2 : IOk h.a2 h2 1000) (hh3 : IOk h.a3 h3 1000) (hh4 : IOk h.a4 h4 1000) (hh5 : IOk h.a5 h5 1000) (hh6 : IOk h.a6 h6 1000) (hh7 : IOk h.a7 h7 1000) (hh8 : IOk h.a8 h8 1000) (p : A3 RInt) (p0 p1 p2 : Int) (hp0 : IOk p.a0 p0 1000) (hp1 : IOk p.a1 p1 1000) (hp2 : IOk p.a2 p2 1000) (c0 c1 c2 : Int) (hc : redL [(((((h4 * h8) - (h5 * h7)) * p0) + (((h5 * h6) - (h3 * h8)) * p1)) + (((h3 * h7) - (h4 * h6)) * p2)), (((((h7 * h2) - (h8 * h1)) * p0) + (((h8 * h0) - (h6 * h2)) * p1)) + (((h6 * h1) - (h7 * h0)) * p2)), (((((h1 * h5) - (h2 * h4)) * p0) + (((h2 * h3) - (h0 * h5)) * p1)) + (((h0 * h4) - (h1 * h3)) * p2))] = [c0, c1, c2]) (hnz : sgnL [(((((h4 * h8) - (h5 * h7)) * p0) + (((h5 * h6) - (h3 * h8)) * p1)) + (((h3 * h7) - (h4 * h6)) * p2)), (((((h7 * h2) - (h8 * h1)) * p0) + (((h8 * h0) - (h6 * h2)) * p1)) + (((h6 * h1) - (h7 * h0)) * p2)), (((((h1 * h5) - (h2 * h4)) * p0) + (((h2 * h3) - (h0 * h5)) * p1)) + (((h0 * h4) - (h1 * h3)) * p2))] ≠ 0) : Takes Tryz.prog 25 [(encA31 h), (encA43 p)] (encA43 (A3.mk (ofZ c0) (ofZ c1) (ofZ c2))) := by
  let y7 := (encA43 (A3.mk (ofZ c0) (ofZ c1) (ofZ c2)))
  let y6 := (bx y7)
  let y5 := (bx (encA43 (A3.mk (RInt.mk false []) (RInt.mk false []) (RInt.mk false []))))
  let y4 := (A9.mk (ofZ ((h4 * h8) - (h5 * h7))) (ofZ ((h7 * h2) - (h8 * h1))) (ofZ ((h1 * h5) - (h2 * h4))) (ofZ ((h5 * h6) - (h3 * h8))) (ofZ ((h8 * h0) - (h6 * h2))) (ofZ ((h2 * h3) - (h0 * h5))) (ofZ ((h3 * h7) - (h4 * h6))) (ofZ ((h6 * h1) - (h7 * h0))) (ofZ ((h0 * h4) - (h1 * h3))))
  let y3 := (encA31 y4)
  let y2 := (bx y3)
  let y1 := (A3.mk (ofZ (((((h4 * h8) - (h5 * h7)) * p0) + (((h5 * h6) - (h3 * h8)) * p1)) + (((h3 * h7) - (h4 * h6)) * p2))) (ofZ (((((h7 * h2) - (h8 * h1)) * p0) + (((h8 * h0) - (h6 * h2)) * p1)) + (((h6 * h1) - (h7 * h0)) * p2))) (ofZ (((((h1 * h5) - (h2 * h4)) * p0) + (((h2 * h3) - (h0 * h5)) * p1)) + (((h0 * h4) - (h1 * h3)) * p2))))
  refine fn_intro Tryz.func25 rfl cb25 rfl ?_
  show PWp _ _ _ _ ⟨[(0, (.d (encA31 h))), (1, (.d (encA43 p)))], []⟩
  refine pwp_seq <| pwp_S (S' := [(2, (.ref 0 0)), (3, (.ref 1 0)), (4, (.ref 2 0))]) (B' := [(0, some (bx (encA31 h))), (1, some (bx (encA43 p))), (2, some y5)]) ?_ ?_
  · exact sN (n_bx (d := (encA31 h)) (cs := (bx (encA31 h))) 0 rfl rfl rfl rfl) rfl rfl rfl rfl <| sN (n_bx (d := (encA43 p)) (cs := (bx (encA43 p))) 1 rfl rfl rfl rfl) rfl rfl rfl rfl <| sN (n_al (cs := y5) 2 rfl ze44 zo44 rfl) rfl rfl rfl rfl <| sNil rfl rfl
  refine pwp_seq ?_
  have bn1 : IOk (ofZ ((h4 * h8) - (h5 * h7))) ((h4 * h8) - (h5 * h7)) 2001 := (iok_sub (k := 2001) (iok_mul (k := 2000) hh4 hh8 (by decide)) (iok_mul (k := 2000) hh5 hh7 (by decide)) (by decide))
  have bn2 : IOk (ofZ ((h7 * h2) - (h8 * h1))) ((h7 * h2) - (h8 * h1)) 2001 := (iok_sub (k := 2001) (iok_mul (k := 2000) hh7 hh2 (by decide)) (iok_mul (k := 2000) hh8 hh1 (by decide)) (by decide))
  have bn3 : IOk (ofZ ((h1 * h5) - (h2 * h4))) ((h1 * h5) - (h2 * h4)) 2001 := (iok_sub (k := 2001) (iok_mul (k := 2000) hh1 hh5 (by decide)) (iok_mul (k := 2000) hh2 hh4 (by decide)) (by decide))
  have bn4 : IOk (ofZ ((h5 * h6) - (h3 * h8))) ((h5 * h6) - (h3 * h8)) 2001 := (iok_sub (k := 2001) (iok_mul (k := 2000) hh5 hh6 (by decide)) (iok_mul (k := 2000) hh3 hh8 (by decide)) (by decide))
  have bn5 : IOk (ofZ ((h8 * h0) - (h6 * h2))) ((h8 * h0) - (h6 * h2)) 2001 := (iok_sub (k := 2001) (iok_mul (k := 2000) hh8 hh0 (by decide)) (iok_mul (k := 2000) hh6 hh2 (by decide)) (by decide))
  have bn6 : IOk (ofZ ((h2 * h3) - (h0 * h5))) ((h2 * h3) - (h0 * h5)) 2001 := (iok_sub (k := 2001) (iok_mul (k := 2000) hh2 hh3 (by decide)) (iok_mul (k := 2000) hh0 hh5 (by decide)) (by decide))
  have bn7 : IOk (ofZ ((h3 * h7) - (h4 * h6))) ((h3 * h7) - (h4 * h6)) 2001 := (iok_sub (k := 2001) (iok_mul (k := 2000) hh3 hh7 (by decide)) (iok_mul (k := 2000) hh4 hh6 (by decide)) (by decide))
  have bn8 : IOk (ofZ ((h6 * h1) - (h7 * h0))) ((h6 * h1) - (h7 * h0)) 2001 := (iok_sub (k := 2001) (iok_mul (k := 2000) hh6 hh1 (by decide)) (iok_mul (k := 2000) hh7 hh0 (by decide)) (by decide))
  have bn9 : IOk (ofZ ((h0 * h4) - (h1 * h3))) ((h0 * h4) - (h1 * h3)) 2001 := (iok_sub (k := 2001) (iok_mul (k := 2000) hh0 hh4 (by decide)) (iok_mul (k := 2000) hh1 hh3 (by decide)) (by decide))
  refine pwp_S (S' := [(3, (.ref 1 0)), (4, (.ref 2 0)), (5, (.ref 3 0))]) (B' := [(1, some (bx (encA43 p))), (2, some y5), (3, some y2)]) ?_ ?_
  · exact sR (e_lda (cs := (bx (encA31 h))) (y := (.d (encA31 h))) rfl rfl sh32 rfl rfl) rfl rfl rfl rfl <| sE' (e_cl (l_adj h h0 h1 h2 h3 h4 h5 h6 h7 h8 (iu hh0) (iu hh1) (iu hh2) (iu hh3) (iu hh4) (iu hh5) (iu hh6) (iu hh7) (iu hh8)) rfl rfl rfl) rfl <| sN (n_al (cs := (bx (encA31 (A9.mk (RInt.mk false []) (RInt.mk false []) (RInt.mk false []) (RInt.mk false []) (RInt.mk false []) (RInt.mk false []) (RInt.mk false []) (RInt.mk false []) (RInt.mk false []))))) 3 rfl ze32 zo32 rfl) rfl rfl rfl rfl <| sT (t_std (d := y3) (cs := y2) rfl rfl rfl sh32 rfl rfl rfl rfl) rfl rfl rfl <| sNil rfl rfl
  refine pwp_seq ?_
  have bn10 : IOk (ofZ (((((h4 * h8) - (h5 * h7)) * p0) + (((h5 * h6) - (h3 * h8)) * p1)) + (((h3 * h7) - (h4 * h6)) * p2))) (((((h4 * h8) - (h5 * h7)) * p0) + (((h5 * h6) - (h3 * h8)) * p1)) + (((h3 * h7) - (h4 * h6)) * p2)) 3003 := (iok_add (k := 3003) (iok_add (k := 3002) (iok_mul (k := 3001) bn1 hp0 (by decide)) (iok_mul (k := 3001) bn4 hp1 (by decide)) (by decide)) (iok_mul (k := 3001) bn7 hp2 (by decide)) (by decide))
  have bn11 : IOk (ofZ (((((h7 * h2) - (h8 * h1)) * p0) + (((h8 * h0) - (h6 * h2)) * p1)) + (((h6 * h1) - (h7 * h0)) * p2))) (((((h7 * h2) - (h8 * h1)) * p0) + (((h8 * h0) - (h6 * h2)) * p1)) + (((h6 * h1) - (h7 * h0)) * p2)) 3003 := (iok_add (k := 3003) (iok_add (k := 3002) (iok_mul (k := 3001) bn2 hp0 (by decide)) (iok_mul (k := 3001) bn5 hp1 (by decide)) (by decide)) (iok_mul (k := 3001) bn8 hp2 (by decide)) (by decide))
  have bn12 : IOk (ofZ (((((h1 * h5) - (h2 * h4)) * p0) + (((h2 * h3) - (h0 * h5)) * p1)) + (((h0 * h4) - (h1 * h3)) * p2))) (((((h1 * h5) - (h2 * h4)) * p0) + (((h2 * h3) - (h0 * h5)) * p1)) + (((h0 * h4) - (h1 * h3)) * p2)) 3003 := (iok_add (k := 3003) (iok_add (k := 3002) (iok_mul (k := 3001) bn3 hp0 (by decide)) (iok_mul (k := 3001) bn6 hp1 (by decide)) (by decide)) (iok_mul (k := 3001) bn9 hp2 (by decide)) (by decide))
  have bn13 : ∀ c ∈ [c0, c1, c2], IOk (ofZ c) c 3003 := red_iok (n := 3003) (.cons bn10 (.cons bn11 (.cons bn12 .nil))) hc
  refine pwp_D (S' := [(4, (.ref 2 0)), (6, (.ref 4 0))]) (B' := [(2, some y5), (4, some y6)]) mo (by kernel_rfl) ?_ ?_
  · exact dR (e_lda (cs := y2) (y := (.d y3)) rfl rfl sh32 rfl rfl) rfl rfl rfl rfl rfl <| dE' (e_cl (l_col0 y4 ((h4 * h8) - (h5 * h7)) ((h7 * h2) - (h8 * h1)) ((h1 * h5) - (h2 * h4)) ((h5 * h6) - (h3 * h8)) ((h8 * h0) - (h6 * h2)) ((h2 * h3) - (h0 * h5)) ((h3 * h7) - (h4 * h6)) ((h6 * h1) - (h7 * h0)) ((h0 * h4) - (h1 * h3)) (iu bn1) (iu bn2) (iu bn3) (iu bn4) (iu bn5) (iu bn6) (iu bn7) (iu bn8) (iu bn9)) rfl rfl rfl) rfl rfl <| dR (e_lda (cs := (bx (encA43 p))) (y := (.d (encA43 p))) rfl rfl sh44 rfl rfl) rfl rfl rfl rfl rfl <| dE' (e_cl (l_dot (A3.mk (ofZ ((h4 * h8) - (h5 * h7))) (ofZ ((h5 * h6) - (h3 * h8))) (ofZ ((h3 * h7) - (h4 * h6)))) ((h4 * h8) - (h5 * h7)) ((h5 * h6) - (h3 * h8)) ((h3 * h7) - (h4 * h6)) (iu bn1) (iu bn4) (iu bn7) p p0 p1 p2 (iu hp0) (iu hp1) (iu hp2)) rfl rfl rfl) rfl rfl <| dR (e_lda (cs := y2) (y := (.d y3)) rfl rfl sh32 rfl rfl) rfl rfl rfl rfl rfl <| dE' (e_cl (l_col1 y4 ((h4 * h8) - (h5 * h7)) ((h7 * h2) - (h8 * h1)) ((h1 * h5) - (h2 * h4)) ((h5 * h6) - (h3 * h8)) ((h8 * h0) - (h6 * h2)) ((h2 * h3) - (h0 * h5)) ((h3 * h7) - (h4 * h6)) ((h6 * h1) - (h7 * h0)) ((h0 * h4) - (h1 * h3)) (iu bn1) (iu bn2) (iu bn3) (iu bn4) (iu bn5) (iu bn6) (iu bn7) (iu bn8) (iu bn9)) rfl rfl rfl) rfl rfl <| dR (e_lda (cs := (bx (encA43 p))) (y := (.d (encA43 p))) rfl rfl sh44 rfl rfl) rfl rfl rfl rfl rfl <| dE' (e_cl (l_dot (A3.mk (ofZ ((h7 * h2) - (h8 * h1))) (ofZ ((h8 * h0) - (h6 * h2))) (ofZ ((h6 * h1) - (h7 * h0)))) ((h7 * h2) - (h8 * h1)) ((h8 * h0) - (h6 * h2)) ((h6 * h1) - (h7 * h0)) (iu bn2) (iu bn5) (iu bn8) p p0 p1 p2 (iu hp0) (iu hp1) (iu hp2)) rfl rfl rfl) rfl rfl <| dR (e_lda (cs := y2) (y := (.d y3)) rfl rfl sh32 rfl rfl) rfl rfl rfl rfl rfl <| dE' (e_cl (l_col2 y4 ((h4 * h8) - (h5 * h7)) ((h7 * h2) - (h8 * h1)) ((h1 * h5) - (h2 * h4)) ((h5 * h6) - (h3 * h8)) ((h8 * h0) - (h6 * h2)) ((h2 * h3) - (h0 * h5)) ((h3 * h7) - (h4 * h6)) ((h6 * h1) - (h7 * h0)) ((h0 * h4) - (h1 * h3)) (iu bn1) (iu bn2) (iu bn3) (iu bn4) (iu bn5) (iu bn6) (iu bn7) (iu bn8) (iu bn9)) rfl rfl rfl) rfl rfl <| dR (e_lda (cs := (bx (encA43 p))) (y := (.d (encA43 p))) rfl rfl sh44 rfl rfl) rfl rfl rfl rfl rfl <| dE' (e_cl (l_dot (A3.mk (ofZ ((h1 * h5) - (h2 * h4))) (ofZ ((h2 * h3) - (h0 * h5))) (ofZ ((h0 * h4) - (h1 * h3)))) ((h1 * h5) - (h2 * h4)) ((h2 * h3) - (h0 * h5)) ((h0 * h4) - (h1 * h3)) (iu bn3) (iu bn6) (iu bn9) p p0 p1 p2 (iu hp0) (iu hp1) (iu hp2)) rfl rfl rfl) rfl rfl <| dE' (e_bldF (ds := [(encI (ofZ (((((h4 * h8) - (h5 * h7)) * p0) + (((h5 * h6) - (h3 * h8)) * p1)) + (((h3 * h7) - (h4 * h6)) * p2)))), (encI (ofZ (((((h7 * h2) - (h8 * h1)) * p0) + (((h8 * h0) - (h6 * h2)) * p1)) + (((h6 * h1) - (h7 * h0)) * p2)))), (encI (ofZ (((((h1 * h5) - (h2 * h4)) * p0) + (((h2 * h3) - (h0 * h5)) * p1)) + (((h0 * h4) - (h1 * h3)) * p2))))]) (y := (encA43 y1)) rfl ar44 ze44 zo44 rfl rfl rfl rfl rfl) rfl rfl <| dE' (e_cl (l_trip y1 (((((h4 * h8) - (h5 * h7)) * p0) + (((h5 * h6) - (h3 * h8)) * p1)) + (((h3 * h7) - (h4 * h6)) * p2)) (((((h7 * h2) - (h8 * h1)) * p0) + (((h8 * h0) - (h6 * h2)) * p1)) + (((h6 * h1) - (h7 * h0)) * p2)) (((((h1 * h5) - (h2 * h4)) * p0) + (((h2 * h3) - (h0 * h5)) * p1)) + (((h0 * h4) - (h1 * h3)) * p2)) (iu bn10) (iu bn11) (iu bn12) c0 c1 c2 hc hnz) rfl rfl rfl) rfl rfl <| dM (.d (.tup [y7, (.val (.bool (true)))])) rfl rfl rfl <| dE' (e_exD (d := y7) rfl rfl rfl) rfl rfl <| dE' (e_exD (d := (.val (.bool (true)))) rfl rfl rfl) rfl rfl <| dN (n_al (cs := y5) 4 rfl ze44 zo44 rfl) rfl rfl rfl rfl rfl rfl <| dT (t_std (d := y7) (cs := y6) rfl rfl rfl sh44 rfl rfl rfl rfl) rfl rfl rfl rfl <| dM (vb true) rfl rfl rfl <| dNil rfl rfl (by kernel_rfl)
  refine pwp_seq <| pwp_S (S' := [(4, (.ref 2 0))]) (B' := [(2, some y6)]) ?_ ?_
  · exact sR (e_lda (cs := y6) (y := (.d y7)) rfl rfl sh44 rfl rfl) rfl rfl rfl rfl <| sT (t_std (d := y7) (cs := y6) rfl rfl rfl sh44 rfl rfl rfl rfl) rfl rfl rfl <| sNil rfl rfl
  refine pwp_ret ⟨_, (res_a (cs := (bx (encA43 (A3.mk (ofZ c0) (ofZ c1) (ofZ c2))))) (d := (encA43 (A3.mk (ofZ c0) (ofZ c1) (ofZ c2)))) rfl rfl sh44 rfl rfl .nil), ?_⟩
  rfl
end Go.Proofs.YtadkkhdnccljcaaGreat
