/- Part 10 of a proof: rules, plain facts, and functions walked. -/
import Derived.Test.YtadkkhdnccljcaaGreatM9
import Derived.Test.YtadkkhdnccljcaaGreatM8
namespace Go.Proofs.YtadkkhdnccljcaaGreat
open Go.Fid
set_option maxRecDepth 4000
set_option linter.unusedVariables false
set_option linter.unusedSimpArgs false
theorem ar26 : arrB Tryz.prog 26 = some (4, 25, 4) := by kernel_rfl
theorem ar64 : arrB Tryz.prog 64 = some (4, 44, 6) := by kernel_rfl
theorem ar132 : arrB Tryz.prog 132 = some (4, 30, 2) := by kernel_rfl
theorem cb12 : callB Tryz.prog 12 = true := by kernel_rfl
theorem cb21 : callB Tryz.prog 21 = true := by kernel_rfl
theorem cb37 : callB Tryz.prog 37 = true := by kernel_rfl
theorem cb38 : callB Tryz.prog 38 = true := by kernel_rfl
theorem cb64 : callB Tryz.prog 64 = true := by kernel_rfl
theorem cb65 : callB Tryz.prog 65 = true := by kernel_rfl
theorem cb66 : callB Tryz.prog 66 = true := by kernel_rfl
theorem fo23_0 : fieldB Tryz.prog 23 0 = some 0 := by kernel_rfl
theorem fo23_1 : fieldB Tryz.prog 23 1 = some 1 := by kernel_rfl
theorem fo25_0 : fieldB Tryz.prog 25 0 = some 0 := by kernel_rfl
theorem fo25_1 : fieldB Tryz.prog 25 1 = some 2 := by kernel_rfl
theorem sh23 : shapeB Tryz.prog 23 = some (true, 2) := by kernel_rfl
theorem sh25 : shapeB Tryz.prog 25 = some (true, 4) := by kernel_rfl
theorem sh26 : shapeB Tryz.prog 26 = some (true, 16) := by kernel_rfl
theorem sh64 : shapeB Tryz.prog 64 = some (true, 24) := by kernel_rfl
theorem sh132 : shapeB Tryz.prog 132 = some (true, 8) := by kernel_rfl
theorem ze25 : zeroB Tryz.prog 25 = some [.int .i64 0, .int .i64 0, .int .i64 0, .int .i64 0] := by kernel_rfl
theorem ze64 : zeroB Tryz.prog 64 = some [.bool false, .slice none 0 0, .bool false, .slice none 0 0, .bool false, .slice none 0 0, .bool false, .slice none 0 0, .bool false, .slice none 0 0, .bool false, .slice none 0 0, .bool false, .slice none 0 0, .bool false, .slice none 0 0, .bool false, .slice none 0 0, .bool false, .slice none 0 0, .bool false, .slice none 0 0, .bool false, .slice none 0 0] := by kernel_rfl
theorem ze132 : zeroB Tryz.prog 132 = some [.bool false, .slice none 0 0, .bool false, .slice none 0 0, .bool false, .slice none 0 0, .bool false, .slice none 0 0] := by kernel_rfl
theorem zo25 : ZOk [.int .i64 0, .int .i64 0, .int .i64 0, .int .i64 0] [.val (.int .i64 0), .val (.int .i64 0), .val (.int .i64 0), .val (.int .i64 0)] := by simp [ZOk, Value.oneCell']
theorem zo64 : ZOk [.bool false, .slice none 0 0, .bool false, .slice none 0 0, .bool false, .slice none 0 0, .bool false, .slice none 0 0, .bool false, .slice none 0 0, .bool false, .slice none 0 0, .bool false, .slice none 0 0, .bool false, .slice none 0 0, .bool false, .slice none 0 0, .bool false, .slice none 0 0, .bool false, .slice none 0 0, .bool false, .slice none 0 0] [.val (.bool false), .sl 138 1 [], .val (.bool false), .sl 138 1 [], .val (.bool false), .sl 138 1 [], .val (.bool false), .sl 138 1 [], .val (.bool false), .sl 138 1 [], .val (.bool false), .sl 138 1 [], .val (.bool false), .sl 138 1 [], .val (.bool false), .sl 138 1 [], .val (.bool false), .sl 138 1 [], .val (.bool false), .sl 138 1 [], .val (.bool false), .sl 138 1 [], .val (.bool false), .sl 138 1 []] := by simp [ZOk, Value.oneCell']
theorem zo132 : ZOk [.bool false, .slice none 0 0, .bool false, .slice none 0 0, .bool false, .slice none 0 0, .bool false, .slice none 0 0] [.val (.bool false), .sl 138 1 [], .val (.bool false), .sl 138 1 [], .val (.bool false), .sl 138 1 [], .val (.bool false), .sl 138 1 []] := by simp [ZOk, Value.oneCell']
theorem d_proper (p : A3 RInt) (p0 p1 p2 : Int) (hp0 : IOk p.a0 p0 1000000) (hp1 : IOk p.a1 p1 1000000) (hp2 : IOk p.a2 p2 1000000) : Takes Tryz.prog 38 [(encA43 p)] (.val (.bool ((redB [p.a0, p.a1, p.a2])))) := by
  refine fn_intro Tryz.func38 rfl cb38 rfl ?_
  show PWp _ _ _ _ ⟨[(0, (.d (encA43 p)))], []⟩
  refine pwp_seq <| kx [(1, (.ref 0 0))] [(0, some (bx (encA43 p)))] (zN (oBx 0) <| zM <| zZ) ?_
  refine pwp_seq <| kx [(2, (vb (redB [p.a0, p.a1, p.a2])))] [] (zE (e_slv (by exact rfl) ar44 (by exact rfl) (by kernel_rfl) (by kernel_rfl)) <| zR ⟨(bx (encA43 p)), e_clv (es := List.map encI [p.a0, p.a1, p.a2]) (d_isred 1000000 [p.a0, p.a1, p.a2] [p0, p1, p2] (.cons hp0 (.cons hp1 (.cons hp2 .nil))) (Nat.le_of_ble_eq_true rfl)) (by exact rfl) (by kernel_rfl) (by exact rfl) (.v .nil) (pubs_cells _ _ (fun _ => rfl)) (by kernel_rfl) (by kernel_rfl) (.val _), by kernel_rfl⟩ <| zM <| zZ) ?_
  refine pwp_ret ⟨_, (.tmp (d := (.val (.bool ((redB [p.a0, p.a1, p.a2]))))) rfl .nil), ?_⟩
  rfl
theorem d_valid (h : A9 RInt) (h0 h1 h2 h3 h4 h5 h6 h7 h8 : Int) (hh0 : IOk h.a0 h0 1000000) (hh1 : IOk h.a1 h1 1000000) (hh2 : IOk h.a2 h2 1000000) (hh3 : IOk h.a3 h3 1000000) (hh4 : IOk h.a4 h4 1000000) (hh5 : IOk h.a5 h5 1000000) (hh6 : IOk h.a6 h6 1000000) (hh7 : IOk h.a7 h7 1000000) (hh8 : IOk h.a8 h8 1000000) : Takes Tryz.prog 37 [(encA31 h)] (.val (.bool ((valH [h.a0, h.a1, h.a2, h.a3, h.a4, h.a5, h.a6, h.a7, h.a8] (det3 h0 h1 h2 h3 h4 h5 h6 h7 h8))))) := by
  refine fn_intro Tryz.func37 rfl cb37 rfl ?_
  show PWp _ _ _ _ ⟨[(0, (.d (encA31 h)))], []⟩
  refine pwp_seq <| kx [(1, (.ref 0 0))] [(0, some (bx (encA31 h)))] (zN (oBx 0) <| zM <| zZ) ?_
  refine pwp_seq ?_
  have bn1 : IOk (ofZ (det3 h0 h1 h2 h3 h4 h5 h6 h7 h8)) (det3 h0 h1 h2 h3 h4 h5 h6 h7 h8) 3000003 := (iok_det3 (n := 1000000) (k := 3000003) hh0 hh1 hh2 hh3 hh4 hh5 hh6 hh7 hh8 (by decide))
  refine kd [(2, (vb ((redB [h.a0, h.a1, h.a2, h.a3, h.a4, h.a5, h.a6, h.a7, h.a8]) && ((signI (det3 h0 h1 h2 h3 h4 h5 h6 h7 h8)) != ((0 : Nat) : Int)))))] [] mo ?_ ?_
  · refine wE (e_slv (by exact rfl) ar32 (by exact rfl) (by kernel_rfl) (by kernel_rfl)) <| wR ⟨(bx (encA31 h)), e_clv (es := List.map encI [h.a0, h.a1, h.a2, h.a3, h.a4, h.a5, h.a6, h.a7, h.a8]) (d_isred 1000000 [h.a0, h.a1, h.a2, h.a3, h.a4, h.a5, h.a6, h.a7, h.a8] [h0, h1, h2, h3, h4, h5, h6, h7, h8] (.cons hh0 (.cons hh1 (.cons hh2 (.cons hh3 (.cons hh4 (.cons hh5 (.cons hh6 (.cons hh7 (.cons hh8 .nil))))))))) (Nat.le_of_ble_eq_true rfl)) (by exact rfl) (by kernel_rfl) (by exact rfl) (.v .nil) (pubs_cells _ _ (fun _ => rfl)) (by kernel_rfl) (by kernel_rfl) (.val _), by kernel_rfl⟩ <| wE (oV (vb (redB [h.a0, h.a1, h.a2, h.a3, h.a4, h.a5, h.a6, h.a7, h.a8])) (mv_ok (by kernel_rfl))) <| ?_
    rcases hb1 : (redB [h.a0, h.a1, h.a2, h.a3, h.a4, h.a5, h.a6, h.a7, h.a8]) with _ | _
    · exact wK <| wK <| wK <| wK <| wK <| wK <| wK <| wK <| wK <| wE oPf <| wM <| wZ
    · exact wR (oLa sh32) <| wE (oCl (d_row0 h h0 h1 h2 h3 h4 h5 h6 h7 h8 (iu hh0) (iu hh1) (iu hh2) (iu hh3) (iu hh4) (iu hh5) (iu hh6) (iu hh7) (iu hh8))) <| wR (oLa sh32) <| wE (oCl (d_row1 h h0 h1 h2 h3 h4 h5 h6 h7 h8 (iu hh0) (iu hh1) (iu hh2) (iu hh3) (iu hh4) (iu hh5) (iu hh6) (iu hh7) (iu hh8))) <| wR (oLa sh32) <| wE (oCl (d_row2 h h0 h1 h2 h3 h4 h5 h6 h7 h8 (iu hh0) (iu hh1) (iu hh2) (iu hh3) (iu hh4) (iu hh5) (iu hh6) (iu hh7) (iu hh8))) <| wE (oCl (d_det (A3.mk h.a0 h.a1 h.a2) h0 h1 h2 hh0 hh1 hh2 (A3.mk h.a3 h.a4 h.a5) h3 h4 h5 hh3 hh4 hh5 (A3.mk h.a6 h.a7 h.a8) h6 h7 h8 hh6 hh7 hh8)) <| wE (oCl (s_sign bn1 (by decide))) <| wE oNe <| wE oPa <| wM <| wZ
  refine pwp_ret ⟨_, (.tmp (d := (.val (.bool (((redB [h.a0, h.a1, h.a2, h.a3, h.a4, h.a5, h.a6, h.a7, h.a8]) && ((signI (det3 h0 h1 h2 h3 h4 h5 h6 h7 h8)) != ((0 : Nat) : Int))))))) rfl .nil), ?_⟩
  rfl
theorem d_apply (h : A9 RInt) (h0 h1 h2 h3 h4 h5 h6 h7 h8 : Int) (hh0 : IOk h.a0 h0 1000) (hh1 : IOk h.a1 h1 1000) (hh2 : IOk h.a2 h2 1000) (hh3 : IOk h.a3 h3 1000) (hh4 : IOk h.a4 h4 1000) (hh5 : IOk h.a5 h5 1000) (hh6 : IOk h.a6 h6 1000) (hh7 : IOk h.a7 h7 1000) (hh8 : IOk h.a8 h8 1000) (p : A3 RInt) (p0 p1 p2 : Int) (hp0 : IOk p.a0 p0 1000) (hp1 : IOk p.a1 p1 1000) (hp2 : IOk p.a2 p2 1000) (c0 c1 c2 : Int) (hc : redL [(((h0 * p0) + (h1 * p1)) + (h2 * p2)), (((h3 * p0) + (h4 * p1)) + (h5 * p2)), (((h6 * p0) + (h7 * p1)) + (h8 * p2))] = [c0, c1, c2]) (hv : valH [h.a0, h.a1, h.a2, h.a3, h.a4, h.a5, h.a6, h.a7, h.a8] (det3 h0 h1 h2 h3 h4 h5 h6 h7 h8) = true) (hw : redB [p.a0, p.a1, p.a2] = true) (hnz : sgnL [(((h0 * p0) + (h1 * p1)) + (h2 * p2)), (((h3 * p0) + (h4 * p1)) + (h5 * p2)), (((h6 * p0) + (h7 * p1)) + (h8 * p2))] ≠ 0) : Takes Tryz.prog 21 [(encA31 h), (encA43 p)] (.tup [(encA43 (A3.mk (ofZ c0) (ofZ c1) (ofZ c2))), (.val (.int .i64 (0)))]) := by
  refine fn_intro Tryz.func21 rfl cb21 rfl ?_
  show PWp _ _ _ _ ⟨[(0, (.d (encA31 h))), (1, (.d (encA43 p)))], []⟩
  refine pwp_seq <| kx [(2, (.ref 0 0)), (3, (.ref 1 0)), (4, (.ref 2 0))] [(0, some (bx (encA31 h))), (1, some (bx (encA43 p))), (2, some (bx (encA43 (A3.mk (RInt.mk false []) (RInt.mk false []) (RInt.mk false [])))))] (zN (oBx 0) <| zN (oBx 1) <| zN (oAl 2 ze44 zo44) <| zM <| zZ) ?_
  refine pwp_seq <| pwp_seq <| kx [(13, (vb false))] [] (zR (oLa sh32) <| zE (oBk true (oCl (d_valid h h0 h1 h2 h3 h4 h5 h6 h7 h8 (iu hh0) (iu hh1) (iu hh2) (iu hh3) (iu hh4) (iu hh5) (iu hh6) (iu hh7) (iu hh8))) (by exact hv)) <| zE oNt <| zM <| zR (oLa sh44) <| zE (oBk true (oCl (d_proper p p0 p1 p2 (iu hp0) (iu hp1) (iu hp2))) (by exact hw)) <| zE oNt <| zE oPf <| zZ) ?_
  refine pwp_cond (b := false) (by kernel_rfl) (fun h => by cases h) (fun _ => ?_)
  refine pwp_skip <| pwp_seq ?_
  have bn1 : IOk (ofZ (((h0 * p0) + (h1 * p1)) + (h2 * p2))) (((h0 * p0) + (h1 * p1)) + (h2 * p2)) 2002 := (iok_add (k := 2002) (iok_add (k := 2001) (iok_mul (k := 2000) hh0 hp0 (by decide)) (iok_mul (k := 2000) hh1 hp1 (by decide)) (by decide)) (iok_mul (k := 2000) hh2 hp2 (by decide)) (by decide))
  have bn2 : IOk (ofZ (((h3 * p0) + (h4 * p1)) + (h5 * p2))) (((h3 * p0) + (h4 * p1)) + (h5 * p2)) 2002 := (iok_add (k := 2002) (iok_add (k := 2001) (iok_mul (k := 2000) hh3 hp0 (by decide)) (iok_mul (k := 2000) hh4 hp1 (by decide)) (by decide)) (iok_mul (k := 2000) hh5 hp2 (by decide)) (by decide))
  have bn3 : IOk (ofZ (((h6 * p0) + (h7 * p1)) + (h8 * p2))) (((h6 * p0) + (h7 * p1)) + (h8 * p2)) 2002 := (iok_add (k := 2002) (iok_add (k := 2001) (iok_mul (k := 2000) hh6 hp0 (by decide)) (iok_mul (k := 2000) hh7 hp1 (by decide)) (by decide)) (iok_mul (k := 2000) hh8 hp2 (by decide)) (by decide))
  have bn4 : ∀ c ∈ [c0, c1, c2], IOk (ofZ c) c 2002 := red_iok (n := 2002) (.cons bn1 (.cons bn2 (.cons bn3 .nil))) hc
  refine kx [(5, (vin 0))] [(2, some (bx (encA43 (A3.mk (ofZ c0) (ofZ c1) (ofZ c2)))))] (zR (oLa sh32) <| zR (oLa sh44) <| zE (oCl (d_times h h0 h1 h2 h3 h4 h5 h6 h7 h8 (iu hh0) (iu hh1) (iu hh2) (iu hh3) (iu hh4) (iu hh5) (iu hh6) (iu hh7) (iu hh8) p p0 p1 p2 (iu hp0) (iu hp1) (iu hp2))) <| zE (oCl (d_red3 (((h0 * p0) + (h1 * p1)) + (h2 * p2)) (((h3 * p0) + (h4 * p1)) + (h5 * p2)) (((h6 * p0) + (h7 * p1)) + (h8 * p2)) (iu bn1) (iu bn2) (iu bn3) c0 c1 c2 hc hnz)) <| zT (oSt sh44) <| zM <| zZ) ?_
  refine pwp_ret ⟨_, (res_a (cs := (bx (encA43 (A3.mk (ofZ c0) (ofZ c1) (ofZ c2))))) (d := (encA43 (A3.mk (ofZ c0) (ofZ c1) (ofZ c2)))) rfl rfl sh44 rfl rfl (.tmp (d := (.val (.int .i64 (0)))) rfl .nil)), ?_⟩
  rfl
theorem d_inRange (x y : Int) : Takes Tryz.prog 64 [(encPix (RPix.mk x y))] (.val (.bool ((inR x y)))) := by
  refine fn_intro Tryz.func64 rfl cb64 rfl ?_
  show PWp _ _ _ _ ⟨[(0, (.d (encPix (RPix.mk x y))))], []⟩
  refine pwp_seq <| kx [(1, (.ref 0 0))] [(0, some (bx (encPix (RPix.mk x y))))] (zN (oBx 0) <| zM <| zZ) ?_
  refine pwp_seq <| kx [(2, (vb (((decide (-1048576 ≤ x) && decide (x ≤ 1048576)) && decide (-1048576 ≤ y)) && decide (y ≤ 1048576))))] [] ?_ ?_
  · refine zE (oFr fo23_0) <| zR (oL1 sh3) <| zE oGe <| zE (oV (vb (decide (-1048576 ≤ x))) (mv_ok (by kernel_rfl))) <| ?_
    rcases hb1 : (decide (-1048576 ≤ x)) with _ | _
    · replace hb1 := of_decide_eq_false hb1
      exact zK <| zK <| zK <| zE oPf <| zM <| zK <| zK <| zK <| zE oPf <| zM <| zK <| zK <| zK <| zE oPf <| zM <| zZ
    · replace hb1 := of_decide_eq_true hb1
      refine zE (oFr fo23_0) <| zR (oL1 sh3) <| zE oLe <| zE oPa <| zE (oV (vb (true && decide (x ≤ 1048576))) (mv_ok (by kernel_rfl))) <| ?_
      rcases hb2 : (true && decide (x ≤ 1048576)) with _ | _
      · exact zK <| zK <| zK <| zE oPf <| zM <| zK <| zK <| zK <| zE oPf <| zM <| zZ
      · refine zE (oFr fo23_1) <| zR (oL1 sh3) <| zE oGe <| zE oPa <| zE (oV (vb (true && decide (-1048576 ≤ y))) (mv_ok (by kernel_rfl))) <| ?_
        rcases hb3 : (true && decide (-1048576 ≤ y)) with _ | _
        · exact zK <| zK <| zK <| zE oPf <| zM <| zZ
        · exact zE (oFr fo23_1) <| zR (oL1 sh3) <| zE oLe <| zE oPa <| zM <| zZ
  refine pwp_ret ⟨_, (.tmp (d := (.val (.bool ((((decide (-1048576 ≤ x) && decide (x ≤ 1048576)) && decide (-1048576 ≤ y)) && decide (y ≤ 1048576)))))) rfl .nil), ?_⟩
  rfl
theorem d_homog (x y : Int) (hx : -1048576 ≤ x ∧ x ≤ 1048576) (hy : -1048576 ≤ y ∧ y ≤ 1048576) : Takes Tryz.prog 65 [(encPix (RPix.mk x y))] (encA43 (A3.mk (ofZ x) (ofZ y) (ofZ 1))) := by
  refine fn_intro Tryz.func65 rfl cb65 rfl ?_
  show PWp _ _ _ _ ⟨[(0, (.d (encPix (RPix.mk x y))))], []⟩
  refine pwp_seq <| kx [(1, (.ref 0 0)), (2, (.ref 1 0))] [(0, some (bx (encPix (RPix.mk x y)))), (1, some (bx (encA43 (A3.mk (RInt.mk false []) (RInt.mk false []) (RInt.mk false [])))))] (zN (oBx 0) <| zN (oAl 1 ze44 zo44) <| zZ) ?_
  refine pwp_seq <| kd [] [(1, some (bx (encA43 (A3.mk (ofZ x) (ofZ y) (ofZ 1)))))] mo (wE (oFr fo23_0) <| wR (oL1 sh3) <| wE (oCl (t_of x (by omega) (by omega))) <| wE (oFr fo23_1) <| wR (oL1 sh3) <| wE (oCl (t_of y (by omega) (by omega))) <| wE (oCl (t_of 1 (by decide) (by decide))) <| wE (oBf ar44 ze44 zo44) <| wT (oSt sh44) <| wZ) ?_
  refine pwp_ret ⟨_, (res_a (cs := (bx (encA43 (A3.mk (ofZ x) (ofZ y) (ofZ 1))))) (d := (encA43 (A3.mk (ofZ x) (ofZ y) (ofZ 1)))) rfl rfl sh44 rfl rfl .nil), ?_⟩
  rfl
theorem d_basis (p0 p1 p2 p3 p4 p5 p6 p7 p8 p9 p10 p11 : Int) (hp0 : IOk (ofZ p0) p0 1000) (hp1 : IOk (ofZ p1) p1 1000) (hp2 : IOk (ofZ p2) p2 1000) (hp3 : IOk (ofZ p3) p3 1000) (hp4 : IOk (ofZ p4) p4 1000) (hp5 : IOk (ofZ p5) p5 1000) (hp6 : IOk (ofZ p6) p6 1000) (hp7 : IOk (ofZ p7) p7 1000) (hp8 : IOk (ofZ p8) p8 1000) (hp9 : IOk (ofZ p9) p9 1000) (hp10 : IOk (ofZ p10) p10 1000) (hp11 : IOk (ofZ p11) p11 1000) (k0 : Int) (hk0 : (det3 p9 p10 p11 p3 p4 p5 p6 p7 p8) = k0) (k1 : Int) (hk1 : (det3 p0 p1 p2 p9 p10 p11 p6 p7 p8) = k1) (k2 : Int) (hk2 : (det3 p0 p1 p2 p3 p4 p5 p9 p10 p11) = k2) (k3 : Int) (hk3 : (det3 p0 p1 p2 p3 p4 p5 p6 p7 p8) = k3) (hn0 : k0 ≠ 0) (hn1 : k1 ≠ 0) (hn2 : k2 ≠ 0) (hn3 : k3 ≠ 0) : Takes Tryz.prog 66 [(encA64 (A4.mk (A3.mk (ofZ p0) (ofZ p1) (ofZ p2)) (A3.mk (ofZ p3) (ofZ p4) (ofZ p5)) (A3.mk (ofZ p6) (ofZ p7) (ofZ p8)) (A3.mk (ofZ p9) (ofZ p10) (ofZ p11))))] (.tup [(encA31 (A9.mk (ofZ (k0 * p0)) (ofZ (k1 * p3)) (ofZ (k2 * p6)) (ofZ (k0 * p1)) (ofZ (k1 * p4)) (ofZ (k2 * p7)) (ofZ (k0 * p2)) (ofZ (k1 * p5)) (ofZ (k2 * p8)))), (.val (.bool (true)))]) := by
  let y11 := (A3.mk (ofZ (k1 * p3)) (ofZ (k1 * p4)) (ofZ (k1 * p5)))
  let y10 := (A3.mk (ofZ (k0 * p0)) (ofZ (k0 * p1)) (ofZ (k0 * p2)))
  let y9 := (bx (encA132 (A4.mk (ofZ k0) (ofZ k1) (ofZ k2) (ofZ k3))))
  let y8 := (A3.mk (RInt.mk false []) (RInt.mk false []) (RInt.mk false []))
  let y7 := (bx (encA64 (A4.mk (A3.mk (ofZ p0) (ofZ p1) (ofZ p2)) (A3.mk (ofZ p3) (ofZ p4) (ofZ p5)) (A3.mk (ofZ p6) (ofZ p7) (ofZ p8)) (A3.mk (ofZ p9) (ofZ p10) (ofZ p11)))))
  let y6 := (bx (encA133 (A3.mk y10 y11 (A3.mk (ofZ (k2 * p6)) (ofZ (k2 * p7)) (ofZ (k2 * p8))))))
  let y5 := (bx (encA31 (A9.mk (RInt.mk false []) (RInt.mk false []) (RInt.mk false []) (RInt.mk false []) (RInt.mk false []) (RInt.mk false []) (RInt.mk false []) (RInt.mk false []) (RInt.mk false []))))
  let y4 := (bx (encA133 (A3.mk y10 y11 (A3.mk (ofZ (k2 * p6)) (RInt.mk false []) (RInt.mk false [])))))
  let y3 := (bx (encA133 (A3.mk y10 (A3.mk (ofZ (k1 * p3)) (ofZ (k1 * p4)) (RInt.mk false [])) y8)))
  let y2 := (bx (encA133 (A3.mk y10 y8 y8)))
  let y1 := (bx (encA133 (A3.mk (A3.mk (ofZ (k0 * p0)) (RInt.mk false []) (RInt.mk false [])) y8 y8)))
  refine fn_intro Tryz.func66 rfl cb66 rfl ?_
  show PWp _ _ _ _ ⟨[(0, (.d (encA64 (A4.mk (A3.mk (ofZ p0) (ofZ p1) (ofZ p2)) (A3.mk (ofZ p3) (ofZ p4) (ofZ p5)) (A3.mk (ofZ p6) (ofZ p7) (ofZ p8)) (A3.mk (ofZ p9) (ofZ p10) (ofZ p11))))))], []⟩
  refine pwp_seq <| kx [(1, (.ref 0 0)), (2, (.ref 1 0))] [(0, some y7), (1, some y5)] (zN (oBx 0) <| zN (oAl 1 ze32 zo32) <| zM <| zZ) ?_
  refine pwp_seq ?_
  have bn1 : IOk (ofZ k0) k0 3003 := (iok_eqz hk0.symm (iok_det3 (n := 1000) (k := 3003) hp9 hp10 hp11 hp3 hp4 hp5 hp6 hp7 hp8 (by decide)))
  have bn2 : IOk (ofZ k1) k1 3003 := (iok_eqz hk1.symm (iok_det3 (n := 1000) (k := 3003) hp0 hp1 hp2 hp9 hp10 hp11 hp6 hp7 hp8 (by decide)))
  have bn3 : IOk (ofZ k2) k2 3003 := (iok_eqz hk2.symm (iok_det3 (n := 1000) (k := 3003) hp0 hp1 hp2 hp3 hp4 hp5 hp9 hp10 hp11 (by decide)))
  have bn4 : IOk (ofZ k3) k3 3003 := (iok_eqz hk3.symm (iok_det3 (n := 1000) (k := 3003) hp0 hp1 hp2 hp3 hp4 hp5 hp6 hp7 hp8 (by decide)))
  refine kd [(4, (.ref 2 0))] [(2, some y9)] mo (wE (oXr ar64 3) <| wR (oLa sh44) <| wE (oXr ar64 1) <| wR (oLa sh44) <| wE (oXr ar64 2) <| wR (oLa sh44) <| wE (oCl (by have h := d_det (A3.mk (ofZ p9) (ofZ p10) (ofZ p11)) p9 p10 p11 (iu hp9) (iu hp10) (iu hp11) (A3.mk (ofZ p3) (ofZ p4) (ofZ p5)) p3 p4 p5 (iu hp3) (iu hp4) (iu hp5) (A3.mk (ofZ p6) (ofZ p7) (ofZ p8)) p6 p7 p8 (iu hp6) (iu hp7) (iu hp8); rw [hk0] at h; exact h)) <| wE (oXr ar64 0) <| wR (oLa sh44) <| wE (oXr ar64 3) <| wR (oLa sh44) <| wE (oXr ar64 2) <| wR (oLa sh44) <| wE (oCl (by have h := d_det (A3.mk (ofZ p0) (ofZ p1) (ofZ p2)) p0 p1 p2 (iu hp0) (iu hp1) (iu hp2) (A3.mk (ofZ p9) (ofZ p10) (ofZ p11)) p9 p10 p11 (iu hp9) (iu hp10) (iu hp11) (A3.mk (ofZ p6) (ofZ p7) (ofZ p8)) p6 p7 p8 (iu hp6) (iu hp7) (iu hp8); rw [hk1] at h; exact h)) <| wE (oXr ar64 0) <| wR (oLa sh44) <| wE (oXr ar64 1) <| wR (oLa sh44) <| wE (oXr ar64 3) <| wR (oLa sh44) <| wE (oCl (by have h := d_det (A3.mk (ofZ p0) (ofZ p1) (ofZ p2)) p0 p1 p2 (iu hp0) (iu hp1) (iu hp2) (A3.mk (ofZ p3) (ofZ p4) (ofZ p5)) p3 p4 p5 (iu hp3) (iu hp4) (iu hp5) (A3.mk (ofZ p9) (ofZ p10) (ofZ p11)) p9 p10 p11 (iu hp9) (iu hp10) (iu hp11); rw [hk2] at h; exact h)) <| wE (oXr ar64 0) <| wR (oLa sh44) <| wE (oXr ar64 1) <| wR (oLa sh44) <| wE (oXr ar64 2) <| wR (oLa sh44) <| wE (oCl (by have h := d_det (A3.mk (ofZ p0) (ofZ p1) (ofZ p2)) p0 p1 p2 (iu hp0) (iu hp1) (iu hp2) (A3.mk (ofZ p3) (ofZ p4) (ofZ p5)) p3 p4 p5 (iu hp3) (iu hp4) (iu hp5) (A3.mk (ofZ p6) (ofZ p7) (ofZ p8)) p6 p7 p8 (iu hp6) (iu hp7) (iu hp8); rw [hk3] at h; exact h)) <| wE (oBf ar132 ze132 zo132) <| wN (oAl 2 ze132 zo132) <| wT (oSt sh132) <| wZ) ?_
  refine pwp_seq <| kx [(5, (.ref 3 0))] [(3, some (bx (encA133 (A3.mk y8 y8 y8))))] (zN (oAl 3 ze133 zo133) <| zZ) ?_
  refine pwp_seq <| pwp_seq <| kx [(37, (vin 0))] [] (zM <| zZ) ?_
  refine pwp_block <| pwp_rounds 20 ?_
  refine pwp_round <| pwp_seq <| kx [(38, (vb true))] [] (zE (oBk true oLt) <| zZ) ?_
  refine pwp_seq <| pwp_cond (b := true) (by kernel_rfl) (fun _ => ?_) (fun h => by cases h)
  refine pwp_skip <| pwp_seq <| pwp_block <| pwp_seq <| kx [(6, (vin 0))] [] (zM <| zM <| zZ) ?_
  refine pwp_seq <| pwp_seq <| kx [(44, (vb false))] [] (zM <| zE (oXr ar132 0) <| zR (oLa sh30) <| zE (oCl (s_sign bn1 (by decide))) <| zE (oBk false oEq (by exact beq_eq_false_iff_ne.2 (signI_ne hn0))) <| zZ) ?_
  refine pwp_cond (b := false) (by kernel_rfl) (fun h => by cases h) (fun _ => ?_)
  refine pwp_skip <| pwp_seq <| kx [(46, (vin 0))] [] (zM <| zZ) ?_
  refine pwp_block <| pwp_rounds 20 ?_
  refine pwp_round <| pwp_seq <| kx [(47, (vb true))] [] (zE (oBk true oLt) <| zZ) ?_
  refine pwp_seq <| pwp_cond (b := true) (by kernel_rfl) (fun _ => ?_) (fun h => by cases h)
  refine pwp_skip <| pwp_seq <| pwp_block <| pwp_seq <| kx [(7, (vin 0))] [] (zM <| zM <| zZ) ?_
  refine pwp_seq <| kx [(50, (vb true))] [] (zM <| zE (oBk true oLt) <| zZ) ?_
  refine pwp_cond (b := true) (by kernel_rfl) (fun _ => ?_) (fun h => by cases h)
  refine kd [] [(3, some y1)] mo (wM <| wM <| wM <| wE (oXr ar132 0) <| wR (oLa sh30) <| wM <| wM <| wE (oXr ar64 0) <| wE (oXr ar44 0) <| wR (oLa sh30) <| wE (oCl (s_mul bn1 hp0 (by decide) (by decide))) <| wE (oXr ar133 0) <| wE (oXr ar44 0) <| wT (oSt sh30) <| wZ) ?_
  refine kx [(46, (vin 1))] [] (zE (oAd 1 (hr := by decide)) <| zM <| zZ) ?_
  refine pwp_again (SimImp.refl _) ?_
  refine pwp_seq <| kx [(47, (vb true))] [] (zE (oBk true oLt) <| zZ) ?_
  refine pwp_seq <| pwp_cond (b := true) (by kernel_rfl) (fun _ => ?_) (fun h => by cases h)
  refine pwp_skip <| pwp_seq <| pwp_block <| pwp_seq <| pwp_sim (wk (l := [(1, (.ref 0 0)), (2, (.ref 1 0)), (4, (.ref 2 0)), (5, (.ref 3 0)), (6, (vin 0)), (37, (vin 0)), (46, (vin 1)), (47, (vb true))]) (b := [(0, some y7), (1, some y5), (2, some y9), (3, some y1)])) ?_
  refine kx [(7, (vin 1))] [] (zM <| zM <| zZ) ?_
  refine pwp_seq <| kx [(50, (vb true))] [] (zM <| zE (oBk true oLt) <| zZ) ?_
  refine pwp_cond (b := true) (by kernel_rfl) (fun _ => ?_) (fun h => by cases h)
  refine kd [] [(3, some (bx (encA133 (A3.mk (A3.mk (ofZ (k0 * p0)) (ofZ (k0 * p1)) (RInt.mk false [])) y8 y8))))] mo (wM <| wM <| wM <| wE (oXr ar132 0) <| wR (oLa sh30) <| wM <| wM <| wE (oXr ar64 0) <| wE (oXr ar44 1) <| wR (oLa sh30) <| wE (oCl (s_mul bn1 hp1 (by decide) (by decide))) <| wE (oXr ar133 0) <| wE (oXr ar44 1) <| wT (oSt sh30) <| wZ) ?_
  refine kx [(46, (vin 2))] [] (zE (oAd 2 (hr := by decide)) <| zM <| zZ) ?_
  refine pwp_again (SimImp.refl _) ?_
  refine pwp_seq <| kx [(47, (vb true))] [] (zE (oBk true oLt) <| zZ) ?_
  refine pwp_seq <| pwp_cond (b := true) (by kernel_rfl) (fun _ => ?_) (fun h => by cases h)
  refine pwp_skip <| pwp_seq <| pwp_block <| pwp_seq <| kx [(7, (vin 2))] [] (zM <| zM <| zZ) ?_
  refine pwp_seq <| kx [(50, (vb true))] [] (zM <| zE (oBk true oLt) <| zZ) ?_
  refine pwp_cond (b := true) (by kernel_rfl) (fun _ => ?_) (fun h => by cases h)
  refine kd [] [(3, some y2)] mo (wM <| wM <| wM <| wE (oXr ar132 0) <| wR (oLa sh30) <| wM <| wM <| wE (oXr ar64 0) <| wE (oXr ar44 2) <| wR (oLa sh30) <| wE (oCl (s_mul bn1 hp2 (by decide) (by decide))) <| wE (oXr ar133 0) <| wE (oXr ar44 2) <| wT (oSt sh30) <| wZ) ?_
  refine kx [(46, (vin 3))] [] (zE (oAd 3 (hr := by decide)) <| zM <| zZ) ?_
  refine pwp_again (SimImp.refl _) ?_
  refine pwp_seq <| kx [(47, (vb false))] [] (zE (oBk false oLt) <| zZ) ?_
  refine pwp_seq <| pwp_cond (b := false) (by kernel_rfl) (fun h => by cases h) (fun _ => ?_)
  refine pwp_exit <| kx [(37, (vin 1))] [] (zE (oAd 1 (hr := by decide)) <| zM <| zZ) ?_
  refine pwp_again (SimImp.refl _) ?_
  refine pwp_seq <| kx [(38, (vb true))] [] (zE (oBk true oLt) <| zZ) ?_
  refine pwp_seq <| pwp_cond (b := true) (by kernel_rfl) (fun _ => ?_) (fun h => by cases h)
  refine pwp_skip <| pwp_seq <| pwp_block <| pwp_seq <| kx [(6, (vin 1))] [] (zM <| zM <| zZ) ?_
  refine pwp_seq <| pwp_seq <| kx [(44, (vb false))] [] (zM <| zE (oXr ar132 1) <| zR (oLa sh30) <| zE (oCl (s_sign bn2 (by decide))) <| zE (oBk false oEq (by exact beq_eq_false_iff_ne.2 (signI_ne hn1))) <| zZ) ?_
  refine pwp_cond (b := false) (by kernel_rfl) (fun h => by cases h) (fun _ => ?_)
  refine pwp_skip <| pwp_seq <| pwp_sim (wk (l := [(1, (.ref 0 0)), (2, (.ref 1 0)), (4, (.ref 2 0)), (5, (.ref 3 0)), (6, (vin 1)), (37, (vin 1)), (44, (vb false))]) (b := [(0, some y7), (1, some y5), (2, some y9), (3, some y2)])) ?_
  refine kx [(46, (vin 0))] [] (zM <| zZ) ?_
  refine pwp_block <| pwp_rounds 20 ?_
  refine pwp_round <| pwp_seq <| kx [(47, (vb true))] [] (zE (oBk true oLt) <| zZ) ?_
  refine pwp_seq <| pwp_cond (b := true) (by kernel_rfl) (fun _ => ?_) (fun h => by cases h)
  refine pwp_skip <| pwp_seq <| pwp_block <| pwp_seq <| kx [(7, (vin 0))] [] (zM <| zM <| zZ) ?_
  refine pwp_seq <| kx [(50, (vb true))] [] (zM <| zE (oBk true oLt) <| zZ) ?_
  refine pwp_cond (b := true) (by kernel_rfl) (fun _ => ?_) (fun h => by cases h)
  refine kd [] [(3, some (bx (encA133 (A3.mk y10 (A3.mk (ofZ (k1 * p3)) (RInt.mk false []) (RInt.mk false [])) y8))))] mo (wM <| wM <| wM <| wE (oXr ar132 1) <| wR (oLa sh30) <| wM <| wM <| wE (oXr ar64 1) <| wE (oXr ar44 0) <| wR (oLa sh30) <| wE (oCl (s_mul bn2 hp3 (by decide) (by decide))) <| wE (oXr ar133 1) <| wE (oXr ar44 0) <| wT (oSt sh30) <| wZ) ?_
  refine kx [(46, (vin 1))] [] (zE (oAd 1 (hr := by decide)) <| zM <| zZ) ?_
  refine pwp_again (SimImp.refl _) ?_
  refine pwp_seq <| kx [(47, (vb true))] [] (zE (oBk true oLt) <| zZ) ?_
  refine pwp_seq <| pwp_cond (b := true) (by kernel_rfl) (fun _ => ?_) (fun h => by cases h)
  refine pwp_skip <| pwp_seq <| pwp_block <| pwp_seq <| kx [(7, (vin 1))] [] (zM <| zM <| zZ) ?_
  refine pwp_seq <| kx [(50, (vb true))] [] (zM <| zE (oBk true oLt) <| zZ) ?_
  refine pwp_cond (b := true) (by kernel_rfl) (fun _ => ?_) (fun h => by cases h)
  refine kd [] [(3, some y3)] mo (wM <| wM <| wM <| wE (oXr ar132 1) <| wR (oLa sh30) <| wM <| wM <| wE (oXr ar64 1) <| wE (oXr ar44 1) <| wR (oLa sh30) <| wE (oCl (s_mul bn2 hp4 (by decide) (by decide))) <| wE (oXr ar133 1) <| wE (oXr ar44 1) <| wT (oSt sh30) <| wZ) ?_
  refine kx [(46, (vin 2))] [] (zE (oAd 2 (hr := by decide)) <| zM <| zZ) ?_
  refine pwp_again (SimImp.refl _) ?_
  refine pwp_seq <| kx [(47, (vb true))] [] (zE (oBk true oLt) <| zZ) ?_
  refine pwp_seq <| pwp_cond (b := true) (by kernel_rfl) (fun _ => ?_) (fun h => by cases h)
  refine pwp_skip <| pwp_seq <| pwp_block <| pwp_seq <| kx [(7, (vin 2))] [] (zM <| zM <| zZ) ?_
  refine pwp_seq <| kx [(50, (vb true))] [] (zM <| zE (oBk true oLt) <| zZ) ?_
  refine pwp_cond (b := true) (by kernel_rfl) (fun _ => ?_) (fun h => by cases h)
  refine pwp_sim (wk (l := [(1, (.ref 0 0)), (2, (.ref 1 0)), (4, (.ref 2 0)), (5, (.ref 3 0)), (6, (vin 1)), (7, (vin 2)), (37, (vin 1)), (46, (vin 2)), (50, (vb true))]) (b := [(0, some y7), (1, some y5), (2, some y9), (3, some y3)])) ?_
  refine kd [] [(3, some (bx (encA133 (A3.mk y10 y11 y8))))] mo (wM <| wM <| wM <| wE (oXr ar132 1) <| wR (oLa sh30) <| wM <| wM <| wE (oXr ar64 1) <| wE (oXr ar44 2) <| wR (oLa sh30) <| wE (oCl (s_mul bn2 hp5 (by decide) (by decide))) <| wE (oXr ar133 1) <| wE (oXr ar44 2) <| wT (oSt sh30) <| wZ) ?_
  refine kx [(46, (vin 3))] [] (zE (oAd 3 (hr := by decide)) <| zM <| zZ) ?_
  refine pwp_again (SimImp.refl _) ?_
  refine pwp_seq <| kx [(47, (vb false))] [] (zE (oBk false oLt) <| zZ) ?_
  refine pwp_seq <| pwp_cond (b := false) (by kernel_rfl) (fun h => by cases h) (fun _ => ?_)
  refine pwp_exit <| kx [(37, (vin 2))] [] (zE (oAd 2 (hr := by decide)) <| zM <| zZ) ?_
  refine pwp_again (SimImp.refl _) ?_
  refine pwp_seq <| kx [(38, (vb true))] [] (zE (oBk true oLt) <| zZ) ?_
  refine pwp_seq <| pwp_cond (b := true) (by kernel_rfl) (fun _ => ?_) (fun h => by cases h)
  refine pwp_skip <| pwp_seq <| pwp_block <| pwp_seq <| kx [(6, (vin 2))] [] (zM <| zM <| zZ) ?_
  refine pwp_seq <| pwp_seq <| kx [(44, (vb false))] [] (zM <| zE (oXr ar132 2) <| zR (oLa sh30) <| zE (oCl (s_sign bn3 (by decide))) <| zE (oBk false oEq (by exact beq_eq_false_iff_ne.2 (signI_ne hn2))) <| zZ) ?_
  refine pwp_cond (b := false) (by kernel_rfl) (fun h => by cases h) (fun _ => ?_)
  refine pwp_skip <| pwp_seq <| kx [(46, (vin 0))] [] (zM <| zZ) ?_
  refine pwp_block <| pwp_rounds 20 ?_
  refine pwp_round <| pwp_seq <| kx [(47, (vb true))] [] (zE (oBk true oLt) <| zZ) ?_
  refine pwp_seq <| pwp_cond (b := true) (by kernel_rfl) (fun _ => ?_) (fun h => by cases h)
  refine pwp_skip <| pwp_seq <| pwp_block <| pwp_seq <| kx [(7, (vin 0))] [] (zM <| zM <| zZ) ?_
  refine pwp_seq <| kx [(50, (vb true))] [] (zM <| zE (oBk true oLt) <| zZ) ?_
  refine pwp_cond (b := true) (by kernel_rfl) (fun _ => ?_) (fun h => by cases h)
  refine kd [] [(3, some y4)] mo (wM <| wM <| wM <| wE (oXr ar132 2) <| wR (oLa sh30) <| wM <| wM <| wE (oXr ar64 2) <| wE (oXr ar44 0) <| wR (oLa sh30) <| wE (oCl (s_mul bn3 hp6 (by decide) (by decide))) <| wE (oXr ar133 2) <| wE (oXr ar44 0) <| wT (oSt sh30) <| wZ) ?_
  refine kx [(46, (vin 1))] [] (zE (oAd 1 (hr := by decide)) <| zM <| zZ) ?_
  refine pwp_again (SimImp.refl _) ?_
  refine pwp_seq <| kx [(47, (vb true))] [] (zE (oBk true oLt) <| zZ) ?_
  refine pwp_seq <| pwp_cond (b := true) (by kernel_rfl) (fun _ => ?_) (fun h => by cases h)
  refine pwp_skip <| pwp_seq <| pwp_block <| pwp_seq <| pwp_sim (wk (l := [(1, (.ref 0 0)), (2, (.ref 1 0)), (4, (.ref 2 0)), (5, (.ref 3 0)), (6, (vin 2)), (37, (vin 2)), (46, (vin 1)), (47, (vb true))]) (b := [(0, some y7), (1, some y5), (2, some y9), (3, some y4)])) ?_
  refine kx [(7, (vin 1))] [] (zM <| zM <| zZ) ?_
  refine pwp_seq <| kx [(50, (vb true))] [] (zM <| zE (oBk true oLt) <| zZ) ?_
  refine pwp_cond (b := true) (by kernel_rfl) (fun _ => ?_) (fun h => by cases h)
  refine kd [] [(3, some (bx (encA133 (A3.mk y10 y11 (A3.mk (ofZ (k2 * p6)) (ofZ (k2 * p7)) (RInt.mk false []))))))] mo (wM <| wM <| wM <| wE (oXr ar132 2) <| wR (oLa sh30) <| wM <| wM <| wE (oXr ar64 2) <| wE (oXr ar44 1) <| wR (oLa sh30) <| wE (oCl (s_mul bn3 hp7 (by decide) (by decide))) <| wE (oXr ar133 2) <| wE (oXr ar44 1) <| wT (oSt sh30) <| wZ) ?_
  refine kx [(46, (vin 2))] [] (zE (oAd 2 (hr := by decide)) <| zM <| zZ) ?_
  refine pwp_again (SimImp.refl _) ?_
  refine pwp_seq <| kx [(47, (vb true))] [] (zE (oBk true oLt) <| zZ) ?_
  refine pwp_seq <| pwp_cond (b := true) (by kernel_rfl) (fun _ => ?_) (fun h => by cases h)
  refine pwp_skip <| pwp_seq <| pwp_block <| pwp_seq <| kx [(7, (vin 2))] [] (zM <| zM <| zZ) ?_
  refine pwp_seq <| kx [(50, (vb true))] [] (zM <| zE (oBk true oLt) <| zZ) ?_
  refine pwp_cond (b := true) (by kernel_rfl) (fun _ => ?_) (fun h => by cases h)
  refine kd [] [(3, some y6)] mo (wM <| wM <| wM <| wE (oXr ar132 2) <| wR (oLa sh30) <| wM <| wM <| wE (oXr ar64 2) <| wE (oXr ar44 2) <| wR (oLa sh30) <| wE (oCl (s_mul bn3 hp8 (by decide) (by decide))) <| wE (oXr ar133 2) <| wE (oXr ar44 2) <| wT (oSt sh30) <| wZ) ?_
  refine kx [(46, (vin 3))] [] (zE (oAd 3 (hr := by decide)) <| zM <| zZ) ?_
  refine pwp_again (SimImp.refl _) ?_
  refine pwp_seq <| kx [(47, (vb false))] [] (zE (oBk false oLt) <| zZ) ?_
  refine pwp_seq <| pwp_cond (b := false) (by kernel_rfl) (fun h => by cases h) (fun _ => ?_)
  refine pwp_exit <| kx [(37, (vin 3))] [] (zE (oAd 3 (hr := by decide)) <| zM <| zZ) ?_
  refine pwp_again (SimImp.refl _) ?_
  refine pwp_seq <| kx [(38, (vb true))] [] (zE (oBk true oLt) <| zZ) ?_
  refine pwp_seq <| pwp_cond (b := true) (by kernel_rfl) (fun _ => ?_) (fun h => by cases h)
  refine pwp_skip <| pwp_seq <| pwp_block <| pwp_seq <| kx [(6, (vin 3))] [] (zM <| zM <| zZ) ?_
  refine pwp_seq <| pwp_seq <| kx [(44, (vb false))] [] (zM <| zE (oXr ar132 3) <| zR (oLa sh30) <| zE (oCl (s_sign bn4 (by decide))) <| zE (oBk false oEq (by exact beq_eq_false_iff_ne.2 (signI_ne hn3))) <| zZ) ?_
  refine pwp_cond (b := false) (by kernel_rfl) (fun h => by cases h) (fun _ => ?_)
  refine pwp_skip <| pwp_seq <| pwp_sim (wk (l := [(1, (.ref 0 0)), (2, (.ref 1 0)), (4, (.ref 2 0)), (5, (.ref 3 0)), (6, (vin 3)), (37, (vin 3)), (44, (vb false))]) (b := [(0, some y7), (1, some y5), (2, some y9), (3, some y6)])) ?_
  refine kx [(46, (vin 0))] [] (zM <| zZ) ?_
  refine pwp_block <| pwp_rounds 20 ?_
  refine pwp_round <| pwp_seq <| kx [(47, (vb true))] [] (zE (oBk true oLt) <| zZ) ?_
  refine pwp_seq <| pwp_cond (b := true) (by kernel_rfl) (fun _ => ?_) (fun h => by cases h)
  refine pwp_skip <| pwp_seq <| pwp_block <| pwp_seq <| kx [(7, (vin 0))] [] (zM <| zM <| zZ) ?_
  refine pwp_seq <| kx [(50, (vb false))] [] (zM <| zE (oBk false oLt) <| zZ) ?_
  refine pwp_cond (b := false) (by kernel_rfl) (fun h => by cases h) (fun _ => ?_)
  refine pwp_skip <| kx [(46, (vin 1))] [] (zE (oAd 1 (hr := by decide)) <| zM <| zZ) ?_
  refine pwp_again (SimImp.refl _) ?_
  refine pwp_seq <| kx [(47, (vb true))] [] (zE (oBk true oLt) <| zZ) ?_
  refine pwp_seq <| pwp_cond (b := true) (by kernel_rfl) (fun _ => ?_) (fun h => by cases h)
  refine pwp_skip <| pwp_seq <| pwp_block <| pwp_seq <| kx [(7, (vin 1))] [] (zM <| zM <| zZ) ?_
  refine pwp_seq <| kx [(50, (vb false))] [] (zM <| zE (oBk false oLt) <| zZ) ?_
  refine pwp_cond (b := false) (by kernel_rfl) (fun h => by cases h) (fun _ => ?_)
  refine pwp_skip <| kx [(46, (vin 2))] [] (zE (oAd 2 (hr := by decide)) <| zM <| zZ) ?_
  refine pwp_again (SimImp.refl _) ?_
  refine pwp_seq <| kx [(47, (vb true))] [] (zE (oBk true oLt) <| zZ) ?_
  refine pwp_seq <| pwp_cond (b := true) (by kernel_rfl) (fun _ => ?_) (fun h => by cases h)
  refine pwp_skip <| pwp_seq <| pwp_block <| pwp_seq <| kx [(7, (vin 2))] [] (zM <| zM <| zZ) ?_
  refine pwp_seq <| kx [(50, (vb false))] [] (zM <| zE (oBk false oLt) <| zZ) ?_
  refine pwp_cond (b := false) (by kernel_rfl) (fun h => by cases h) (fun _ => ?_)
  refine pwp_skip <| kx [(46, (vin 3))] [] (zE (oAd 3 (hr := by decide)) <| zM <| zZ) ?_
  refine pwp_again (SimImp.refl _) ?_
  refine pwp_seq <| kx [(47, (vb false))] [] (zE (oBk false oLt) <| zZ) ?_
  refine pwp_seq <| pwp_cond (b := false) (by kernel_rfl) (fun h => by cases h) (fun _ => ?_)
  refine pwp_exit <| pwp_sim (wk (l := [(1, (.ref 0 0)), (2, (.ref 1 0)), (4, (.ref 2 0)), (5, (.ref 3 0)), (6, (vin 3)), (37, (vin 3)), (46, (vin 3)), (47, (vb false))]) (b := [(0, some y7), (1, some y5), (2, some y9), (3, some y6)])) ?_
  refine kx [(37, (vin 4))] [] (zE (oAd 4 (hr := by decide)) <| zM <| zZ) ?_
  refine pwp_again (SimImp.refl _) ?_
  refine pwp_seq <| kx [(38, (vb false))] [] (zE (oBk false oLt) <| zZ) ?_
  refine pwp_seq <| pwp_cond (b := false) (by kernel_rfl) (fun h => by cases h) (fun _ => ?_)
  refine pwp_exit <| pwp_seq <| kx [(3, (vb true))] [(1, some (bx (encA31 (A9.mk (ofZ (k0 * p0)) (ofZ (k1 * p3)) (ofZ (k2 * p6)) (ofZ (k0 * p1)) (ofZ (k1 * p4)) (ofZ (k2 * p7)) (ofZ (k0 * p2)) (ofZ (k1 * p5)) (ofZ (k2 * p8))))))] (zE (oXr ar133 0) <| zR (oLa sh44) <| zE (oXr ar133 1) <| zR (oLa sh44) <| zE (oXr ar133 2) <| zR (oLa sh44) <| zE (oCl (d_rows y10 (k0 * p0) (k0 * p1) (k0 * p2) (iok_up (iok_mul (k := 4003) bn1 hp0 (by decide)) (by decide)) (iok_up (iok_mul (k := 4003) bn1 hp1 (by decide)) (by decide)) (iok_up (iok_mul (k := 4003) bn1 hp2 (by decide)) (by decide)) y11 (k1 * p3) (k1 * p4) (k1 * p5) (iok_up (iok_mul (k := 4003) bn2 hp3 (by decide)) (by decide)) (iok_up (iok_mul (k := 4003) bn2 hp4 (by decide)) (by decide)) (iok_up (iok_mul (k := 4003) bn2 hp5 (by decide)) (by decide)) (A3.mk (ofZ (k2 * p6)) (ofZ (k2 * p7)) (ofZ (k2 * p8))) (k2 * p6) (k2 * p7) (k2 * p8) (iok_up (iok_mul (k := 4003) bn3 hp6 (by decide)) (by decide)) (iok_up (iok_mul (k := 4003) bn3 hp7 (by decide)) (by decide)) (iok_up (iok_mul (k := 4003) bn3 hp8 (by decide)) (by decide)))) <| zE (oCl (d_transp (A9.mk (ofZ (k0 * p0)) (ofZ (k0 * p1)) (ofZ (k0 * p2)) (ofZ (k1 * p3)) (ofZ (k1 * p4)) (ofZ (k1 * p5)) (ofZ (k2 * p6)) (ofZ (k2 * p7)) (ofZ (k2 * p8))) (k0 * p0) (k0 * p1) (k0 * p2) (k1 * p3) (k1 * p4) (k1 * p5) (k2 * p6) (k2 * p7) (k2 * p8) (iok_up (iok_mul (k := 4003) bn1 hp0 (by decide)) (by decide)) (iok_up (iok_mul (k := 4003) bn1 hp1 (by decide)) (by decide)) (iok_up (iok_mul (k := 4003) bn1 hp2 (by decide)) (by decide)) (iok_up (iok_mul (k := 4003) bn2 hp3 (by decide)) (by decide)) (iok_up (iok_mul (k := 4003) bn2 hp4 (by decide)) (by decide)) (iok_up (iok_mul (k := 4003) bn2 hp5 (by decide)) (by decide)) (iok_up (iok_mul (k := 4003) bn3 hp6 (by decide)) (by decide)) (iok_up (iok_mul (k := 4003) bn3 hp7 (by decide)) (by decide)) (iok_up (iok_mul (k := 4003) bn3 hp8 (by decide)) (by decide)))) <| zT (oSt sh32) <| zM <| zZ) ?_
  refine pwp_ret ⟨_, (res_a (cs := (bx (encA31 (A9.mk (ofZ (k0 * p0)) (ofZ (k1 * p3)) (ofZ (k2 * p6)) (ofZ (k0 * p1)) (ofZ (k1 * p4)) (ofZ (k2 * p7)) (ofZ (k0 * p2)) (ofZ (k1 * p5)) (ofZ (k2 * p8)))))) (d := (encA31 (A9.mk (ofZ (k0 * p0)) (ofZ (k1 * p3)) (ofZ (k2 * p6)) (ofZ (k0 * p1)) (ofZ (k1 * p4)) (ofZ (k2 * p7)) (ofZ (k0 * p2)) (ofZ (k1 * p5)) (ofZ (k2 * p8))))) rfl rfl sh32 rfl rfl (.tmp (d := (.val (.bool (true)))) rfl .nil)), ?_⟩
  rfl
theorem d_four (x0 y0 u0 v0 x1 y1 u1 v1 x2 y2 u2 v2 x3 y3 u3 v3 : Int) (hx0 : -1048576 ≤ x0 ∧ x0 ≤ 1048576) (hy0 : -1048576 ≤ y0 ∧ y0 ≤ 1048576) (hu0 : -1048576 ≤ u0 ∧ u0 ≤ 1048576) (hv0 : -1048576 ≤ v0 ∧ v0 ≤ 1048576) (hx1 : -1048576 ≤ x1 ∧ x1 ≤ 1048576) (hy1 : -1048576 ≤ y1 ∧ y1 ≤ 1048576) (hu1 : -1048576 ≤ u1 ∧ u1 ≤ 1048576) (hv1 : -1048576 ≤ v1 ∧ v1 ≤ 1048576) (hx2 : -1048576 ≤ x2 ∧ x2 ≤ 1048576) (hy2 : -1048576 ≤ y2 ∧ y2 ≤ 1048576) (hu2 : -1048576 ≤ u2 ∧ u2 ≤ 1048576) (hv2 : -1048576 ≤ v2 ∧ v2 ≤ 1048576) (hx3 : -1048576 ≤ x3 ∧ x3 ≤ 1048576) (hy3 : -1048576 ≤ y3 ∧ y3 ≤ 1048576) (hu3 : -1048576 ≤ u3 ∧ u3 ≤ 1048576) (hv3 : -1048576 ≤ v3 ∧ v3 ≤ 1048576) (k0 : Int) (hk0 : (det3 x3 y3 1 x1 y1 1 x2 y2 1) = k0) (k1 : Int) (hk1 : (det3 x0 y0 1 x3 y3 1 x2 y2 1) = k1) (k2 : Int) (hk2 : (det3 x0 y0 1 x1 y1 1 x3 y3 1) = k2) (k3 : Int) (hk3 : (det3 x0 y0 1 x1 y1 1 x2 y2 1) = k3) (m0 : Int) (hm0 : (det3 u3 v3 1 u1 v1 1 u2 v2 1) = m0) (m1 : Int) (hm1 : (det3 u0 v0 1 u3 v3 1 u2 v2 1) = m1) (m2 : Int) (hm2 : (det3 u0 v0 1 u1 v1 1 u3 v3 1) = m2) (m3 : Int) (hm3 : (det3 u0 v0 1 u1 v1 1 u2 v2 1) = m3) (a0 : Int) (ha0 : (k0 * x0) = a0) (a1 : Int) (ha1 : (k1 * x1) = a1) (a2 : Int) (ha2 : (k2 * x2) = a2) (a3 : Int) (ha3 : (k0 * y0) = a3) (a4 : Int) (ha4 : (k1 * y1) = a4) (a5 : Int) (ha5 : (k2 * y2) = a5) (a6 : Int) (ha6 : (k0 * 1) = a6) (a7 : Int) (ha7 : (k1 * 1) = a7) (a8 : Int) (ha8 : (k2 * 1) = a8) (b0 : Int) (hb0 : (m0 * u0) = b0) (b1 : Int) (hb1 : (m1 * u1) = b1) (b2 : Int) (hb2 : (m2 * u2) = b2) (b3 : Int) (hb3 : (m0 * v0) = b3) (b4 : Int) (hb4 : (m1 * v1) = b4) (b5 : Int) (hb5 : (m2 * v2) = b5) (b6 : Int) (hb6 : (m0 * 1) = b6) (b7 : Int) (hb7 : (m1 * 1) = b7) (b8 : Int) (hb8 : (m2 * 1) = b8) (c0 c1 c2 c3 c4 c5 c6 c7 c8 : Int) (hc : redL [(((b0 * ((a4 * a8) - (a5 * a7))) + (b1 * ((a5 * a6) - (a3 * a8)))) + (b2 * ((a3 * a7) - (a4 * a6)))), (((b0 * ((a7 * a2) - (a8 * a1))) + (b1 * ((a8 * a0) - (a6 * a2)))) + (b2 * ((a6 * a1) - (a7 * a0)))), (((b0 * ((a1 * a5) - (a2 * a4))) + (b1 * ((a2 * a3) - (a0 * a5)))) + (b2 * ((a0 * a4) - (a1 * a3)))), (((b3 * ((a4 * a8) - (a5 * a7))) + (b4 * ((a5 * a6) - (a3 * a8)))) + (b5 * ((a3 * a7) - (a4 * a6)))), (((b3 * ((a7 * a2) - (a8 * a1))) + (b4 * ((a8 * a0) - (a6 * a2)))) + (b5 * ((a6 * a1) - (a7 * a0)))), (((b3 * ((a1 * a5) - (a2 * a4))) + (b4 * ((a2 * a3) - (a0 * a5)))) + (b5 * ((a0 * a4) - (a1 * a3)))), (((b6 * ((a4 * a8) - (a5 * a7))) + (b7 * ((a5 * a6) - (a3 * a8)))) + (b8 * ((a3 * a7) - (a4 * a6)))), (((b6 * ((a7 * a2) - (a8 * a1))) + (b7 * ((a8 * a0) - (a6 * a2)))) + (b8 * ((a6 * a1) - (a7 * a0)))), (((b6 * ((a1 * a5) - (a2 * a4))) + (b7 * ((a2 * a3) - (a0 * a5)))) + (b8 * ((a0 * a4) - (a1 * a3))))] = [c0, c1, c2, c3, c4, c5, c6, c7, c8]) (hk0_ : k0 ≠ 0) (hk1_ : k1 ≠ 0) (hk2_ : k2 ≠ 0) (hk3_ : k3 ≠ 0) (hm0_ : m0 ≠ 0) (hm1_ : m1 ≠ 0) (hm2_ : m2 ≠ 0) (hm3_ : m3 ≠ 0) (hnz : sgnL [(((b0 * ((a4 * a8) - (a5 * a7))) + (b1 * ((a5 * a6) - (a3 * a8)))) + (b2 * ((a3 * a7) - (a4 * a6)))), (((b0 * ((a7 * a2) - (a8 * a1))) + (b1 * ((a8 * a0) - (a6 * a2)))) + (b2 * ((a6 * a1) - (a7 * a0)))), (((b0 * ((a1 * a5) - (a2 * a4))) + (b1 * ((a2 * a3) - (a0 * a5)))) + (b2 * ((a0 * a4) - (a1 * a3)))), (((b3 * ((a4 * a8) - (a5 * a7))) + (b4 * ((a5 * a6) - (a3 * a8)))) + (b5 * ((a3 * a7) - (a4 * a6)))), (((b3 * ((a7 * a2) - (a8 * a1))) + (b4 * ((a8 * a0) - (a6 * a2)))) + (b5 * ((a6 * a1) - (a7 * a0)))), (((b3 * ((a1 * a5) - (a2 * a4))) + (b4 * ((a2 * a3) - (a0 * a5)))) + (b5 * ((a0 * a4) - (a1 * a3)))), (((b6 * ((a4 * a8) - (a5 * a7))) + (b7 * ((a5 * a6) - (a3 * a8)))) + (b8 * ((a3 * a7) - (a4 * a6)))), (((b6 * ((a7 * a2) - (a8 * a1))) + (b7 * ((a8 * a0) - (a6 * a2)))) + (b8 * ((a6 * a1) - (a7 * a0)))), (((b6 * ((a1 * a5) - (a2 * a4))) + (b7 * ((a2 * a3) - (a0 * a5)))) + (b8 * ((a0 * a4) - (a1 * a3))))] ≠ 0) : Takes Tryz.prog 12 [(encA26 (A4.mk (RPair.mk (RPix.mk x0 y0) (RPix.mk u0 v0)) (RPair.mk (RPix.mk x1 y1) (RPix.mk u1 v1)) (RPair.mk (RPix.mk x2 y2) (RPix.mk u2 v2)) (RPair.mk (RPix.mk x3 y3) (RPix.mk u3 v3))))] (.tup [(encA31 (A9.mk (ofZ c0) (ofZ c1) (ofZ c2) (ofZ c3) (ofZ c4) (ofZ c5) (ofZ c6) (ofZ c7) (ofZ c8))), (.val (.int .i64 (0)))]) := by
  let y9 := (A3.mk (RInt.mk false []) (RInt.mk false []) (RInt.mk false []))
  let y8 := (encA26 (A4.mk (RPair.mk (RPix.mk x0 y0) (RPix.mk u0 v0)) (RPair.mk (RPix.mk x1 y1) (RPix.mk u1 v1)) (RPair.mk (RPix.mk x2 y2) (RPix.mk u2 v2)) (RPair.mk (RPix.mk x3 y3) (RPix.mk u3 v3))))
  let y7 := (bx (encA31 (A9.mk (RInt.mk false []) (RInt.mk false []) (RInt.mk false []) (RInt.mk false []) (RInt.mk false []) (RInt.mk false []) (RInt.mk false []) (RInt.mk false []) (RInt.mk false []))))
  let y6 := (bx (encA64 (A4.mk (A3.mk (ofZ u0) (ofZ v0) (ofZ 1)) (A3.mk (ofZ u1) (ofZ v1) (ofZ 1)) y9 y9)))
  let y5 := (bx (encA64 (A4.mk (A3.mk (ofZ x0) (ofZ y0) (ofZ 1)) (A3.mk (ofZ x1) (ofZ y1) (ofZ 1)) y9 y9)))
  let y4 := (bx (encA64 (A4.mk y9 y9 y9 y9)))
  refine fn_intro Tryz.func12 rfl cb12 rfl ?_
  show PWp _ _ _ _ ⟨[(0, (.d y8))], []⟩
  refine pwp_seq <| kx [(1, (.ref 0 0)), (2, (.ref 1 0))] [(0, some (bx y8)), (1, some y7)] (zN (oBx 0) <| zN (oAl 1 ze32 zo32) <| zM <| zZ) ?_
  refine pwp_seq <| kx [(4, (.ref 2 0)), (5, (.ref 3 0))] [(2, some y4), (3, some y4)] (zN (oAl 2 ze64 zo64) <| zN (oAl 3 ze64 zo64) <| zZ) ?_
  refine pwp_seq <| pwp_seq <| kx [(12, (.d y8)), (13, (vin 0))] [] (zR (oLa sh26) <| zM <| zZ) ?_
  refine pwp_block <| pwp_rounds 20 ?_
  refine pwp_round <| pwp_seq <| kx [(14, (vb true))] [] (zE (oBk true oLt) <| zZ) ?_
  refine pwp_seq <| pwp_cond (b := true) (by kernel_rfl) (fun _ => ?_) (fun h => by cases h)
  refine pwp_skip <| pwp_seq <| pwp_block <| pwp_seq <| kx [(6, (vin 0)), (7, (.ref 4 0))] [(4, some (bx (encPair (RPair.mk (RPix.mk x0 y0) (RPix.mk u0 v0)))))] (zM <| zE (oXa ar26 sh25 (fun h => by cases h) 0) <| zN (oAl 4 ze25 zo25) <| zM <| zT (oSt sh25) <| zZ) ?_
  refine pwp_seq <| pwp_seq <| kx [(26, (vb false))] [] (zE (oFr fo25_0) <| zR (oLa sh23) <| zE (oBk true (oCl (d_inRange x0 y0)) (by exact (inR_of hx0 hy0))) <| zE oNt <| zM <| zE (oFr fo25_1) <| zR (oLa sh23) <| zE (oBk true (oCl (d_inRange u0 v0)) (by exact (inR_of hu0 hv0))) <| zE oNt <| zE oPf <| zZ) ?_
  refine pwp_cond (b := false) (by kernel_rfl) (fun h => by cases h) (fun _ => ?_)
  refine pwp_skip <| kd [] [(2, some (bx (encA64 (A4.mk (A3.mk (ofZ x0) (ofZ y0) (ofZ 1)) y9 y9 y9)))), (3, some (bx (encA64 (A4.mk (A3.mk (ofZ u0) (ofZ v0) (ofZ 1)) y9 y9 y9))))] mo (wM <| wM <| wE (oFr fo25_0) <| wR (oLa sh23) <| wE (oCl (d_homog x0 y0 (by omega) (by omega))) <| wE (oFr fo25_1) <| wR (oLa sh23) <| wE (oCl (d_homog u0 v0 (by omega) (by omega))) <| wE (oXr ar64 0) <| wT (oSt sh44) <| wE (oXr ar64 0) <| wT (oSt sh44) <| wZ) ?_
  refine kx [(13, (vin 1))] [] (zE (oAd 1 (hr := by decide)) <| zM <| zZ) ?_
  refine pwp_again (SimImp.refl _) ?_
  refine pwp_seq <| kx [(14, (vb true))] [] (zE (oBk true oLt) <| zZ) ?_
  refine pwp_seq <| pwp_cond (b := true) (by kernel_rfl) (fun _ => ?_) (fun h => by cases h)
  refine pwp_skip <| pwp_seq <| pwp_block <| pwp_seq <| kx [(6, (vin 1)), (7, (.ref 5 0))] [(5, some (bx (encPair (RPair.mk (RPix.mk x1 y1) (RPix.mk u1 v1)))))] (zM <| zE (oXa ar26 sh25 (fun h => by cases h) 1) <| zN (oAl 5 ze25 zo25) <| zM <| zT (oSt sh25) <| zZ) ?_
  refine pwp_seq <| pwp_seq <| kx [(26, (vb false))] [] (zE (oFr fo25_0) <| zR (oLa sh23) <| zE (oBk true (oCl (d_inRange x1 y1)) (by exact (inR_of hx1 hy1))) <| zE oNt <| zM <| zE (oFr fo25_1) <| zR (oLa sh23) <| zE (oBk true (oCl (d_inRange u1 v1)) (by exact (inR_of hu1 hv1))) <| zE oNt <| zE oPf <| zZ) ?_
  refine pwp_cond (b := false) (by kernel_rfl) (fun h => by cases h) (fun _ => ?_)
  refine pwp_skip <| kd [] [(2, some y5), (3, some y6)] mo (wM <| wM <| wE (oFr fo25_0) <| wR (oLa sh23) <| wE (oCl (d_homog x1 y1 (by omega) (by omega))) <| wE (oFr fo25_1) <| wR (oLa sh23) <| wE (oCl (d_homog u1 v1 (by omega) (by omega))) <| wE (oXr ar64 1) <| wT (oSt sh44) <| wE (oXr ar64 1) <| wT (oSt sh44) <| wZ) ?_
  refine kx [(13, (vin 2))] [] (zE (oAd 2 (hr := by decide)) <| zM <| zZ) ?_
  refine pwp_again (SimImp.refl _) ?_
  refine pwp_seq <| kx [(14, (vb true))] [] (zE (oBk true oLt) <| zZ) ?_
  refine pwp_seq <| pwp_cond (b := true) (by kernel_rfl) (fun _ => ?_) (fun h => by cases h)
  refine pwp_skip <| pwp_seq <| pwp_block <| pwp_seq <| pwp_sim (wk (l := [(2, (.ref 1 0)), (4, (.ref 2 0)), (5, (.ref 3 0)), (12, (.d y8)), (13, (vin 2)), (14, (vb true))]) (b := [(1, some y7), (2, some y5), (3, some y6)])) ?_
  refine kx [(6, (vin 2)), (7, (.ref 6 0))] [(6, some (bx (encPair (RPair.mk (RPix.mk x2 y2) (RPix.mk u2 v2)))))] (zM <| zE (oXa ar26 sh25 (fun h => by cases h) 2) <| zN (oAl 6 ze25 zo25) <| zM <| zT (oSt sh25) <| zZ) ?_
  refine pwp_seq <| pwp_seq <| kx [(26, (vb false))] [] (zE (oFr fo25_0) <| zR (oLa sh23) <| zE (oBk true (oCl (d_inRange x2 y2)) (by exact (inR_of hx2 hy2))) <| zE oNt <| zM <| zE (oFr fo25_1) <| zR (oLa sh23) <| zE (oBk true (oCl (d_inRange u2 v2)) (by exact (inR_of hu2 hv2))) <| zE oNt <| zE oPf <| zZ) ?_
  refine pwp_cond (b := false) (by kernel_rfl) (fun h => by cases h) (fun _ => ?_)
  refine pwp_skip <| kd [] [(2, some (bx (encA64 (A4.mk (A3.mk (ofZ x0) (ofZ y0) (ofZ 1)) (A3.mk (ofZ x1) (ofZ y1) (ofZ 1)) (A3.mk (ofZ x2) (ofZ y2) (ofZ 1)) y9)))), (3, some (bx (encA64 (A4.mk (A3.mk (ofZ u0) (ofZ v0) (ofZ 1)) (A3.mk (ofZ u1) (ofZ v1) (ofZ 1)) (A3.mk (ofZ u2) (ofZ v2) (ofZ 1)) y9))))] mo (wM <| wM <| wE (oFr fo25_0) <| wR (oLa sh23) <| wE (oCl (d_homog x2 y2 (by omega) (by omega))) <| wE (oFr fo25_1) <| wR (oLa sh23) <| wE (oCl (d_homog u2 v2 (by omega) (by omega))) <| wE (oXr ar64 2) <| wT (oSt sh44) <| wE (oXr ar64 2) <| wT (oSt sh44) <| wZ) ?_
  refine kx [(13, (vin 3))] [] (zE (oAd 3 (hr := by decide)) <| zM <| zZ) ?_
  refine pwp_again (SimImp.refl _) ?_
  refine pwp_seq <| kx [(14, (vb true))] [] (zE (oBk true oLt) <| zZ) ?_
  refine pwp_seq <| pwp_cond (b := true) (by kernel_rfl) (fun _ => ?_) (fun h => by cases h)
  refine pwp_skip <| pwp_seq <| pwp_block <| pwp_seq <| kx [(6, (vin 3)), (7, (.ref 7 0))] [(7, some (bx (encPair (RPair.mk (RPix.mk x3 y3) (RPix.mk u3 v3)))))] (zM <| zE (oXa ar26 sh25 (fun h => by cases h) 3) <| zN (oAl 7 ze25 zo25) <| zM <| zT (oSt sh25) <| zZ) ?_
  refine pwp_seq <| pwp_seq <| kx [(26, (vb false))] [] (zE (oFr fo25_0) <| zR (oLa sh23) <| zE (oBk true (oCl (d_inRange x3 y3)) (by exact (inR_of hx3 hy3))) <| zE oNt <| zM <| zE (oFr fo25_1) <| zR (oLa sh23) <| zE (oBk true (oCl (d_inRange u3 v3)) (by exact (inR_of hu3 hv3))) <| zE oNt <| zE oPf <| zZ) ?_
  refine pwp_cond (b := false) (by kernel_rfl) (fun h => by cases h) (fun _ => ?_)
  refine pwp_skip <| kd [] [(2, some (bx (encA64 (A4.mk (A3.mk (ofZ x0) (ofZ y0) (ofZ 1)) (A3.mk (ofZ x1) (ofZ y1) (ofZ 1)) (A3.mk (ofZ x2) (ofZ y2) (ofZ 1)) (A3.mk (ofZ x3) (ofZ y3) (ofZ 1)))))), (3, some (bx (encA64 (A4.mk (A3.mk (ofZ u0) (ofZ v0) (ofZ 1)) (A3.mk (ofZ u1) (ofZ v1) (ofZ 1)) (A3.mk (ofZ u2) (ofZ v2) (ofZ 1)) (A3.mk (ofZ u3) (ofZ v3) (ofZ 1))))))] mo (wM <| wM <| wE (oFr fo25_0) <| wR (oLa sh23) <| wE (oCl (d_homog x3 y3 (by omega) (by omega))) <| wE (oFr fo25_1) <| wR (oLa sh23) <| wE (oCl (d_homog u3 v3 (by omega) (by omega))) <| wE (oXr ar64 3) <| wT (oSt sh44) <| wE (oXr ar64 3) <| wT (oSt sh44) <| wZ) ?_
  refine kx [(13, (vin 4))] [] (zE (oAd 4 (hr := by decide)) <| zM <| zZ) ?_
  refine pwp_again (SimImp.refl _) ?_
  refine pwp_seq <| kx [(14, (vb false))] [] (zE (oBk false oLt) <| zZ) ?_
  refine pwp_seq <| pwp_cond (b := false) (by kernel_rfl) (fun h => by cases h) (fun _ => ?_)
  refine pwp_exit <| pwp_seq ?_
  have bn1 : IOk (ofZ k0) k0 6 := (iok_eqz hk0.symm (iok_det3 (n := 1) (k := 6) (iok_small (z := x3) (by omega)) (iok_small (z := y3) (by omega)) (iok_small (z := 1) (by decide)) (iok_small (z := x1) (by omega)) (iok_small (z := y1) (by omega)) (iok_small (z := 1) (by decide)) (iok_small (z := x2) (by omega)) (iok_small (z := y2) (by omega)) (iok_small (z := 1) (by decide)) (by decide)))
  have bn2 : IOk (ofZ k1) k1 6 := (iok_eqz hk1.symm (iok_det3 (n := 1) (k := 6) (iok_small (z := x0) (by omega)) (iok_small (z := y0) (by omega)) (iok_small (z := 1) (by decide)) (iok_small (z := x3) (by omega)) (iok_small (z := y3) (by omega)) (iok_small (z := 1) (by decide)) (iok_small (z := x2) (by omega)) (iok_small (z := y2) (by omega)) (iok_small (z := 1) (by decide)) (by decide)))
  have bn3 : IOk (ofZ k2) k2 6 := (iok_eqz hk2.symm (iok_det3 (n := 1) (k := 6) (iok_small (z := x0) (by omega)) (iok_small (z := y0) (by omega)) (iok_small (z := 1) (by decide)) (iok_small (z := x1) (by omega)) (iok_small (z := y1) (by omega)) (iok_small (z := 1) (by decide)) (iok_small (z := x3) (by omega)) (iok_small (z := y3) (by omega)) (iok_small (z := 1) (by decide)) (by decide)))
  have bn4 : IOk (ofZ k3) k3 6 := (iok_eqz hk3.symm (iok_det3 (n := 1) (k := 6) (iok_small (z := x0) (by omega)) (iok_small (z := y0) (by omega)) (iok_small (z := 1) (by decide)) (iok_small (z := x1) (by omega)) (iok_small (z := y1) (by omega)) (iok_small (z := 1) (by decide)) (iok_small (z := x2) (by omega)) (iok_small (z := y2) (by omega)) (iok_small (z := 1) (by decide)) (by decide)))
  have bn5 : IOk (ofZ a0) a0 7 := (iok_eqz ha0.symm (iok_mul (k := 7) bn1 (iok_small (z := x0) (by omega)) (by decide)))
  have bn6 : IOk (ofZ a1) a1 7 := (iok_eqz ha1.symm (iok_mul (k := 7) bn2 (iok_small (z := x1) (by omega)) (by decide)))
  have bn7 : IOk (ofZ a2) a2 7 := (iok_eqz ha2.symm (iok_mul (k := 7) bn3 (iok_small (z := x2) (by omega)) (by decide)))
  have bn8 : IOk (ofZ a3) a3 7 := (iok_eqz ha3.symm (iok_mul (k := 7) bn1 (iok_small (z := y0) (by omega)) (by decide)))
  have bn9 : IOk (ofZ a4) a4 7 := (iok_eqz ha4.symm (iok_mul (k := 7) bn2 (iok_small (z := y1) (by omega)) (by decide)))
  have bn10 : IOk (ofZ a5) a5 7 := (iok_eqz ha5.symm (iok_mul (k := 7) bn3 (iok_small (z := y2) (by omega)) (by decide)))
  have bn11 : IOk (ofZ a6) a6 7 := (iok_eqz ha6.symm (iok_mul (k := 7) bn1 (iok_small (z := 1) (by decide)) (by decide)))
  have bn12 : IOk (ofZ a7) a7 7 := (iok_eqz ha7.symm (iok_mul (k := 7) bn2 (iok_small (z := 1) (by decide)) (by decide)))
  have bn13 : IOk (ofZ a8) a8 7 := (iok_eqz ha8.symm (iok_mul (k := 7) bn3 (iok_small (z := 1) (by decide)) (by decide)))
  refine kx [(8, (.ref 8 0)), (9, (vb true))] [(8, some (bx (encA31 (A9.mk (ofZ a0) (ofZ a1) (ofZ a2) (ofZ a3) (ofZ a4) (ofZ a5) (ofZ a6) (ofZ a7) (ofZ a8)))))] (zR (oLa sh64) <| zE (oCl (by have h := d_basis x0 y0 1 x1 y1 1 x2 y2 1 x3 y3 1 (iok_up (iok_small (z := x0) (by omega)) (by decide)) (iok_up (iok_small (z := y0) (by omega)) (by decide)) (iok_up (iok_small (z := 1) (by decide)) (by decide)) (iok_up (iok_small (z := x1) (by omega)) (by decide)) (iok_up (iok_small (z := y1) (by omega)) (by decide)) (iok_up (iok_small (z := 1) (by decide)) (by decide)) (iok_up (iok_small (z := x2) (by omega)) (by decide)) (iok_up (iok_small (z := y2) (by omega)) (by decide)) (iok_up (iok_small (z := 1) (by decide)) (by decide)) (iok_up (iok_small (z := x3) (by omega)) (by decide)) (iok_up (iok_small (z := y3) (by omega)) (by decide)) (iok_up (iok_small (z := 1) (by decide)) (by decide)) k0 hk0 k1 hk1 k2 hk2 k3 hk3 hk0_ hk1_ hk2_ hk3_; rw [ha0, ha1, ha2, ha3, ha4, ha5, ha6, ha7, ha8] at h; exact h)) <| zM <| zE oEx <| zE oEx <| zN (oAl 8 ze32 zo32) <| zT (oSt sh32) <| zM <| zZ) ?_
  refine pwp_seq ?_
  have bn14 : IOk (ofZ m0) m0 6 := (iok_eqz hm0.symm (iok_det3 (n := 1) (k := 6) (iok_small (z := u3) (by omega)) (iok_small (z := v3) (by omega)) (iok_small (z := 1) (by decide)) (iok_small (z := u1) (by omega)) (iok_small (z := v1) (by omega)) (iok_small (z := 1) (by decide)) (iok_small (z := u2) (by omega)) (iok_small (z := v2) (by omega)) (iok_small (z := 1) (by decide)) (by decide)))
  have bn15 : IOk (ofZ m1) m1 6 := (iok_eqz hm1.symm (iok_det3 (n := 1) (k := 6) (iok_small (z := u0) (by omega)) (iok_small (z := v0) (by omega)) (iok_small (z := 1) (by decide)) (iok_small (z := u3) (by omega)) (iok_small (z := v3) (by omega)) (iok_small (z := 1) (by decide)) (iok_small (z := u2) (by omega)) (iok_small (z := v2) (by omega)) (iok_small (z := 1) (by decide)) (by decide)))
  have bn16 : IOk (ofZ m2) m2 6 := (iok_eqz hm2.symm (iok_det3 (n := 1) (k := 6) (iok_small (z := u0) (by omega)) (iok_small (z := v0) (by omega)) (iok_small (z := 1) (by decide)) (iok_small (z := u1) (by omega)) (iok_small (z := v1) (by omega)) (iok_small (z := 1) (by decide)) (iok_small (z := u3) (by omega)) (iok_small (z := v3) (by omega)) (iok_small (z := 1) (by decide)) (by decide)))
  have bn17 : IOk (ofZ m3) m3 6 := (iok_eqz hm3.symm (iok_det3 (n := 1) (k := 6) (iok_small (z := u0) (by omega)) (iok_small (z := v0) (by omega)) (iok_small (z := 1) (by decide)) (iok_small (z := u1) (by omega)) (iok_small (z := v1) (by omega)) (iok_small (z := 1) (by decide)) (iok_small (z := u2) (by omega)) (iok_small (z := v2) (by omega)) (iok_small (z := 1) (by decide)) (by decide)))
  have bn18 : IOk (ofZ b0) b0 7 := (iok_eqz hb0.symm (iok_mul (k := 7) bn14 (iok_small (z := u0) (by omega)) (by decide)))
  have bn19 : IOk (ofZ b1) b1 7 := (iok_eqz hb1.symm (iok_mul (k := 7) bn15 (iok_small (z := u1) (by omega)) (by decide)))
  have bn20 : IOk (ofZ b2) b2 7 := (iok_eqz hb2.symm (iok_mul (k := 7) bn16 (iok_small (z := u2) (by omega)) (by decide)))
  have bn21 : IOk (ofZ b3) b3 7 := (iok_eqz hb3.symm (iok_mul (k := 7) bn14 (iok_small (z := v0) (by omega)) (by decide)))
  have bn22 : IOk (ofZ b4) b4 7 := (iok_eqz hb4.symm (iok_mul (k := 7) bn15 (iok_small (z := v1) (by omega)) (by decide)))
  have bn23 : IOk (ofZ b5) b5 7 := (iok_eqz hb5.symm (iok_mul (k := 7) bn16 (iok_small (z := v2) (by omega)) (by decide)))
  have bn24 : IOk (ofZ b6) b6 7 := (iok_eqz hb6.symm (iok_mul (k := 7) bn14 (iok_small (z := 1) (by decide)) (by decide)))
  have bn25 : IOk (ofZ b7) b7 7 := (iok_eqz hb7.symm (iok_mul (k := 7) bn15 (iok_small (z := 1) (by decide)) (by decide)))
  have bn26 : IOk (ofZ b8) b8 7 := (iok_eqz hb8.symm (iok_mul (k := 7) bn16 (iok_small (z := 1) (by decide)) (by decide)))
  refine kx [(10, (.ref 9 0)), (11, (vb true))] [(9, some (bx (encA31 (A9.mk (ofZ b0) (ofZ b1) (ofZ b2) (ofZ b3) (ofZ b4) (ofZ b5) (ofZ b6) (ofZ b7) (ofZ b8)))))] (zR (oLa sh64) <| zE (oCl (by have h := d_basis u0 v0 1 u1 v1 1 u2 v2 1 u3 v3 1 (iok_up (iok_small (z := u0) (by omega)) (by decide)) (iok_up (iok_small (z := v0) (by omega)) (by decide)) (iok_up (iok_small (z := 1) (by decide)) (by decide)) (iok_up (iok_small (z := u1) (by omega)) (by decide)) (iok_up (iok_small (z := v1) (by omega)) (by decide)) (iok_up (iok_small (z := 1) (by decide)) (by decide)) (iok_up (iok_small (z := u2) (by omega)) (by decide)) (iok_up (iok_small (z := v2) (by omega)) (by decide)) (iok_up (iok_small (z := 1) (by decide)) (by decide)) (iok_up (iok_small (z := u3) (by omega)) (by decide)) (iok_up (iok_small (z := v3) (by omega)) (by decide)) (iok_up (iok_small (z := 1) (by decide)) (by decide)) m0 hm0 m1 hm1 m2 hm2 m3 hm3 hm0_ hm1_ hm2_ hm3_; rw [hb0, hb1, hb2, hb3, hb4, hb5, hb6, hb7, hb8] at h; exact h)) <| zM <| zE oEx <| zE oEx <| zN (oAl 9 ze32 zo32) <| zT (oSt sh32) <| zM <| zZ) ?_
  refine pwp_seq <| pwp_seq <| kx [(54, (vb false))] [] (zM <| zE oNt <| zM <| zM <| zE oNt <| zE oPf <| zZ) ?_
  refine pwp_cond (b := false) (by kernel_rfl) (fun h => by cases h) (fun _ => ?_)
  refine pwp_skip <| pwp_seq ?_
  have bn27 : IOk (ofZ ((a4 * a8) - (a5 * a7))) ((a4 * a8) - (a5 * a7)) 15 := (iok_sub (k := 15) (iok_mul (k := 14) bn9 bn13 (by decide)) (iok_mul (k := 14) bn10 bn12 (by decide)) (by decide))
  have bn28 : IOk (ofZ ((a5 * a6) - (a3 * a8))) ((a5 * a6) - (a3 * a8)) 15 := (iok_sub (k := 15) (iok_mul (k := 14) bn10 bn11 (by decide)) (iok_mul (k := 14) bn8 bn13 (by decide)) (by decide))
  have bn29 : IOk (ofZ ((a3 * a7) - (a4 * a6))) ((a3 * a7) - (a4 * a6)) 15 := (iok_sub (k := 15) (iok_mul (k := 14) bn8 bn12 (by decide)) (iok_mul (k := 14) bn9 bn11 (by decide)) (by decide))
  have bn30 : IOk (ofZ ((a7 * a2) - (a8 * a1))) ((a7 * a2) - (a8 * a1)) 15 := (iok_sub (k := 15) (iok_mul (k := 14) bn12 bn7 (by decide)) (iok_mul (k := 14) bn13 bn6 (by decide)) (by decide))
  have bn31 : IOk (ofZ ((a8 * a0) - (a6 * a2))) ((a8 * a0) - (a6 * a2)) 15 := (iok_sub (k := 15) (iok_mul (k := 14) bn13 bn5 (by decide)) (iok_mul (k := 14) bn11 bn7 (by decide)) (by decide))
  have bn32 : IOk (ofZ ((a6 * a1) - (a7 * a0))) ((a6 * a1) - (a7 * a0)) 15 := (iok_sub (k := 15) (iok_mul (k := 14) bn11 bn6 (by decide)) (iok_mul (k := 14) bn12 bn5 (by decide)) (by decide))
  have bn33 : IOk (ofZ ((a1 * a5) - (a2 * a4))) ((a1 * a5) - (a2 * a4)) 15 := (iok_sub (k := 15) (iok_mul (k := 14) bn6 bn10 (by decide)) (iok_mul (k := 14) bn7 bn9 (by decide)) (by decide))
  have bn34 : IOk (ofZ ((a2 * a3) - (a0 * a5))) ((a2 * a3) - (a0 * a5)) 15 := (iok_sub (k := 15) (iok_mul (k := 14) bn7 bn8 (by decide)) (iok_mul (k := 14) bn5 bn10 (by decide)) (by decide))
  have bn35 : IOk (ofZ ((a0 * a4) - (a1 * a3))) ((a0 * a4) - (a1 * a3)) 15 := (iok_sub (k := 15) (iok_mul (k := 14) bn5 bn9 (by decide)) (iok_mul (k := 14) bn6 bn8 (by decide)) (by decide))
  have bn36 : IOk (ofZ (((b0 * ((a4 * a8) - (a5 * a7))) + (b1 * ((a5 * a6) - (a3 * a8)))) + (b2 * ((a3 * a7) - (a4 * a6))))) (((b0 * ((a4 * a8) - (a5 * a7))) + (b1 * ((a5 * a6) - (a3 * a8)))) + (b2 * ((a3 * a7) - (a4 * a6)))) 24 := (iok_add (k := 24) (iok_add (k := 23) (iok_mul (k := 22) bn18 bn27 (by decide)) (iok_mul (k := 22) bn19 bn28 (by decide)) (by decide)) (iok_mul (k := 22) bn20 bn29 (by decide)) (by decide))
  have bn37 : IOk (ofZ (((b0 * ((a7 * a2) - (a8 * a1))) + (b1 * ((a8 * a0) - (a6 * a2)))) + (b2 * ((a6 * a1) - (a7 * a0))))) (((b0 * ((a7 * a2) - (a8 * a1))) + (b1 * ((a8 * a0) - (a6 * a2)))) + (b2 * ((a6 * a1) - (a7 * a0)))) 24 := (iok_add (k := 24) (iok_add (k := 23) (iok_mul (k := 22) bn18 bn30 (by decide)) (iok_mul (k := 22) bn19 bn31 (by decide)) (by decide)) (iok_mul (k := 22) bn20 bn32 (by decide)) (by decide))
  have bn38 : IOk (ofZ (((b0 * ((a1 * a5) - (a2 * a4))) + (b1 * ((a2 * a3) - (a0 * a5)))) + (b2 * ((a0 * a4) - (a1 * a3))))) (((b0 * ((a1 * a5) - (a2 * a4))) + (b1 * ((a2 * a3) - (a0 * a5)))) + (b2 * ((a0 * a4) - (a1 * a3)))) 24 := (iok_add (k := 24) (iok_add (k := 23) (iok_mul (k := 22) bn18 bn33 (by decide)) (iok_mul (k := 22) bn19 bn34 (by decide)) (by decide)) (iok_mul (k := 22) bn20 bn35 (by decide)) (by decide))
  have bn39 : IOk (ofZ (((b3 * ((a4 * a8) - (a5 * a7))) + (b4 * ((a5 * a6) - (a3 * a8)))) + (b5 * ((a3 * a7) - (a4 * a6))))) (((b3 * ((a4 * a8) - (a5 * a7))) + (b4 * ((a5 * a6) - (a3 * a8)))) + (b5 * ((a3 * a7) - (a4 * a6)))) 24 := (iok_add (k := 24) (iok_add (k := 23) (iok_mul (k := 22) bn21 bn27 (by decide)) (iok_mul (k := 22) bn22 bn28 (by decide)) (by decide)) (iok_mul (k := 22) bn23 bn29 (by decide)) (by decide))
  have bn40 : IOk (ofZ (((b3 * ((a7 * a2) - (a8 * a1))) + (b4 * ((a8 * a0) - (a6 * a2)))) + (b5 * ((a6 * a1) - (a7 * a0))))) (((b3 * ((a7 * a2) - (a8 * a1))) + (b4 * ((a8 * a0) - (a6 * a2)))) + (b5 * ((a6 * a1) - (a7 * a0)))) 24 := (iok_add (k := 24) (iok_add (k := 23) (iok_mul (k := 22) bn21 bn30 (by decide)) (iok_mul (k := 22) bn22 bn31 (by decide)) (by decide)) (iok_mul (k := 22) bn23 bn32 (by decide)) (by decide))
  have bn41 : IOk (ofZ (((b3 * ((a1 * a5) - (a2 * a4))) + (b4 * ((a2 * a3) - (a0 * a5)))) + (b5 * ((a0 * a4) - (a1 * a3))))) (((b3 * ((a1 * a5) - (a2 * a4))) + (b4 * ((a2 * a3) - (a0 * a5)))) + (b5 * ((a0 * a4) - (a1 * a3)))) 24 := (iok_add (k := 24) (iok_add (k := 23) (iok_mul (k := 22) bn21 bn33 (by decide)) (iok_mul (k := 22) bn22 bn34 (by decide)) (by decide)) (iok_mul (k := 22) bn23 bn35 (by decide)) (by decide))
  have bn42 : IOk (ofZ (((b6 * ((a4 * a8) - (a5 * a7))) + (b7 * ((a5 * a6) - (a3 * a8)))) + (b8 * ((a3 * a7) - (a4 * a6))))) (((b6 * ((a4 * a8) - (a5 * a7))) + (b7 * ((a5 * a6) - (a3 * a8)))) + (b8 * ((a3 * a7) - (a4 * a6)))) 24 := (iok_add (k := 24) (iok_add (k := 23) (iok_mul (k := 22) bn24 bn27 (by decide)) (iok_mul (k := 22) bn25 bn28 (by decide)) (by decide)) (iok_mul (k := 22) bn26 bn29 (by decide)) (by decide))
  have bn43 : IOk (ofZ (((b6 * ((a7 * a2) - (a8 * a1))) + (b7 * ((a8 * a0) - (a6 * a2)))) + (b8 * ((a6 * a1) - (a7 * a0))))) (((b6 * ((a7 * a2) - (a8 * a1))) + (b7 * ((a8 * a0) - (a6 * a2)))) + (b8 * ((a6 * a1) - (a7 * a0)))) 24 := (iok_add (k := 24) (iok_add (k := 23) (iok_mul (k := 22) bn24 bn30 (by decide)) (iok_mul (k := 22) bn25 bn31 (by decide)) (by decide)) (iok_mul (k := 22) bn26 bn32 (by decide)) (by decide))
  have bn44 : IOk (ofZ (((b6 * ((a1 * a5) - (a2 * a4))) + (b7 * ((a2 * a3) - (a0 * a5)))) + (b8 * ((a0 * a4) - (a1 * a3))))) (((b6 * ((a1 * a5) - (a2 * a4))) + (b7 * ((a2 * a3) - (a0 * a5)))) + (b8 * ((a0 * a4) - (a1 * a3)))) 24 := (iok_add (k := 24) (iok_add (k := 23) (iok_mul (k := 22) bn24 bn33 (by decide)) (iok_mul (k := 22) bn25 bn34 (by decide)) (by decide)) (iok_mul (k := 22) bn26 bn35 (by decide)) (by decide))
  have bn45 : ∀ c ∈ [c0, c1, c2, c3, c4, c5, c6, c7, c8], IOk (ofZ c) c 24 := red_iok (n := 24) (.cons bn36 (.cons bn37 (.cons bn38 (.cons bn39 (.cons bn40 (.cons bn41 (.cons bn42 (.cons bn43 (.cons bn44 .nil))))))))) hc
  refine kd [(3, (vin 0))] [(1, some (bx (encA31 (A9.mk (ofZ c0) (ofZ c1) (ofZ c2) (ofZ c3) (ofZ c4) (ofZ c5) (ofZ c6) (ofZ c7) (ofZ c8)))))] mo (wR (oLa sh32) <| wR (oLa sh32) <| wE (oCl (d_cof (A9.mk (ofZ a0) (ofZ a1) (ofZ a2) (ofZ a3) (ofZ a4) (ofZ a5) (ofZ a6) (ofZ a7) (ofZ a8)) a0 a1 a2 a3 a4 a5 a6 a7 a8 (iu bn5) (iu bn6) (iu bn7) (iu bn8) (iu bn9) (iu bn10) (iu bn11) (iu bn12) (iu bn13))) <| wE (oCl (d_transp (A9.mk (ofZ ((a4 * a8) - (a5 * a7))) (ofZ ((a5 * a6) - (a3 * a8))) (ofZ ((a3 * a7) - (a4 * a6))) (ofZ ((a7 * a2) - (a8 * a1))) (ofZ ((a8 * a0) - (a6 * a2))) (ofZ ((a6 * a1) - (a7 * a0))) (ofZ ((a1 * a5) - (a2 * a4))) (ofZ ((a2 * a3) - (a0 * a5))) (ofZ ((a0 * a4) - (a1 * a3)))) ((a4 * a8) - (a5 * a7)) ((a5 * a6) - (a3 * a8)) ((a3 * a7) - (a4 * a6)) ((a7 * a2) - (a8 * a1)) ((a8 * a0) - (a6 * a2)) ((a6 * a1) - (a7 * a0)) ((a1 * a5) - (a2 * a4)) ((a2 * a3) - (a0 * a5)) ((a0 * a4) - (a1 * a3)) (iu bn27) (iu bn28) (iu bn29) (iu bn30) (iu bn31) (iu bn32) (iu bn33) (iu bn34) (iu bn35))) <| wE (oCl (d_product (A9.mk (ofZ b0) (ofZ b1) (ofZ b2) (ofZ b3) (ofZ b4) (ofZ b5) (ofZ b6) (ofZ b7) (ofZ b8)) b0 b1 b2 b3 b4 b5 b6 b7 b8 (iu bn18) (iu bn19) (iu bn20) (iu bn21) (iu bn22) (iu bn23) (iu bn24) (iu bn25) (iu bn26) (A9.mk (ofZ ((a4 * a8) - (a5 * a7))) (ofZ ((a7 * a2) - (a8 * a1))) (ofZ ((a1 * a5) - (a2 * a4))) (ofZ ((a5 * a6) - (a3 * a8))) (ofZ ((a8 * a0) - (a6 * a2))) (ofZ ((a2 * a3) - (a0 * a5))) (ofZ ((a3 * a7) - (a4 * a6))) (ofZ ((a6 * a1) - (a7 * a0))) (ofZ ((a0 * a4) - (a1 * a3)))) ((a4 * a8) - (a5 * a7)) ((a7 * a2) - (a8 * a1)) ((a1 * a5) - (a2 * a4)) ((a5 * a6) - (a3 * a8)) ((a8 * a0) - (a6 * a2)) ((a2 * a3) - (a0 * a5)) ((a3 * a7) - (a4 * a6)) ((a6 * a1) - (a7 * a0)) ((a0 * a4) - (a1 * a3)) (iu bn27) (iu bn30) (iu bn33) (iu bn28) (iu bn31) (iu bn34) (iu bn29) (iu bn32) (iu bn35))) <| wE (oCl (d_red9 (((b0 * ((a4 * a8) - (a5 * a7))) + (b1 * ((a5 * a6) - (a3 * a8)))) + (b2 * ((a3 * a7) - (a4 * a6)))) (((b0 * ((a7 * a2) - (a8 * a1))) + (b1 * ((a8 * a0) - (a6 * a2)))) + (b2 * ((a6 * a1) - (a7 * a0)))) (((b0 * ((a1 * a5) - (a2 * a4))) + (b1 * ((a2 * a3) - (a0 * a5)))) + (b2 * ((a0 * a4) - (a1 * a3)))) (((b3 * ((a4 * a8) - (a5 * a7))) + (b4 * ((a5 * a6) - (a3 * a8)))) + (b5 * ((a3 * a7) - (a4 * a6)))) (((b3 * ((a7 * a2) - (a8 * a1))) + (b4 * ((a8 * a0) - (a6 * a2)))) + (b5 * ((a6 * a1) - (a7 * a0)))) (((b3 * ((a1 * a5) - (a2 * a4))) + (b4 * ((a2 * a3) - (a0 * a5)))) + (b5 * ((a0 * a4) - (a1 * a3)))) (((b6 * ((a4 * a8) - (a5 * a7))) + (b7 * ((a5 * a6) - (a3 * a8)))) + (b8 * ((a3 * a7) - (a4 * a6)))) (((b6 * ((a7 * a2) - (a8 * a1))) + (b7 * ((a8 * a0) - (a6 * a2)))) + (b8 * ((a6 * a1) - (a7 * a0)))) (((b6 * ((a1 * a5) - (a2 * a4))) + (b7 * ((a2 * a3) - (a0 * a5)))) + (b8 * ((a0 * a4) - (a1 * a3)))) (iu bn36) (iu bn37) (iu bn38) (iu bn39) (iu bn40) (iu bn41) (iu bn42) (iu bn43) (iu bn44) c0 c1 c2 c3 c4 c5 c6 c7 c8 hc hnz)) <| wT (oSt sh32) <| wM <| wZ) ?_
  refine pwp_ret ⟨_, (res_a (cs := (bx (encA31 (A9.mk (ofZ c0) (ofZ c1) (ofZ c2) (ofZ c3) (ofZ c4) (ofZ c5) (ofZ c6) (ofZ c7) (ofZ c8))))) (d := (encA31 (A9.mk (ofZ c0) (ofZ c1) (ofZ c2) (ofZ c3) (ofZ c4) (ofZ c5) (ofZ c6) (ofZ c7) (ofZ c8)))) rfl rfl sh32 rfl rfl (.tmp (d := (.val (.int .i64 (((0 : Nat) : Int))))) rfl .nil)), ?_⟩
  rfl
end Go.Proofs.YtadkkhdnccljcaaGreat
namespace Go.Proofs.YtadkkhdnccljcaaGreat
open Go.Fid
set_option maxRecDepth 4000
set_option linter.unusedVariables false
set_option linter.unusedSimpArgs false
theorem by30 : bytesB Tryz.prog 30 = some 32 := by kernel_rfl
theorem cb23 : callB Tryz.prog 23 = true := by kernel_rfl
theorem cb24 : callB Tryz.prog 24 = true := by kernel_rfl
theorem cb40 : callB Tryz.prog 40 = true := by kernel_rfl
theorem cb44 : callB Tryz.prog 44 = true := by kernel_rfl
theorem cb54 : callB Tryz.prog 54 = true := by kernel_rfl
theorem cb74 : callB Tryz.prog 74 = true := by kernel_rfl
theorem cb80 : callB Tryz.prog 80 = true := by kernel_rfl
theorem cb81 : callB Tryz.prog 81 = true := by kernel_rfl
theorem cb107 : callB Tryz.prog 107 = true := by kernel_rfl
theorem r_same (x y : RInt) (hx : x.gs.length ≤ 1099511627776) (hy : y.gs.length ≤ 1099511627776) : Takes Tryz.prog 74 [(encI x), (encI y)] (.val (.bool ((sameI x y)))) := by
  refine fn_intro Tryz.func74 rfl cb74 rfl ?_
  show PWp _ _ _ _ ⟨[(0, (.d (encI x))), (1, (.d (encI y)))], []⟩
  refine pwp_seq <| kx [(2, (.ref 0 0)), (3, (.ref 1 0))] [(0, some (bx (encI x))), (1, some (bx (encI y)))] (zN (oBx 0) <| zN (oBx 1) <| zM <| zZ) ?_
  refine pwp_seq <| pwp_seq <| kx [(19, (vb (!(x.neg == y.neg) || (((x.gs.length : Nat) : Int) != ((y.gs.length : Nat) : Int)))))] [] ?_ ?_
  · refine zE (oFr fo30_0) <| zR (oL1 sh4) <| zE (oFr fo30_0) <| zR (oL1 sh4) <| zE (oNb bo4) <| zE (oV (vb (!(x.neg == y.neg))) (mv_ok (by kernel_rfl))) <| ?_
    rcases hb1 : (!(x.neg == y.neg)) with _ | _
    · exact zE (oFr fo30_1) <| zR (oL1 sh28) <| zE (oLm el28) <| zE (oFr fo30_1) <| zR (oL1 sh28) <| zE (oLm el28) <| zE oNe <| zE oPo <| zZ
    · exact zK <| zK <| zK <| zK <| zK <| zK <| zK <| zE oPt <| zZ
  refine pwp_cond rfl (fun h2 => ?_) (fun h2 => ?_)
  · refine pwp_seq <| kx [(4, (vb false))] [] (zM <| zZ) ?_
    refine pwp_ret ⟨_, (.tmp (d := (.val (.bool (false)))) rfl .nil), ?_⟩
    rw [same_no1 h2]; rfl
  · obtain ⟨hn1, hn2⟩ := same_head h2
    refine pwp_skip <| pwp_seq <| pwp_seq <| kx [(5, (vin 0))] [] (zM <| zZ) ?_
    refine pwp_block <| pwp_loop (α := Nat) (fun i => ⟨[(2, (.ref 0 0)), (3, (.ref 1 0)), (5, (vin i))], [(0, some (bx (encI x))), (1, some (bx (encI y)))]⟩) (fun i => i ≤ x.gs.length ∧ x.gs.take i = y.gs.take i) (fun i => x.gs.length - i) 0 wk ⟨Nat.zero_le _, by simp⟩ ?_
    rintro i ⟨hi, hv⟩
    refine pwp_seq <| pwp_seq <| kx [(24, (vb (decide (((i : Nat) : Int) < ((x.gs.length : Nat) : Int)))))] [] (zM <| zE (oFr fo30_1) <| zR (oL1 sh28) <| zE (oLm el28) <| zE oLt <| zZ) ?_
    refine pwp_cond rfl (fun h3 => ?_) (fun h3 => ?_)
    · replace h3 := of_decide_eq_true h3
      refine pwp_skip <| pwp_seq <| pwp_block <| pwp_seq <| kd [(37, (vb ((((x.gs.getD i 0) : Nat) : Int) != (((y.gs.getD i 0) : Nat) : Int))))] [] mo (wE (oFr fo30_1) <| wR (oL1 sh28) <| wM <| wE (oXl el28 i (0 : Nat)) <| wE (oC1 sh138) <| wE (oFr fo30_1) <| wR (oL1 sh28) <| wM <| wE (oXl el28 i (0 : Nat)) <| wE (oC1 sh138) <| wE oNe <| wZ) ?_
      refine pwp_cond rfl (fun h4 => ?_) (fun h4 => ?_)
      · replace h4 := bne_iff_ne.1 h4
        refine pwp_seq <| kx [(4, (vb false))] [] (zM <| zZ) ?_
        refine pwp_ret ⟨_, (.tmp (d := (.val (.bool (false)))) rfl .nil), ?_⟩
        rw [same_no2 (by omega) h4]; rfl
      · replace h4 := bne_eq_false_iff_eq.1 h4
        refine pwp_skip <| kx [(5, (vin (i + 1)))] [] (zM <| zE (oAd (i + 1)) <| zM <| zZ) ?_
        exact ⟨(i + 1), wk, ⟨by omega, take_same (by omega) (by omega) hv h4⟩, (by first | omega | (dsimp only; omega))⟩
    · replace h3 := of_decide_eq_false h3
      have hie : i = x.gs.length := by omega
      rw [hie, List.take_length] at hv
      rw [List.take_of_length_le (by omega)] at hv
      refine pwp_exit <| pwp_seq <| kx [(4, (vb true))] [] (zM <| zZ) ?_
      refine pwp_ret ⟨_, (.tmp (d := (.val (.bool (true)))) rfl .nil), ?_⟩
      rw [same_yes hn1 hv]; rfl
theorem l_wholeI (n : Int) (hlo : -9223372036854775808 ≤ n) (hhi : n ≤ 9223372036854775807) : Takes Tryz.prog 44 [(.val (.int .i64 (n)))] (encI (ofZ n)) := by
  refine fn_intro Tryz.func44 rfl cb44 rfl ?_
  show PWp _ _ _ _ ⟨[(0, (vi n))], []⟩
  refine pwp_seq <| kx [(2, (.ref 0 0))] [(0, some (bx (encI (RInt.mk false []))))] (zN (oAl 0 ze30 zo30) <| zZ) ?_
  refine pwp_seq <| kx [] [(0, some (bx (encI (ofZ n))))] (zM <| zE (oCl (r_of n (by omega) (by omega))) <| zT (oSt sh30) <| zZ) ?_
  refine pwp_ret ⟨_, (res_a (cs := (bx (encI (ofZ n)))) (d := (encI (ofZ n))) rfl rfl sh30 rfl rfl .nil), ?_⟩
  rfl
theorem l_zero (x : RInt) (a : Int) (hx : IOk x a 5000000000) : Takes Tryz.prog 40 [(encI x)] (.val (.bool ((signI a == 0)))) := by
  refine fn_intro Tryz.func40 rfl cb40 rfl ?_
  show PWp _ _ _ _ ⟨[(0, (.d (encI x)))], []⟩
  refine pwp_seq <| kx [(1, (.ref 0 0))] [(0, some (bx (encI x)))] (zN (oBx 0) <| zM <| zZ) ?_
  refine pwp_seq <| kx [(2, (vb ((signI a) == 0)))] [] (zR (oLa sh30) <| zE (oCl (rs_sign hx (by decide))) <| zE oEq <| zM <| zZ) ?_
  refine pwp_ret ⟨_, (.tmp (d := (.val (.bool (((signI a) == 0))))) rfl .nil), ?_⟩
  rfl
theorem l_det (p : A3 RInt) (p0 p1 p2 : Int) (hp0 : IOk p.a0 p0 1000000) (hp1 : IOk p.a1 p1 1000000) (hp2 : IOk p.a2 p2 1000000) (q : A3 RInt) (q0 q1 q2 : Int) (hq0 : IOk q.a0 q0 1000000) (hq1 : IOk q.a1 q1 1000000) (hq2 : IOk q.a2 q2 1000000) (r : A3 RInt) (r0 r1 r2 : Int) (hr0 : IOk r.a0 r0 1000000) (hr1 : IOk r.a1 r1 1000000) (hr2 : IOk r.a2 r2 1000000) : Takes Tryz.prog 81 [(encA43 p), (encA43 q), (encA43 r)] (encI (ofZ (det3 p0 p1 p2 q0 q1 q2 r0 r1 r2))) := by
  refine fn_intro Tryz.func81 rfl cb81 rfl ?_
  show PWp _ _ _ _ ⟨[(0, (.d (encA43 p))), (1, (.d (encA43 q))), (2, (.d (encA43 r)))], []⟩
  refine pwp_seq <| kx [(3, (.ref 0 0)), (4, (.ref 1 0)), (5, (.ref 2 0)), (6, (.ref 3 0))] [(0, some (bx (encA43 p))), (1, some (bx (encA43 q))), (2, some (bx (encA43 r))), (3, some (bx (encI (RInt.mk false []))))] (zN (oBx 0) <| zN (oBx 1) <| zN (oBx 2) <| zN (oAl 3 ze30 zo30) <| zZ) ?_
  refine pwp_seq ?_
  have bn1 : IOk (ofZ ((q1 * r2) - (q2 * r1))) ((q1 * r2) - (q2 * r1)) 2000001 := (iok_sub (k := 2000001) (iok_mul (k := 2000000) hq1 hr2 (by decide)) (iok_mul (k := 2000000) hq2 hr1 (by decide)) (by decide))
  have bn2 : IOk (ofZ ((q2 * r0) - (q0 * r2))) ((q2 * r0) - (q0 * r2)) 2000001 := (iok_sub (k := 2000001) (iok_mul (k := 2000000) hq2 hr0 (by decide)) (iok_mul (k := 2000000) hq0 hr2 (by decide)) (by decide))
  have bn3 : IOk (ofZ ((q0 * r1) - (q1 * r0))) ((q0 * r1) - (q1 * r0)) 2000001 := (iok_sub (k := 2000001) (iok_mul (k := 2000000) hq0 hr1 (by decide)) (iok_mul (k := 2000000) hq1 hr0 (by decide)) (by decide))
  have bn4 : IOk (ofZ (((p0 * ((q1 * r2) - (q2 * r1))) + (p1 * ((q2 * r0) - (q0 * r2)))) + (p2 * ((q0 * r1) - (q1 * r0))))) (((p0 * ((q1 * r2) - (q2 * r1))) + (p1 * ((q2 * r0) - (q0 * r2)))) + (p2 * ((q0 * r1) - (q1 * r0)))) 3000003 := (iok_add (k := 3000003) (iok_add (k := 3000002) (iok_mul (k := 3000001) hp0 bn1 (by decide)) (iok_mul (k := 3000001) hp1 bn2 (by decide)) (by decide)) (iok_mul (k := 3000001) hp2 bn3 (by decide)) (by decide))
  refine kd [] [(3, some (bx (encI (ofZ (((p0 * ((q1 * r2) - (q2 * r1))) + (p1 * ((q2 * r0) - (q0 * r2)))) + (p2 * ((q0 * r1) - (q1 * r0))))))))] mo (wR (oLa sh44) <| wR (oLa sh44) <| wR (oLa sh44) <| wE (oCl (l_cross q q0 q1 q2 (iu hq0) (iu hq1) (iu hq2) r r0 r1 r2 (iu hr0) (iu hr1) (iu hr2))) <| wE (oCl (l_dot p p0 p1 p2 (iu hp0) (iu hp1) (iu hp2) (A3.mk (ofZ ((q1 * r2) - (q2 * r1))) (ofZ ((q2 * r0) - (q0 * r2))) (ofZ ((q0 * r1) - (q1 * r0)))) ((q1 * r2) - (q2 * r1)) ((q2 * r0) - (q0 * r2)) ((q0 * r1) - (q1 * r0)) (iu bn1) (iu bn2) (iu bn3))) <| wT (oSt sh30) <| wZ) ?_
  refine pwp_ret ⟨_, (res_a (cs := (bx (encI (ofZ (((p0 * ((q1 * r2) - (q2 * r1))) + (p1 * ((q2 * r0) - (q0 * r2)))) + (p2 * ((q0 * r1) - (q1 * r0)))))))) (d := (encI (ofZ (((p0 * ((q1 * r2) - (q2 * r1))) + (p1 * ((q2 * r0) - (q0 * r2)))) + (p2 * ((q0 * r1) - (q1 * r0))))))) rfl rfl sh30 rfl rfl .nil), ?_⟩
  rfl
theorem l_redN (tau : Nat) (l : List RInt) (zs : List Int) (hl : LOk 1000000 l zs) (hb : l.length ≤ 1000000) (hnz : sgnL zs = 0) : Takes Tryz.prog 107 [(.sl tau 2 (List.map encI l))] (.val (.slice none 0 0)) := by
  have hlen := hl.len
  refine fn_intro Tryz.func107 rfl cb107 rfl ?_
  show PWp _ _ _ _ ⟨[(0, (vl tau 2 encI l))], []⟩
  refine pwp_seq <| kx [] [] (zM <| zZ) ?_
  refine pwp_seq <| kx [(3, (.ref 0 0))] [(0, some (bx (encI (ofZ 0))))] (zE (oCl (l_wholeI 0 (by decide) (by decide))) <| zN (oAl 0 ze30 zo30) <| zT (oSt sh30) <| zZ) ?_
  refine pwp_seq <| kx [(4, (vin 0))] [] (zM <| zZ) ?_
  refine pwp_seq <| pwp_seq <| kx [(14, (vl tau 2 encI l)), (15, (vin l.length)), (16, (vin 0))] [] (zM <| zE (oLm el40) <| zM <| zZ) ?_
  refine pwp_block <| pwp_loop (α := Nat × Nat × Int) (fun (i, g, s) => ⟨[(0, (vl tau 2 encI l)), (3, (.ref 0 0)), (4, (vi s)), (14, (vl tau 2 encI l)), (15, (vin l.length)), (16, (vin i))], [(0, some (bx (encI (ofZ ((g : Nat) : Int)))))]⟩) (fun (i, g, s) => i ≤ l.length ∧ g = gcdL (zs.take i) ∧ s = sgnL (zs.take i)) (fun (i, g, s) => l.length - i) (0, 0, 0) wk ⟨Nat.zero_le _, rfl, rfl⟩ ?_
  rintro ⟨i, g, s⟩ ⟨hi, hgv, hsv⟩
  have hg : IOk (ofZ ((g : Nat) : Int)) ((g : Nat) : Int) 1000000 := by rw [hgv]; exact gcdL_takelen hl.all i
  refine pwp_seq <| kx [(17, (vb (decide (((i : Nat) : Int) < ((l.length : Nat) : Int)))))] [] (zE oLt <| zZ) ?_
  refine pwp_seq <| pwp_cond rfl (fun h1 => ?_) (fun h1 => ?_)
  · replace h1 := of_decide_eq_true h1
    refine pwp_skip <| pwp_seq <| pwp_block <| pwp_seq <| kx [(6, (.ref 1 0))] [(1, some (bx (encI (l.getD i (RInt.mk false [])))))] (zE (oXl el40 i (RInt.mk false [])) <| zE (oCa sh30) <| zN (oAl 1 ze30 zo30) <| zT (oSt sh30) <| zZ) ?_
    refine pwp_seq <| kx [] [(0, some (bx (encI (ofZ ((Int.gcd ((g : Nat) : Int) (zs.getD i 0) : Nat) : Int)))))] (zR (oLa sh30) <| zR (oLa sh30) <| zE (oCl (rs_gcd hg (hl.get i) (by decide) (by decide))) <| zT (oSt sh30) <| zZ) ?_
    refine pwp_seq <| kx [(24, (vb (s == 0)))] [] (zM <| zE oEq <| zZ) ?_
    refine pwp_cond (b := (s == 0)) rfl (fun h2 => ?_) (fun h2 => ?_)
    · replace h2 := eq_of_beq h2
      refine kx [(4, (vi (signI (zs.getD i 0))))] [] (zR (oLa sh30) <| zE (oCl (rs_sign (hl.get i) (by decide))) <| zM <| zZ) ?_
      refine kx [(16, (vin (i + 1)))] [] (zE (oAd (i + 1)) <| zM <| zZ) ?_
      exact ⟨(i + 1, Int.gcd ((g : Nat) : Int) (zs.getD i 0), signI (zs.getD i 0)), wk, ⟨by omega, by rw [hgv]; exact (gcdL_step (by omega)).symm, sgnL_step0 (by omega) hsv h2⟩, (by first | omega | (dsimp only; omega))⟩
    · replace h2 := ne_of_beq_false h2
      refine pwp_skip <| kx [(16, (vin (i + 1)))] [] (zE (oAd (i + 1)) <| zM <| zZ) ?_
      exact ⟨(i + 1, Int.gcd ((g : Nat) : Int) (zs.getD i 0), s), wk, ⟨by omega, by rw [hgv]; exact (gcdL_step (by omega)).symm, sgnL_step1 (by omega) hsv h2⟩, (by first | omega | (dsimp only; omega))⟩
  · replace h1 := of_decide_eq_false h1
    have hie : i = l.length := by omega
    rw [hie, hlen, List.take_length] at hgv hsv
    refine pwp_exit <| pwp_seq <| pwp_seq <| kx [(29, (vb (s == 0)))] [] (zM <| zE oEq <| zZ) ?_
    refine pwp_cond (b := (s == 0)) rfl (fun h3 => ?_) (fun h3 => ?_)
    · replace h3 := eq_of_beq h3
      refine pwp_seq <| kx [(2, (.d (.val (.slice none 0 0))))] [] (zM <| zZ) ?_
      refine pwp_ret ⟨_, (.tmp (d := (.val (.slice none 0 0))) rfl .nil), ?_⟩
      rfl
    · replace h3 := ne_of_beq_false h3
      exact absurd (hsv.trans hnz) h3
theorem l_red (tau : Nat) (l : List RInt) (zs : List Int) (hl : LOk 1000000 l zs) (hb : l.length ≤ 1000000) (hnz : sgnL zs ≠ 0) : Takes Tryz.prog 107 [(.sl tau 2 (List.map encI l))] (.sl 30 2 (List.map encI (List.map ofZ (redL zs)))) := by
  have hlen := hl.len
  refine fn_intro Tryz.func107 rfl cb107 rfl ?_
  show PWp _ _ _ _ ⟨[(0, (vl tau 2 encI l))], []⟩
  refine pwp_seq <| kx [] [] (zE (oNl 30 2) <| zZ) ?_
  refine pwp_seq <| kx [(3, (.ref 0 0))] [(0, some (bx (encI (ofZ 0))))] (zE (oCl (l_wholeI 0 (by decide) (by decide))) <| zN (oAl 0 ze30 zo30) <| zT (oSt sh30) <| zZ) ?_
  refine pwp_seq <| kx [(4, (vin 0))] [] (zM <| zZ) ?_
  refine pwp_seq <| pwp_seq <| kx [(14, (vl tau 2 encI l)), (15, (vin l.length)), (16, (vin 0))] [] (zM <| zE (oLm el40) <| zM <| zZ) ?_
  refine pwp_block <| pwp_loop (α := Nat × Nat × Int) (fun (i, g, s) => ⟨[(0, (vl tau 2 encI l)), (3, (.ref 0 0)), (4, (vi s)), (14, (vl tau 2 encI l)), (15, (vin l.length)), (16, (vin i))], [(0, some (bx (encI (ofZ ((g : Nat) : Int)))))]⟩) (fun (i, g, s) => i ≤ l.length ∧ g = gcdL (zs.take i) ∧ s = sgnL (zs.take i)) (fun (i, g, s) => l.length - i) (0, 0, 0) wk ⟨Nat.zero_le _, rfl, rfl⟩ ?_
  rintro ⟨i, g, s⟩ ⟨hi, hgv, hsv⟩
  have hg : IOk (ofZ ((g : Nat) : Int)) ((g : Nat) : Int) 1000000 := by rw [hgv]; exact gcdL_takelen hl.all i
  refine pwp_seq <| kx [(17, (vb (decide (((i : Nat) : Int) < ((l.length : Nat) : Int)))))] [] (zE oLt <| zZ) ?_
  refine pwp_seq <| pwp_cond rfl (fun h1 => ?_) (fun h1 => ?_)
  · replace h1 := of_decide_eq_true h1
    refine pwp_skip <| pwp_seq <| pwp_block <| pwp_seq <| kx [(6, (.ref 1 0))] [(1, some (bx (encI (l.getD i (RInt.mk false [])))))] (zE (oXl el40 i (RInt.mk false [])) <| zE (oCa sh30) <| zN (oAl 1 ze30 zo30) <| zT (oSt sh30) <| zZ) ?_
    refine pwp_seq <| kx [] [(0, some (bx (encI (ofZ ((Int.gcd ((g : Nat) : Int) (zs.getD i 0) : Nat) : Int)))))] (zR (oLa sh30) <| zR (oLa sh30) <| zE (oCl (rs_gcd hg (hl.get i) (by decide) (by decide))) <| zT (oSt sh30) <| zZ) ?_
    refine pwp_seq <| kx [(24, (vb (s == 0)))] [] (zM <| zE oEq <| zZ) ?_
    refine pwp_cond (b := (s == 0)) rfl (fun h2 => ?_) (fun h2 => ?_)
    · replace h2 := eq_of_beq h2
      refine kx [(4, (vi (signI (zs.getD i 0))))] [] (zR (oLa sh30) <| zE (oCl (rs_sign (hl.get i) (by decide))) <| zM <| zZ) ?_
      refine kx [(16, (vin (i + 1)))] [] (zE (oAd (i + 1)) <| zM <| zZ) ?_
      exact ⟨(i + 1, Int.gcd ((g : Nat) : Int) (zs.getD i 0), signI (zs.getD i 0)), wk, ⟨by omega, by rw [hgv]; exact (gcdL_step (by omega)).symm, sgnL_step0 (by omega) hsv h2⟩, (by first | omega | (dsimp only; omega))⟩
    · replace h2 := ne_of_beq_false h2
      refine pwp_skip <| kx [(16, (vin (i + 1)))] [] (zE (oAd (i + 1)) <| zM <| zZ) ?_
      exact ⟨(i + 1, Int.gcd ((g : Nat) : Int) (zs.getD i 0), s), wk, ⟨by omega, by rw [hgv]; exact (gcdL_step (by omega)).symm, sgnL_step1 (by omega) hsv h2⟩, (by first | omega | (dsimp only; omega))⟩
  · replace h1 := of_decide_eq_false h1
    have hie : i = l.length := by omega
    rw [hie, hlen, List.take_length] at hgv hsv
    refine pwp_exit <| pwp_seq <| pwp_seq <| kx [(29, (vb (s == 0)))] [] (zM <| zE oEq <| zZ) ?_
    refine pwp_cond (b := (s == 0)) rfl (fun h3 => ?_) (fun h3 => ?_)
    · replace h3 := eq_of_beq h3
      exact absurd (hsv.symm.trans h3) hnz
    · replace h3 := ne_of_beq_false h3
      refine pwp_skip <| pwp_seq <| pwp_seq <| kx [(31, (vb (decide (s < 0))))] [] (zM <| zE oLt <| zZ) ?_
      refine pwp_cond (b := decide (s < 0)) rfl (fun h4 => ?_) (fun h4 => ?_)
      · replace h4 := of_decide_eq_true h4
        have hdv := dv_neg hsv hgv h4
        have hd0 : (-((g : Nat) : Int)) ≠ 0 := by rw [← hdv]; exact dvL_ne hnz
        refine kx [] [(0, some (bx (encI (ofZ (-((g : Nat) : Int))))))] (zR (oLa sh30) <| zE (oCl (rs_neg hg (by decide))) <| zT (oSt sh30) <| zZ) ?_
        refine pwp_seq <| kx [(7, (.own 2 30 2 0))] [(2, some (bxs encI []))] (zN (oBo 2 el40 ze30 zo30) <| zM <| zZ) ?_
        refine pwp_seq <| pwp_seq <| kx [(35, (vl tau 2 encI l)), (36, (vin l.length)), (37, (vin 0))] [] (zM <| zE (oLm el40) <| zM <| zZ) ?_
        refine pwp_block <| pwp_loop (α := Nat × List RInt) (fun (j, o) => ⟨[(3, (.ref 0 0)), (7, (.own 2 30 2 o.length)), (35, (vl tau 2 encI l)), (36, (vin l.length)), (37, (vin j))], [(0, some (bx (encI (ofZ (-((g : Nat) : Int)))))), (2, some (bxs encI o))]⟩) (fun (j, o) => j ≤ l.length ∧ o = List.map ofZ ((redL zs).take j)) (fun (j, o) => l.length - j) (0, []) wk ⟨Nat.zero_le _, rfl⟩ ?_
        rintro ⟨j, o⟩ ⟨hj, hov⟩
        have hol : o.length = j := by rw [hov]; simp [redL]; omega
        refine pwp_seq <| kx [(38, (vb (decide (((j : Nat) : Int) < ((l.length : Nat) : Int)))))] [] (zE oLt <| zZ) ?_
        refine pwp_seq <| pwp_cond rfl (fun h5 => ?_) (fun h5 => ?_)
        · replace h5 := of_decide_eq_true h5
          refine pwp_skip <| pwp_seq <| pwp_block <| pwp_seq <| kx [(9, (.ref 3 0))] [(3, some (bx (encI (l.getD j (RInt.mk false [])))))] (zE (oXl el40 j (RInt.mk false [])) <| zE (oCa sh30) <| zH (oAl 3 ze30 zo30) <| zT (oSt sh30) <| zZ) ?_
          refine pwp_seq <| kx [(10, (.ref 4 0))] [(4, some (bx (encI (ofZ ((zs.getD j 0).fdiv (-((g : Nat) : Int))))))), (5, none)] (zR (oLa sh30) <| zR (oLa sh30) <| zE (oCl (rs_divide (hl.get j) (iok_neg hg) (by decide) (by decide) hd0)) <| zM <| zE oEx <| zE oEx <| zE oEx <| zH (oAl 4 ze30 zo30) <| zH (oAl 5 ze30 zo30) <| zT (oSt sh30) <| zT (oSt sh30) <| zM <| zZ) ?_
          refine kf [(7, (.own 2 30 2 ((o ++ [(ofZ ((zs.getD j 0).fdiv (-((g : Nat) : Int))))]).length)))] [(2, some (bxs encI (o ++ [(ofZ ((zs.getD j 0).fdiv (-((g : Nat) : Int))))])))] (zM <| zR (oLa sh30) <| zE (oBs el40 ze30 zo30) <| zAS encI o [(ofZ ((zs.getD j 0).fdiv (-((g : Nat) : Int))))] rfl el40 ze30 by30 <| zM <| zF) ?_
          refine kx [(37, (vin (j + 1)))] [] (zE (oAd (j + 1)) <| zM <| zZ) ?_
          exact ⟨(j + 1, o ++ [ofZ ((zs.getD j 0).fdiv (-((g : Nat) : Int)))]), wk, ⟨by omega, redL_push (by omega) hov hdv⟩, (by first | omega | (dsimp only; omega))⟩
        · replace h5 := of_decide_eq_false h5
          have hje : j = zs.length := by omega
          rw [hje, show zs.length = (redL zs).length from (redL_length zs).symm, List.take_length] at hov
          subst hov
          refine pwp_exit <| pwp_seq <| pwp_sim (publish (t := 7) (k := 2) (es := List.map encI (List.map ofZ (redL zs))) rfl rfl (pubs_cells _ _ (fun _ => rfl)) (map_len _ _ rfl) (pubs_take encI (List.map ofZ (redL zs)) (fun _ => rfl) rfl)) ?_
          refine kx [(2, (vl 30 2 encI (List.map ofZ (redL zs))))] [] (zM <| zM <| zZ) ?_
          refine pwp_ret ⟨_, (.tmp (d := (.sl 30 2 (List.map encI (List.map ofZ (redL zs))))) rfl .nil), ?_⟩
          rfl
      · replace h4 := of_decide_eq_false h4
        have hdv := dv_pos hsv hgv h4
        have hd0 : ((g : Nat) : Int) ≠ 0 := by rw [← hdv]; exact dvL_ne hnz
        refine pwp_skip <| pwp_seq <| kx [(7, (.own 6 30 2 0))] [(6, some (bxs encI []))] (zN (oBo 6 el40 ze30 zo30) <| zM <| zZ) ?_
        refine pwp_seq <| pwp_seq <| kx [(35, (vl tau 2 encI l)), (36, (vin l.length)), (37, (vin 0))] [] (zM <| zE (oLm el40) <| zM <| zZ) ?_
        refine pwp_block <| pwp_loop (α := Nat × List RInt) (fun (j, o) => ⟨[(3, (.ref 0 0)), (7, (.own 6 30 2 o.length)), (35, (vl tau 2 encI l)), (36, (vin l.length)), (37, (vin j))], [(0, some (bx (encI (ofZ ((g : Nat) : Int))))), (6, some (bxs encI o))]⟩) (fun (j, o) => j ≤ l.length ∧ o = List.map ofZ ((redL zs).take j)) (fun (j, o) => l.length - j) (0, []) wk ⟨Nat.zero_le _, rfl⟩ ?_
        rintro ⟨j, o⟩ ⟨hj, hov⟩
        have hol : o.length = j := by rw [hov]; simp [redL]; omega
        refine pwp_seq <| kx [(38, (vb (decide (((j : Nat) : Int) < ((l.length : Nat) : Int)))))] [] (zE oLt <| zZ) ?_
        refine pwp_seq <| pwp_cond rfl (fun h6 => ?_) (fun h6 => ?_)
        · replace h6 := of_decide_eq_true h6
          refine pwp_skip <| pwp_seq <| pwp_block <| pwp_seq <| kx [(9, (.ref 7 0))] [(7, some (bx (encI (l.getD j (RInt.mk false [])))))] (zE (oXl el40 j (RInt.mk false [])) <| zE (oCa sh30) <| zH (oAl 7 ze30 zo30) <| zT (oSt sh30) <| zZ) ?_
          refine pwp_seq <| kx [(10, (.ref 8 0))] [(8, some (bx (encI (ofZ ((zs.getD j 0).fdiv ((g : Nat) : Int)))))), (9, none)] (zR (oLa sh30) <| zR (oLa sh30) <| zE (oCl (rs_divide (hl.get j) hg (by decide) (by decide) hd0)) <| zM <| zE oEx <| zE oEx <| zE oEx <| zH (oAl 8 ze30 zo30) <| zH (oAl 9 ze30 zo30) <| zT (oSt sh30) <| zT (oSt sh30) <| zM <| zZ) ?_
          refine kf [(7, (.own 6 30 2 ((o ++ [(ofZ ((zs.getD j 0).fdiv ((g : Nat) : Int)))]).length)))] [(6, some (bxs encI (o ++ [(ofZ ((zs.getD j 0).fdiv ((g : Nat) : Int)))])))] (zM <| zR (oLa sh30) <| zE (oBs el40 ze30 zo30) <| zAS encI o [(ofZ ((zs.getD j 0).fdiv ((g : Nat) : Int)))] rfl el40 ze30 by30 <| zM <| zF) ?_
          refine kx [(37, (vin (j + 1)))] [] (zE (oAd (j + 1)) <| zM <| zZ) ?_
          exact ⟨(j + 1, o ++ [ofZ ((zs.getD j 0).fdiv ((g : Nat) : Int))]), wk, ⟨by omega, redL_push (by omega) hov hdv⟩, (by first | omega | (dsimp only; omega))⟩
        · replace h6 := of_decide_eq_false h6
          have hje : j = zs.length := by omega
          rw [hje, show zs.length = (redL zs).length from (redL_length zs).symm, List.take_length] at hov
          subst hov
          refine pwp_exit <| pwp_seq <| pwp_sim (publish (t := 7) (k := 6) (es := List.map encI (List.map ofZ (redL zs))) rfl rfl (pubs_cells _ _ (fun _ => rfl)) (map_len _ _ rfl) (pubs_take encI (List.map ofZ (redL zs)) (fun _ => rfl) rfl)) ?_
          refine kx [(2, (vl 30 2 encI (List.map ofZ (redL zs))))] [] (zM <| zM <| zZ) ?_
          refine pwp_ret ⟨_, (.tmp (d := (.sl 30 2 (List.map encI (List.map ofZ (redL zs))))) rfl .nil), ?_⟩
          rfl
theorem l_trip (p : A3 RInt) (p0 p1 p2 : Int) (hp0 : IOk p.a0 p0 1000000) (hp1 : IOk p.a1 p1 1000000) (hp2 : IOk p.a2 p2 1000000) (c0 c1 c2 : Int) (hc : redL [p0, p1, p2] = [c0, c1, c2]) (hnz : sgnL [p0, p1, p2] ≠ 0) : Takes Tryz.prog 54 [(encA43 p)] (.tup [(encA43 (A3.mk (ofZ c0) (ofZ c1) (ofZ c2))), (.val (.bool (true)))]) := by
  refine fn_intro Tryz.func54 rfl cb54 rfl ?_
  show PWp _ _ _ _ ⟨[(0, (.d (encA43 p)))], []⟩
  refine pwp_seq <| kx [(1, (.ref 0 0)), (2, (.ref 1 0))] [(0, some (bx (encA43 p))), (1, some (bx (encA43 (A3.mk (RInt.mk false []) (RInt.mk false []) (RInt.mk false [])))))] (zN (oBx 0) <| zN (oAl 1 ze44 zo44) <| zM <| zZ) ?_
  refine pwp_seq ?_
  have bn1 : ∀ c ∈ [c0, c1, c2], IOk (ofZ c) c 1000000 := red_iok (n := 1000000) (.cons hp0 (.cons hp1 (.cons hp2 .nil))) hc
  refine kx [(4, (vl 30 2 encI [(ofZ c0), (ofZ c1), (ofZ c2)]))] [] (zE (e_slv (by exact rfl) ar44 (by exact rfl) (by kernel_rfl) (by kernel_rfl)) <| zR ⟨(bx (encA43 p)), e_clv (es := List.map encI [p.a0, p.a1, p.a2]) (by have h := l_red 1000000 [p.a0, p.a1, p.a2] [p0, p1, p2] (.cons hp0 (.cons hp1 (.cons hp2 .nil))) (Nat.le_of_ble_eq_true rfl) hnz; rw [hc] at h; exact h) (by exact rfl) (by kernel_rfl) (by exact rfl) (.v .nil) (pubs_cells _ _ (fun _ => rfl)) (by kernel_rfl) (by kernel_rfl) (avo_sl_30 (by decide) (by decide) _), by kernel_rfl⟩ <| zM <| zZ) ?_
  refine pwp_seq <| pwp_seq <| kx [(8, (vb false))] [] (zM <| zE (oNf el40) <| zZ) ?_
  refine pwp_cond (b := false) (by kernel_rfl) (fun h => by cases h) (fun _ => ?_)
  refine pwp_skip <| pwp_seq <| kx [(3, (vb true))] [(1, some (bx (encA43 (A3.mk (ofZ c0) (ofZ c1) (ofZ c2)))))] (zM <| zE (e_sap (cs := (Dat.cells (encA43 (A3.mk (ofZ c0) (ofZ c1) (ofZ c2))))) (by exact rfl) ar44 (by exact rfl) (by kernel_rfl) (by kernel_rfl) (by kernel_rfl)) <| zE (oCa sh44) <| zT (oSt sh44) <| zM <| zZ) ?_
  refine pwp_ret ⟨_, (res_a (cs := (bx (encA43 (A3.mk (ofZ c0) (ofZ c1) (ofZ c2))))) (d := (encA43 (A3.mk (ofZ c0) (ofZ c1) (ofZ c2)))) rfl rfl sh44 rfl rfl (.tmp (d := (.val (.bool (true)))) rfl .nil)), ?_⟩
  rfl
theorem l_plainV (tau : Nat) (l : List RInt) (zs : List Int) (hl : LOk 1000000 l zs) (hb : l.length ≤ 1000000) (hv : List.all l validI = false) : Takes Tryz.prog 80 [(.sl tau 2 (List.map encI l))] (.val (.bool (false))) := by
  refine fn_intro Tryz.func80 rfl cb80 rfl ?_
  show PWp _ _ _ _ ⟨[(0, (vl tau 2 encI l))], []⟩
  refine pwp_seq <| kx [] [] (zM <| zZ) ?_
  refine pwp_seq <| pwp_seq <| kx [(7, (vl tau 2 encI l)), (8, (vin l.length)), (9, (vin 0))] [] (zM <| zE (oLm el40) <| zM <| zZ) ?_
  refine pwp_block <| pwp_loop (α := Nat) (fun i => ⟨[(0, (vl tau 2 encI l)), (7, (vl tau 2 encI l)), (8, (vin l.length)), (9, (vin i))], []⟩) (fun i => i ≤ l.length ∧ (l.take i).all validI = true) (fun i => l.length - i) 0 wk ⟨Nat.zero_le _, by simp⟩ ?_
  rintro i ⟨hi, hal⟩
  refine pwp_seq <| kx [(10, (vb (decide (((i : Nat) : Int) < ((l.length : Nat) : Int)))))] [] (zE oLt <| zZ) ?_
  refine pwp_seq <| pwp_cond rfl (fun h1 => ?_) (fun h1 => ?_)
  · replace h1 := of_decide_eq_true h1
    refine pwp_skip <| pwp_seq <| pwp_block <| pwp_seq <| kx [(4, (.ref 0 0))] [(0, some (bx (encI (l.getD i (RInt.mk false [])))))] (zE (oXl el40 i (RInt.mk false [])) <| zE (oCa sh30) <| zN (oAl 0 ze30 zo30) <| zT (oSt sh30) <| zZ) ?_
    refine pwp_seq <| kx [(15, (vb (!(validI (l.getD i (RInt.mk false []))))))] [] (zR (oLa sh30) <| zE (oCl (r_valid (l.getD i (RInt.mk false [])) (Nat.le_trans (hl.get i).l (by decide)))) <| zE oNt <| zZ) ?_
    refine pwp_cond (b := !(validI (l.getD i (RInt.mk false [])))) rfl (fun h2 => ?_) (fun h2 => ?_)
    · refine pwp_seq <| kx [(2, (vb false))] [] (zM <| zZ) ?_
      refine pwp_ret ⟨_, (.tmp (d := (.val (.bool (false)))) rfl .nil), ?_⟩
      rfl
    · refine pwp_skip <| kx [(9, (vin (i + 1)))] [] (zE (oAd (i + 1)) <| zM <| zZ) ?_
      exact ⟨(i + 1), wk, ⟨by omega, all_take (d := ⟨false, []⟩) (by omega) hal (by simpa using h2)⟩, (by first | omega | (dsimp only; omega))⟩
  · replace h1 := of_decide_eq_false h1
    exfalso; have hie : i = l.length := (by omega); rw [hie, List.take_length, hv] at hal; cases hal
theorem l_plain0 (tau : Nat) (l : List RInt) (zs : List Int) (hl : LOk 1000000 l zs) (hb : l.length ≤ 1000000) (hv : List.all l validI = true) (hz : sgnL zs = 0) : Takes Tryz.prog 80 [(.sl tau 2 (List.map encI l))] (.val (.bool (false))) := by
  refine fn_intro Tryz.func80 rfl cb80 rfl ?_
  show PWp _ _ _ _ ⟨[(0, (vl tau 2 encI l))], []⟩
  refine pwp_seq <| kx [] [] (zM <| zZ) ?_
  refine pwp_seq <| pwp_seq <| kx [(7, (vl tau 2 encI l)), (8, (vin l.length)), (9, (vin 0))] [] (zM <| zE (oLm el40) <| zM <| zZ) ?_
  refine pwp_block <| pwp_loop (α := Nat) (fun i => ⟨[(0, (vl tau 2 encI l)), (7, (vl tau 2 encI l)), (8, (vin l.length)), (9, (vin i))], []⟩) (fun i => i ≤ l.length) (fun i => l.length - i) 0 wk (Nat.zero_le _) ?_
  rintro i hi
  refine pwp_seq <| kx [(10, (vb (decide (((i : Nat) : Int) < ((l.length : Nat) : Int)))))] [] (zE oLt <| zZ) ?_
  refine pwp_seq <| pwp_cond rfl (fun h1 => ?_) (fun h1 => ?_)
  · replace h1 := of_decide_eq_true h1
    refine pwp_skip <| pwp_seq <| pwp_block <| pwp_seq <| kx [(4, (.ref 0 0))] [(0, some (bx (encI (l.getD i (RInt.mk false [])))))] (zE (oXl el40 i (RInt.mk false [])) <| zE (oCa sh30) <| zN (oAl 0 ze30 zo30) <| zT (oSt sh30) <| zZ) ?_
    refine pwp_seq <| kx [(15, (vb false))] [] (zR (oLa sh30) <| zE (oBk true (oCl (r_valid (l.getD i (RInt.mk false [])) (Nat.le_trans (hl.get i).l (by decide)))) (by exact (all_getD hv (by omega)))) <| zE oNt <| zZ) ?_
    refine pwp_cond (b := false) (by kernel_rfl) (fun h => by cases h) (fun _ => ?_)
    refine pwp_skip <| kx [(9, (vin (i + 1)))] [] (zE (oAd (i + 1)) <| zM <| zZ) ?_
    exact ⟨(i + 1), wk, (by show i + 1 ≤ l.length; omega), (by first | omega | (dsimp only; omega))⟩
  · replace h1 := of_decide_eq_false h1
    refine pwp_exit <| pwp_seq <| kx [(5, (.d (.val (.slice none 0 0))))] [] (zM <| zE (oCl (l_redN tau l zs hl hb hz)) <| zM <| zZ) ?_
    refine pwp_seq <| pwp_seq <| kx [(20, (vb true))] [] (zM <| zE (oNu el40) <| zZ) ?_
    refine pwp_cond (b := true) (by kernel_rfl) (fun _ => ?_) (fun h => by cases h)
    refine pwp_seq <| kx [(2, (vb false))] [] (zM <| zZ) ?_
    refine pwp_ret ⟨_, (.tmp (d := (.val (.bool (false)))) rfl .nil), ?_⟩
    rfl
theorem l_plainT (tau : Nat) (l : List RInt) (zs : List Int) (hl : LOk 1000000 l zs) (hb : l.length ≤ 1000000) (hv : List.all l validI = true) (hnz : sgnL zs ≠ 0) (hd : dvL zs = 1) : Takes Tryz.prog 80 [(.sl tau 2 (List.map encI l))] (.val (.bool (true))) := by
  have hlen := hl.len
  have hpos := sgnL_pos hnz
  refine fn_intro Tryz.func80 rfl cb80 rfl ?_
  show PWp _ _ _ _ ⟨[(0, (vl tau 2 encI l))], []⟩
  refine pwp_seq <| kx [] [] (zM <| zZ) ?_
  refine pwp_seq <| pwp_seq <| kx [(7, (vl tau 2 encI l)), (8, (vin l.length)), (9, (vin 0))] [] (zM <| zE (oLm el40) <| zM <| zZ) ?_
  refine pwp_block <| pwp_loop (α := Nat) (fun i => ⟨[(0, (vl tau 2 encI l)), (7, (vl tau 2 encI l)), (8, (vin l.length)), (9, (vin i))], []⟩) (fun i => i ≤ l.length) (fun i => l.length - i) 0 wk (Nat.zero_le _) ?_
  rintro i hi
  refine pwp_seq <| kx [(10, (vb (decide (((i : Nat) : Int) < ((l.length : Nat) : Int)))))] [] (zE oLt <| zZ) ?_
  refine pwp_seq <| pwp_cond rfl (fun h1 => ?_) (fun h1 => ?_)
  · replace h1 := of_decide_eq_true h1
    refine pwp_skip <| pwp_seq <| pwp_block <| pwp_seq <| kx [(4, (.ref 0 0))] [(0, some (bx (encI (l.getD i (RInt.mk false [])))))] (zE (oXl el40 i (RInt.mk false [])) <| zE (oCa sh30) <| zN (oAl 0 ze30 zo30) <| zT (oSt sh30) <| zZ) ?_
    refine pwp_seq <| kx [(15, (vb false))] [] (zR (oLa sh30) <| zE (oBk true (oCl (r_valid (l.getD i (RInt.mk false [])) (Nat.le_trans (hl.get i).l (by decide)))) (by exact (all_getD hv (by omega)))) <| zE oNt <| zZ) ?_
    refine pwp_cond (b := false) (by kernel_rfl) (fun h => by cases h) (fun _ => ?_)
    refine pwp_skip <| kx [(9, (vin (i + 1)))] [] (zE (oAd (i + 1)) <| zM <| zZ) ?_
    exact ⟨(i + 1), wk, (by show i + 1 ≤ l.length; omega), (by first | omega | (dsimp only; omega))⟩
  · replace h1 := of_decide_eq_false h1
    refine pwp_exit <| pwp_seq <| kx [(5, (vl 30 2 encI (List.map ofZ (redL zs))))] [] (zM <| zE (oCl (l_red tau l zs hl hb hnz)) <| zM <| zZ) ?_
    refine pwp_seq <| pwp_seq <| kx [(20, (vb false))] [] (zM <| zE (oNf el40 (hl := by exact (by simp [redL]; omega))) <| zZ) ?_
    refine pwp_cond (b := false) (by kernel_rfl) (fun h => by cases h) (fun _ => ?_)
    refine pwp_skip <| pwp_seq <| pwp_seq <| kx [(22, (vin l.length)), (23, (vin 0))] [] (zM <| zE (oLm el40) <| zM <| zZ) ?_
    refine pwp_block <| pwp_loop (α := Nat) (fun i => ⟨[(0, (vl tau 2 encI l)), (5, (vl 30 2 encI (List.map ofZ (redL zs)))), (22, (vin l.length)), (23, (vin i))], []⟩) (fun i => i ≤ l.length) (fun i => l.length - i) 0 wk (Nat.zero_le _) ?_
    rintro i hi
    refine pwp_seq <| kx [(24, (vb (decide (((i : Nat) : Int) < ((l.length : Nat) : Int)))))] [] (zE oLt <| zZ) ?_
    refine pwp_seq <| pwp_cond rfl (fun h2 => ?_) (fun h2 => ?_)
    · replace h2 := of_decide_eq_true h2
      refine pwp_skip <| pwp_seq <| pwp_block <| pwp_seq <| kx [(6, (vin i))] [] (zM <| zM <| zZ) ?_
      refine pwp_seq <| kd [(35, (vb false))] [] mo (wM <| wM <| wE (oXl el40 i (RInt.mk false [])) <| wE (oCa sh30) <| wM <| wM <| wE (oXl el40 i (RInt.mk false []) (L := (List.map ofZ (redL zs))) (hj := by first | omega | (rw [List.length_map, redL_length]; omega)) (h1 := by first | omega | (rw [List.length_map, redL_length]; omega))) <| wE (oCa sh30) <| wE (oBk true (oCl (r_same (l.getD i (RInt.mk false [])) ((List.map ofZ (redL zs)).getD i (RInt.mk false [])) (Nat.le_trans (hl.get i).l (by decide)) (Nat.le_trans (redL_iok hl i).l (by decide)))) (by exact (plain_same hl hv hd (by omega)))) <| wE oNt <| wZ) ?_
      refine pwp_cond (b := false) (by kernel_rfl) (fun h => by cases h) (fun _ => ?_)
      refine pwp_skip <| kx [(23, (vin (i + 1)))] [] (zE (oAd (i + 1)) <| zM <| zZ) ?_
      exact ⟨(i + 1), wk, (by show i + 1 ≤ l.length; omega), (by first | omega | (dsimp only; omega))⟩
    · replace h2 := of_decide_eq_false h2
      refine pwp_exit <| pwp_seq <| kx [(2, (vb true))] [] (zM <| zZ) ?_
      refine pwp_ret ⟨_, (.tmp (d := (.val (.bool (true)))) rfl .nil), ?_⟩
      rfl
theorem l_plainF (tau : Nat) (l : List RInt) (zs : List Int) (hl : LOk 1000000 l zs) (hb : l.length ≤ 1000000) (hv : List.all l validI = true) (hnz : sgnL zs ≠ 0) (hd : dvL zs ≠ 1) : Takes Tryz.prog 80 [(.sl tau 2 (List.map encI l))] (.val (.bool (false))) := by
  have hlen := hl.len
  have hpos := sgnL_pos hnz
  refine fn_intro Tryz.func80 rfl cb80 rfl ?_
  show PWp _ _ _ _ ⟨[(0, (vl tau 2 encI l))], []⟩
  refine pwp_seq <| kx [] [] (zM <| zZ) ?_
  refine pwp_seq <| pwp_seq <| kx [(7, (vl tau 2 encI l)), (8, (vin l.length)), (9, (vin 0))] [] (zM <| zE (oLm el40) <| zM <| zZ) ?_
  refine pwp_block <| pwp_loop (α := Nat) (fun i => ⟨[(0, (vl tau 2 encI l)), (7, (vl tau 2 encI l)), (8, (vin l.length)), (9, (vin i))], []⟩) (fun i => i ≤ l.length) (fun i => l.length - i) 0 wk (Nat.zero_le _) ?_
  rintro i hi
  refine pwp_seq <| kx [(10, (vb (decide (((i : Nat) : Int) < ((l.length : Nat) : Int)))))] [] (zE oLt <| zZ) ?_
  refine pwp_seq <| pwp_cond rfl (fun h1 => ?_) (fun h1 => ?_)
  · replace h1 := of_decide_eq_true h1
    refine pwp_skip <| pwp_seq <| pwp_block <| pwp_seq <| kx [(4, (.ref 0 0))] [(0, some (bx (encI (l.getD i (RInt.mk false [])))))] (zE (oXl el40 i (RInt.mk false [])) <| zE (oCa sh30) <| zN (oAl 0 ze30 zo30) <| zT (oSt sh30) <| zZ) ?_
    refine pwp_seq <| kx [(15, (vb false))] [] (zR (oLa sh30) <| zE (oBk true (oCl (r_valid (l.getD i (RInt.mk false [])) (Nat.le_trans (hl.get i).l (by decide)))) (by exact (all_getD hv (by omega)))) <| zE oNt <| zZ) ?_
    refine pwp_cond (b := false) (by kernel_rfl) (fun h => by cases h) (fun _ => ?_)
    refine pwp_skip <| kx [(9, (vin (i + 1)))] [] (zE (oAd (i + 1)) <| zM <| zZ) ?_
    exact ⟨(i + 1), wk, (by show i + 1 ≤ l.length; omega), (by first | omega | (dsimp only; omega))⟩
  · replace h1 := of_decide_eq_false h1
    refine pwp_exit <| pwp_seq <| kx [(5, (vl 30 2 encI (List.map ofZ (redL zs))))] [] (zM <| zE (oCl (l_red tau l zs hl hb hnz)) <| zM <| zZ) ?_
    refine pwp_seq <| pwp_seq <| kx [(20, (vb false))] [] (zM <| zE (oNf el40 (hl := by exact (by simp [redL]; omega))) <| zZ) ?_
    refine pwp_cond (b := false) (by kernel_rfl) (fun h => by cases h) (fun _ => ?_)
    refine pwp_skip <| pwp_seq <| pwp_seq <| kx [(22, (vin l.length)), (23, (vin 0))] [] (zM <| zE (oLm el40) <| zM <| zZ) ?_
    refine pwp_block <| pwp_loop (α := Nat) (fun i => ⟨[(0, (vl tau 2 encI l)), (5, (vl 30 2 encI (List.map ofZ (redL zs)))), (22, (vin l.length)), (23, (vin i))], []⟩) (fun i => i ≤ l.length ∧ l.take i = (List.map ofZ (redL zs)).take i) (fun i => l.length - i) 0 wk ⟨Nat.zero_le _, by simp⟩ ?_
    rintro i ⟨hi, hal⟩
    refine pwp_seq <| kx [(24, (vb (decide (((i : Nat) : Int) < ((l.length : Nat) : Int)))))] [] (zE oLt <| zZ) ?_
    refine pwp_seq <| pwp_cond rfl (fun h2 => ?_) (fun h2 => ?_)
    · replace h2 := of_decide_eq_true h2
      refine pwp_skip <| pwp_seq <| pwp_block <| pwp_seq <| kx [(6, (vin i))] [] (zM <| zM <| zZ) ?_
      refine pwp_seq <| kd [(35, (vb (!(sameI (l.getD i (RInt.mk false [])) ((List.map ofZ (redL zs)).getD i (RInt.mk false []))))))] [] mo (wM <| wM <| wE (oXl el40 i (RInt.mk false [])) <| wE (oCa sh30) <| wM <| wM <| wE (oXl el40 i (RInt.mk false []) (L := (List.map ofZ (redL zs))) (hj := by first | omega | (rw [List.length_map, redL_length]; omega)) (h1 := by first | omega | (rw [List.length_map, redL_length]; omega))) <| wE (oCa sh30) <| wE (oCl (r_same (l.getD i (RInt.mk false [])) ((List.map ofZ (redL zs)).getD i (RInt.mk false [])) (Nat.le_trans (hl.get i).l (by decide)) (Nat.le_trans (redL_iok hl i).l (by decide)))) <| wE oNt <| wZ) ?_
      refine pwp_cond rfl (fun h3 => ?_) (fun h3 => ?_)
      · refine pwp_seq <| kx [(2, (vb false))] [] (zM <| zZ) ?_
        refine pwp_ret ⟨_, (.tmp (d := (.val (.bool (false)))) rfl .nil), ?_⟩
        rfl
      · refine pwp_skip <| kx [(23, (vin (i + 1)))] [] (zE (oAd (i + 1)) <| zM <| zZ) ?_
        exact ⟨(i + 1), wk, ⟨by omega, plain_step (by omega) (by rw [List.length_map, redL_length]; omega) hal (by simpa using h3)⟩, (by first | omega | (dsimp only; omega))⟩
    · replace h2 := of_decide_eq_false h2
      exfalso; have hie : i = l.length := (by omega); exact hd (plain_end hl hnz (by rw [hie] at hal; exact hal))
theorem l_plain (tau : Nat) (l : List RInt) (zs : List Int) (hl : LOk 1000000 l zs) (hb : l.length ≤ 1000000) : Takes Tryz.prog 80 [.sl tau 2 (List.map encI l)] (.val (.bool (redB l))) := by
  rcases hv : List.all l validI with _ | _
  · have h := l_plainV tau l zs hl hb hv
    rw [show redB l = false from by unfold redB; rw [hv]; rfl]; exact h
  by_cases hz : sgnL zs = 0
  · rw [show redB l = false from by rw [redB_eq hl hv, hz]; rfl]; exact l_plain0 tau l zs hl hb hv hz
  by_cases hd : dvL zs = 1
  · rw [show redB l = true from redB_yes hl hv hz hd]; exact l_plainT tau l zs hl hb hv hz hd
  · rw [show redB l = false from redB_no hl hd]; exact l_plainF tau l zs hl hb hv hz hd
theorem l_proper (p : A3 RInt) (p0 p1 p2 : Int) (hp0 : IOk p.a0 p0 1000000) (hp1 : IOk p.a1 p1 1000000) (hp2 : IOk p.a2 p2 1000000) : Takes Tryz.prog 24 [(encA43 p)] (.val (.bool ((redB [p.a0, p.a1, p.a2])))) := by
  refine fn_intro Tryz.func24 rfl cb24 rfl ?_
  show PWp _ _ _ _ ⟨[(0, (.d (encA43 p)))], []⟩
  refine pwp_seq <| kx [(1, (.ref 0 0))] [(0, some (bx (encA43 p)))] (zN (oBx 0) <| zM <| zZ) ?_
  refine pwp_seq <| kx [(2, (vb (redB [p.a0, p.a1, p.a2])))] [] (zE (e_slv (by exact rfl) ar44 (by exact rfl) (by kernel_rfl) (by kernel_rfl)) <| zR ⟨(bx (encA43 p)), e_clv (es := List.map encI [p.a0, p.a1, p.a2]) (l_plain 1000000 [p.a0, p.a1, p.a2] [p0, p1, p2] (.cons hp0 (.cons hp1 (.cons hp2 .nil))) (Nat.le_of_ble_eq_true rfl)) (by exact rfl) (by kernel_rfl) (by exact rfl) (.v .nil) (pubs_cells _ _ (fun _ => rfl)) (by kernel_rfl) (by kernel_rfl) (.val _), by kernel_rfl⟩ <| zM <| zZ) ?_
  refine pwp_ret ⟨_, (.tmp (d := (.val (.bool ((redB [p.a0, p.a1, p.a2]))))) rfl .nil), ?_⟩
  rfl
theorem l_valid (h : A9 RInt) (h0 h1 h2 h3 h4 h5 h6 h7 h8 : Int) (hh0 : IOk h.a0 h0 1000000) (hh1 : IOk h.a1 h1 1000000) (hh2 : IOk h.a2 h2 1000000) (hh3 : IOk h.a3 h3 1000000) (hh4 : IOk h.a4 h4 1000000) (hh5 : IOk h.a5 h5 1000000) (hh6 : IOk h.a6 h6 1000000) (hh7 : IOk h.a7 h7 1000000) (hh8 : IOk h.a8 h8 1000000) : Takes Tryz.prog 23 [(encA31 h)] (.val (.bool ((valH [h.a0, h.a1, h.a2, h.a3, h.a4, h.a5, h.a6, h.a7, h.a8] (det3 h0 h1 h2 h3 h4 h5 h6 h7 h8))))) := by
  refine fn_intro Tryz.func23 rfl cb23 rfl ?_
  show PWp _ _ _ _ ⟨[(0, (.d (encA31 h)))], []⟩
  refine pwp_seq <| kx [(1, (.ref 0 0))] [(0, some (bx (encA31 h)))] (zN (oBx 0) <| zM <| zZ) ?_
  refine pwp_seq ?_
  have bn1 : IOk (ofZ (det3 h0 h1 h2 h3 h4 h5 h6 h7 h8)) (det3 h0 h1 h2 h3 h4 h5 h6 h7 h8) 3000003 := (iok_det3 (n := 1000000) (k := 3000003) hh0 hh1 hh2 hh3 hh4 hh5 hh6 hh7 hh8 (by decide))
  refine kd [(2, (vb ((redB [h.a0, h.a1, h.a2, h.a3, h.a4, h.a5, h.a6, h.a7, h.a8]) && !(signI (det3 h0 h1 h2 h3 h4 h5 h6 h7 h8) == 0))))] [] mo ?_ ?_
  · refine wE (e_slv (by exact rfl) ar32 (by exact rfl) (by kernel_rfl) (by kernel_rfl)) <| wR ⟨(bx (encA31 h)), e_clv (es := List.map encI [h.a0, h.a1, h.a2, h.a3, h.a4, h.a5, h.a6, h.a7, h.a8]) (l_plain 1000000 [h.a0, h.a1, h.a2, h.a3, h.a4, h.a5, h.a6, h.a7, h.a8] [h0, h1, h2, h3, h4, h5, h6, h7, h8] (.cons hh0 (.cons hh1 (.cons hh2 (.cons hh3 (.cons hh4 (.cons hh5 (.cons hh6 (.cons hh7 (.cons hh8 .nil))))))))) (Nat.le_of_ble_eq_true rfl)) (by exact rfl) (by kernel_rfl) (by exact rfl) (.v .nil) (pubs_cells _ _ (fun _ => rfl)) (by kernel_rfl) (by kernel_rfl) (.val _), by kernel_rfl⟩ <| wE (oV (vb (redB [h.a0, h.a1, h.a2, h.a3, h.a4, h.a5, h.a6, h.a7, h.a8])) (mv_ok (by kernel_rfl))) <| ?_
    rcases hb1 : (redB [h.a0, h.a1, h.a2, h.a3, h.a4, h.a5, h.a6, h.a7, h.a8]) with _ | _
    · exact wK <| wK <| wK <| wK <| wK <| wK <| wK <| wK <| wK <| wE oPf <| wM <| wZ
    · exact wR (oLa sh32) <| wE (oCl (l_row0 h h0 h1 h2 h3 h4 h5 h6 h7 h8 (iu hh0) (iu hh1) (iu hh2) (iu hh3) (iu hh4) (iu hh5) (iu hh6) (iu hh7) (iu hh8))) <| wR (oLa sh32) <| wE (oCl (l_row1 h h0 h1 h2 h3 h4 h5 h6 h7 h8 (iu hh0) (iu hh1) (iu hh2) (iu hh3) (iu hh4) (iu hh5) (iu hh6) (iu hh7) (iu hh8))) <| wR (oLa sh32) <| wE (oCl (l_row2 h h0 h1 h2 h3 h4 h5 h6 h7 h8 (iu hh0) (iu hh1) (iu hh2) (iu hh3) (iu hh4) (iu hh5) (iu hh6) (iu hh7) (iu hh8))) <| wE (oCl (l_det (A3.mk h.a0 h.a1 h.a2) h0 h1 h2 hh0 hh1 hh2 (A3.mk h.a3 h.a4 h.a5) h3 h4 h5 hh3 hh4 hh5 (A3.mk h.a6 h.a7 h.a8) h6 h7 h8 hh6 hh7 hh8)) <| wE (oCl (l_zero (ofZ (det3 h0 h1 h2 h3 h4 h5 h6 h7 h8)) (det3 h0 h1 h2 h3 h4 h5 h6 h7 h8) (iu bn1))) <| wE oNt <| wE oPa <| wM <| wZ
  refine pwp_ret ⟨_, (.tmp (d := (.val (.bool (((redB [h.a0, h.a1, h.a2, h.a3, h.a4, h.a5, h.a6, h.a7, h.a8]) && !(signI (det3 h0 h1 h2 h3 h4 h5 h6 h7 h8) == 0)))))) rfl .nil), ?_⟩
  rfl
end Go.Proofs.YtadkkhdnccljcaaGreat
