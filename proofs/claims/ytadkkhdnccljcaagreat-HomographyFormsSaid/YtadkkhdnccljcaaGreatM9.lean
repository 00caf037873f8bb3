/- Part 9 of a proof: rules, plain facts, and functions walked. -/
import Derived.Test.YtadkkhdnccljcaaGreatM8
namespace Go.Proofs.YtadkkhdnccljcaaGreat
open Go.Fid
set_option maxRecDepth 4000
set_option linter.unusedVariables false
set_option linter.unusedSimpArgs false
theorem ar133 : arrB Tryz.prog 133 = some (3, 44, 6) := by kernel_rfl
theorem cb67 : callB Tryz.prog 67 = true := by kernel_rfl
theorem cb68 : callB Tryz.prog 68 = true := by kernel_rfl
theorem cb69 : callB Tryz.prog 69 = true := by kernel_rfl
theorem cb70 : callB Tryz.prog 70 = true := by kernel_rfl
theorem cb71 : callB Tryz.prog 71 = true := by kernel_rfl
theorem cb77 : callB Tryz.prog 77 = true := by kernel_rfl
theorem cb78 : callB Tryz.prog 78 = true := by kernel_rfl
theorem cb79 : callB Tryz.prog 79 = true := by kernel_rfl
theorem cb90 : callB Tryz.prog 90 = true := by kernel_rfl
theorem cb122 : callB Tryz.prog 122 = true := by kernel_rfl
theorem sh32 : shapeB Tryz.prog 32 = some (true, 18) := by kernel_rfl
theorem ze32 : zeroB Tryz.prog 32 = some [.bool false, .slice none 0 0, .bool false, .slice none 0 0, .bool false, .slice none 0 0, .bool false, .slice none 0 0, .bool false, .slice none 0 0, .bool false, .slice none 0 0, .bool false, .slice none 0 0, .bool false, .slice none 0 0, .bool false, .slice none 0 0] := by kernel_rfl
theorem ze133 : zeroB Tryz.prog 133 = some [.bool false, .slice none 0 0, .bool false, .slice none 0 0, .bool false, .slice none 0 0, .bool false, .slice none 0 0, .bool false, .slice none 0 0, .bool false, .slice none 0 0, .bool false, .slice none 0 0, .bool false, .slice none 0 0, .bool false, .slice none 0 0] := by kernel_rfl
theorem zo32 : ZOk [.bool false, .slice none 0 0, .bool false, .slice none 0 0, .bool false, .slice none 0 0, .bool false, .slice none 0 0, .bool false, .slice none 0 0, .bool false, .slice none 0 0, .bool false, .slice none 0 0, .bool false, .slice none 0 0, .bool false, .slice none 0 0] [.val (.bool false), .sl 138 1 [], .val (.bool false), .sl 138 1 [], .val (.bool false), .sl 138 1 [], .val (.bool false), .sl 138 1 [], .val (.bool false), .sl 138 1 [], .val (.bool false), .sl 138 1 [], .val (.bool false), .sl 138 1 [], .val (.bool false), .sl 138 1 [], .val (.bool false), .sl 138 1 []] := by simp [ZOk, Value.oneCell']
theorem zo133 : ZOk [.bool false, .slice none 0 0, .bool false, .slice none 0 0, .bool false, .slice none 0 0, .bool false, .slice none 0 0, .bool false, .slice none 0 0, .bool false, .slice none 0 0, .bool false, .slice none 0 0, .bool false, .slice none 0 0, .bool false, .slice none 0 0] [.val (.bool false), .sl 138 1 [], .val (.bool false), .sl 138 1 [], .val (.bool false), .sl 138 1 [], .val (.bool false), .sl 138 1 [], .val (.bool false), .sl 138 1 [], .val (.bool false), .sl 138 1 [], .val (.bool false), .sl 138 1 [], .val (.bool false), .sl 138 1 [], .val (.bool false), .sl 138 1 []] := by simp [ZOk, Value.oneCell']
theorem d_three (b q : Nat) : Takes Tryz.prog 79 [(.val (.pointer (some ⟨b, q, none⟩)))] (.val (.slice (some ⟨b, q, none⟩) 3 3)) := by
  refine fn_intro Tryz.func79 rfl cb79 rfl ?_
  show PWp _ _ _ _ ⟨[(0, (.d (.val (.pointer (some ⟨b, q, none⟩)))))], []⟩
  refine pwp_seq <| kx [] [] (zE (oNl 30 2) <| zZ) ?_
  refine pwp_seq <| kx [(2, (.d (.val (.slice (some ⟨b, q, none⟩) 3 3))))] [] (zM <| zE oNp <| zE (e_slp (by exact rfl) ar44 (by exact rfl) (by kernel_rfl)) <| zM <| zZ) ?_
  refine pwp_ret ⟨_, (.tmp (d := (.val (.slice (some ⟨b, q, none⟩) 3 3))) rfl .nil), ?_⟩
  rfl
theorem d_nine (b q : Nat) : Takes Tryz.prog 71 [(.val (.pointer (some ⟨b, q, none⟩)))] (.val (.slice (some ⟨b, q, none⟩) 9 9)) := by
  refine fn_intro Tryz.func71 rfl cb71 rfl ?_
  show PWp _ _ _ _ ⟨[(0, (.d (.val (.pointer (some ⟨b, q, none⟩)))))], []⟩
  refine pwp_seq <| kx [] [] (zE (oNl 30 2) <| zZ) ?_
  refine pwp_seq <| kx [(2, (.d (.val (.slice (some ⟨b, q, none⟩) 9 9))))] [] (zM <| zE oNp <| zE (e_slp (by exact rfl) ar32 (by exact rfl) (by kernel_rfl)) <| zM <| zZ) ?_
  refine pwp_ret ⟨_, (.tmp (d := (.val (.slice (some ⟨b, q, none⟩) 9 9))) rfl .nil), ?_⟩
  rfl
theorem d_det (p : A3 RInt) (p0 p1 p2 : Int) (hp0 : IOk p.a0 p0 1000000) (hp1 : IOk p.a1 p1 1000000) (hp2 : IOk p.a2 p2 1000000) (q : A3 RInt) (q0 q1 q2 : Int) (hq0 : IOk q.a0 q0 1000000) (hq1 : IOk q.a1 q1 1000000) (hq2 : IOk q.a2 q2 1000000) (r : A3 RInt) (r0 r1 r2 : Int) (hr0 : IOk r.a0 r0 1000000) (hr1 : IOk r.a1 r1 1000000) (hr2 : IOk r.a2 r2 1000000) : Takes Tryz.prog 90 [(encA43 p), (encA43 q), (encA43 r)] (encI (ofZ (det3 p0 p1 p2 q0 q1 q2 r0 r1 r2))) := by
  refine fn_intro Tryz.func90 rfl cb90 rfl ?_
  show PWp _ _ _ _ ⟨[(0, (.d (encA43 p))), (1, (.d (encA43 q))), (2, (.d (encA43 r)))], []⟩
  refine pwp_seq <| kx [(3, (.ref 0 0)), (4, (.ref 1 0)), (5, (.ref 2 0)), (6, (.ref 3 0))] [(0, some (bx (encA43 p))), (1, some (bx (encA43 q))), (2, some (bx (encA43 r))), (3, some (bx (encI (RInt.mk false []))))] (zN (oBx 0) <| zN (oBx 1) <| zN (oBx 2) <| zN (oAl 3 ze30 zo30) <| zZ) ?_
  refine pwp_seq ?_
  have bn1 : IOk (ofZ ((p1 * q2) - (p2 * q1))) ((p1 * q2) - (p2 * q1)) 2000001 := (iok_sub (k := 2000001) (iok_mul (k := 2000000) hp1 hq2 (by decide)) (iok_mul (k := 2000000) hp2 hq1 (by decide)) (by decide))
  have bn2 : IOk (ofZ ((p2 * q0) - (p0 * q2))) ((p2 * q0) - (p0 * q2)) 2000001 := (iok_sub (k := 2000001) (iok_mul (k := 2000000) hp2 hq0 (by decide)) (iok_mul (k := 2000000) hp0 hq2 (by decide)) (by decide))
  have bn3 : IOk (ofZ ((p0 * q1) - (p1 * q0))) ((p0 * q1) - (p1 * q0)) 2000001 := (iok_sub (k := 2000001) (iok_mul (k := 2000000) hp0 hq1 (by decide)) (iok_mul (k := 2000000) hp1 hq0 (by decide)) (by decide))
  have bn4 : IOk (ofZ (((((p1 * q2) - (p2 * q1)) * r0) + (((p2 * q0) - (p0 * q2)) * r1)) + (((p0 * q1) - (p1 * q0)) * r2))) (((((p1 * q2) - (p2 * q1)) * r0) + (((p2 * q0) - (p0 * q2)) * r1)) + (((p0 * q1) - (p1 * q0)) * r2)) 3000003 := (iok_add (k := 3000003) (iok_add (k := 3000002) (iok_mul (k := 3000001) bn1 hr0 (by decide)) (iok_mul (k := 3000001) bn2 hr1 (by decide)) (by decide)) (iok_mul (k := 3000001) bn3 hr2 (by decide)) (by decide))
  refine kd [] [(3, some (bx (encI (ofZ (((((p1 * q2) - (p2 * q1)) * r0) + (((p2 * q0) - (p0 * q2)) * r1)) + (((p0 * q1) - (p1 * q0)) * r2))))))] mo (wR (oLa sh44) <| wR (oLa sh44) <| wE (oCl (d_cross p p0 p1 p2 (iu hp0) (iu hp1) (iu hp2) q q0 q1 q2 (iu hq0) (iu hq1) (iu hq2))) <| wR (oLa sh44) <| wE (oCl (d_dot (A3.mk (ofZ ((p1 * q2) - (p2 * q1))) (ofZ ((p2 * q0) - (p0 * q2))) (ofZ ((p0 * q1) - (p1 * q0)))) ((p1 * q2) - (p2 * q1)) ((p2 * q0) - (p0 * q2)) ((p0 * q1) - (p1 * q0)) (iu bn1) (iu bn2) (iu bn3) r r0 r1 r2 (iu hr0) (iu hr1) (iu hr2))) <| wT (oSt sh30) <| wZ) ?_
  refine pwp_ret ⟨_, (res_a (cs := (bx (encI (ofZ (((((p1 * q2) - (p2 * q1)) * r0) + (((p2 * q0) - (p0 * q2)) * r1)) + (((p0 * q1) - (p1 * q0)) * r2)))))) (d := (encI (ofZ (((((p1 * q2) - (p2 * q1)) * r0) + (((p2 * q0) - (p0 * q2)) * r1)) + (((p0 * q1) - (p1 * q0)) * r2))))) rfl rfl sh30 rfl rfl .nil), ?_⟩
  rw [det3_cr]; rfl
theorem d_rows (p : A3 RInt) (p0 p1 p2 : Int) (hp0 : IOk p.a0 p0 1000000000) (hp1 : IOk p.a1 p1 1000000000) (hp2 : IOk p.a2 p2 1000000000) (q : A3 RInt) (q0 q1 q2 : Int) (hq0 : IOk q.a0 q0 1000000000) (hq1 : IOk q.a1 q1 1000000000) (hq2 : IOk q.a2 q2 1000000000) (r : A3 RInt) (r0 r1 r2 : Int) (hr0 : IOk r.a0 r0 1000000000) (hr1 : IOk r.a1 r1 1000000000) (hr2 : IOk r.a2 r2 1000000000) : Takes Tryz.prog 122 [(encA43 p), (encA43 q), (encA43 r)] (encA31 (A9.mk p.a0 p.a1 p.a2 q.a0 q.a1 q.a2 r.a0 r.a1 r.a2)) := by
  refine fn_intro Tryz.func122 rfl cb122 rfl ?_
  show PWp _ _ _ _ ⟨[(0, (.d (encA43 p))), (1, (.d (encA43 q))), (2, (.d (encA43 r)))], []⟩
  refine pwp_seq <| kx [(3, (.ref 0 0)), (4, (.ref 1 0)), (5, (.ref 2 0)), (6, (.ref 3 0))] [(0, some (bx (encA43 p))), (1, some (bx (encA43 q))), (2, some (bx (encA43 r))), (3, some (bx (encA31 (A9.mk (RInt.mk false []) (RInt.mk false []) (RInt.mk false []) (RInt.mk false []) (RInt.mk false []) (RInt.mk false []) (RInt.mk false []) (RInt.mk false []) (RInt.mk false [])))))] (zN (oBx 0) <| zN (oBx 1) <| zN (oBx 2) <| zN (oAl 3 ze32 zo32) <| zZ) ?_
  refine pwp_seq <| kx [] [(3, some (bx (encA31 (A9.mk p.a0 p.a1 p.a2 q.a0 q.a1 q.a2 r.a0 r.a1 r.a2))))] (zE (oXr ar44 0) <| zR (oLa sh30) <| zE (oXr ar44 1) <| zR (oLa sh30) <| zE (oXr ar44 2) <| zR (oLa sh30) <| zE (oXr ar44 0) <| zR (oLa sh30) <| zE (oXr ar44 1) <| zR (oLa sh30) <| zE (oXr ar44 2) <| zR (oLa sh30) <| zE (oXr ar44 0) <| zR (oLa sh30) <| zE (oXr ar44 1) <| zR (oLa sh30) <| zE (oXr ar44 2) <| zR (oLa sh30) <| zE (oBf ar32 ze32 zo32) <| zT (oSt sh32) <| zZ) ?_
  refine pwp_ret ⟨_, (res_a (cs := (bx (encA31 (A9.mk p.a0 p.a1 p.a2 q.a0 q.a1 q.a2 r.a0 r.a1 r.a2)))) (d := (encA31 (A9.mk p.a0 p.a1 p.a2 q.a0 q.a1 q.a2 r.a0 r.a1 r.a2))) rfl rfl sh32 rfl rfl .nil), ?_⟩
  rfl
theorem d_transp (h : A9 RInt) (h0 h1 h2 h3 h4 h5 h6 h7 h8 : Int) (hh0 : IOk h.a0 h0 1000000000) (hh1 : IOk h.a1 h1 1000000000) (hh2 : IOk h.a2 h2 1000000000) (hh3 : IOk h.a3 h3 1000000000) (hh4 : IOk h.a4 h4 1000000000) (hh5 : IOk h.a5 h5 1000000000) (hh6 : IOk h.a6 h6 1000000000) (hh7 : IOk h.a7 h7 1000000000) (hh8 : IOk h.a8 h8 1000000000) : Takes Tryz.prog 69 [(encA31 h)] (encA31 (A9.mk h.a0 h.a3 h.a6 h.a1 h.a4 h.a7 h.a2 h.a5 h.a8)) := by
  refine fn_intro Tryz.func69 rfl cb69 rfl ?_
  show PWp _ _ _ _ ⟨[(0, (.d (encA31 h)))], []⟩
  refine pwp_seq <| kx [(1, (.ref 0 0)), (2, (.ref 1 0))] [(0, some (bx (encA31 h))), (1, some (bx (encA31 (A9.mk (RInt.mk false []) (RInt.mk false []) (RInt.mk false []) (RInt.mk false []) (RInt.mk false []) (RInt.mk false []) (RInt.mk false []) (RInt.mk false []) (RInt.mk false [])))))] (zN (oBx 0) <| zN (oAl 1 ze32 zo32) <| zZ) ?_
  refine pwp_seq <| kd [] [(1, some (bx (encA31 (A9.mk h.a0 h.a3 h.a6 h.a1 h.a4 h.a7 h.a2 h.a5 h.a8))))] mo (wR (oLa sh32) <| wE (oCl (d_col0 h h0 h1 h2 h3 h4 h5 h6 h7 h8 hh0 hh1 hh2 hh3 hh4 hh5 hh6 hh7 hh8)) <| wR (oLa sh32) <| wE (oCl (d_col1 h h0 h1 h2 h3 h4 h5 h6 h7 h8 hh0 hh1 hh2 hh3 hh4 hh5 hh6 hh7 hh8)) <| wR (oLa sh32) <| wE (oCl (d_col2 h h0 h1 h2 h3 h4 h5 h6 h7 h8 hh0 hh1 hh2 hh3 hh4 hh5 hh6 hh7 hh8)) <| wE (oCl (d_rows (A3.mk h.a0 h.a3 h.a6) h0 h3 h6 hh0 hh3 hh6 (A3.mk h.a1 h.a4 h.a7) h1 h4 h7 hh1 hh4 hh7 (A3.mk h.a2 h.a5 h.a8) h2 h5 h8 hh2 hh5 hh8)) <| wT (oSt sh32) <| wZ) ?_
  refine pwp_ret ⟨_, (res_a (cs := (bx (encA31 (A9.mk h.a0 h.a3 h.a6 h.a1 h.a4 h.a7 h.a2 h.a5 h.a8)))) (d := (encA31 (A9.mk h.a0 h.a3 h.a6 h.a1 h.a4 h.a7 h.a2 h.a5 h.a8))) rfl rfl sh32 rfl rfl .nil), ?_⟩
  rfl
theorem d_times (h : A9 RInt) (h0 h1 h2 h3 h4 h5 h6 h7 h8 : Int) (hh0 : IOk h.a0 h0 1000000) (hh1 : IOk h.a1 h1 1000000) (hh2 : IOk h.a2 h2 1000000) (hh3 : IOk h.a3 h3 1000000) (hh4 : IOk h.a4 h4 1000000) (hh5 : IOk h.a5 h5 1000000) (hh6 : IOk h.a6 h6 1000000) (hh7 : IOk h.a7 h7 1000000) (hh8 : IOk h.a8 h8 1000000) (p : A3 RInt) (p0 p1 p2 : Int) (hp0 : IOk p.a0 p0 1000000) (hp1 : IOk p.a1 p1 1000000) (hp2 : IOk p.a2 p2 1000000) : Takes Tryz.prog 78 [(encA31 h), (encA43 p)] (encA43 (A3.mk (ofZ (((h0 * p0) + (h1 * p1)) + (h2 * p2))) (ofZ (((h3 * p0) + (h4 * p1)) + (h5 * p2))) (ofZ (((h6 * p0) + (h7 * p1)) + (h8 * p2))))) := by
  refine fn_intro Tryz.func78 rfl cb78 rfl ?_
  show PWp _ _ _ _ ⟨[(0, (.d (encA31 h))), (1, (.d (encA43 p)))], []⟩
  refine pwp_seq <| kx [(2, (.ref 0 0)), (3, (.ref 1 0)), (4, (.ref 2 0))] [(0, some (bx (encA31 h))), (1, some (bx (encA43 p))), (2, some (bx (encA43 (A3.mk (RInt.mk false []) (RInt.mk false []) (RInt.mk false [])))))] (zN (oBx 0) <| zN (oBx 1) <| zN (oAl 2 ze44 zo44) <| zZ) ?_
  refine pwp_seq <| kd [] [(2, some (bx (encA43 (A3.mk (ofZ (((h0 * p0) + (h1 * p1)) + (h2 * p2))) (ofZ (((h3 * p0) + (h4 * p1)) + (h5 * p2))) (ofZ (((h6 * p0) + (h7 * p1)) + (h8 * p2)))))))] mo (wR (oLa sh32) <| wE (oCl (d_row0 h h0 h1 h2 h3 h4 h5 h6 h7 h8 (iu hh0) (iu hh1) (iu hh2) (iu hh3) (iu hh4) (iu hh5) (iu hh6) (iu hh7) (iu hh8))) <| wR (oLa sh44) <| wE (oCl (d_dot (A3.mk h.a0 h.a1 h.a2) h0 h1 h2 (iu hh0) (iu hh1) (iu hh2) p p0 p1 p2 (iu hp0) (iu hp1) (iu hp2))) <| wR (oLa sh32) <| wE (oCl (d_row1 h h0 h1 h2 h3 h4 h5 h6 h7 h8 (iu hh0) (iu hh1) (iu hh2) (iu hh3) (iu hh4) (iu hh5) (iu hh6) (iu hh7) (iu hh8))) <| wR (oLa sh44) <| wE (oCl (d_dot (A3.mk h.a3 h.a4 h.a5) h3 h4 h5 (iu hh3) (iu hh4) (iu hh5) p p0 p1 p2 (iu hp0) (iu hp1) (iu hp2))) <| wR (oLa sh32) <| wE (oCl (d_row2 h h0 h1 h2 h3 h4 h5 h6 h7 h8 (iu hh0) (iu hh1) (iu hh2) (iu hh3) (iu hh4) (iu hh5) (iu hh6) (iu hh7) (iu hh8))) <| wR (oLa sh44) <| wE (oCl (d_dot (A3.mk h.a6 h.a7 h.a8) h6 h7 h8 (iu hh6) (iu hh7) (iu hh8) p p0 p1 p2 (iu hp0) (iu hp1) (iu hp2))) <| wE (oBf ar44 ze44 zo44) <| wT (oSt sh44) <| wZ) ?_
  refine pwp_ret ⟨_, (res_a (cs := (bx (encA43 (A3.mk (ofZ (((h0 * p0) + (h1 * p1)) + (h2 * p2))) (ofZ (((h3 * p0) + (h4 * p1)) + (h5 * p2))) (ofZ (((h6 * p0) + (h7 * p1)) + (h8 * p2))))))) (d := (encA43 (A3.mk (ofZ (((h0 * p0) + (h1 * p1)) + (h2 * p2))) (ofZ (((h3 * p0) + (h4 * p1)) + (h5 * p2))) (ofZ (((h6 * p0) + (h7 * p1)) + (h8 * p2)))))) rfl rfl sh44 rfl rfl .nil), ?_⟩
  rfl
theorem d_product (g : A9 RInt) (g0 g1 g2 g3 g4 g5 g6 g7 g8 : Int) (hg0 : IOk g.a0 g0 1000000) (hg1 : IOk g.a1 g1 1000000) (hg2 : IOk g.a2 g2 1000000) (hg3 : IOk g.a3 g3 1000000) (hg4 : IOk g.a4 g4 1000000) (hg5 : IOk g.a5 g5 1000000) (hg6 : IOk g.a6 g6 1000000) (hg7 : IOk g.a7 g7 1000000) (hg8 : IOk g.a8 g8 1000000) (h : A9 RInt) (h0 h1 h2 h3 h4 h5 h6 h7 h8 : Int) (hh0 : IOk h.a0 h0 1000000) (hh1 : IOk h.a1 h1 1000000) (hh2 : IOk h.a2 h2 1000000) (hh3 : IOk h.a3 h3 1000000) (hh4 : IOk h.a4 h4 1000000) (hh5 : IOk h.a5 h5 1000000) (hh6 : IOk h.a6 h6 1000000) (hh7 : IOk h.a7 h7 1000000) (hh8 : IOk h.a8 h8 1000000) : Takes Tryz.prog 68 [(encA31 g), (encA31 h)] (encA31 (A9.mk (ofZ (((g0 * h0) + (g1 * h3)) + (g2 * h6))) (ofZ (((g0 * h1) + (g1 * h4)) + (g2 * h7))) (ofZ (((g0 * h2) + (g1 * h5)) + (g2 * h8))) (ofZ (((g3 * h0) + (g4 * h3)) + (g5 * h6))) (ofZ (((g3 * h1) + (g4 * h4)) + (g5 * h7))) (ofZ (((g3 * h2) + (g4 * h5)) + (g5 * h8))) (ofZ (((g6 * h0) + (g7 * h3)) + (g8 * h6))) (ofZ (((g6 * h1) + (g7 * h4)) + (g8 * h7))) (ofZ (((g6 * h2) + (g7 * h5)) + (g8 * h8))))) := by
  let y6 := (A9.mk g.a0 g.a3 g.a6 g.a1 g.a4 g.a7 g.a2 g.a5 g.a8)
  let y5 := (A3.mk (RInt.mk false []) (RInt.mk false []) (RInt.mk false []))
  let y4 := (A3.mk (ofZ (((h0 * g3) + (h3 * g4)) + (h6 * g5))) (ofZ (((h1 * g3) + (h4 * g4)) + (h7 * g5))) (ofZ (((h2 * g3) + (h5 * g4)) + (h8 * g5))))
  let y3 := (A3.mk (ofZ (((h0 * g0) + (h3 * g1)) + (h6 * g2))) (ofZ (((h1 * g0) + (h4 * g1)) + (h7 * g2))) (ofZ (((h2 * g0) + (h5 * g1)) + (h8 * g2))))
  let y2 := (bx (encA31 (A9.mk (RInt.mk false []) (RInt.mk false []) (RInt.mk false []) (RInt.mk false []) (RInt.mk false []) (RInt.mk false []) (RInt.mk false []) (RInt.mk false []) (RInt.mk false []))))
  let y1 := (bx (encA133 (A3.mk y3 y4 y5)))
  refine fn_intro Tryz.func68 rfl cb68 rfl ?_
  show PWp _ _ _ _ ⟨[(0, (.d (encA31 g))), (1, (.d (encA31 h)))], []⟩
  refine pwp_seq <| kx [(2, (.ref 0 0)), (3, (.ref 1 0)), (4, (.ref 2 0))] [(0, some (bx (encA31 g))), (1, some (bx (encA31 h))), (2, some y2)] (zN (oBx 0) <| zN (oBx 1) <| zN (oAl 2 ze32 zo32) <| zZ) ?_
  refine pwp_seq <| kx [(5, (.ref 3 0))] [(3, some (bx (encA31 y6)))] (zR (oLa sh32) <| zE (oCl (d_transp g g0 g1 g2 g3 g4 g5 g6 g7 g8 (iu hg0) (iu hg1) (iu hg2) (iu hg3) (iu hg4) (iu hg5) (iu hg6) (iu hg7) (iu hg8))) <| zN (oAl 3 ze32 zo32) <| zT (oSt sh32) <| zZ) ?_
  refine pwp_seq <| kx [(6, (.ref 4 0))] [(4, some (bx (encA133 (A3.mk y5 y5 y5))))] (zN (oAl 4 ze133 zo133) <| zZ) ?_
  refine pwp_seq <| pwp_seq <| kx [(10, (vin 0))] [] (zM <| zZ) ?_
  refine pwp_block <| pwp_rounds 20 ?_
  refine pwp_round <| pwp_seq <| kx [(11, (vb true))] [] (zE (oBk true oLt) <| zZ) ?_
  refine pwp_seq <| pwp_cond (b := true) (by kernel_rfl) (fun _ => ?_) (fun h => by cases h)
  refine pwp_skip <| pwp_seq <| pwp_block <| pwp_seq <| kx [(7, (vin 0))] [] (zM <| zM <| zZ) ?_
  have bn1 : IOk (ofZ (((h0 * g0) + (h3 * g1)) + (h6 * g2))) (((h0 * g0) + (h3 * g1)) + (h6 * g2)) 2000002 := (iok_add (k := 2000002) (iok_add (k := 2000001) (iok_mul (k := 2000000) hh0 hg0 (by decide)) (iok_mul (k := 2000000) hh3 hg1 (by decide)) (by decide)) (iok_mul (k := 2000000) hh6 hg2 (by decide)) (by decide))
  have bn2 : IOk (ofZ (((h1 * g0) + (h4 * g1)) + (h7 * g2))) (((h1 * g0) + (h4 * g1)) + (h7 * g2)) 2000002 := (iok_add (k := 2000002) (iok_add (k := 2000001) (iok_mul (k := 2000000) hh1 hg0 (by decide)) (iok_mul (k := 2000000) hh4 hg1 (by decide)) (by decide)) (iok_mul (k := 2000000) hh7 hg2 (by decide)) (by decide))
  have bn3 : IOk (ofZ (((h2 * g0) + (h5 * g1)) + (h8 * g2))) (((h2 * g0) + (h5 * g1)) + (h8 * g2)) 2000002 := (iok_add (k := 2000002) (iok_add (k := 2000001) (iok_mul (k := 2000000) hh2 hg0 (by decide)) (iok_mul (k := 2000000) hh5 hg1 (by decide)) (by decide)) (iok_mul (k := 2000000) hh8 hg2 (by decide)) (by decide))
  refine kd [] [(4, some (bx (encA133 (A3.mk y3 y5 y5))))] mo (wM <| wR (oLa sh32) <| wE (oCl (d_transp h h0 h1 h2 h3 h4 h5 h6 h7 h8 (iu hh0) (iu hh1) (iu hh2) (iu hh3) (iu hh4) (iu hh5) (iu hh6) (iu hh7) (iu hh8))) <| wR (oLa sh32) <| wM <| wE (oCl (d_col0 y6 g0 g3 g6 g1 g4 g7 g2 g5 g8 (iu hg0) (iu hg3) (iu hg6) (iu hg1) (iu hg4) (iu hg7) (iu hg2) (iu hg5) (iu hg8))) <| wE (oCl (d_times (A9.mk h.a0 h.a3 h.a6 h.a1 h.a4 h.a7 h.a2 h.a5 h.a8) h0 h3 h6 h1 h4 h7 h2 h5 h8 hh0 hh3 hh6 hh1 hh4 hh7 hh2 hh5 hh8 (A3.mk g.a0 g.a1 g.a2) g0 g1 g2 hg0 hg1 hg2)) <| wE (oXr ar133 0) <| wT (oSt sh44) <| wZ) ?_
  refine kx [(10, (vin 1))] [] (zE (oAd 1 (hr := by decide)) <| zM <| zZ) ?_
  refine pwp_again (SimImp.refl _) ?_
  refine pwp_seq <| kx [(11, (vb true))] [] (zE (oBk true oLt) <| zZ) ?_
  refine pwp_seq <| pwp_cond (b := true) (by kernel_rfl) (fun _ => ?_) (fun h => by cases h)
  refine pwp_skip <| pwp_seq <| pwp_block <| pwp_seq <| kx [(7, (vin 1))] [] (zM <| zM <| zZ) ?_
  have bn4 : IOk (ofZ (((h0 * g3) + (h3 * g4)) + (h6 * g5))) (((h0 * g3) + (h3 * g4)) + (h6 * g5)) 2000002 := (iok_add (k := 2000002) (iok_add (k := 2000001) (iok_mul (k := 2000000) hh0 hg3 (by decide)) (iok_mul (k := 2000000) hh3 hg4 (by decide)) (by decide)) (iok_mul (k := 2000000) hh6 hg5 (by decide)) (by decide))
  have bn5 : IOk (ofZ (((h1 * g3) + (h4 * g4)) + (h7 * g5))) (((h1 * g3) + (h4 * g4)) + (h7 * g5)) 2000002 := (iok_add (k := 2000002) (iok_add (k := 2000001) (iok_mul (k := 2000000) hh1 hg3 (by decide)) (iok_mul (k := 2000000) hh4 hg4 (by decide)) (by decide)) (iok_mul (k := 2000000) hh7 hg5 (by decide)) (by decide))
  have bn6 : IOk (ofZ (((h2 * g3) + (h5 * g4)) + (h8 * g5))) (((h2 * g3) + (h5 * g4)) + (h8 * g5)) 2000002 := (iok_add (k := 2000002) (iok_add (k := 2000001) (iok_mul (k := 2000000) hh2 hg3 (by decide)) (iok_mul (k := 2000000) hh5 hg4 (by decide)) (by decide)) (iok_mul (k := 2000000) hh8 hg5 (by decide)) (by decide))
  refine kd [] [(4, some y1)] mo (wM <| wR (oLa sh32) <| wE (oCl (d_transp h h0 h1 h2 h3 h4 h5 h6 h7 h8 (iu hh0) (iu hh1) (iu hh2) (iu hh3) (iu hh4) (iu hh5) (iu hh6) (iu hh7) (iu hh8))) <| wR (oLa sh32) <| wM <| wE (oCl (d_col1 y6 g0 g3 g6 g1 g4 g7 g2 g5 g8 (iu hg0) (iu hg3) (iu hg6) (iu hg1) (iu hg4) (iu hg7) (iu hg2) (iu hg5) (iu hg8))) <| wE (oCl (d_times (A9.mk h.a0 h.a3 h.a6 h.a1 h.a4 h.a7 h.a2 h.a5 h.a8) h0 h3 h6 h1 h4 h7 h2 h5 h8 hh0 hh3 hh6 hh1 hh4 hh7 hh2 hh5 hh8 (A3.mk g.a3 g.a4 g.a5) g3 g4 g5 hg3 hg4 hg5)) <| wE (oXr ar133 1) <| wT (oSt sh44) <| wZ) ?_
  refine kx [(10, (vin 2))] [] (zE (oAd 2 (hr := by decide)) <| zM <| zZ) ?_
  refine pwp_again (SimImp.refl _) ?_
  refine pwp_seq <| kx [(11, (vb true))] [] (zE (oBk true oLt) <| zZ) ?_
  refine pwp_seq <| pwp_cond (b := true) (by kernel_rfl) (fun _ => ?_) (fun h => by cases h)
  refine pwp_skip <| pwp_seq <| pwp_block <| pwp_seq <| kx [(7, (vin 2))] [] (zM <| zM <| zZ) ?_
  refine pwp_sim (wk (l := [(3, (.ref 1 0)), (4, (.ref 2 0)), (5, (.ref 3 0)), (6, (.ref 4 0)), (7, (vin 2)), (10, (vin 2))]) (b := [(1, some (bx (encA31 h))), (2, some y2), (3, some (bx (encA31 y6))), (4, some y1)])) ?_
  have bn7 : IOk (ofZ (((h0 * g6) + (h3 * g7)) + (h6 * g8))) (((h0 * g6) + (h3 * g7)) + (h6 * g8)) 2000002 := (iok_add (k := 2000002) (iok_add (k := 2000001) (iok_mul (k := 2000000) hh0 hg6 (by decide)) (iok_mul (k := 2000000) hh3 hg7 (by decide)) (by decide)) (iok_mul (k := 2000000) hh6 hg8 (by decide)) (by decide))
  have bn8 : IOk (ofZ (((h1 * g6) + (h4 * g7)) + (h7 * g8))) (((h1 * g6) + (h4 * g7)) + (h7 * g8)) 2000002 := (iok_add (k := 2000002) (iok_add (k := 2000001) (iok_mul (k := 2000000) hh1 hg6 (by decide)) (iok_mul (k := 2000000) hh4 hg7 (by decide)) (by decide)) (iok_mul (k := 2000000) hh7 hg8 (by decide)) (by decide))
  have bn9 : IOk (ofZ (((h2 * g6) + (h5 * g7)) + (h8 * g8))) (((h2 * g6) + (h5 * g7)) + (h8 * g8)) 2000002 := (iok_add (k := 2000002) (iok_add (k := 2000001) (iok_mul (k := 2000000) hh2 hg6 (by decide)) (iok_mul (k := 2000000) hh5 hg7 (by decide)) (by decide)) (iok_mul (k := 2000000) hh8 hg8 (by decide)) (by decide))
  refine kd [] [(4, some (bx (encA133 (A3.mk y3 y4 (A3.mk (ofZ (((h0 * g6) + (h3 * g7)) + (h6 * g8))) (ofZ (((h1 * g6) + (h4 * g7)) + (h7 * g8))) (ofZ (((h2 * g6) + (h5 * g7)) + (h8 * g8))))))))] mo (wM <| wR (oLa sh32) <| wE (oCl (d_transp h h0 h1 h2 h3 h4 h5 h6 h7 h8 (iu hh0) (iu hh1) (iu hh2) (iu hh3) (iu hh4) (iu hh5) (iu hh6) (iu hh7) (iu hh8))) <| wR (oLa sh32) <| wM <| wE (oCl (d_col2 y6 g0 g3 g6 g1 g4 g7 g2 g5 g8 (iu hg0) (iu hg3) (iu hg6) (iu hg1) (iu hg4) (iu hg7) (iu hg2) (iu hg5) (iu hg8))) <| wE (oCl (d_times (A9.mk h.a0 h.a3 h.a6 h.a1 h.a4 h.a7 h.a2 h.a5 h.a8) h0 h3 h6 h1 h4 h7 h2 h5 h8 hh0 hh3 hh6 hh1 hh4 hh7 hh2 hh5 hh8 (A3.mk g.a6 g.a7 g.a8) g6 g7 g8 hg6 hg7 hg8)) <| wE (oXr ar133 2) <| wT (oSt sh44) <| wZ) ?_
  refine kx [(10, (vin 3))] [] (zE (oAd 3 (hr := by decide)) <| zM <| zZ) ?_
  refine pwp_again (SimImp.refl _) ?_
  refine pwp_seq <| kx [(11, (vb false))] [] (zE (oBk false oLt) <| zZ) ?_
  refine pwp_seq <| pwp_cond (b := false) (by kernel_rfl) (fun h => by cases h) (fun _ => ?_)
  refine pwp_exit <| pwp_seq <| kx [] [(2, some (bx (encA31 (A9.mk (ofZ (((h0 * g0) + (h3 * g1)) + (h6 * g2))) (ofZ (((h1 * g0) + (h4 * g1)) + (h7 * g2))) (ofZ (((h2 * g0) + (h5 * g1)) + (h8 * g2))) (ofZ (((h0 * g3) + (h3 * g4)) + (h6 * g5))) (ofZ (((h1 * g3) + (h4 * g4)) + (h7 * g5))) (ofZ (((h2 * g3) + (h5 * g4)) + (h8 * g5))) (ofZ (((h0 * g6) + (h3 * g7)) + (h6 * g8))) (ofZ (((h1 * g6) + (h4 * g7)) + (h7 * g8))) (ofZ (((h2 * g6) + (h5 * g7)) + (h8 * g8)))))))] (zE (oXr ar133 0) <| zR (oLa sh44) <| zE (oXr ar133 1) <| zR (oLa sh44) <| zE (oXr ar133 2) <| zR (oLa sh44) <| zE (oCl (d_rows y3 (((h0 * g0) + (h3 * g1)) + (h6 * g2)) (((h1 * g0) + (h4 * g1)) + (h7 * g2)) (((h2 * g0) + (h5 * g1)) + (h8 * g2)) (iu bn1) (iu bn2) (iu bn3) y4 (((h0 * g3) + (h3 * g4)) + (h6 * g5)) (((h1 * g3) + (h4 * g4)) + (h7 * g5)) (((h2 * g3) + (h5 * g4)) + (h8 * g5)) (iu bn4) (iu bn5) (iu bn6) (A3.mk (ofZ (((h0 * g6) + (h3 * g7)) + (h6 * g8))) (ofZ (((h1 * g6) + (h4 * g7)) + (h7 * g8))) (ofZ (((h2 * g6) + (h5 * g7)) + (h8 * g8)))) (((h0 * g6) + (h3 * g7)) + (h6 * g8)) (((h1 * g6) + (h4 * g7)) + (h7 * g8)) (((h2 * g6) + (h5 * g7)) + (h8 * g8)) (iu bn7) (iu bn8) (iu bn9))) <| zT (oSt sh32) <| zZ) ?_
  refine pwp_ret ⟨_, (res_a (cs := (bx (encA31 (A9.mk (ofZ (((h0 * g0) + (h3 * g1)) + (h6 * g2))) (ofZ (((h1 * g0) + (h4 * g1)) + (h7 * g2))) (ofZ (((h2 * g0) + (h5 * g1)) + (h8 * g2))) (ofZ (((h0 * g3) + (h3 * g4)) + (h6 * g5))) (ofZ (((h1 * g3) + (h4 * g4)) + (h7 * g5))) (ofZ (((h2 * g3) + (h5 * g4)) + (h8 * g5))) (ofZ (((h0 * g6) + (h3 * g7)) + (h6 * g8))) (ofZ (((h1 * g6) + (h4 * g7)) + (h7 * g8))) (ofZ (((h2 * g6) + (h5 * g7)) + (h8 * g8))))))) (d := (encA31 (A9.mk (ofZ (((h0 * g0) + (h3 * g1)) + (h6 * g2))) (ofZ (((h1 * g0) + (h4 * g1)) + (h7 * g2))) (ofZ (((h2 * g0) + (h5 * g1)) + (h8 * g2))) (ofZ (((h0 * g3) + (h3 * g4)) + (h6 * g5))) (ofZ (((h1 * g3) + (h4 * g4)) + (h7 * g5))) (ofZ (((h2 * g3) + (h5 * g4)) + (h8 * g5))) (ofZ (((h0 * g6) + (h3 * g7)) + (h6 * g8))) (ofZ (((h1 * g6) + (h4 * g7)) + (h7 * g8))) (ofZ (((h2 * g6) + (h5 * g7)) + (h8 * g8)))))) rfl rfl sh32 rfl rfl .nil), ?_⟩
  rw [dot_comm h0 g0 h3 g1 h6 g2, dot_comm h1 g0 h4 g1 h7 g2, dot_comm h2 g0 h5 g1 h8 g2, dot_comm h0 g3 h3 g4 h6 g5, dot_comm h1 g3 h4 g4 h7 g5, dot_comm h2 g3 h5 g4 h8 g5, dot_comm h0 g6 h3 g7 h6 g8, dot_comm h1 g6 h4 g7 h7 g8, dot_comm h2 g6 h5 g7 h8 g8]; rfl
theorem d_cof (h : A9 RInt) (h0 h1 h2 h3 h4 h5 h6 h7 h8 : Int) (hh0 : IOk h.a0 h0 1000000) (hh1 : IOk h.a1 h1 1000000) (hh2 : IOk h.a2 h2 1000000) (hh3 : IOk h.a3 h3 1000000) (hh4 : IOk h.a4 h4 1000000) (hh5 : IOk h.a5 h5 1000000) (hh6 : IOk h.a6 h6 1000000) (hh7 : IOk h.a7 h7 1000000) (hh8 : IOk h.a8 h8 1000000) : Takes Tryz.prog 70 [(encA31 h)] (encA31 (A9.mk (ofZ ((h4 * h8) - (h5 * h7))) (ofZ ((h5 * h6) - (h3 * h8))) (ofZ ((h3 * h7) - (h4 * h6))) (ofZ ((h7 * h2) - (h8 * h1))) (ofZ ((h8 * h0) - (h6 * h2))) (ofZ ((h6 * h1) - (h7 * h0))) (ofZ ((h1 * h5) - (h2 * h4))) (ofZ ((h2 * h3) - (h0 * h5))) (ofZ ((h0 * h4) - (h1 * h3))))) := by
  refine fn_intro Tryz.func70 rfl cb70 rfl ?_
  show PWp _ _ _ _ ⟨[(0, (.d (encA31 h)))], []⟩
  refine pwp_seq <| kx [(1, (.ref 0 0)), (2, (.ref 1 0))] [(0, some (bx (encA31 h))), (1, some (bx (encA31 (A9.mk (RInt.mk false []) (RInt.mk false []) (RInt.mk false []) (RInt.mk false []) (RInt.mk false []) (RInt.mk false []) (RInt.mk false []) (RInt.mk false []) (RInt.mk false [])))))] (zN (oBx 0) <| zN (oAl 1 ze32 zo32) <| zZ) ?_
  refine pwp_seq <| kd [(3, (.ref 2 0)), (4, (.ref 3 0)), (5, (.ref 4 0))] [(2, some (bx (encA43 (A3.mk h.a0 h.a1 h.a2)))), (3, some (bx (encA43 (A3.mk h.a3 h.a4 h.a5)))), (4, some (bx (encA43 (A3.mk h.a6 h.a7 h.a8))))] mo (wR (oLa sh32) <| wE (oCl (d_row0 h h0 h1 h2 h3 h4 h5 h6 h7 h8 (iu hh0) (iu hh1) (iu hh2) (iu hh3) (iu hh4) (iu hh5) (iu hh6) (iu hh7) (iu hh8))) <| wR (oLa sh32) <| wE (oCl (d_row1 h h0 h1 h2 h3 h4 h5 h6 h7 h8 (iu hh0) (iu hh1) (iu hh2) (iu hh3) (iu hh4) (iu hh5) (iu hh6) (iu hh7) (iu hh8))) <| wR (oLa sh32) <| wE (oCl (d_row2 h h0 h1 h2 h3 h4 h5 h6 h7 h8 (iu hh0) (iu hh1) (iu hh2) (iu hh3) (iu hh4) (iu hh5) (iu hh6) (iu hh7) (iu hh8))) <| wN (oAl 2 ze44 zo44) <| wN (oAl 3 ze44 zo44) <| wN (oAl 4 ze44 zo44) <| wT (oSt sh44) <| wT (oSt sh44) <| wT (oSt sh44) <| wZ) ?_
  refine pwp_seq ?_
  have bn1 : IOk (ofZ ((h4 * h8) - (h5 * h7))) ((h4 * h8) - (h5 * h7)) 2000001 := (iok_sub (k := 2000001) (iok_mul (k := 2000000) hh4 hh8 (by decide)) (iok_mul (k := 2000000) hh5 hh7 (by decide)) (by decide))
  have bn2 : IOk (ofZ ((h5 * h6) - (h3 * h8))) ((h5 * h6) - (h3 * h8)) 2000001 := (iok_sub (k := 2000001) (iok_mul (k := 2000000) hh5 hh6 (by decide)) (iok_mul (k := 2000000) hh3 hh8 (by decide)) (by decide))
  have bn3 : IOk (ofZ ((h3 * h7) - (h4 * h6))) ((h3 * h7) - (h4 * h6)) 2000001 := (iok_sub (k := 2000001) (iok_mul (k := 2000000) hh3 hh7 (by decide)) (iok_mul (k := 2000000) hh4 hh6 (by decide)) (by decide))
  have bn4 : IOk (ofZ ((h7 * h2) - (h8 * h1))) ((h7 * h2) - (h8 * h1)) 2000001 := (iok_sub (k := 2000001) (iok_mul (k := 2000000) hh7 hh2 (by decide)) (iok_mul (k := 2000000) hh8 hh1 (by decide)) (by decide))
  have bn5 : IOk (ofZ ((h8 * h0) - (h6 * h2))) ((h8 * h0) - (h6 * h2)) 2000001 := (iok_sub (k := 2000001) (iok_mul (k := 2000000) hh8 hh0 (by decide)) (iok_mul (k := 2000000) hh6 hh2 (by decide)) (by decide))
  have bn6 : IOk (ofZ ((h6 * h1) - (h7 * h0))) ((h6 * h1) - (h7 * h0)) 2000001 := (iok_sub (k := 2000001) (iok_mul (k := 2000000) hh6 hh1 (by decide)) (iok_mul (k := 2000000) hh7 hh0 (by decide)) (by decide))
  have bn7 : IOk (ofZ ((h1 * h5) - (h2 * h4))) ((h1 * h5) - (h2 * h4)) 2000001 := (iok_sub (k := 2000001) (iok_mul (k := 2000000) hh1 hh5 (by decide)) (iok_mul (k := 2000000) hh2 hh4 (by decide)) (by decide))
  have bn8 : IOk (ofZ ((h2 * h3) - (h0 * h5))) ((h2 * h3) - (h0 * h5)) 2000001 := (iok_sub (k := 2000001) (iok_mul (k := 2000000) hh2 hh3 (by decide)) (iok_mul (k := 2000000) hh0 hh5 (by decide)) (by decide))
  have bn9 : IOk (ofZ ((h0 * h4) - (h1 * h3))) ((h0 * h4) - (h1 * h3)) 2000001 := (iok_sub (k := 2000001) (iok_mul (k := 2000000) hh0 hh4 (by decide)) (iok_mul (k := 2000000) hh1 hh3 (by decide)) (by decide))
  refine kd [] [(1, some (bx (encA31 (A9.mk (ofZ ((h4 * h8) - (h5 * h7))) (ofZ ((h5 * h6) - (h3 * h8))) (ofZ ((h3 * h7) - (h4 * h6))) (ofZ ((h7 * h2) - (h8 * h1))) (ofZ ((h8 * h0) - (h6 * h2))) (ofZ ((h6 * h1) - (h7 * h0))) (ofZ ((h1 * h5) - (h2 * h4))) (ofZ ((h2 * h3) - (h0 * h5))) (ofZ ((h0 * h4) - (h1 * h3)))))))] mo (wR (oLa sh44) <| wR (oLa sh44) <| wE (oCl (d_cross (A3.mk h.a3 h.a4 h.a5) h3 h4 h5 (iu hh3) (iu hh4) (iu hh5) (A3.mk h.a6 h.a7 h.a8) h6 h7 h8 (iu hh6) (iu hh7) (iu hh8))) <| wR (oLa sh44) <| wR (oLa sh44) <| wE (oCl (d_cross (A3.mk h.a6 h.a7 h.a8) h6 h7 h8 (iu hh6) (iu hh7) (iu hh8) (A3.mk h.a0 h.a1 h.a2) h0 h1 h2 (iu hh0) (iu hh1) (iu hh2))) <| wR (oLa sh44) <| wR (oLa sh44) <| wE (oCl (d_cross (A3.mk h.a0 h.a1 h.a2) h0 h1 h2 (iu hh0) (iu hh1) (iu hh2) (A3.mk h.a3 h.a4 h.a5) h3 h4 h5 (iu hh3) (iu hh4) (iu hh5))) <| wE (oCl (d_rows (A3.mk (ofZ ((h4 * h8) - (h5 * h7))) (ofZ ((h5 * h6) - (h3 * h8))) (ofZ ((h3 * h7) - (h4 * h6)))) ((h4 * h8) - (h5 * h7)) ((h5 * h6) - (h3 * h8)) ((h3 * h7) - (h4 * h6)) (iu bn1) (iu bn2) (iu bn3) (A3.mk (ofZ ((h7 * h2) - (h8 * h1))) (ofZ ((h8 * h0) - (h6 * h2))) (ofZ ((h6 * h1) - (h7 * h0)))) ((h7 * h2) - (h8 * h1)) ((h8 * h0) - (h6 * h2)) ((h6 * h1) - (h7 * h0)) (iu bn4) (iu bn5) (iu bn6) (A3.mk (ofZ ((h1 * h5) - (h2 * h4))) (ofZ ((h2 * h3) - (h0 * h5))) (ofZ ((h0 * h4) - (h1 * h3)))) ((h1 * h5) - (h2 * h4)) ((h2 * h3) - (h0 * h5)) ((h0 * h4) - (h1 * h3)) (iu bn7) (iu bn8) (iu bn9))) <| wT (oSt sh32) <| wZ) ?_
  refine pwp_ret ⟨_, (res_a (cs := (bx (encA31 (A9.mk (ofZ ((h4 * h8) - (h5 * h7))) (ofZ ((h5 * h6) - (h3 * h8))) (ofZ ((h3 * h7) - (h4 * h6))) (ofZ ((h7 * h2) - (h8 * h1))) (ofZ ((h8 * h0) - (h6 * h2))) (ofZ ((h6 * h1) - (h7 * h0))) (ofZ ((h1 * h5) - (h2 * h4))) (ofZ ((h2 * h3) - (h0 * h5))) (ofZ ((h0 * h4) - (h1 * h3))))))) (d := (encA31 (A9.mk (ofZ ((h4 * h8) - (h5 * h7))) (ofZ ((h5 * h6) - (h3 * h8))) (ofZ ((h3 * h7) - (h4 * h6))) (ofZ ((h7 * h2) - (h8 * h1))) (ofZ ((h8 * h0) - (h6 * h2))) (ofZ ((h6 * h1) - (h7 * h0))) (ofZ ((h1 * h5) - (h2 * h4))) (ofZ ((h2 * h3) - (h0 * h5))) (ofZ ((h0 * h4) - (h1 * h3)))))) rfl rfl sh32 rfl rfl .nil), ?_⟩
  rfl
theorem d_red3 (z0 z1 z2 : Int) (hz0 : IOk (ofZ z0) z0 1000000) (hz1 : IOk (ofZ z1) z1 1000000) (hz2 : IOk (ofZ z2) z2 1000000) (c0 c1 c2 : Int) (hc : redL [z0, z1, z2] = [c0, c1, c2]) (hnz : sgnL [z0, z1, z2] ≠ 0) : Takes Tryz.prog 77 [(encA43 (A3.mk (ofZ z0) (ofZ z1) (ofZ z2))), (.val (.func (.func 79) #[] #[]))] (encA43 (A3.mk (ofZ c0) (ofZ c1) (ofZ c2))) := by
  have hd0 := dvL_ne hnz
  have e := hc
  simp only [redL, List.map_cons, List.map_nil, List.cons.injEq, and_true] at e
  obtain ⟨e0, e1, e2⟩ := e
  refine fn_intro Tryz.func77 rfl cb77 rfl ?_
  show PWp _ _ _ _ ⟨[(0, (.d (encA43 (A3.mk (ofZ z0) (ofZ z1) (ofZ z2))))), (1, (.d (.val (.func (.func 79) #[] #[]))))], []⟩
  refine pwp_seq <| kx [(2, (.ref 0 0)), (4, (.ref 1 0))] [(0, some (bx (encA43 (A3.mk (ofZ z0) (ofZ z1) (ofZ z2))))), (1, some (bx (encA43 (A3.mk (RInt.mk false []) (RInt.mk false []) (RInt.mk false [])))))] (zN (oBx 0) <| zN (oAl 1 ze44 zo44) <| zZ) ?_
  refine pwp_seq <| kx [(5, (.view 0 0 3))] [] (zM <| zE (oCp (fun b => d_three b 0)) <| zM <| zZ) ?_
  refine pwp_seq ?_
  have bn1 : IOk (ofZ (dvL [z0, z1, z2])) (dvL [z0, z1, z2]) 1000000 := (iok_of (dvL_len (LOk.all (n := 1000000) (.cons hz0 (.cons hz1 (.cons hz2 .nil))))))
  refine kx [(6, (.ref 2 0))] [(2, some (bx (encI (ofZ (dvL [z0, z1, z2])))))] (zM <| zR ⟨(bx (encA43 (A3.mk (ofZ z0) (ofZ z1) (ofZ z2)))), e_clv (es := List.map encI [(ofZ z0), (ofZ z1), (ofZ z2)]) (d_divisor 1000000 [(ofZ z0), (ofZ z1), (ofZ z2)] [z0, z1, z2] (.cons hz0 (.cons hz1 (.cons hz2 .nil))) (Nat.le_of_ble_eq_true rfl) (by simp only [List.all_cons, List.all_nil, validI_ofZ, Bool.and_self])) (by exact rfl) (by kernel_rfl) (by exact rfl) (.v .nil) (pubs_cells _ _ (fun _ => rfl)) (by kernel_rfl) (by kernel_rfl) (.tup (avo_cons (avo_encI (by decide) _) (avo_cons (.val _) avo_nil))), by kernel_rfl⟩ <| zM <| zE oEx <| zE oEx <| zN (oAl 2 ze30 zo30) <| zT (oSt sh30) <| zM <| zZ) ?_
  refine pwp_seq <| pwp_seq <| kx [(17, (.view 0 0 3)), (18, (vin 3)), (19, (vin 0))] [] (zM <| zE (oLv el40) <| zM <| zZ) ?_
  refine pwp_block <| pwp_rounds 20 ?_
  refine pwp_round <| pwp_seq <| kx [(20, (vb true))] [] (zE (oBk true oLt) <| zZ) ?_
  refine pwp_seq <| pwp_cond (b := true) (by kernel_rfl) (fun _ => ?_) (fun h => by cases h)
  refine pwp_skip <| pwp_seq <| pwp_block <| pwp_seq <| kx [(8, (vin 0)), (9, (.ref 3 0))] [(3, some (bx (encI (ofZ z0))))] (zM <| zE (oXv el40 0) <| zR (oLa sh30) <| zN (oAl 3 ze30 zo30) <| zM <| zT (oSt sh30) <| zZ) ?_
  refine kx [] [(0, some (bx (encA43 (A3.mk (ofZ (z0.fdiv (dvL [z0, z1, z2]))) (ofZ z1) (ofZ z2)))))] (zM <| zM <| zR (oLa sh30) <| zR (oLa sh30) <| zE (oCl (s_divide hz0 bn1 (by decide) (by decide) hd0)) <| zM <| zE oEx <| zE oEx <| zE oEx <| zE (oXv el40 0) <| zT (oSt sh30) <| zZ) ?_
  refine kx [(19, (vin 1))] [] (zE (oAd 1 (hr := by decide)) <| zM <| zZ) ?_
  refine pwp_again (SimImp.refl _) ?_
  refine pwp_seq <| kx [(20, (vb true))] [] (zE (oBk true oLt) <| zZ) ?_
  refine pwp_seq <| pwp_cond (b := true) (by kernel_rfl) (fun _ => ?_) (fun h => by cases h)
  refine pwp_skip <| pwp_seq <| pwp_block <| pwp_seq <| kx [(8, (vin 1)), (9, (.ref 4 0))] [(4, some (bx (encI (ofZ z1))))] (zM <| zE (oXv el40 1) <| zR (oLa sh30) <| zN (oAl 4 ze30 zo30) <| zM <| zT (oSt sh30) <| zZ) ?_
  refine kx [] [(0, some (bx (encA43 (A3.mk (ofZ (z0.fdiv (dvL [z0, z1, z2]))) (ofZ (z1.fdiv (dvL [z0, z1, z2]))) (ofZ z2)))))] (zM <| zM <| zR (oLa sh30) <| zR (oLa sh30) <| zE (oCl (s_divide hz1 bn1 (by decide) (by decide) hd0)) <| zM <| zE oEx <| zE oEx <| zE oEx <| zE (oXv el40 1) <| zT (oSt sh30) <| zZ) ?_
  refine kx [(19, (vin 2))] [] (zE (oAd 2 (hr := by decide)) <| zM <| zZ) ?_
  refine pwp_again (SimImp.refl _) ?_
  refine pwp_seq <| kx [(20, (vb true))] [] (zE (oBk true oLt) <| zZ) ?_
  refine pwp_seq <| pwp_cond (b := true) (by kernel_rfl) (fun _ => ?_) (fun h => by cases h)
  refine pwp_skip <| pwp_seq <| pwp_block <| pwp_seq <| kx [(8, (vin 2)), (9, (.ref 5 0))] [(5, some (bx (encI (ofZ z2))))] (zM <| zE (oXv el40 2) <| zR (oLa sh30) <| zN (oAl 5 ze30 zo30) <| zM <| zT (oSt sh30) <| zZ) ?_
  refine pwp_sim (wk (l := [(2, (.ref 0 0)), (4, (.ref 1 0)), (5, (.view 0 0 3)), (6, (.ref 2 0)), (8, (vin 2)), (9, (.ref 5 0)), (17, (.view 0 0 3)), (18, (vin 3)), (19, (vin 2))]) (b := [(0, some (bx (encA43 (A3.mk (ofZ (z0.fdiv (dvL [z0, z1, z2]))) (ofZ (z1.fdiv (dvL [z0, z1, z2]))) (ofZ z2))))), (1, some (bx (encA43 (A3.mk (RInt.mk false []) (RInt.mk false []) (RInt.mk false []))))), (2, some (bx (encI (ofZ (dvL [z0, z1, z2]))))), (5, some (bx (encI (ofZ z2))))])) ?_
  refine kx [] [(0, some (bx (encA43 (A3.mk (ofZ (z0.fdiv (dvL [z0, z1, z2]))) (ofZ (z1.fdiv (dvL [z0, z1, z2]))) (ofZ (z2.fdiv (dvL [z0, z1, z2])))))))] (zM <| zM <| zR (oLa sh30) <| zR (oLa sh30) <| zE (oCl (s_divide hz2 bn1 (by decide) (by decide) hd0)) <| zM <| zE oEx <| zE oEx <| zE oEx <| zE (oXv el40 2) <| zT (oSt sh30) <| zZ) ?_
  refine kx [(19, (vin 3))] [] (zE (oAd 3 (hr := by decide)) <| zM <| zZ) ?_
  refine pwp_again (SimImp.refl _) ?_
  refine pwp_seq <| kx [(20, (vb false))] [] (zE (oBk false oLt) <| zZ) ?_
  refine pwp_seq <| pwp_cond (b := false) (by kernel_rfl) (fun h => by cases h) (fun _ => ?_)
  refine pwp_exit <| pwp_seq <| kx [] [(1, some (bx (encA43 (A3.mk (ofZ (z0.fdiv (dvL [z0, z1, z2]))) (ofZ (z1.fdiv (dvL [z0, z1, z2]))) (ofZ (z2.fdiv (dvL [z0, z1, z2])))))))] (zR (oLa sh44) <| zT (oSt sh44) <| zZ) ?_
  refine pwp_ret ⟨_, (res_a (cs := (bx (encA43 (A3.mk (ofZ (z0.fdiv (dvL [z0, z1, z2]))) (ofZ (z1.fdiv (dvL [z0, z1, z2]))) (ofZ (z2.fdiv (dvL [z0, z1, z2]))))))) (d := (encA43 (A3.mk (ofZ (z0.fdiv (dvL [z0, z1, z2]))) (ofZ (z1.fdiv (dvL [z0, z1, z2]))) (ofZ (z2.fdiv (dvL [z0, z1, z2])))))) rfl rfl sh44 rfl rfl .nil), ?_⟩
  rw [e0, e1, e2]; rfl
theorem d_red9 (z0 z1 z2 z3 z4 z5 z6 z7 z8 : Int) (hz0 : IOk (ofZ z0) z0 1000000) (hz1 : IOk (ofZ z1) z1 1000000) (hz2 : IOk (ofZ z2) z2 1000000) (hz3 : IOk (ofZ z3) z3 1000000) (hz4 : IOk (ofZ z4) z4 1000000) (hz5 : IOk (ofZ z5) z5 1000000) (hz6 : IOk (ofZ z6) z6 1000000) (hz7 : IOk (ofZ z7) z7 1000000) (hz8 : IOk (ofZ z8) z8 1000000) (c0 c1 c2 c3 c4 c5 c6 c7 c8 : Int) (hc : redL [z0, z1, z2, z3, z4, z5, z6, z7, z8] = [c0, c1, c2, c3, c4, c5, c6, c7, c8]) (hnz : sgnL [z0, z1, z2, z3, z4, z5, z6, z7, z8] ≠ 0) : Takes Tryz.prog 67 [(encA31 (A9.mk (ofZ z0) (ofZ z1) (ofZ z2) (ofZ z3) (ofZ z4) (ofZ z5) (ofZ z6) (ofZ z7) (ofZ z8))), (.val (.func (.func 71) #[] #[]))] (encA31 (A9.mk (ofZ c0) (ofZ c1) (ofZ c2) (ofZ c3) (ofZ c4) (ofZ c5) (ofZ c6) (ofZ c7) (ofZ c8))) := by
  have hd0 := dvL_ne hnz
  have e := hc
  simp only [redL, List.map_cons, List.map_nil, List.cons.injEq, and_true] at e
  obtain ⟨e0, e1, e2, e3, e4, e5, e6, e7, e8⟩ := e
  let y12 := [z0, z1, z2, z3, z4, z5, z6, z7, z8]
  let y11 := (ofZ (z5.fdiv (dvL y12)))
  let y10 := (ofZ (z4.fdiv (dvL y12)))
  let y9 := (ofZ (z3.fdiv (dvL y12)))
  let y8 := (ofZ (z2.fdiv (dvL y12)))
  let y7 := (ofZ (z1.fdiv (dvL y12)))
  let y6 := (ofZ (z0.fdiv (dvL y12)))
  let y5 := (encA31 (A9.mk (ofZ z0) (ofZ z1) (ofZ z2) (ofZ z3) (ofZ z4) (ofZ z5) (ofZ z6) (ofZ z7) (ofZ z8)))
  let y4 := (bx (encA31 (A9.mk (RInt.mk false []) (RInt.mk false []) (RInt.mk false []) (RInt.mk false []) (RInt.mk false []) (RInt.mk false []) (RInt.mk false []) (RInt.mk false []) (RInt.mk false []))))
  let y3 := (bx (encA31 (A9.mk y6 y7 (ofZ z2) (ofZ z3) (ofZ z4) (ofZ z5) (ofZ z6) (ofZ z7) (ofZ z8))))
  let y2 := (bx (encA31 (A9.mk y6 y7 y8 y9 y10 y11 (ofZ z6) (ofZ z7) (ofZ z8))))
  let y1 := (bx (encA31 (A9.mk y6 y7 y8 y9 y10 y11 (ofZ (z6.fdiv (dvL y12))) (ofZ (z7.fdiv (dvL y12))) (ofZ (z8.fdiv (dvL y12))))))
  refine fn_intro Tryz.func67 rfl cb67 rfl ?_
  show PWp _ _ _ _ ⟨[(0, (.d y5)), (1, (.d (.val (.func (.func 71) #[] #[]))))], []⟩
  refine pwp_seq <| kx [(2, (.ref 0 0)), (4, (.ref 1 0))] [(0, some (bx y5)), (1, some y4)] (zN (oBx 0) <| zN (oAl 1 ze32 zo32) <| zZ) ?_
  refine pwp_seq <| kx [(5, (.view 0 0 9))] [] (zM <| zE (oCp (fun b => d_nine b 0)) <| zM <| zZ) ?_
  refine pwp_seq ?_
  have bn1 : IOk (ofZ (dvL [z0, z1, z2, z3, z4, z5, z6, z7, z8])) (dvL [z0, z1, z2, z3, z4, z5, z6, z7, z8]) 1000000 := (iok_of (dvL_len (LOk.all (n := 1000000) (.cons hz0 (.cons hz1 (.cons hz2 (.cons hz3 (.cons hz4 (.cons hz5 (.cons hz6 (.cons hz7 (.cons hz8 .nil))))))))))))
  refine kx [(6, (.ref 2 0))] [(2, some (bx (encI (ofZ (dvL y12)))))] (zM <| zR ⟨(bx y5), e_clv (es := List.map encI [(ofZ z0), (ofZ z1), (ofZ z2), (ofZ z3), (ofZ z4), (ofZ z5), (ofZ z6), (ofZ z7), (ofZ z8)]) (d_divisor 1000000 [(ofZ z0), (ofZ z1), (ofZ z2), (ofZ z3), (ofZ z4), (ofZ z5), (ofZ z6), (ofZ z7), (ofZ z8)] y12 (.cons hz0 (.cons hz1 (.cons hz2 (.cons hz3 (.cons hz4 (.cons hz5 (.cons hz6 (.cons hz7 (.cons hz8 .nil))))))))) (Nat.le_of_ble_eq_true rfl) (by simp only [List.all_cons, List.all_nil, validI_ofZ, Bool.and_self])) (by exact rfl) (by kernel_rfl) (by exact rfl) (.v .nil) (pubs_cells _ _ (fun _ => rfl)) (by kernel_rfl) (by kernel_rfl) (.tup (avo_cons (avo_encI (by decide) _) (avo_cons (.val _) avo_nil))), by kernel_rfl⟩ <| zM <| zE oEx <| zE oEx <| zN (oAl 2 ze30 zo30) <| zT (oSt sh30) <| zM <| zZ) ?_
  refine pwp_seq <| pwp_seq <| kx [(17, (.view 0 0 9)), (18, (vin 9)), (19, (vin 0))] [] (zM <| zE (oLv el40) <| zM <| zZ) ?_
  refine pwp_block <| pwp_rounds 20 ?_
  refine pwp_round <| pwp_seq <| kx [(20, (vb true))] [] (zE (oBk true oLt) <| zZ) ?_
  refine pwp_seq <| pwp_cond (b := true) (by kernel_rfl) (fun _ => ?_) (fun h => by cases h)
  refine pwp_skip <| pwp_seq <| pwp_block <| pwp_seq <| kx [(8, (vin 0)), (9, (.ref 3 0))] [(3, some (bx (encI (ofZ z0))))] (zM <| zE (oXv el40 0) <| zR (oLa sh30) <| zN (oAl 3 ze30 zo30) <| zM <| zT (oSt sh30) <| zZ) ?_
  refine kx [] [(0, some (bx (encA31 (A9.mk y6 (ofZ z1) (ofZ z2) (ofZ z3) (ofZ z4) (ofZ z5) (ofZ z6) (ofZ z7) (ofZ z8)))))] (zM <| zM <| zR (oLa sh30) <| zR (oLa sh30) <| zE (oCl (s_divide hz0 bn1 (by decide) (by decide) hd0)) <| zM <| zE oEx <| zE oEx <| zE oEx <| zE (oXv el40 0) <| zT (oSt sh30) <| zZ) ?_
  refine kx [(19, (vin 1))] [] (zE (oAd 1 (hr := by decide)) <| zM <| zZ) ?_
  refine pwp_again (SimImp.refl _) ?_
  refine pwp_seq <| kx [(20, (vb true))] [] (zE (oBk true oLt) <| zZ) ?_
  refine pwp_seq <| pwp_cond (b := true) (by kernel_rfl) (fun _ => ?_) (fun h => by cases h)
  refine pwp_skip <| pwp_seq <| pwp_block <| pwp_seq <| kx [(8, (vin 1)), (9, (.ref 4 0))] [(4, some (bx (encI (ofZ z1))))] (zM <| zE (oXv el40 1) <| zR (oLa sh30) <| zN (oAl 4 ze30 zo30) <| zM <| zT (oSt sh30) <| zZ) ?_
  refine kx [] [(0, some y3)] (zM <| zM <| zR (oLa sh30) <| zR (oLa sh30) <| zE (oCl (s_divide hz1 bn1 (by decide) (by decide) hd0)) <| zM <| zE oEx <| zE oEx <| zE oEx <| zE (oXv el40 1) <| zT (oSt sh30) <| zZ) ?_
  refine kx [(19, (vin 2))] [] (zE (oAd 2 (hr := by decide)) <| zM <| zZ) ?_
  refine pwp_again (SimImp.refl _) ?_
  refine pwp_seq <| kx [(20, (vb true))] [] (zE (oBk true oLt) <| zZ) ?_
  refine pwp_seq <| pwp_cond (b := true) (by kernel_rfl) (fun _ => ?_) (fun h => by cases h)
  refine pwp_skip <| pwp_seq <| pwp_block <| pwp_seq <| kx [(8, (vin 2)), (9, (.ref 5 0))] [(5, some (bx (encI (ofZ z2))))] (zM <| zE (oXv el40 2) <| zR (oLa sh30) <| zN (oAl 5 ze30 zo30) <| zM <| zT (oSt sh30) <| zZ) ?_
  refine pwp_sim (wk (l := [(2, (.ref 0 0)), (4, (.ref 1 0)), (5, (.view 0 0 9)), (6, (.ref 2 0)), (8, (vin 2)), (9, (.ref 5 0)), (17, (.view 0 0 9)), (18, (vin 9)), (19, (vin 2))]) (b := [(0, some y3), (1, some y4), (2, some (bx (encI (ofZ (dvL y12))))), (5, some (bx (encI (ofZ z2))))])) ?_
  refine kx [] [(0, some (bx (encA31 (A9.mk y6 y7 y8 (ofZ z3) (ofZ z4) (ofZ z5) (ofZ z6) (ofZ z7) (ofZ z8)))))] (zM <| zM <| zR (oLa sh30) <| zR (oLa sh30) <| zE (oCl (s_divide hz2 bn1 (by decide) (by decide) hd0)) <| zM <| zE oEx <| zE oEx <| zE oEx <| zE (oXv el40 2) <| zT (oSt sh30) <| zZ) ?_
  refine kx [(19, (vin 3))] [] (zE (oAd 3 (hr := by decide)) <| zM <| zZ) ?_
  refine pwp_again (SimImp.refl _) ?_
  refine pwp_seq <| kx [(20, (vb true))] [] (zE (oBk true oLt) <| zZ) ?_
  refine pwp_seq <| pwp_cond (b := true) (by kernel_rfl) (fun _ => ?_) (fun h => by cases h)
  refine pwp_skip <| pwp_seq <| pwp_block <| pwp_seq <| kx [(8, (vin 3)), (9, (.ref 6 0))] [(6, some (bx (encI (ofZ z3))))] (zM <| zE (oXv el40 3) <| zR (oLa sh30) <| zN (oAl 6 ze30 zo30) <| zM <| zT (oSt sh30) <| zZ) ?_
  refine kx [] [(0, some (bx (encA31 (A9.mk y6 y7 y8 y9 (ofZ z4) (ofZ z5) (ofZ z6) (ofZ z7) (ofZ z8)))))] (zM <| zM <| zR (oLa sh30) <| zR (oLa sh30) <| zE (oCl (s_divide hz3 bn1 (by decide) (by decide) hd0)) <| zM <| zE oEx <| zE oEx <| zE oEx <| zE (oXv el40 3) <| zT (oSt sh30) <| zZ) ?_
  refine kx [(19, (vin 4))] [] (zE (oAd 4 (hr := by decide)) <| zM <| zZ) ?_
  refine pwp_again (SimImp.refl _) ?_
  refine pwp_seq <| kx [(20, (vb true))] [] (zE (oBk true oLt) <| zZ) ?_
  refine pwp_seq <| pwp_cond (b := true) (by kernel_rfl) (fun _ => ?_) (fun h => by cases h)
  refine pwp_skip <| pwp_seq <| pwp_block <| pwp_seq <| kx [(8, (vin 4)), (9, (.ref 7 0))] [(7, some (bx (encI (ofZ z4))))] (zM <| zE (oXv el40 4) <| zR (oLa sh30) <| zN (oAl 7 ze30 zo30) <| zM <| zT (oSt sh30) <| zZ) ?_
  refine kx [] [(0, some (bx (encA31 (A9.mk y6 y7 y8 y9 y10 (ofZ z5) (ofZ z6) (ofZ z7) (ofZ z8)))))] (zM <| zM <| zR (oLa sh30) <| zR (oLa sh30) <| zE (oCl (s_divide hz4 bn1 (by decide) (by decide) hd0)) <| zM <| zE oEx <| zE oEx <| zE oEx <| zE (oXv el40 4) <| zT (oSt sh30) <| zZ) ?_
  refine kx [(19, (vin 5))] [] (zE (oAd 5 (hr := by decide)) <| zM <| zZ) ?_
  refine pwp_again (SimImp.refl _) ?_
  refine pwp_seq <| kx [(20, (vb true))] [] (zE (oBk true oLt) <| zZ) ?_
  refine pwp_seq <| pwp_cond (b := true) (by kernel_rfl) (fun _ => ?_) (fun h => by cases h)
  refine pwp_skip <| pwp_seq <| pwp_block <| pwp_seq <| kx [(8, (vin 5)), (9, (.ref 8 0))] [(8, some (bx (encI (ofZ z5))))] (zM <| zE (oXv el40 5) <| zR (oLa sh30) <| zN (oAl 8 ze30 zo30) <| zM <| zT (oSt sh30) <| zZ) ?_
  refine kx [] [(0, some y2)] (zM <| zM <| zR (oLa sh30) <| zR (oLa sh30) <| zE (oCl (s_divide hz5 bn1 (by decide) (by decide) hd0)) <| zM <| zE oEx <| zE oEx <| zE oEx <| zE (oXv el40 5) <| zT (oSt sh30) <| zZ) ?_
  refine kx [(19, (vin 6))] [] (zE (oAd 6 (hr := by decide)) <| zM <| zZ) ?_
  refine pwp_again (SimImp.refl _) ?_
  refine pwp_seq <| pwp_sim (wk (l := [(2, (.ref 0 0)), (4, (.ref 1 0)), (5, (.view 0 0 9)), (6, (.ref 2 0)), (17, (.view 0 0 9)), (18, (vin 9)), (19, (vin 6))]) (b := [(0, some y2), (1, some y4), (2, some (bx (encI (ofZ (dvL y12)))))])) ?_
  refine kx [(20, (vb true))] [] (zE (oBk true oLt) <| zZ) ?_
  refine pwp_seq <| pwp_cond (b := true) (by kernel_rfl) (fun _ => ?_) (fun h => by cases h)
  refine pwp_skip <| pwp_seq <| pwp_block <| pwp_seq <| kx [(8, (vin 6)), (9, (.ref 9 0))] [(9, some (bx (encI (ofZ z6))))] (zM <| zE (oXv el40 6) <| zR (oLa sh30) <| zN (oAl 9 ze30 zo30) <| zM <| zT (oSt sh30) <| zZ) ?_
  refine kx [] [(0, some (bx (encA31 (A9.mk y6 y7 y8 y9 y10 y11 (ofZ (z6.fdiv (dvL y12))) (ofZ z7) (ofZ z8)))))] (zM <| zM <| zR (oLa sh30) <| zR (oLa sh30) <| zE (oCl (s_divide hz6 bn1 (by decide) (by decide) hd0)) <| zM <| zE oEx <| zE oEx <| zE oEx <| zE (oXv el40 6) <| zT (oSt sh30) <| zZ) ?_
  refine kx [(19, (vin 7))] [] (zE (oAd 7 (hr := by decide)) <| zM <| zZ) ?_
  refine pwp_again (SimImp.refl _) ?_
  refine pwp_seq <| kx [(20, (vb true))] [] (zE (oBk true oLt) <| zZ) ?_
  refine pwp_seq <| pwp_cond (b := true) (by kernel_rfl) (fun _ => ?_) (fun h => by cases h)
  refine pwp_skip <| pwp_seq <| pwp_block <| pwp_seq <| kx [(8, (vin 7)), (9, (.ref 10 0))] [(10, some (bx (encI (ofZ z7))))] (zM <| zE (oXv el40 7) <| zR (oLa sh30) <| zN (oAl 10 ze30 zo30) <| zM <| zT (oSt sh30) <| zZ) ?_
  refine kx [] [(0, some (bx (encA31 (A9.mk y6 y7 y8 y9 y10 y11 (ofZ (z6.fdiv (dvL y12))) (ofZ (z7.fdiv (dvL y12))) (ofZ z8)))))] (zM <| zM <| zR (oLa sh30) <| zR (oLa sh30) <| zE (oCl (s_divide hz7 bn1 (by decide) (by decide) hd0)) <| zM <| zE oEx <| zE oEx <| zE oEx <| zE (oXv el40 7) <| zT (oSt sh30) <| zZ) ?_
  refine kx [(19, (vin 8))] [] (zE (oAd 8 (hr := by decide)) <| zM <| zZ) ?_
  refine pwp_again (SimImp.refl _) ?_
  refine pwp_seq <| kx [(20, (vb true))] [] (zE (oBk true oLt) <| zZ) ?_
  refine pwp_seq <| pwp_cond (b := true) (by kernel_rfl) (fun _ => ?_) (fun h => by cases h)
  refine pwp_skip <| pwp_seq <| pwp_block <| pwp_seq <| kx [(8, (vin 8)), (9, (.ref 11 0))] [(11, some (bx (encI (ofZ z8))))] (zM <| zE (oXv el40 8) <| zR (oLa sh30) <| zN (oAl 11 ze30 zo30) <| zM <| zT (oSt sh30) <| zZ) ?_
  refine kx [] [(0, some y1)] (zM <| zM <| zR (oLa sh30) <| zR (oLa sh30) <| zE (oCl (s_divide hz8 bn1 (by decide) (by decide) hd0)) <| zM <| zE oEx <| zE oEx <| zE oEx <| zE (oXv el40 8) <| zT (oSt sh30) <| zZ) ?_
  refine kx [(19, (vin 9))] [] (zE (oAd 9 (hr := by decide)) <| zM <| zZ) ?_
  refine pwp_again (SimImp.refl _) ?_
  refine pwp_seq <| kx [(20, (vb false))] [] (zE (oBk false oLt) <| zZ) ?_
  refine pwp_seq <| pwp_cond (b := false) (by kernel_rfl) (fun h => by cases h) (fun _ => ?_)
  refine pwp_exit <| pwp_seq <| kx [] [(1, some y1)] (zR (oLa sh32) <| zT (oSt sh32) <| zZ) ?_
  refine pwp_ret ⟨_, (res_a (cs := (bx (encA31 (A9.mk (ofZ (z0.fdiv (dvL [z0, z1, z2, z3, z4, z5, z6, z7, z8]))) (ofZ (z1.fdiv (dvL [z0, z1, z2, z3, z4, z5, z6, z7, z8]))) (ofZ (z2.fdiv (dvL [z0, z1, z2, z3, z4, z5, z6, z7, z8]))) (ofZ (z3.fdiv (dvL [z0, z1, z2, z3, z4, z5, z6, z7, z8]))) (ofZ (z4.fdiv (dvL [z0, z1, z2, z3, z4, z5, z6, z7, z8]))) (ofZ (z5.fdiv (dvL [z0, z1, z2, z3, z4, z5, z6, z7, z8]))) (ofZ (z6.fdiv (dvL [z0, z1, z2, z3, z4, z5, z6, z7, z8]))) (ofZ (z7.fdiv (dvL [z0, z1, z2, z3, z4, z5, z6, z7, z8]))) (ofZ (z8.fdiv (dvL [z0, z1, z2, z3, z4, z5, z6, z7, z8]))))))) (d := (encA31 (A9.mk (ofZ (z0.fdiv (dvL [z0, z1, z2, z3, z4, z5, z6, z7, z8]))) (ofZ (z1.fdiv (dvL [z0, z1, z2, z3, z4, z5, z6, z7, z8]))) (ofZ (z2.fdiv (dvL [z0, z1, z2, z3, z4, z5, z6, z7, z8]))) (ofZ (z3.fdiv (dvL [z0, z1, z2, z3, z4, z5, z6, z7, z8]))) (ofZ (z4.fdiv (dvL [z0, z1, z2, z3, z4, z5, z6, z7, z8]))) (ofZ (z5.fdiv (dvL [z0, z1, z2, z3, z4, z5, z6, z7, z8]))) (ofZ (z6.fdiv (dvL [z0, z1, z2, z3, z4, z5, z6, z7, z8]))) (ofZ (z7.fdiv (dvL [z0, z1, z2, z3, z4, z5, z6, z7, z8]))) (ofZ (z8.fdiv (dvL [z0, z1, z2, z3, z4, z5, z6, z7, z8])))))) rfl rfl sh32 rfl rfl .nil), ?_⟩
  rw [e0, e1, e2, e3, e4, e5, e6, e7, e8]; rfl
end Go.Proofs.YtadkkhdnccljcaaGreat
