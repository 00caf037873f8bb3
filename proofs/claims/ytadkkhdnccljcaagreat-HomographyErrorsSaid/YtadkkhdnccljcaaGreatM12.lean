/- Part 12 of a proof: rules, plain facts, and functions walked. -/
import Derived.Test.YtadkkhdnccljcaaGreatM11
namespace Go.Proofs.YtadkkhdnccljcaaGreat
open Go.Fid
set_option maxRecDepth 4000
set_option linter.unusedVariables false
set_option linter.unusedSimpArgs false
theorem cb18 : callB Tryz.prog 18 = true := by kernel_rfl
theorem cb33 : callB Tryz.prog 33 = true := by kernel_rfl
theorem cb52 : callB Tryz.prog 52 = true := by kernel_rfl
theorem cb53 : callB Tryz.prog 53 = true := by kernel_rfl
theorem cb91 : callB Tryz.prog 91 = true := by kernel_rfl
theorem cb111 : callB Tryz.prog 111 = true := by kernel_rfl
theorem cb130 : callB Tryz.prog 130 = true := by kernel_rfl
theorem fo91_0 : fieldB Tryz.prog 91 0 = some 0 := by kernel_rfl
theorem fo91_1 : fieldB Tryz.prog 91 1 = some 4 := by kernel_rfl
theorem pl91 : placesB Tryz.prog 91 = some [(0, 4), (4, 4)] := by kernel_rfl
theorem sh91 : shapeB Tryz.prog 91 = some (true, 8) := by kernel_rfl
theorem ze91 : zeroB Tryz.prog 91 = some [.bool false, .slice none 0 0, .bool false, .slice none 0 0, .bool false, .slice none 0 0, .bool false, .slice none 0 0] := by kernel_rfl
theorem zo91 : ZOk [.bool false, .slice none 0 0, .bool false, .slice none 0 0, .bool false, .slice none 0 0, .bool false, .slice none 0 0] [.val (.bool false), .sl 138 1 [], .val (.bool false), .sl 138 1 [], .val (.bool false), .sl 138 1 [], .val (.bool false), .sl 138 1 []] := by simp [ZOk, Value.oneCell']
theorem f_counted (x : RInt) (a : Int) (hx : IOk x a 68719476736) : Takes Tryz.prog 130 [(encI x)] (encI (ofZ a)) := by
  refine fn_intro Tryz.func130 rfl cb130 rfl ?_
  show PWp _ _ _ _ ⟨[(0, (.d (encI x)))], []⟩
  refine pwp_seq <| kx [(1, (.ref 0 0)), (2, (.ref 1 0))] [(0, some (bx (encI x))), (1, some (bx (encI (RInt.mk false []))))] (zN (oBx 0) <| zN (oAl 1 ze30 zo30) <| zZ) ?_
  refine pwp_seq <| pwp_seq <| kx [(4, (vb (validI x)))] [] (zR (oLa sh30) <| zE (oCl (t_valid x (Nat.le_trans hx.l (by decide)))) <| zZ) ?_
  refine pwp_cond (b := (validI x)) rfl (fun h1 => ?_) (fun h1 => ?_)
  · refine pwp_seq <| kx [] [(1, some (bx (encI x)))] (zR (oLa sh30) <| zT (oSt sh30) <| zZ) ?_
    refine pwp_ret ⟨_, (res_a (cs := (bx (encI x))) (d := (encI x)) rfl rfl sh30 rfl rfl .nil), ?_⟩
    rw [← hx.v, ofZ_toZ h1]; rfl
  · refine pwp_skip <| pwp_seq <| kx [] [(1, some (bx (encI (ofZ 0))))] (zE (oCl (t_of 0 (by decide) (by decide))) <| zT (oSt sh30) <| zZ) ?_
    refine pwp_ret ⟨_, (res_a (cs := (bx (encI (ofZ 0)))) (d := (encI (ofZ 0))) rfl rfl sh30 rfl rfl .nil), ?_⟩
    rw [← hx.v, toZ_bad h1, ofZ_zero]; rfl
theorem f_newS (num : RInt) (a : Int) (hnum : IOk num a 68719476736) (den : RInt) (b : Int) (hden : IOk den b 68719476736) (hz : b = 0) : Takes Tryz.prog 91 [(encI num), (encI den)] (.tup [(encR (RRat.mk (RInt.mk false []) (RInt.mk false []))), (.val (.int .i64 (14)))]) := by
  refine fn_intro Tryz.func91 rfl cb91 rfl ?_
  show PWp _ _ _ _ ⟨[(0, (.d (encI num))), (1, (.d (encI den)))], []⟩
  refine pwp_seq <| kx [(2, (.ref 0 0)), (3, (.ref 1 0)), (4, (.ref 2 0))] [(0, some (bx (encI num))), (1, some (bx (encI den))), (2, some (bx (encR (RRat.mk (RInt.mk false []) (RInt.mk false [])))))] (zN (oBx 0) <| zN (oBx 1) <| zN (oAl 2 ze67 zo67) <| zM <| zZ) ?_
  refine pwp_seq <| kd [] [(0, some (bx (encI (ofZ a)))), (1, some (bx (encI (ofZ b))))] mo (wR (oLa sh30) <| wE (oCl (f_counted num a hnum)) <| wR (oLa sh30) <| wE (oCl (f_counted den b hden)) <| wT (oSt sh30) <| wT (oSt sh30) <| wZ) ?_
  refine pwp_seq <| pwp_seq <| kx [(12, (vb true))] [] (zR (oLa sh30) <| zE (oCl (s_sign (iok_of (IOk.ln hden)) (by decide))) <| zE (oBk true oEq (by exact beq_iff_eq.2 (by rw [hz]; rfl))) <| zZ) ?_
  refine pwp_cond (b := true) (by kernel_rfl) (fun _ => ?_) (fun h => by cases h)
  refine pwp_seq <| kx [(5, (vin 14))] [(2, some (bx (encR (RRat.mk (RInt.mk false []) (RInt.mk false [])))))] (zE (oBd pl67 ze67 zo67) <| zT (oSt sh67) <| zM <| zZ) ?_
  refine pwp_ret ⟨_, (res_a (cs := (bx (encR (RRat.mk (RInt.mk false []) (RInt.mk false []))))) (d := (encR (RRat.mk (RInt.mk false []) (RInt.mk false [])))) rfl rfl sh67 rfl rfl (.tmp (d := (.val (.int .i64 (14)))) rfl .nil)), ?_⟩
  rfl
theorem f_newO (num : RInt) (a : Int) (hnum : IOk num a 68719476736) (den : RInt) (b : Int) (hden : IOk den b 68719476736) (hb : b ≠ 0) : Takes Tryz.prog 91 [(encI num), (encI den)] (.tup [(encR (ofQ (Rat.divInt a b))), (.val (.int .i64 (0)))]) := by
  refine fn_intro Tryz.func91 rfl cb91 rfl ?_
  show PWp _ _ _ _ ⟨[(0, (.d (encI num))), (1, (.d (encI den)))], []⟩
  refine pwp_seq <| kx [(2, (.ref 0 0)), (3, (.ref 1 0)), (4, (.ref 2 0))] [(0, some (bx (encI num))), (1, some (bx (encI den))), (2, some (bx (encR (RRat.mk (RInt.mk false []) (RInt.mk false [])))))] (zN (oBx 0) <| zN (oBx 1) <| zN (oAl 2 ze67 zo67) <| zM <| zZ) ?_
  refine pwp_seq <| kd [] [(0, some (bx (encI (ofZ a)))), (1, some (bx (encI (ofZ b))))] mo (wR (oLa sh30) <| wE (oCl (f_counted num a hnum)) <| wR (oLa sh30) <| wE (oCl (f_counted den b hden)) <| wT (oSt sh30) <| wT (oSt sh30) <| wZ) ?_
  refine pwp_seq <| pwp_seq <| kx [(12, (vb false))] [] (zR (oLa sh30) <| zE (oCl (s_sign (iok_of (IOk.ln hden)) (by decide))) <| zE (oBk false oEq (by exact beq_eq_false_iff_ne.2 (signI_ne hb))) <| zZ) ?_
  refine pwp_cond (b := false) (by kernel_rfl) (fun h => by cases h) (fun _ => ?_)
  refine pwp_skip <| pwp_seq <| kx [(5, (vin 0))] [(2, some (bx (encR (ofQ (Rat.divInt a b)))))] (zR (oLa sh30) <| zR (oLa sh30) <| zE (oCl (f_reduced (ofZ a) (ofZ b) a b (iok_of (IOk.ln hnum)) (iok_of (IOk.ln hden)) (by assumption))) <| zT (oSt sh67) <| zM <| zZ) ?_
  refine pwp_ret ⟨_, (res_a (cs := (bx (encR (ofQ (Rat.divInt a b))))) (d := (encR (ofQ (Rat.divInt a b)))) rfl rfl sh67 rfl rfl (.tmp (d := (.val (.int .i64 (0)))) rfl .nil)), ?_⟩
  rfl
theorem g_newS (num : RInt) (a : Int) (hnum : IOk num a 68719476736) (den : RInt) (b : Int) (hden : IOk den b 68719476736) (hz : b = 0) : Takes Tryz.prog 93 [(encI num), (encI den)] (.tup [(encR (RRat.mk (RInt.mk false []) (RInt.mk false []))), (.val (.int .i64 (14)))]) := by
  refine fn_intro Tryz.func93 rfl cb93 rfl ?_
  show PWp _ _ _ _ ⟨[(0, (.d (encI num))), (1, (.d (encI den)))], []⟩
  refine pwp_seq <| kx [(2, (.ref 0 0)), (3, (.ref 1 0)), (4, (.ref 2 0))] [(0, some (bx (encI num))), (1, some (bx (encI den))), (2, some (bx (encR (RRat.mk (RInt.mk false []) (RInt.mk false [])))))] (zN (oBx 0) <| zN (oBx 1) <| zN (oAl 2 ze67 zo67) <| zM <| zZ) ?_
  refine pwp_seq <| pwp_seq <| kx [(8, (vb true))] [] (zR (oLa sh30) <| zE (oCl (rs_sign hden (by decide))) <| zE (oBk true oEq (by exact beq_iff_eq.2 (by rw [hz]; rfl))) <| zZ) ?_
  refine pwp_cond (b := true) (by kernel_rfl) (fun _ => ?_) (fun h => by cases h)
  refine pwp_seq <| kx [(5, (vin 14))] [(2, some (bx (encR (RRat.mk (RInt.mk false []) (RInt.mk false [])))))] (zE (oBd pl67 ze67 zo67) <| zT (oSt sh67) <| zM <| zZ) ?_
  refine pwp_ret ⟨_, (res_a (cs := (bx (encR (RRat.mk (RInt.mk false []) (RInt.mk false []))))) (d := (encR (RRat.mk (RInt.mk false []) (RInt.mk false [])))) rfl rfl sh67 rfl rfl (.tmp (d := (.val (.int .i64 (14)))) rfl .nil)), ?_⟩
  rfl
theorem g_newO (num : RInt) (a : Int) (hnum : IOk num a 68719476736) (den : RInt) (b : Int) (hden : IOk den b 68719476736) (hb : b ≠ 0) : Takes Tryz.prog 93 [(encI num), (encI den)] (.tup [(encR (ofQ (Rat.divInt a b))), (.val (.int .i64 (0)))]) := by
  refine fn_intro Tryz.func93 rfl cb93 rfl ?_
  show PWp _ _ _ _ ⟨[(0, (.d (encI num))), (1, (.d (encI den)))], []⟩
  refine pwp_seq <| kx [(2, (.ref 0 0)), (3, (.ref 1 0)), (4, (.ref 2 0))] [(0, some (bx (encI num))), (1, some (bx (encI den))), (2, some (bx (encR (RRat.mk (RInt.mk false []) (RInt.mk false [])))))] (zN (oBx 0) <| zN (oBx 1) <| zN (oAl 2 ze67 zo67) <| zM <| zZ) ?_
  refine pwp_seq <| pwp_seq <| kx [(8, (vb false))] [] (zR (oLa sh30) <| zE (oCl (rs_sign hden (by decide))) <| zE (oBk false oEq (by exact beq_eq_false_iff_ne.2 (signI_ne hb))) <| zZ) ?_
  refine pwp_cond (b := false) (by kernel_rfl) (fun h => by cases h) (fun _ => ?_)
  refine pwp_skip <| pwp_seq <| kx [(5, (vin 0))] [(2, some (bx (encR (ofQ (Rat.divInt a b)))))] (zR (oLa sh30) <| zR (oLa sh30) <| zE (oCl (g_reduced num den a b hnum hden (by assumption))) <| zT (oSt sh67) <| zM <| zZ) ?_
  refine pwp_ret ⟨_, (res_a (cs := (bx (encR (ofQ (Rat.divInt a b))))) (d := (encR (ofQ (Rat.divInt a b)))) rfl rfl sh67 rfl rfl (.tmp (d := (.val (.int .i64 (0)))) rfl .nil)), ?_⟩
  rfl
theorem g_zeroT  : Takes Tryz.prog 33 [(encR (RRat.mk (RInt.mk false []) (RInt.mk false [])))] (.val (.bool (true))) := by
  refine fn_intro Tryz.func33 rfl cb33 rfl ?_
  show PWp _ _ _ _ ⟨[(0, (.d (encR (RRat.mk (RInt.mk false []) (RInt.mk false [])))))], []⟩
  refine pwp_seq <| kx [(1, (.ref 0 0))] [(0, some (bx (encR (RRat.mk (RInt.mk false []) (RInt.mk false [])))))] (zN (oBx 0) <| zM <| zZ) ?_
  refine pwp_seq <| kx [(2, (vb true))] [] (zE (oFr fo67_0) <| zE (oFr fo30_0) <| zR (oL1 sh4) <| zE oNt <| zM <| zE (oFr fo67_1) <| zE (oFr fo30_0) <| zR (oL1 sh4) <| zE oNt <| zE oPt <| zM <| zE (oFr fo67_0) <| zE (oFr fo30_1) <| zR (oL1 sh28) <| zE (oLn el28 0) <| zE oEq <| zE oPt <| zM <| zE (oFr fo67_1) <| zE (oFr fo30_1) <| zR (oL1 sh28) <| zE (oLn el28 0) <| zE oEq <| zE oPt <| zM <| zZ) ?_
  refine pwp_ret ⟨_, (.tmp (d := (.val (.bool (true)))) rfl .nil), ?_⟩
  rfl
theorem d_place0 (p : A3 RInt) (p0 p1 p2 : Int) (hp0 : IOk p.a0 p0 1000000) (hp1 : IOk p.a1 p1 1000000) (hp2 : IOk p.a2 p2 1000000) (hz : p2 = 0) : Takes Tryz.prog 111 [(encA43 p)] (.tup [(encPlace (RPlace.mk (RRat.mk (RInt.mk false []) (RInt.mk false [])) (RRat.mk (RInt.mk false []) (RInt.mk false [])))), (.val (.bool (false)))]) := by
  let y1 := (RRat.mk (RInt.mk false []) (RInt.mk false []))
  refine fn_intro Tryz.func111 rfl cb111 rfl ?_
  show PWp _ _ _ _ ⟨[(0, (.d (encA43 p)))], []⟩
  refine pwp_seq <| kx [(1, (.ref 0 0)), (2, (.ref 1 0))] [(0, some (bx (encA43 p))), (1, some (bx (encPlace (RPlace.mk y1 y1))))] (zN (oBx 0) <| zN (oAl 1 ze91 zo91) <| zM <| zZ) ?_
  refine pwp_seq <| kx [(4, (.ref 2 0)), (5, (vi 14))] [(2, some (bx (encR y1)))] (zE (oXr ar44 0) <| zR (oLa sh30) <| zE (oXr ar44 2) <| zR (oLa sh30) <| zE (oCl (f_newS p.a0 p0 (iu hp0) p.a2 p2 (iu hp2) hz)) <| zM <| zE oEx <| zE oEx <| zN (oAl 2 ze67 zo67) <| zT (oSt sh67) <| zM <| zZ) ?_
  refine pwp_seq <| kx [(6, (.ref 3 0))] [(3, some (bx (encR y1)))] (zE (oXr ar44 1) <| zR (oLa sh30) <| zE (oXr ar44 2) <| zR (oLa sh30) <| zE (oCl (f_newS p.a1 p1 (iu hp1) p.a2 p2 (iu hp2) hz)) <| zM <| zE oEx <| zE oEx <| zN (oAl 3 ze67 zo67) <| zT (oSt sh67) <| zM <| zZ) ?_
  refine pwp_seq <| kx [(3, (vb false))] [(1, some (bx (encPlace (RPlace.mk y1 y1))))] (zR (oLa sh67) <| zR (oLa sh67) <| zE (oBd pl91 ze91 zo91) <| zM <| zE oEq <| zT (oSt sh91) <| zM <| zZ) ?_
  refine pwp_ret ⟨_, (res_a (cs := (bx (encPlace (RPlace.mk (RRat.mk (RInt.mk false []) (RInt.mk false [])) (RRat.mk (RInt.mk false []) (RInt.mk false [])))))) (d := (encPlace (RPlace.mk (RRat.mk (RInt.mk false []) (RInt.mk false [])) (RRat.mk (RInt.mk false []) (RInt.mk false []))))) rfl rfl sh91 rfl rfl (.tmp (d := (.val (.bool (false)))) rfl .nil)), ?_⟩
  rfl
theorem d_placeO (p : A3 RInt) (p0 p1 p2 : Int) (hp0 : IOk p.a0 p0 1000000) (hp1 : IOk p.a1 p1 1000000) (hp2 : IOk p.a2 p2 1000000) (hb : p2 ≠ 0) : Takes Tryz.prog 111 [(encA43 p)] (.tup [(encPlace (RPlace.mk (ofQ (Rat.divInt p0 p2)) (ofQ (Rat.divInt p1 p2)))), (.val (.bool (true)))]) := by
  refine fn_intro Tryz.func111 rfl cb111 rfl ?_
  show PWp _ _ _ _ ⟨[(0, (.d (encA43 p)))], []⟩
  refine pwp_seq <| kx [(1, (.ref 0 0)), (2, (.ref 1 0))] [(0, some (bx (encA43 p))), (1, some (bx (encPlace (RPlace.mk (RRat.mk (RInt.mk false []) (RInt.mk false [])) (RRat.mk (RInt.mk false []) (RInt.mk false []))))))] (zN (oBx 0) <| zN (oAl 1 ze91 zo91) <| zM <| zZ) ?_
  refine pwp_seq <| kx [(4, (.ref 2 0)), (5, (vi 0))] [(2, some (bx (encR (ofQ (Rat.divInt p0 p2)))))] (zE (oXr ar44 0) <| zR (oLa sh30) <| zE (oXr ar44 2) <| zR (oLa sh30) <| zE (oCl (f_newO p.a0 p0 (iu hp0) p.a2 p2 (iu hp2) hb)) <| zM <| zE oEx <| zE oEx <| zN (oAl 2 ze67 zo67) <| zT (oSt sh67) <| zM <| zZ) ?_
  refine pwp_seq <| kx [(6, (.ref 3 0))] [(3, some (bx (encR (ofQ (Rat.divInt p1 p2)))))] (zE (oXr ar44 1) <| zR (oLa sh30) <| zE (oXr ar44 2) <| zR (oLa sh30) <| zE (oCl (f_newO p.a1 p1 (iu hp1) p.a2 p2 (iu hp2) hb)) <| zM <| zE oEx <| zE oEx <| zN (oAl 3 ze67 zo67) <| zT (oSt sh67) <| zM <| zZ) ?_
  refine pwp_seq <| kx [(3, (vb true))] [(1, some (bx (encPlace (RPlace.mk (ofQ (Rat.divInt p0 p2)) (ofQ (Rat.divInt p1 p2))))))] (zR (oLa sh67) <| zR (oLa sh67) <| zE (oBd pl91 ze91 zo91) <| zM <| zE oEq <| zT (oSt sh91) <| zM <| zZ) ?_
  refine pwp_ret ⟨_, (res_a (cs := (bx (encPlace (RPlace.mk (ofQ (Rat.divInt p0 p2)) (ofQ (Rat.divInt p1 p2)))))) (d := (encPlace (RPlace.mk (ofQ (Rat.divInt p0 p2)) (ofQ (Rat.divInt p1 p2))))) rfl rfl sh91 rfl rfl (.tmp (d := (.val (.bool (true)))) rfl .nil)), ?_⟩
  rfl
theorem l_place0 (p : A3 RInt) (p0 p1 p2 : Int) (hp0 : IOk p.a0 p0 1000000) (hp1 : IOk p.a1 p1 1000000) (hp2 : IOk p.a2 p2 1000000) (hz : p2 = 0) : Takes Tryz.prog 53 [(encA43 p)] (.tup [(encPlace (RPlace.mk (RRat.mk (RInt.mk false []) (RInt.mk false [])) (RRat.mk (RInt.mk false []) (RInt.mk false [])))), (.val (.bool (false)))]) := by
  let y1 := (RRat.mk (RInt.mk false []) (RInt.mk false []))
  refine fn_intro Tryz.func53 rfl cb53 rfl ?_
  show PWp _ _ _ _ ⟨[(0, (.d (encA43 p)))], []⟩
  refine pwp_seq <| kx [(1, (.ref 0 0)), (2, (.ref 1 0))] [(0, some (bx (encA43 p))), (1, some (bx (encPlace (RPlace.mk y1 y1))))] (zN (oBx 0) <| zN (oAl 1 ze91 zo91) <| zM <| zZ) ?_
  refine pwp_seq <| kx [(4, (.ref 2 0)), (5, (vi 14))] [(2, some (bx (encR y1)))] (zE (oXr ar44 0) <| zR (oLa sh30) <| zE (oXr ar44 2) <| zR (oLa sh30) <| zE (oCl (g_newS p.a0 p0 (iu hp0) p.a2 p2 (iu hp2) hz)) <| zM <| zE oEx <| zE oEx <| zN (oAl 2 ze67 zo67) <| zT (oSt sh67) <| zM <| zZ) ?_
  refine pwp_seq <| kx [(6, (.ref 3 0)), (7, (vi 14))] [(3, some (bx (encR y1)))] (zE (oXr ar44 1) <| zR (oLa sh30) <| zE (oXr ar44 2) <| zR (oLa sh30) <| zE (oCl (g_newS p.a1 p1 (iu hp1) p.a2 p2 (iu hp2) hz)) <| zM <| zE oEx <| zE oEx <| zN (oAl 3 ze67 zo67) <| zT (oSt sh67) <| zM <| zZ) ?_
  refine pwp_seq <| pwp_seq <| kx [(29, (vb true))] [] (zM <| zE oNe <| zM <| zK <| zK <| zE oPt <| zZ) ?_
  refine pwp_cond (b := true) (by kernel_rfl) (fun _ => ?_) (fun h => by cases h)
  refine pwp_seq <| kx [(3, (vb false))] [(1, some (bx (encPlace (RPlace.mk y1 y1))))] (zE (oBd pl91 ze91 zo91) <| zT (oSt sh91) <| zM <| zZ) ?_
  refine pwp_ret ⟨_, (res_a (cs := (bx (encPlace (RPlace.mk (RRat.mk (RInt.mk false []) (RInt.mk false [])) (RRat.mk (RInt.mk false []) (RInt.mk false [])))))) (d := (encPlace (RPlace.mk (RRat.mk (RInt.mk false []) (RInt.mk false [])) (RRat.mk (RInt.mk false []) (RInt.mk false []))))) rfl rfl sh91 rfl rfl (.tmp (d := (.val (.bool (false)))) rfl .nil)), ?_⟩
  rfl
theorem l_placeO (p : A3 RInt) (p0 p1 p2 : Int) (hp0 : IOk p.a0 p0 1000000) (hp1 : IOk p.a1 p1 1000000) (hp2 : IOk p.a2 p2 1000000) (hb : p2 ≠ 0) : Takes Tryz.prog 53 [(encA43 p)] (.tup [(encPlace (RPlace.mk (ofQ (Rat.divInt p0 p2)) (ofQ (Rat.divInt p1 p2)))), (.val (.bool (true)))]) := by
  refine fn_intro Tryz.func53 rfl cb53 rfl ?_
  show PWp _ _ _ _ ⟨[(0, (.d (encA43 p)))], []⟩
  refine pwp_seq <| kx [(1, (.ref 0 0)), (2, (.ref 1 0))] [(0, some (bx (encA43 p))), (1, some (bx (encPlace (RPlace.mk (RRat.mk (RInt.mk false []) (RInt.mk false [])) (RRat.mk (RInt.mk false []) (RInt.mk false []))))))] (zN (oBx 0) <| zN (oAl 1 ze91 zo91) <| zM <| zZ) ?_
  refine pwp_seq <| kx [(4, (.ref 2 0)), (5, (vi 0))] [(2, some (bx (encR (ofQ (Rat.divInt p0 p2)))))] (zE (oXr ar44 0) <| zR (oLa sh30) <| zE (oXr ar44 2) <| zR (oLa sh30) <| zE (oCl (g_newO p.a0 p0 (iu hp0) p.a2 p2 (iu hp2) hb)) <| zM <| zE oEx <| zE oEx <| zN (oAl 2 ze67 zo67) <| zT (oSt sh67) <| zM <| zZ) ?_
  refine pwp_seq <| kx [(6, (.ref 3 0)), (7, (vi 0))] [(3, some (bx (encR (ofQ (Rat.divInt p1 p2)))))] (zE (oXr ar44 1) <| zR (oLa sh30) <| zE (oXr ar44 2) <| zR (oLa sh30) <| zE (oCl (g_newO p.a1 p1 (iu hp1) p.a2 p2 (iu hp2) hb)) <| zM <| zE oEx <| zE oEx <| zN (oAl 3 ze67 zo67) <| zT (oSt sh67) <| zM <| zZ) ?_
  refine pwp_seq <| pwp_seq <| kx [(29, (vb false))] [] (zM <| zE oNe <| zM <| zM <| zE oNe <| zE oPf <| zZ) ?_
  refine pwp_cond (b := false) (by kernel_rfl) (fun h => by cases h) (fun _ => ?_)
  refine pwp_skip <| pwp_seq <| kx [(3, (vb true))] [(1, some (bx (encPlace (RPlace.mk (ofQ (Rat.divInt p0 p2)) (ofQ (Rat.divInt p1 p2))))))] (zR (oLa sh67) <| zR (oLa sh67) <| zE (oBd pl91 ze91 zo91) <| zT (oSt sh91) <| zM <| zZ) ?_
  refine pwp_ret ⟨_, (res_a (cs := (bx (encPlace (RPlace.mk (ofQ (Rat.divInt p0 p2)) (ofQ (Rat.divInt p1 p2)))))) (d := (encPlace (RPlace.mk (ofQ (Rat.divInt p0 p2)) (ofQ (Rat.divInt p1 p2))))) rfl rfl sh91 rfl rfl (.tmp (d := (.val (.bool (true)))) rfl .nil)), ?_⟩
  rfl
theorem l_point (u v : Rat) (hu : QL u 1000) (hv : QL v 1000) (c0 c1 c2 : Int) (hc : redL [(u.num * (v.den : Int)), (v.num * (u.den : Int)), ((u.den : Int) * (v.den : Int))] = [c0, c1, c2]) (hnz : sgnL [(u.num * (v.den : Int)), (v.num * (u.den : Int)), ((u.den : Int) * (v.den : Int))] ≠ 0) : Takes Tryz.prog 52 [(encPlace (RPlace.mk (ofQ u) (ofQ v)))] (encA43 (A3.mk (ofZ c0) (ofZ c1) (ofZ c2))) := by
  refine fn_intro Tryz.func52 rfl cb52 rfl ?_
  show PWp _ _ _ _ ⟨[(0, (.d (encPlace (RPlace.mk (ofQ u) (ofQ v)))))], []⟩
  refine pwp_seq <| kx [(1, (.ref 0 0)), (2, (.ref 1 0))] [(0, some (bx (encPlace (RPlace.mk (ofQ u) (ofQ v))))), (1, some (bx (encA43 (A3.mk (RInt.mk false []) (RInt.mk false []) (RInt.mk false [])))))] (zN (oBx 0) <| zN (oAl 1 ze44 zo44) <| zZ) ?_
  refine pwp_seq ?_
  have bn1 : IOk (ofZ (u.num * (v.den : Int))) (u.num * (v.den : Int)) 2000 := (iok_mul (k := 2000) (qok_num hu) (qok_den hv) (by decide))
  have bn2 : IOk (ofZ (v.num * (u.den : Int))) (v.num * (u.den : Int)) 2000 := (iok_mul (k := 2000) (qok_num hv) (qok_den hu) (by decide))
  have bn3 : IOk (ofZ ((u.den : Int) * (v.den : Int))) ((u.den : Int) * (v.den : Int)) 2000 := (iok_mul (k := 2000) (qok_den hu) (qok_den hv) (by decide))
  have bn4 : ∀ c ∈ [c0, c1, c2], IOk (ofZ c) c 2000 := red_iok (n := 2000) (.cons bn1 (.cons bn2 (.cons bn3 .nil))) hc
  refine kd [(3, (.ref 2 0))] [(2, some (bx (encA43 (A3.mk (ofZ c0) (ofZ c1) (ofZ c2)))))] mo (wE (oFr fo91_0) <| wE (oFr fo67_0) <| wR (oLa sh30) <| wE (oFr fo91_1) <| wE (oFr fo67_1) <| wR (oLa sh30) <| wE (oCl (l_times ((ofQ u).num) u.num (iok_up (qok_num hu) (by decide)) ((ofQ v).den) (v.den : Int) (iok_up (qok_den hv) (by decide)))) <| wE (oFr fo91_1) <| wE (oFr fo67_0) <| wR (oLa sh30) <| wE (oFr fo91_0) <| wE (oFr fo67_1) <| wR (oLa sh30) <| wE (oCl (l_times ((ofQ v).num) v.num (iok_up (qok_num hv) (by decide)) ((ofQ u).den) (u.den : Int) (iok_up (qok_den hu) (by decide)))) <| wE (oFr fo91_0) <| wE (oFr fo67_1) <| wR (oLa sh30) <| wE (oFr fo91_1) <| wE (oFr fo67_1) <| wR (oLa sh30) <| wE (oCl (l_times ((ofQ u).den) (u.den : Int) (iok_up (qok_den hu) (by decide)) ((ofQ v).den) (v.den : Int) (iok_up (qok_den hv) (by decide)))) <| wE (oBf ar44 ze44 zo44) <| wE (oCl (l_trip (A3.mk (ofZ (u.num * (v.den : Int))) (ofZ (v.num * (u.den : Int))) (ofZ ((u.den : Int) * (v.den : Int)))) (u.num * (v.den : Int)) (v.num * (u.den : Int)) ((u.den : Int) * (v.den : Int)) (iu bn1) (iu bn2) (iu bn3) c0 c1 c2 hc hnz)) <| wM <| wE oEx <| wE oEx <| wN (oAl 2 ze44 zo44) <| wT (oSt sh44) <| wM <| wZ) ?_
  refine pwp_seq <| kx [] [(1, some (bx (encA43 (A3.mk (ofZ c0) (ofZ c1) (ofZ c2)))))] (zR (oLa sh44) <| zT (oSt sh44) <| zZ) ?_
  refine pwp_ret ⟨_, (res_a (cs := (bx (encA43 (A3.mk (ofZ c0) (ofZ c1) (ofZ c2))))) (d := (encA43 (A3.mk (ofZ c0) (ofZ c1) (ofZ c2)))) rfl rfl sh44 rfl rfl .nil), ?_⟩
  rfl
theorem l_pix (x y : Int) (hx : -1048576 ≤ x ∧ x ≤ 1048576) (hy : -1048576 ≤ y ∧ y ≤ 1048576) (c0 c1 c2 : Int) (hc : redL [x, y, 1] = [c0, c1, c2]) : Takes Tryz.prog 18 [(encPix (RPix.mk x y))] (encA43 (A3.mk (ofZ c0) (ofZ c1) (ofZ c2))) := by
  refine fn_intro Tryz.func18 rfl cb18 rfl ?_
  show PWp _ _ _ _ ⟨[(0, (.d (encPix (RPix.mk x y))))], []⟩
  refine pwp_seq <| kx [(1, (.ref 0 0)), (2, (.ref 1 0))] [(0, some (bx (encPix (RPix.mk x y)))), (1, some (bx (encA43 (A3.mk (RInt.mk false []) (RInt.mk false []) (RInt.mk false [])))))] (zN (oBx 0) <| zN (oAl 1 ze44 zo44) <| zZ) ?_
  refine pwp_seq ?_
  have bn1 : QL ((x : Int) : Rat) 3 := (ql_int (z := x) (lenZ_int (by omega) (by omega)) (by decide))
  have bn2 : QL ((y : Int) : Rat) 3 := (ql_int (z := y) (lenZ_int (by omega) (by omega)) (by decide))
  have bn3 : ∀ c ∈ [c0, c1, c2], IOk (ofZ c) c 6 := red_iok (n := 6) (.cons (iok_mul (k := 6) (qok_num bn1) (qok_den bn2) (by decide)) (.cons (iok_mul (k := 6) (qok_num bn2) (qok_den bn1) (by decide)) (.cons (iok_mul (k := 6) (qok_den bn1) (qok_den bn2) (by decide)) .nil))) (pix_red hc)
  refine kd [] [(1, some (bx (encA43 (A3.mk (ofZ c0) (ofZ c1) (ofZ c2)))))] mo (wE (oFr fo23_0) <| wR (oL1 sh3) <| wE (oCl (g_whole x (by omega) (by omega))) <| wE (oFr fo23_1) <| wR (oL1 sh3) <| wE (oCl (g_whole y (by omega) (by omega))) <| wE (oBd pl91 ze91 zo91) <| wE (oCl (l_point ((x : Int) : Rat) ((y : Int) : Rat) (ql_up bn1 (by decide)) (ql_up bn2 (by decide)) c0 c1 c2 (pix_red hc) (pix_nz x y))) <| wT (oSt sh44) <| wZ) ?_
  refine pwp_ret ⟨_, (res_a (cs := (bx (encA43 (A3.mk (ofZ c0) (ofZ c1) (ofZ c2))))) (d := (encA43 (A3.mk (ofZ c0) (ofZ c1) (ofZ c2)))) rfl rfl sh44 rfl rfl .nil), ?_⟩
  rfl
end Go.Proofs.YtadkkhdnccljcaaGreat
namespace Go.Proofs.YtadkkhdnccljcaaGreat
open Go.Fid
set_option maxRecDepth 4000
set_option linter.unusedVariables false
set_option linter.unusedSimpArgs false
theorem cb57 : callB Tryz.prog 57 = true := by kernel_rfl
theorem d_errE (h : A9 RInt) (h0 h1 h2 h3 h4 h5 h6 h7 h8 : Int) (hh0 : IOk h.a0 h0 1000) (hh1 : IOk h.a1 h1 1000) (hh2 : IOk h.a2 h2 1000) (hh3 : IOk h.a3 h3 1000) (hh4 : IOk h.a4 h4 1000) (hh5 : IOk h.a5 h5 1000) (hh6 : IOk h.a6 h6 1000) (hh7 : IOk h.a7 h7 1000) (hh8 : IOk h.a8 h8 1000) (fx fy tx ty : Int) (hv : valH [h.a0, h.a1, h.a2, h.a3, h.a4, h.a5, h.a6, h.a7, h.a8] (det3 h0 h1 h2 h3 h4 h5 h6 h7 h8) = false) : Takes Tryz.prog 57 [(encA31 h), (encPair (RPair.mk (RPix.mk fx fy) (RPix.mk tx ty)))] (.tup [(encR (RRat.mk (RInt.mk false []) (RInt.mk false []))), (.val (.int .i64 (1)))]) := by
  refine fn_intro Tryz.func57 rfl cb57 rfl ?_
  show PWp _ _ _ _ ⟨[(0, (.d (encA31 h))), (1, (.d (encPair (RPair.mk (RPix.mk fx fy) (RPix.mk tx ty)))))], []⟩
  refine pwp_seq <| kx [(2, (.ref 0 0)), (3, (.ref 1 0)), (4, (.ref 2 0))] [(0, some (bx (encA31 h))), (1, some (bx (encPair (RPair.mk (RPix.mk fx fy) (RPix.mk tx ty))))), (2, some (bx (encR (RRat.mk (RInt.mk false []) (RInt.mk false [])))))] (zN (oBx 0) <| zN (oBx 1) <| zN (oAl 2 ze67 zo67) <| zM <| zZ) ?_
  refine pwp_seq <| pwp_seq <| kx [(12, (vb true))] [] (zR (oLa sh32) <| zE (oBk false (oCl (d_valid h h0 h1 h2 h3 h4 h5 h6 h7 h8 (iu hh0) (iu hh1) (iu hh2) (iu hh3) (iu hh4) (iu hh5) (iu hh6) (iu hh7) (iu hh8))) (by exact hv)) <| zE oNt <| zZ) ?_
  refine pwp_cond (b := true) (by kernel_rfl) (fun _ => ?_) (fun h => by cases h)
  refine pwp_seq <| kx [(5, (vin 1))] [(2, some (bx (encR (RRat.mk (RInt.mk false []) (RInt.mk false [])))))] (zE (oBd pl67 ze67 zo67) <| zT (oSt sh67) <| zM <| zZ) ?_
  refine pwp_ret ⟨_, (res_a (cs := (bx (encR (RRat.mk (RInt.mk false []) (RInt.mk false []))))) (d := (encR (RRat.mk (RInt.mk false []) (RInt.mk false [])))) rfl rfl sh67 rfl rfl (.tmp (d := (.val (.int .i64 (1)))) rfl .nil)), ?_⟩
  rfl
theorem d_errR0 (h : A9 RInt) (h0 h1 h2 h3 h4 h5 h6 h7 h8 : Int) (hh0 : IOk h.a0 h0 1000) (hh1 : IOk h.a1 h1 1000) (hh2 : IOk h.a2 h2 1000) (hh3 : IOk h.a3 h3 1000) (hh4 : IOk h.a4 h4 1000) (hh5 : IOk h.a5 h5 1000) (hh6 : IOk h.a6 h6 1000) (hh7 : IOk h.a7 h7 1000) (hh8 : IOk h.a8 h8 1000) (fx fy tx ty : Int) (hv : valH [h.a0, h.a1, h.a2, h.a3, h.a4, h.a5, h.a6, h.a7, h.a8] (det3 h0 h1 h2 h3 h4 h5 h6 h7 h8) = true) (hr : inR fx fy = false) : Takes Tryz.prog 57 [(encA31 h), (encPair (RPair.mk (RPix.mk fx fy) (RPix.mk tx ty)))] (.tup [(encR (RRat.mk (RInt.mk false []) (RInt.mk false []))), (.val (.int .i64 (2)))]) := by
  refine fn_intro Tryz.func57 rfl cb57 rfl ?_
  show PWp _ _ _ _ ⟨[(0, (.d (encA31 h))), (1, (.d (encPair (RPair.mk (RPix.mk fx fy) (RPix.mk tx ty)))))], []⟩
  refine pwp_seq <| kx [(2, (.ref 0 0)), (3, (.ref 1 0)), (4, (.ref 2 0))] [(0, some (bx (encA31 h))), (1, some (bx (encPair (RPair.mk (RPix.mk fx fy) (RPix.mk tx ty))))), (2, some (bx (encR (RRat.mk (RInt.mk false []) (RInt.mk false [])))))] (zN (oBx 0) <| zN (oBx 1) <| zN (oAl 2 ze67 zo67) <| zM <| zZ) ?_
  refine pwp_seq <| pwp_seq <| kx [(12, (vb false))] [] (zR (oLa sh32) <| zE (oBk true (oCl (d_valid h h0 h1 h2 h3 h4 h5 h6 h7 h8 (iu hh0) (iu hh1) (iu hh2) (iu hh3) (iu hh4) (iu hh5) (iu hh6) (iu hh7) (iu hh8))) (by exact hv)) <| zE oNt <| zZ) ?_
  refine pwp_cond (b := false) (by kernel_rfl) (fun h => by cases h) (fun _ => ?_)
  refine pwp_skip <| pwp_seq <| pwp_seq <| kx [(23, (vb true))] [] (zE (oFr fo25_0) <| zR (oLa sh23) <| zE (oBk false (oCl (d_inRange fx fy)) (by exact hr)) <| zE oNt <| zM <| zK <| zK <| zK <| zK <| zE oPt <| zZ) ?_
  refine pwp_cond (b := true) (by kernel_rfl) (fun _ => ?_) (fun h => by cases h)
  refine pwp_seq <| kx [(5, (vin 2))] [(2, some (bx (encR (RRat.mk (RInt.mk false []) (RInt.mk false [])))))] (zE (oBd pl67 ze67 zo67) <| zT (oSt sh67) <| zM <| zZ) ?_
  refine pwp_ret ⟨_, (res_a (cs := (bx (encR (RRat.mk (RInt.mk false []) (RInt.mk false []))))) (d := (encR (RRat.mk (RInt.mk false []) (RInt.mk false [])))) rfl rfl sh67 rfl rfl (.tmp (d := (.val (.int .i64 (2)))) rfl .nil)), ?_⟩
  rfl
theorem d_errR1 (h : A9 RInt) (h0 h1 h2 h3 h4 h5 h6 h7 h8 : Int) (hh0 : IOk h.a0 h0 1000) (hh1 : IOk h.a1 h1 1000) (hh2 : IOk h.a2 h2 1000) (hh3 : IOk h.a3 h3 1000) (hh4 : IOk h.a4 h4 1000) (hh5 : IOk h.a5 h5 1000) (hh6 : IOk h.a6 h6 1000) (hh7 : IOk h.a7 h7 1000) (hh8 : IOk h.a8 h8 1000) (fx fy tx ty : Int) (hv : valH [h.a0, h.a1, h.a2, h.a3, h.a4, h.a5, h.a6, h.a7, h.a8] (det3 h0 h1 h2 h3 h4 h5 h6 h7 h8) = true) (hr : inR fx fy = true) (hr2 : inR tx ty = false) : Takes Tryz.prog 57 [(encA31 h), (encPair (RPair.mk (RPix.mk fx fy) (RPix.mk tx ty)))] (.tup [(encR (RRat.mk (RInt.mk false []) (RInt.mk false []))), (.val (.int .i64 (2)))]) := by
  refine fn_intro Tryz.func57 rfl cb57 rfl ?_
  show PWp _ _ _ _ ⟨[(0, (.d (encA31 h))), (1, (.d (encPair (RPair.mk (RPix.mk fx fy) (RPix.mk tx ty)))))], []⟩
  refine pwp_seq <| kx [(2, (.ref 0 0)), (3, (.ref 1 0)), (4, (.ref 2 0))] [(0, some (bx (encA31 h))), (1, some (bx (encPair (RPair.mk (RPix.mk fx fy) (RPix.mk tx ty))))), (2, some (bx (encR (RRat.mk (RInt.mk false []) (RInt.mk false [])))))] (zN (oBx 0) <| zN (oBx 1) <| zN (oAl 2 ze67 zo67) <| zM <| zZ) ?_
  refine pwp_seq <| pwp_seq <| kx [(12, (vb false))] [] (zR (oLa sh32) <| zE (oBk true (oCl (d_valid h h0 h1 h2 h3 h4 h5 h6 h7 h8 (iu hh0) (iu hh1) (iu hh2) (iu hh3) (iu hh4) (iu hh5) (iu hh6) (iu hh7) (iu hh8))) (by exact hv)) <| zE oNt <| zZ) ?_
  refine pwp_cond (b := false) (by kernel_rfl) (fun h => by cases h) (fun _ => ?_)
  refine pwp_skip <| pwp_seq <| pwp_seq <| kx [(23, (vb true))] [] (zE (oFr fo25_0) <| zR (oLa sh23) <| zE (oBk true (oCl (d_inRange fx fy)) (by exact hr)) <| zE oNt <| zM <| zE (oFr fo25_1) <| zR (oLa sh23) <| zE (oBk false (oCl (d_inRange tx ty)) (by exact hr2)) <| zE oNt <| zE oPf <| zZ) ?_
  refine pwp_cond (b := true) (by kernel_rfl) (fun _ => ?_) (fun h => by cases h)
  refine pwp_seq <| kx [(5, (vin 2))] [(2, some (bx (encR (RRat.mk (RInt.mk false []) (RInt.mk false [])))))] (zE (oBd pl67 ze67 zo67) <| zT (oSt sh67) <| zM <| zZ) ?_
  refine pwp_ret ⟨_, (res_a (cs := (bx (encR (RRat.mk (RInt.mk false []) (RInt.mk false []))))) (d := (encR (RRat.mk (RInt.mk false []) (RInt.mk false [])))) rfl rfl sh67 rfl rfl (.tmp (d := (.val (.int .i64 (2)))) rfl .nil)), ?_⟩
  rfl
theorem d_errI (h : A9 RInt) (h0 h1 h2 h3 h4 h5 h6 h7 h8 : Int) (hh0 : IOk h.a0 h0 1000) (hh1 : IOk h.a1 h1 1000) (hh2 : IOk h.a2 h2 1000) (hh3 : IOk h.a3 h3 1000) (hh4 : IOk h.a4 h4 1000) (hh5 : IOk h.a5 h5 1000) (hh6 : IOk h.a6 h6 1000) (hh7 : IOk h.a7 h7 1000) (hh8 : IOk h.a8 h8 1000) (fx fy tx ty : Int) (hv : valH [h.a0, h.a1, h.a2, h.a3, h.a4, h.a5, h.a6, h.a7, h.a8] (det3 h0 h1 h2 h3 h4 h5 h6 h7 h8) = true) (hfx : -1048576 ≤ fx ∧ fx ≤ 1048576) (hfy : -1048576 ≤ fy ∧ fy ≤ 1048576) (htx : -1048576 ≤ tx ∧ tx ≤ 1048576) (hty : -1048576 ≤ ty ∧ ty ≤ 1048576) (hz : (((h6 * fx) + (h7 * fy)) + (h8 * 1)) = 0) : Takes Tryz.prog 57 [(encA31 h), (encPair (RPair.mk (RPix.mk fx fy) (RPix.mk tx ty)))] (.tup [(encR (RRat.mk (RInt.mk false []) (RInt.mk false []))), (.val (.int .i64 (15)))]) := by
  refine fn_intro Tryz.func57 rfl cb57 rfl ?_
  show PWp _ _ _ _ ⟨[(0, (.d (encA31 h))), (1, (.d (encPair (RPair.mk (RPix.mk fx fy) (RPix.mk tx ty)))))], []⟩
  refine pwp_seq <| kx [(2, (.ref 0 0)), (3, (.ref 1 0)), (4, (.ref 2 0))] [(0, some (bx (encA31 h))), (1, some (bx (encPair (RPair.mk (RPix.mk fx fy) (RPix.mk tx ty))))), (2, some (bx (encR (RRat.mk (RInt.mk false []) (RInt.mk false [])))))] (zN (oBx 0) <| zN (oBx 1) <| zN (oAl 2 ze67 zo67) <| zM <| zZ) ?_
  refine pwp_seq <| pwp_seq <| kx [(12, (vb false))] [] (zR (oLa sh32) <| zE (oBk true (oCl (d_valid h h0 h1 h2 h3 h4 h5 h6 h7 h8 (iu hh0) (iu hh1) (iu hh2) (iu hh3) (iu hh4) (iu hh5) (iu hh6) (iu hh7) (iu hh8))) (by exact hv)) <| zE oNt <| zZ) ?_
  refine pwp_cond (b := false) (by kernel_rfl) (fun h => by cases h) (fun _ => ?_)
  refine pwp_skip <| pwp_seq <| pwp_seq <| kx [(23, (vb false))] [] (zE (oFr fo25_0) <| zR (oLa sh23) <| zE (oBk true (oCl (d_inRange fx fy)) (by exact (inR_of hfx hfy))) <| zE oNt <| zM <| zE (oFr fo25_1) <| zR (oLa sh23) <| zE (oBk true (oCl (d_inRange tx ty)) (by exact (inR_of htx hty))) <| zE oNt <| zE oPf <| zZ) ?_
  refine pwp_cond (b := false) (by kernel_rfl) (fun h => by cases h) (fun _ => ?_)
  refine pwp_skip <| pwp_seq <| kd [(6, (.ref 3 0)), (7, (vb false))] [(3, some (bx (encPlace (RPlace.mk (RRat.mk (RInt.mk false []) (RInt.mk false [])) (RRat.mk (RInt.mk false []) (RInt.mk false []))))))] mo (wR (oLa sh32) <| wE (oFr fo25_0) <| wR (oLa sh23) <| wE (oCl (d_homog fx fy hfx hfy)) <| wE (oCl (d_times h h0 h1 h2 h3 h4 h5 h6 h7 h8 (iu hh0) (iu hh1) (iu hh2) (iu hh3) (iu hh4) (iu hh5) (iu hh6) (iu hh7) (iu hh8) (A3.mk (ofZ fx) (ofZ fy) (ofZ 1)) fx fy 1 (iok_up (iok_small (z := fx) (by omega)) (by decide)) (iok_up (iok_small (z := fy) (by omega)) (by decide)) (iok_up (iok_small (z := 1) (by decide)) (by decide)))) <| wE (oCl (d_place0 (A3.mk (ofZ (((h0 * fx) + (h1 * fy)) + (h2 * 1))) (ofZ (((h3 * fx) + (h4 * fy)) + (h5 * 1))) (ofZ (((h6 * fx) + (h7 * fy)) + (h8 * 1)))) (((h0 * fx) + (h1 * fy)) + (h2 * 1)) (((h3 * fx) + (h4 * fy)) + (h5 * 1)) (((h6 * fx) + (h7 * fy)) + (h8 * 1)) (iok_up (iok_add (k := 1003) (iok_add (k := 1002) (iok_mul (k := 1001) hh0 (iok_small (z := fx) (by omega)) (by decide)) (iok_mul (k := 1001) hh1 (iok_small (z := fy) (by omega)) (by decide)) (by decide)) (iok_mul (k := 1001) hh2 (iok_small (z := 1) (by decide)) (by decide)) (by decide)) (by decide)) (iok_up (iok_add (k := 1003) (iok_add (k := 1002) (iok_mul (k := 1001) hh3 (iok_small (z := fx) (by omega)) (by decide)) (iok_mul (k := 1001) hh4 (iok_small (z := fy) (by omega)) (by decide)) (by decide)) (iok_mul (k := 1001) hh5 (iok_small (z := 1) (by decide)) (by decide)) (by decide)) (by decide)) (iok_up (iok_add (k := 1003) (iok_add (k := 1002) (iok_mul (k := 1001) hh6 (iok_small (z := fx) (by omega)) (by decide)) (iok_mul (k := 1001) hh7 (iok_small (z := fy) (by omega)) (by decide)) (by decide)) (iok_mul (k := 1001) hh8 (iok_small (z := 1) (by decide)) (by decide)) (by decide)) (by decide)) hz)) <| wM <| wE oEx <| wE oEx <| wN (oAl 3 ze91 zo91) <| wT (oSt sh91) <| wM <| wZ) ?_
  refine pwp_seq <| pwp_seq <| kx [(35, (vb true))] [] (zM <| zE oNt <| zZ) ?_
  refine pwp_cond (b := true) (by kernel_rfl) (fun _ => ?_) (fun h => by cases h)
  refine pwp_seq <| kx [(5, (vin 15))] [(2, some (bx (encR (RRat.mk (RInt.mk false []) (RInt.mk false [])))))] (zE (oBd pl67 ze67 zo67) <| zT (oSt sh67) <| zM <| zZ) ?_
  refine pwp_ret ⟨_, (res_a (cs := (bx (encR (RRat.mk (RInt.mk false []) (RInt.mk false []))))) (d := (encR (RRat.mk (RInt.mk false []) (RInt.mk false [])))) rfl rfl sh67 rfl rfl (.tmp (d := (.val (.int .i64 (15)))) rfl .nil)), ?_⟩
  rfl
theorem d_err (h : A9 RInt) (h0 h1 h2 h3 h4 h5 h6 h7 h8 : Int) (hh0 : IOk h.a0 h0 1000) (hh1 : IOk h.a1 h1 1000) (hh2 : IOk h.a2 h2 1000) (hh3 : IOk h.a3 h3 1000) (hh4 : IOk h.a4 h4 1000) (hh5 : IOk h.a5 h5 1000) (hh6 : IOk h.a6 h6 1000) (hh7 : IOk h.a7 h7 1000) (hh8 : IOk h.a8 h8 1000) (fx fy tx ty : Int) (hv : valH [h.a0, h.a1, h.a2, h.a3, h.a4, h.a5, h.a6, h.a7, h.a8] (det3 h0 h1 h2 h3 h4 h5 h6 h7 h8) = true) (hfx : -1048576 ≤ fx ∧ fx ≤ 1048576) (hfy : -1048576 ≤ fy ∧ fy ≤ 1048576) (htx : -1048576 ≤ tx ∧ tx ≤ 1048576) (hty : -1048576 ≤ ty ∧ ty ≤ 1048576) (hz : (((h6 * fx) + (h7 * fy)) + (h8 * 1)) ≠ 0) : Takes Tryz.prog 57 [(encA31 h), (encPair (RPair.mk (RPix.mk fx fy) (RPix.mk tx ty)))] (.tup [(encR (ofQ ((((Rat.divInt (((h0 * fx) + (h1 * fy)) + (h2 * 1)) (((h6 * fx) + (h7 * fy)) + (h8 * 1))) - ((tx : Int) : Rat)) * ((Rat.divInt (((h0 * fx) + (h1 * fy)) + (h2 * 1)) (((h6 * fx) + (h7 * fy)) + (h8 * 1))) - ((tx : Int) : Rat))) + (((Rat.divInt (((h3 * fx) + (h4 * fy)) + (h5 * 1)) (((h6 * fx) + (h7 * fy)) + (h8 * 1))) - ((ty : Int) : Rat)) * ((Rat.divInt (((h3 * fx) + (h4 * fy)) + (h5 * 1)) (((h6 * fx) + (h7 * fy)) + (h8 * 1))) - ((ty : Int) : Rat)))))), (.val (.int .i64 (0)))]) := by
  let y2 := (ofQ ((Rat.divInt (((h3 * fx) + (h4 * fy)) + (h5 * 1)) (((h6 * fx) + (h7 * fy)) + (h8 * 1))) - ((ty : Int) : Rat)))
  let y1 := (ofQ ((Rat.divInt (((h0 * fx) + (h1 * fy)) + (h2 * 1)) (((h6 * fx) + (h7 * fy)) + (h8 * 1))) - ((tx : Int) : Rat)))
  refine fn_intro Tryz.func57 rfl cb57 rfl ?_
  show PWp _ _ _ _ ⟨[(0, (.d (encA31 h))), (1, (.d (encPair (RPair.mk (RPix.mk fx fy) (RPix.mk tx ty)))))], []⟩
  refine pwp_seq <| kx [(2, (.ref 0 0)), (3, (.ref 1 0)), (4, (.ref 2 0))] [(0, some (bx (encA31 h))), (1, some (bx (encPair (RPair.mk (RPix.mk fx fy) (RPix.mk tx ty))))), (2, some (bx (encR (RRat.mk (RInt.mk false []) (RInt.mk false [])))))] (zN (oBx 0) <| zN (oBx 1) <| zN (oAl 2 ze67 zo67) <| zM <| zZ) ?_
  refine pwp_seq <| pwp_seq <| kx [(12, (vb false))] [] (zR (oLa sh32) <| zE (oBk true (oCl (d_valid h h0 h1 h2 h3 h4 h5 h6 h7 h8 (iu hh0) (iu hh1) (iu hh2) (iu hh3) (iu hh4) (iu hh5) (iu hh6) (iu hh7) (iu hh8))) (by exact hv)) <| zE oNt <| zZ) ?_
  refine pwp_cond (b := false) (by kernel_rfl) (fun h => by cases h) (fun _ => ?_)
  refine pwp_skip <| pwp_seq <| pwp_seq <| kx [(23, (vb false))] [] (zE (oFr fo25_0) <| zR (oLa sh23) <| zE (oBk true (oCl (d_inRange fx fy)) (by exact (inR_of hfx hfy))) <| zE oNt <| zM <| zE (oFr fo25_1) <| zR (oLa sh23) <| zE (oBk true (oCl (d_inRange tx ty)) (by exact (inR_of htx hty))) <| zE oNt <| zE oPf <| zZ) ?_
  refine pwp_cond (b := false) (by kernel_rfl) (fun h => by cases h) (fun _ => ?_)
  refine pwp_skip <| pwp_seq ?_
  have bn1 : IOk (ofZ (((h0 * fx) + (h1 * fy)) + (h2 * 1))) (((h0 * fx) + (h1 * fy)) + (h2 * 1)) 1003 := (iok_add (k := 1003) (iok_add (k := 1002) (iok_mul (k := 1001) hh0 (iok_small (z := fx) (by omega)) (by decide)) (iok_mul (k := 1001) hh1 (iok_small (z := fy) (by omega)) (by decide)) (by decide)) (iok_mul (k := 1001) hh2 (iok_small (z := 1) (by decide)) (by decide)) (by decide))
  have bn2 : IOk (ofZ (((h3 * fx) + (h4 * fy)) + (h5 * 1))) (((h3 * fx) + (h4 * fy)) + (h5 * 1)) 1003 := (iok_add (k := 1003) (iok_add (k := 1002) (iok_mul (k := 1001) hh3 (iok_small (z := fx) (by omega)) (by decide)) (iok_mul (k := 1001) hh4 (iok_small (z := fy) (by omega)) (by decide)) (by decide)) (iok_mul (k := 1001) hh5 (iok_small (z := 1) (by decide)) (by decide)) (by decide))
  have bn3 : IOk (ofZ (((h6 * fx) + (h7 * fy)) + (h8 * 1))) (((h6 * fx) + (h7 * fy)) + (h8 * 1)) 1003 := (iok_add (k := 1003) (iok_add (k := 1002) (iok_mul (k := 1001) hh6 (iok_small (z := fx) (by omega)) (by decide)) (iok_mul (k := 1001) hh7 (iok_small (z := fy) (by omega)) (by decide)) (by decide)) (iok_mul (k := 1001) hh8 (iok_small (z := 1) (by decide)) (by decide)) (by decide))
  have bn4 : QL (Rat.divInt (((h0 * fx) + (h1 * fy)) + (h2 * 1)) (((h6 * fx) + (h7 * fy)) + (h8 * 1))) 1003 := (ql_divInt (n := 1003) (Nat.le_trans (IOk.ln bn1) (by decide)) (Nat.le_trans (IOk.ln bn3) (by decide)) (by decide))
  have bn5 : QL (Rat.divInt (((h3 * fx) + (h4 * fy)) + (h5 * 1)) (((h6 * fx) + (h7 * fy)) + (h8 * 1))) 1003 := (ql_divInt (n := 1003) (Nat.le_trans (IOk.ln bn2) (by decide)) (Nat.le_trans (IOk.ln bn3) (by decide)) (by decide))
  refine kd [(6, (.ref 3 0)), (7, (vb true))] [(3, some (bx (encPlace (RPlace.mk (ofQ (Rat.divInt (((h0 * fx) + (h1 * fy)) + (h2 * 1)) (((h6 * fx) + (h7 * fy)) + (h8 * 1)))) (ofQ (Rat.divInt (((h3 * fx) + (h4 * fy)) + (h5 * 1)) (((h6 * fx) + (h7 * fy)) + (h8 * 1))))))))] mo (wR (oLa sh32) <| wE (oFr fo25_0) <| wR (oLa sh23) <| wE (oCl (d_homog fx fy hfx hfy)) <| wE (oCl (d_times h h0 h1 h2 h3 h4 h5 h6 h7 h8 (iu hh0) (iu hh1) (iu hh2) (iu hh3) (iu hh4) (iu hh5) (iu hh6) (iu hh7) (iu hh8) (A3.mk (ofZ fx) (ofZ fy) (ofZ 1)) fx fy 1 (iok_up (iok_small (z := fx) (by omega)) (by decide)) (iok_up (iok_small (z := fy) (by omega)) (by decide)) (iok_up (iok_small (z := 1) (by decide)) (by decide)))) <| wE (oCl (d_placeO (A3.mk (ofZ (((h0 * fx) + (h1 * fy)) + (h2 * 1))) (ofZ (((h3 * fx) + (h4 * fy)) + (h5 * 1))) (ofZ (((h6 * fx) + (h7 * fy)) + (h8 * 1)))) (((h0 * fx) + (h1 * fy)) + (h2 * 1)) (((h3 * fx) + (h4 * fy)) + (h5 * 1)) (((h6 * fx) + (h7 * fy)) + (h8 * 1)) (iu bn1) (iu bn2) (iu bn3) hz)) <| wM <| wE oEx <| wE oEx <| wN (oAl 3 ze91 zo91) <| wT (oSt sh91) <| wM <| wZ) ?_
  refine pwp_seq <| pwp_seq <| kx [(35, (vb false))] [] (zM <| zE oNt <| zZ) ?_
  refine pwp_cond (b := false) (by kernel_rfl) (fun h => by cases h) (fun _ => ?_)
  refine pwp_skip <| pwp_seq ?_
  have bn6 : QL ((tx : Int) : Rat) 3 := (ql_int (z := tx) (lenZ_int (by omega) (by omega)) (by decide))
  have bn7 : QL ((ty : Int) : Rat) 3 := (ql_int (z := ty) (lenZ_int (by omega) (by omega)) (by decide))
  refine kd [(8, (.ref 4 0)), (9, (.ref 5 0))] [(4, some (bx (encR y1))), (5, some (bx (encR y2)))] mo (wE (oFr fo91_0) <| wR (oLa sh67) <| wE (oFr fo25_1) <| wE (oFr fo23_0) <| wR (oL1 sh3) <| wE (oCl (f_whole tx (by omega) (by omega))) <| wE (oCl (f_sub (ofQ (Rat.divInt (((h0 * fx) + (h1 * fy)) + (h2 * 1)) (((h6 * fx) + (h7 * fy)) + (h8 * 1)))) (ofQ ((tx : Int) : Rat)) (Rat.divInt (((h0 * fx) + (h1 * fy)) + (h2 * 1)) (((h6 * fx) + (h7 * fy)) + (h8 * 1))) ((tx : Int) : Rat) (qok_up (qok_of bn4) (by decide)) (qok_up (qok_of bn6) (by decide)))) <| wE (oFr fo91_1) <| wR (oLa sh67) <| wE (oFr fo25_1) <| wE (oFr fo23_1) <| wR (oL1 sh3) <| wE (oCl (f_whole ty (by omega) (by omega))) <| wE (oCl (f_sub (ofQ (Rat.divInt (((h3 * fx) + (h4 * fy)) + (h5 * 1)) (((h6 * fx) + (h7 * fy)) + (h8 * 1)))) (ofQ ((ty : Int) : Rat)) (Rat.divInt (((h3 * fx) + (h4 * fy)) + (h5 * 1)) (((h6 * fx) + (h7 * fy)) + (h8 * 1))) ((ty : Int) : Rat) (qok_up (qok_of bn5) (by decide)) (qok_up (qok_of bn7) (by decide)))) <| wN (oAl 4 ze67 zo67) <| wN (oAl 5 ze67 zo67) <| wT (oSt sh67) <| wT (oSt sh67) <| wZ) ?_
  refine pwp_seq ?_
  have bn8 : QL (((Rat.divInt (((h0 * fx) + (h1 * fy)) + (h2 * 1)) (((h6 * fx) + (h7 * fy)) + (h8 * 1))) - ((tx : Int) : Rat)) * ((Rat.divInt (((h0 * fx) + (h1 * fy)) + (h2 * 1)) (((h6 * fx) + (h7 * fy)) + (h8 * 1))) - ((tx : Int) : Rat))) 2014 := (ql_mul (k := 2014) (ql_sub (k := 1007) bn4 bn6 (by decide)) (ql_sub (k := 1007) bn4 bn6 (by decide)) (by decide))
  have bn9 : QL (((Rat.divInt (((h3 * fx) + (h4 * fy)) + (h5 * 1)) (((h6 * fx) + (h7 * fy)) + (h8 * 1))) - ((ty : Int) : Rat)) * ((Rat.divInt (((h3 * fx) + (h4 * fy)) + (h5 * 1)) (((h6 * fx) + (h7 * fy)) + (h8 * 1))) - ((ty : Int) : Rat))) 2014 := (ql_mul (k := 2014) (ql_sub (k := 1007) bn5 bn7 (by decide)) (ql_sub (k := 1007) bn5 bn7 (by decide)) (by decide))
  refine kd [(5, (vin 0))] [(2, some (bx (encR (ofQ ((((Rat.divInt (((h0 * fx) + (h1 * fy)) + (h2 * 1)) (((h6 * fx) + (h7 * fy)) + (h8 * 1))) - ((tx : Int) : Rat)) * ((Rat.divInt (((h0 * fx) + (h1 * fy)) + (h2 * 1)) (((h6 * fx) + (h7 * fy)) + (h8 * 1))) - ((tx : Int) : Rat))) + (((Rat.divInt (((h3 * fx) + (h4 * fy)) + (h5 * 1)) (((h6 * fx) + (h7 * fy)) + (h8 * 1))) - ((ty : Int) : Rat)) * ((Rat.divInt (((h3 * fx) + (h4 * fy)) + (h5 * 1)) (((h6 * fx) + (h7 * fy)) + (h8 * 1))) - ((ty : Int) : Rat))))))))] mo (wR (oLa sh67) <| wR (oLa sh67) <| wE (oCl (f_mul y1 y1 ((Rat.divInt (((h0 * fx) + (h1 * fy)) + (h2 * 1)) (((h6 * fx) + (h7 * fy)) + (h8 * 1))) - ((tx : Int) : Rat)) ((Rat.divInt (((h0 * fx) + (h1 * fy)) + (h2 * 1)) (((h6 * fx) + (h7 * fy)) + (h8 * 1))) - ((tx : Int) : Rat)) (qok_up (qok_of (ql_sub (k := 1007) bn4 bn6 (by decide))) (by decide)) (qok_up (qok_of (ql_sub (k := 1007) bn4 bn6 (by decide))) (by decide)))) <| wR (oLa sh67) <| wR (oLa sh67) <| wE (oCl (f_mul y2 y2 ((Rat.divInt (((h3 * fx) + (h4 * fy)) + (h5 * 1)) (((h6 * fx) + (h7 * fy)) + (h8 * 1))) - ((ty : Int) : Rat)) ((Rat.divInt (((h3 * fx) + (h4 * fy)) + (h5 * 1)) (((h6 * fx) + (h7 * fy)) + (h8 * 1))) - ((ty : Int) : Rat)) (qok_up (qok_of (ql_sub (k := 1007) bn5 bn7 (by decide))) (by decide)) (qok_up (qok_of (ql_sub (k := 1007) bn5 bn7 (by decide))) (by decide)))) <| wE (oCl (f_add (ofQ (((Rat.divInt (((h0 * fx) + (h1 * fy)) + (h2 * 1)) (((h6 * fx) + (h7 * fy)) + (h8 * 1))) - ((tx : Int) : Rat)) * ((Rat.divInt (((h0 * fx) + (h1 * fy)) + (h2 * 1)) (((h6 * fx) + (h7 * fy)) + (h8 * 1))) - ((tx : Int) : Rat)))) (ofQ (((Rat.divInt (((h3 * fx) + (h4 * fy)) + (h5 * 1)) (((h6 * fx) + (h7 * fy)) + (h8 * 1))) - ((ty : Int) : Rat)) * ((Rat.divInt (((h3 * fx) + (h4 * fy)) + (h5 * 1)) (((h6 * fx) + (h7 * fy)) + (h8 * 1))) - ((ty : Int) : Rat)))) (((Rat.divInt (((h0 * fx) + (h1 * fy)) + (h2 * 1)) (((h6 * fx) + (h7 * fy)) + (h8 * 1))) - ((tx : Int) : Rat)) * ((Rat.divInt (((h0 * fx) + (h1 * fy)) + (h2 * 1)) (((h6 * fx) + (h7 * fy)) + (h8 * 1))) - ((tx : Int) : Rat))) (((Rat.divInt (((h3 * fx) + (h4 * fy)) + (h5 * 1)) (((h6 * fx) + (h7 * fy)) + (h8 * 1))) - ((ty : Int) : Rat)) * ((Rat.divInt (((h3 * fx) + (h4 * fy)) + (h5 * 1)) (((h6 * fx) + (h7 * fy)) + (h8 * 1))) - ((ty : Int) : Rat))) (qok_up (qok_of bn8) (by decide)) (qok_up (qok_of bn9) (by decide)))) <| wT (oSt sh67) <| wM <| wZ) ?_
  refine pwp_ret ⟨_, (res_a (cs := (bx (encR (ofQ ((((Rat.divInt (((h0 * fx) + (h1 * fy)) + (h2 * 1)) (((h6 * fx) + (h7 * fy)) + (h8 * 1))) - ((tx : Int) : Rat)) * ((Rat.divInt (((h0 * fx) + (h1 * fy)) + (h2 * 1)) (((h6 * fx) + (h7 * fy)) + (h8 * 1))) - ((tx : Int) : Rat))) + (((Rat.divInt (((h3 * fx) + (h4 * fy)) + (h5 * 1)) (((h6 * fx) + (h7 * fy)) + (h8 * 1))) - ((ty : Int) : Rat)) * ((Rat.divInt (((h3 * fx) + (h4 * fy)) + (h5 * 1)) (((h6 * fx) + (h7 * fy)) + (h8 * 1))) - ((ty : Int) : Rat)))))))) (d := (encR (ofQ ((((Rat.divInt (((h0 * fx) + (h1 * fy)) + (h2 * 1)) (((h6 * fx) + (h7 * fy)) + (h8 * 1))) - ((tx : Int) : Rat)) * ((Rat.divInt (((h0 * fx) + (h1 * fy)) + (h2 * 1)) (((h6 * fx) + (h7 * fy)) + (h8 * 1))) - ((tx : Int) : Rat))) + (((Rat.divInt (((h3 * fx) + (h4 * fy)) + (h5 * 1)) (((h6 * fx) + (h7 * fy)) + (h8 * 1))) - ((ty : Int) : Rat)) * ((Rat.divInt (((h3 * fx) + (h4 * fy)) + (h5 * 1)) (((h6 * fx) + (h7 * fy)) + (h8 * 1))) - ((ty : Int) : Rat))))))) rfl rfl sh67 rfl rfl (.tmp (d := (.val (.int .i64 (0)))) rfl .nil)), ?_⟩
  rfl
end Go.Proofs.YtadkkhdnccljcaaGreat
