/- Part 12 of a proof: rules, plain facts, and functions walked. -/
import Derived.Test.YtadkkhdnccljcaaGreatM11
namespace Go.Proofs.YtadkkhdnccljcaaGreat
open Go.Fid
set_option maxRecDepth 4000
set_option linter.unusedVariables false
set_option linter.unusedSimpArgs false
theorem cb33 : callB Tryz.prog 33 = true := by kernel_rfl
theorem cb49 : callB Tryz.prog 49 = true := by kernel_rfl
theorem cb51 : callB Tryz.prog 51 = true := by kernel_rfl
theorem cb52 : callB Tryz.prog 52 = true := by kernel_rfl
theorem cb53 : callB Tryz.prog 53 = true := by kernel_rfl
theorem cb91 : callB Tryz.prog 91 = true := by kernel_rfl
theorem cb111 : callB Tryz.prog 111 = true := by kernel_rfl
theorem cb130 : callB Tryz.prog 130 = true := by kernel_rfl
theorem fo91_0 : fieldB Tryz.prog 91 0 = some 0 := by kernel_rfl
theorem fo91_1 : fieldB Tryz.prog 91 1 = some 4 := by kernel_rfl
theorem pl91 : placesB Tryz.prog 91 = some [(0, 4), (4, 4)] := by kernel_rfl
theorem sh91 : shapeB Tryz.prog 91 = some (true, 8) := by kernel_rfl
theorem ze91 : zeroB Tryz.prog 91 = some [.bool false, .slice none 0 0, .bool false, .slice none 0 0, .bool false, .slice none 0 0, .bool false, .slice none 0 0] := by kernel_rfl
theorem zo91 : ZOk [.bool false, .slice none 0 0, .bool false, .slice none 0 0, .bool false, .slice none 0 0, .bool false, .slice none 0 0] [.val (.bool false), .sl 138 1 [], .val (.bool false), .sl 138 1 [], .val (.bool false), .sl 138 1 [], .val (.bool false), .sl 138 1 []] := by simp [ZOk, Value.oneCell']
theorem f_counted (x : RInt) (a : Int) (hx : IOk x a 68719476736) : Takes Tryz.prog 130 [(encI x)] (encI (ofZ a)) := by
  refine fn_intro Tryz.func130 rfl cb130 rfl ?_
  show PWp _ _ _ _ ⟨[(0, (.d (encI x)))], []⟩
  refine pwp_seq <| kx [(1, (.ref 0 0)), (2, (.ref 1 0))] [(0, some (bx (encI x))), (1, some (bx (encI (RInt.mk false []))))] (zN (oBx 0) <| zN (oAl 1 ze30 zo30) <| zZ) ?_
  refine pwp_seq <| pwp_seq <| kx [(4, (vb (validI x)))] [] (zR (oLa sh30) <| zE (oCl (t_valid x (Nat.le_trans hx.l (by decide)))) <| zZ) ?_
  refine pwp_cond (b := (validI x)) rfl (fun h1 => ?_) (fun h1 => ?_)
  · refine pwp_seq <| kx [] [(1, some (bx (encI x)))] (zR (oLa sh30) <| zT (oSt sh30) <| zZ) ?_
    refine pwp_ret ⟨_, (res_a (cs := (bx (encI x))) (d := (encI x)) rfl rfl sh30 rfl rfl .nil), ?_⟩
    rw [← hx.v, ofZ_toZ h1]; rfl
  · refine pwp_skip <| pwp_seq <| kx [] [(1, some (bx (encI (ofZ 0))))] (zE (oCl (t_of 0 (by decide) (by decide))) <| zT (oSt sh30) <| zZ) ?_
    refine pwp_ret ⟨_, (res_a (cs := (bx (encI (ofZ 0)))) (d := (encI (ofZ 0))) rfl rfl sh30 rfl rfl .nil), ?_⟩
    rw [← hx.v, toZ_bad h1, ofZ_zero]; rfl
theorem f_newS (num : RInt) (a : Int) (hnum : IOk num a 68719476736) (den : RInt) (b : Int) (hden : IOk den b 68719476736) (hz : b = 0) : Takes Tryz.prog 91 [(encI num), (encI den)] (.tup [(encR (RRat.mk (RInt.mk false []) (RInt.mk false []))), (.val (.int .i64 (14)))]) := by
  refine fn_intro Tryz.func91 rfl cb91 rfl ?_
  show PWp _ _ _ _ ⟨[(0, (.d (encI num))), (1, (.d (encI den)))], []⟩
  refine pwp_seq <| kx [(2, (.ref 0 0)), (3, (.ref 1 0)), (4, (.ref 2 0))] [(0, some (bx (encI num))), (1, some (bx (encI den))), (2, some (bx (encR (RRat.mk (RInt.mk false []) (RInt.mk false [])))))] (zN (oBx 0) <| zN (oBx 1) <| zN (oAl 2 ze67 zo67) <| zM <| zZ) ?_
  refine pwp_seq <| kd [] [(0, some (bx (encI (ofZ a)))), (1, some (bx (encI (ofZ b))))] mo (wR (oLa sh30) <| wE (oCl (f_counted num a hnum)) <| wR (oLa sh30) <| wE (oCl (f_counted den b hden)) <| wT (oSt sh30) <| wT (oSt sh30) <| wZ) ?_
  refine pwp_seq <| pwp_seq <| kx [(12, (vb true))] [] (zR (oLa sh30) <| zE (oCl (s_sign (iok_of (IOk.ln hden)) (by decide))) <| zE (oBk true oEq (by exact beq_iff_eq.2 (by rw [hz]; rfl))) <| zZ) ?_
  refine pwp_cond (b := true) (by kernel_rfl) (fun _ => ?_) (fun h => by cases h)
  refine pwp_seq <| kx [(5, (vin 14))] [(2, some (bx (encR (RRat.mk (RInt.mk false []) (RInt.mk false [])))))] (zE (oBd pl67 ze67 zo67) <| zT (oSt sh67) <| zM <| zZ) ?_
  refine pwp_ret ⟨_, (res_a (cs := (bx (encR (RRat.mk (RInt.mk false []) (RInt.mk false []))))) (d := (encR (RRat.mk (RInt.mk false []) (RInt.mk false [])))) rfl rfl sh67 rfl rfl (.tmp (d := (.val (.int .i64 (14)))) rfl .nil)), ?_⟩
  rfl
theorem f_newO (num : RInt) (a : Int) (hnum : IOk num a 68719476736) (den : RInt) (b : Int) (hden : IOk den b 68719476736) (hb : b ≠ 0) : Takes Tryz.prog 91 [(encI num), (encI den)] (.tup [(encR (ofQ (Rat.divInt a b))), (.val (.int .i64 (0)))]) := by
  refine fn_intro Tryz.func91 rfl cb91 rfl ?_
  show PWp _ _ _ _ ⟨[(0, (.d (encI num))), (1, (.d (encI den)))], []⟩
  refine pwp_seq <| kx [(2, (.ref 0 0)), (3, (.ref 1 0)), (4, (.ref 2 0))] [(0, some (bx (encI num))), (1, some (bx (encI den))), (2, some (bx (encR (RRat.mk (RInt.mk false []) (RInt.mk false [])))))] (zN (oBx 0) <| zN (oBx 1) <| zN (oAl 2 ze67 zo67) <| zM <| zZ) ?_
  refine pwp_seq <| kd [] [(0, some (bx (encI (ofZ a)))), (1, some (bx (encI (ofZ b))))] mo (wR (oLa sh30) <| wE (oCl (f_counted num a hnum)) <| wR (oLa sh30) <| wE (oCl (f_counted den b hden)) <| wT (oSt sh30) <| wT (oSt sh30) <| wZ) ?_
  refine pwp_seq <| pwp_seq <| kx [(12, (vb false))] [] (zR (oLa sh30) <| zE (oCl (s_sign (iok_of (IOk.ln hden)) (by decide))) <| zE (oBk false oEq (by exact beq_eq_false_iff_ne.2 (signI_ne hb))) <| zZ) ?_
  refine pwp_cond (b := false) (by kernel_rfl) (fun h => by cases h) (fun _ => ?_)
  refine pwp_skip <| pwp_seq <| kx [(5, (vin 0))] [(2, some (bx (encR (ofQ (Rat.divInt a b)))))] (zR (oLa sh30) <| zR (oLa sh30) <| zE (oCl (f_reduced (ofZ a) (ofZ b) a b (iok_of (IOk.ln hnum)) (iok_of (IOk.ln hden)) (by assumption))) <| zT (oSt sh67) <| zM <| zZ) ?_
  refine pwp_ret ⟨_, (res_a (cs := (bx (encR (ofQ (Rat.divInt a b))))) (d := (encR (ofQ (Rat.divInt a b)))) rfl rfl sh67 rfl rfl (.tmp (d := (.val (.int .i64 (0)))) rfl .nil)), ?_⟩
  rfl
theorem g_newS (num : RInt) (a : Int) (hnum : IOk num a 68719476736) (den : RInt) (b : Int) (hden : IOk den b 68719476736) (hz : b = 0) : Takes Tryz.prog 93 [(encI num), (encI den)] (.tup [(encR (RRat.mk (RInt.mk false []) (RInt.mk false []))), (.val (.int .i64 (14)))]) := by
  refine fn_intro Tryz.func93 rfl cb93 rfl ?_
  show PWp _ _ _ _ ⟨[(0, (.d (encI num))), (1, (.d (encI den)))], []⟩
  refine pwp_seq <| kx [(2, (.ref 0 0)), (3, (.ref 1 0)), (4, (.ref 2 0))] [(0, some (bx (encI num))), (1, some (bx (encI den))), (2, some (bx (encR (RRat.mk (RInt.mk false []) (RInt.mk false [])))))] (zN (oBx 0) <| zN (oBx 1) <| zN (oAl 2 ze67 zo67) <| zM <| zZ) ?_
  refine pwp_seq <| pwp_seq <| kx [(8, (vb true))] [] (zR (oLa sh30) <| zE (oCl (rs_sign hden (by decide))) <| zE (oBk true oEq (by exact beq_iff_eq.2 (by rw [hz]; rfl))) <| zZ) ?_
  refine pwp_cond (b := true) (by kernel_rfl) (fun _ => ?_) (fun h => by cases h)
  refine pwp_seq <| kx [(5, (vin 14))] [(2, some (bx (encR (RRat.mk (RInt.mk false []) (RInt.mk false [])))))] (zE (oBd pl67 ze67 zo67) <| zT (oSt sh67) <| zM <| zZ) ?_
  refine pwp_ret ⟨_, (res_a (cs := (bx (encR (RRat.mk (RInt.mk false []) (RInt.mk false []))))) (d := (encR (RRat.mk (RInt.mk false []) (RInt.mk false [])))) rfl rfl sh67 rfl rfl (.tmp (d := (.val (.int .i64 (14)))) rfl .nil)), ?_⟩
  rfl
theorem g_newO (num : RInt) (a : Int) (hnum : IOk num a 68719476736) (den : RInt) (b : Int) (hden : IOk den b 68719476736) (hb : b ≠ 0) : Takes Tryz.prog 93 [(encI num), (encI den)] (.tup [(encR (ofQ (Rat.divInt a b))), (.val (.int .i64 (0)))]) := by
  refine fn_intro Tryz.func93 rfl cb93 rfl ?_
  show PWp _ _ _ _ ⟨[(0, (.d (encI num))), (1, (.d (encI den)))], []⟩
  refine pwp_seq <| kx [(2, (.ref 0 0)), (3, (.ref 1 0)), (4, (.ref 2 0))] [(0, some (bx (encI num))), (1, some (bx (encI den))), (2, some (bx (encR (RRat.mk (RInt.mk false []) (RInt.mk false [])))))] (zN (oBx 0) <| zN (oBx 1) <| zN (oAl 2 ze67 zo67) <| zM <| zZ) ?_
  refine pwp_seq <| pwp_seq <| kx [(8, (vb false))] [] (zR (oLa sh30) <| zE (oCl (rs_sign hden (by decide))) <| zE (oBk false oEq (by exact beq_eq_false_iff_ne.2 (signI_ne hb))) <| zZ) ?_
  refine pwp_cond (b := false) (by kernel_rfl) (fun h => by cases h) (fun _ => ?_)
  refine pwp_skip <| pwp_seq <| kx [(5, (vin 0))] [(2, some (bx (encR (ofQ (Rat.divInt a b)))))] (zR (oLa sh30) <| zR (oLa sh30) <| zE (oCl (g_reduced num den a b hnum hden (by assumption))) <| zT (oSt sh67) <| zM <| zZ) ?_
  refine pwp_ret ⟨_, (res_a (cs := (bx (encR (ofQ (Rat.divInt a b))))) (d := (encR (ofQ (Rat.divInt a b)))) rfl rfl sh67 rfl rfl (.tmp (d := (.val (.int .i64 (0)))) rfl .nil)), ?_⟩
  rfl
theorem g_zeroT  : Takes Tryz.prog 33 [(encR (RRat.mk (RInt.mk false []) (RInt.mk false [])))] (.val (.bool (true))) := by
  refine fn_intro Tryz.func33 rfl cb33 rfl ?_
  show PWp _ _ _ _ ⟨[(0, (.d (encR (RRat.mk (RInt.mk false []) (RInt.mk false [])))))], []⟩
  refine pwp_seq <| kx [(1, (.ref 0 0))] [(0, some (bx (encR (RRat.mk (RInt.mk false []) (RInt.mk false [])))))] (zN (oBx 0) <| zM <| zZ) ?_
  refine pwp_seq <| kx [(2, (vb true))] [] (zE (oFr fo67_0) <| zE (oFr fo30_0) <| zR (oL1 sh4) <| zE oNt <| zM <| zE (oFr fo67_1) <| zE (oFr fo30_0) <| zR (oL1 sh4) <| zE oNt <| zE oPt <| zM <| zE (oFr fo67_0) <| zE (oFr fo30_1) <| zR (oL1 sh28) <| zE (oLn el28 0) <| zE oEq <| zE oPt <| zM <| zE (oFr fo67_1) <| zE (oFr fo30_1) <| zR (oL1 sh28) <| zE (oLn el28 0) <| zE oEq <| zE oPt <| zM <| zZ) ?_
  refine pwp_ret ⟨_, (.tmp (d := (.val (.bool (true)))) rfl .nil), ?_⟩
  rfl
theorem d_place0 (p : A3 RInt) (p0 p1 p2 : Int) (hp0 : IOk p.a0 p0 1000000) (hp1 : IOk p.a1 p1 1000000) (hp2 : IOk p.a2 p2 1000000) (hz : p2 = 0) : Takes Tryz.prog 111 [(encA43 p)] (.tup [(encPlace (RPlace.mk (RRat.mk (RInt.mk false []) (RInt.mk false [])) (RRat.mk (RInt.mk false []) (RInt.mk false [])))), (.val (.bool (false)))]) := by
  let y1 := (RRat.mk (RInt.mk false []) (RInt.mk false []))
  refine fn_intro Tryz.func111 rfl cb111 rfl ?_
  show PWp _ _ _ _ ⟨[(0, (.d (encA43 p)))], []⟩
  refine pwp_seq <| kx [(1, (.ref 0 0)), (2, (.ref 1 0))] [(0, some (bx (encA43 p))), (1, some (bx (encPlace (RPlace.mk y1 y1))))] (zN (oBx 0) <| zN (oAl 1 ze91 zo91) <| zM <| zZ) ?_
  refine pwp_seq <| kx [(4, (.ref 2 0)), (5, (vi 14))] [(2, some (bx (encR y1)))] (zE (oXr ar44 0) <| zR (oLa sh30) <| zE (oXr ar44 2) <| zR (oLa sh30) <| zE (oCl (f_newS p.a0 p0 (iu hp0) p.a2 p2 (iu hp2) hz)) <| zM <| zE oEx <| zE oEx <| zN (oAl 2 ze67 zo67) <| zT (oSt sh67) <| zM <| zZ) ?_
  refine pwp_seq <| kx [(6, (.ref 3 0))] [(3, some (bx (encR y1)))] (zE (oXr ar44 1) <| zR (oLa sh30) <| zE (oXr ar44 2) <| zR (oLa sh30) <| zE (oCl (f_newS p.a1 p1 (iu hp1) p.a2 p2 (iu hp2) hz)) <| zM <| zE oEx <| zE oEx <| zN (oAl 3 ze67 zo67) <| zT (oSt sh67) <| zM <| zZ) ?_
  refine pwp_seq <| kx [(3, (vb false))] [(1, some (bx (encPlace (RPlace.mk y1 y1))))] (zR (oLa sh67) <| zR (oLa sh67) <| zE (oBd pl91 ze91 zo91) <| zM <| zE oEq <| zT (oSt sh91) <| zM <| zZ) ?_
  refine pwp_ret ⟨_, (res_a (cs := (bx (encPlace (RPlace.mk (RRat.mk (RInt.mk false []) (RInt.mk false [])) (RRat.mk (RInt.mk false []) (RInt.mk false [])))))) (d := (encPlace (RPlace.mk (RRat.mk (RInt.mk false []) (RInt.mk false [])) (RRat.mk (RInt.mk false []) (RInt.mk false []))))) rfl rfl sh91 rfl rfl (.tmp (d := (.val (.bool (false)))) rfl .nil)), ?_⟩
  rfl
theorem d_placeO (p : A3 RInt) (p0 p1 p2 : Int) (hp0 : IOk p.a0 p0 1000000) (hp1 : IOk p.a1 p1 1000000) (hp2 : IOk p.a2 p2 1000000) (hb : p2 ≠ 0) : Takes Tryz.prog 111 [(encA43 p)] (.tup [(encPlace (RPlace.mk (ofQ (Rat.divInt p0 p2)) (ofQ (Rat.divInt p1 p2)))), (.val (.bool (true)))]) := by
  refine fn_intro Tryz.func111 rfl cb111 rfl ?_
  show PWp _ _ _ _ ⟨[(0, (.d (encA43 p)))], []⟩
  refine pwp_seq <| kx [(1, (.ref 0 0)), (2, (.ref 1 0))] [(0, some (bx (encA43 p))), (1, some (bx (encPlace (RPlace.mk (RRat.mk (RInt.mk false []) (RInt.mk false [])) (RRat.mk (RInt.mk false []) (RInt.mk false []))))))] (zN (oBx 0) <| zN (oAl 1 ze91 zo91) <| zM <| zZ) ?_
  refine pwp_seq <| kx [(4, (.ref 2 0)), (5, (vi 0))] [(2, some (bx (encR (ofQ (Rat.divInt p0 p2)))))] (zE (oXr ar44 0) <| zR (oLa sh30) <| zE (oXr ar44 2) <| zR (oLa sh30) <| zE (oCl (f_newO p.a0 p0 (iu hp0) p.a2 p2 (iu hp2) hb)) <| zM <| zE oEx <| zE oEx <| zN (oAl 2 ze67 zo67) <| zT (oSt sh67) <| zM <| zZ) ?_
  refine pwp_seq <| kx [(6, (.ref 3 0))] [(3, some (bx (encR (ofQ (Rat.divInt p1 p2)))))] (zE (oXr ar44 1) <| zR (oLa sh30) <| zE (oXr ar44 2) <| zR (oLa sh30) <| zE (oCl (f_newO p.a1 p1 (iu hp1) p.a2 p2 (iu hp2) hb)) <| zM <| zE oEx <| zE oEx <| zN (oAl 3 ze67 zo67) <| zT (oSt sh67) <| zM <| zZ) ?_
  refine pwp_seq <| kx [(3, (vb true))] [(1, some (bx (encPlace (RPlace.mk (ofQ (Rat.divInt p0 p2)) (ofQ (Rat.divInt p1 p2))))))] (zR (oLa sh67) <| zR (oLa sh67) <| zE (oBd pl91 ze91 zo91) <| zM <| zE oEq <| zT (oSt sh91) <| zM <| zZ) ?_
  refine pwp_ret ⟨_, (res_a (cs := (bx (encPlace (RPlace.mk (ofQ (Rat.divInt p0 p2)) (ofQ (Rat.divInt p1 p2)))))) (d := (encPlace (RPlace.mk (ofQ (Rat.divInt p0 p2)) (ofQ (Rat.divInt p1 p2))))) rfl rfl sh91 rfl rfl (.tmp (d := (.val (.bool (true)))) rfl .nil)), ?_⟩
  rfl
theorem l_place0 (p : A3 RInt) (p0 p1 p2 : Int) (hp0 : IOk p.a0 p0 1000000) (hp1 : IOk p.a1 p1 1000000) (hp2 : IOk p.a2 p2 1000000) (hz : p2 = 0) : Takes Tryz.prog 53 [(encA43 p)] (.tup [(encPlace (RPlace.mk (RRat.mk (RInt.mk false []) (RInt.mk false [])) (RRat.mk (RInt.mk false []) (RInt.mk false [])))), (.val (.bool (false)))]) := by
  let y1 := (RRat.mk (RInt.mk false []) (RInt.mk false []))
  refine fn_intro Tryz.func53 rfl cb53 rfl ?_
  show PWp _ _ _ _ ⟨[(0, (.d (encA43 p)))], []⟩
  refine pwp_seq <| kx [(1, (.ref 0 0)), (2, (.ref 1 0))] [(0, some (bx (encA43 p))), (1, some (bx (encPlace (RPlace.mk y1 y1))))] (zN (oBx 0) <| zN (oAl 1 ze91 zo91) <| zM <| zZ) ?_
  refine pwp_seq <| kx [(4, (.ref 2 0)), (5, (vi 14))] [(2, some (bx (encR y1)))] (zE (oXr ar44 0) <| zR (oLa sh30) <| zE (oXr ar44 2) <| zR (oLa sh30) <| zE (oCl (g_newS p.a0 p0 (iu hp0) p.a2 p2 (iu hp2) hz)) <| zM <| zE oEx <| zE oEx <| zN (oAl 2 ze67 zo67) <| zT (oSt sh67) <| zM <| zZ) ?_
  refine pwp_seq <| kx [(6, (.ref 3 0)), (7, (vi 14))] [(3, some (bx (encR y1)))] (zE (oXr ar44 1) <| zR (oLa sh30) <| zE (oXr ar44 2) <| zR (oLa sh30) <| zE (oCl (g_newS p.a1 p1 (iu hp1) p.a2 p2 (iu hp2) hz)) <| zM <| zE oEx <| zE oEx <| zN (oAl 3 ze67 zo67) <| zT (oSt sh67) <| zM <| zZ) ?_
  refine pwp_seq <| pwp_seq <| kx [(29, (vb true))] [] (zM <| zE oNe <| zM <| zK <| zK <| zE oPt <| zZ) ?_
  refine pwp_cond (b := true) (by kernel_rfl) (fun _ => ?_) (fun h => by cases h)
  refine pwp_seq <| kx [(3, (vb false))] [(1, some (bx (encPlace (RPlace.mk y1 y1))))] (zE (oBd pl91 ze91 zo91) <| zT (oSt sh91) <| zM <| zZ) ?_
  refine pwp_ret ⟨_, (res_a (cs := (bx (encPlace (RPlace.mk (RRat.mk (RInt.mk false []) (RInt.mk false [])) (RRat.mk (RInt.mk false []) (RInt.mk false [])))))) (d := (encPlace (RPlace.mk (RRat.mk (RInt.mk false []) (RInt.mk false [])) (RRat.mk (RInt.mk false []) (RInt.mk false []))))) rfl rfl sh91 rfl rfl (.tmp (d := (.val (.bool (false)))) rfl .nil)), ?_⟩
  rfl
theorem l_placeO (p : A3 RInt) (p0 p1 p2 : Int) (hp0 : IOk p.a0 p0 1000000) (hp1 : IOk p.a1 p1 1000000) (hp2 : IOk p.a2 p2 1000000) (hb : p2 ≠ 0) : Takes Tryz.prog 53 [(encA43 p)] (.tup [(encPlace (RPlace.mk (ofQ (Rat.divInt p0 p2)) (ofQ (Rat.divInt p1 p2)))), (.val (.bool (true)))]) := by
  refine fn_intro Tryz.func53 rfl cb53 rfl ?_
  show PWp _ _ _ _ ⟨[(0, (.d (encA43 p)))], []⟩
  refine pwp_seq <| kx [(1, (.ref 0 0)), (2, (.ref 1 0))] [(0, some (bx (encA43 p))), (1, some (bx (encPlace (RPlace.mk (RRat.mk (RInt.mk false []) (RInt.mk false [])) (RRat.mk (RInt.mk false []) (RInt.mk false []))))))] (zN (oBx 0) <| zN (oAl 1 ze91 zo91) <| zM <| zZ) ?_
  refine pwp_seq <| kx [(4, (.ref 2 0)), (5, (vi 0))] [(2, some (bx (encR (ofQ (Rat.divInt p0 p2)))))] (zE (oXr ar44 0) <| zR (oLa sh30) <| zE (oXr ar44 2) <| zR (oLa sh30) <| zE (oCl (g_newO p.a0 p0 (iu hp0) p.a2 p2 (iu hp2) hb)) <| zM <| zE oEx <| zE oEx <| zN (oAl 2 ze67 zo67) <| zT (oSt sh67) <| zM <| zZ) ?_
  refine pwp_seq <| kx [(6, (.ref 3 0)), (7, (vi 0))] [(3, some (bx (encR (ofQ (Rat.divInt p1 p2)))))] (zE (oXr ar44 1) <| zR (oLa sh30) <| zE (oXr ar44 2) <| zR (oLa sh30) <| zE (oCl (g_newO p.a1 p1 (iu hp1) p.a2 p2 (iu hp2) hb)) <| zM <| zE oEx <| zE oEx <| zN (oAl 3 ze67 zo67) <| zT (oSt sh67) <| zM <| zZ) ?_
  refine pwp_seq <| pwp_seq <| kx [(29, (vb false))] [] (zM <| zE oNe <| zM <| zM <| zE oNe <| zE oPf <| zZ) ?_
  refine pwp_cond (b := false) (by kernel_rfl) (fun h => by cases h) (fun _ => ?_)
  refine pwp_skip <| pwp_seq <| kx [(3, (vb true))] [(1, some (bx (encPlace (RPlace.mk (ofQ (Rat.divInt p0 p2)) (ofQ (Rat.divInt p1 p2))))))] (zR (oLa sh67) <| zR (oLa sh67) <| zE (oBd pl91 ze91 zo91) <| zT (oSt sh91) <| zM <| zZ) ?_
  refine pwp_ret ⟨_, (res_a (cs := (bx (encPlace (RPlace.mk (ofQ (Rat.divInt p0 p2)) (ofQ (Rat.divInt p1 p2)))))) (d := (encPlace (RPlace.mk (ofQ (Rat.divInt p0 p2)) (ofQ (Rat.divInt p1 p2))))) rfl rfl sh91 rfl rfl (.tmp (d := (.val (.bool (true)))) rfl .nil)), ?_⟩
  rfl
theorem d_PlaceE (p : A3 RInt) (p0 p1 p2 : Int) (hp0 : IOk p.a0 p0 1000000) (hp1 : IOk p.a1 p1 1000000) (hp2 : IOk p.a2 p2 1000000) (hw : redB [p.a0, p.a1, p.a2] = false) : Takes Tryz.prog 51 [(encA43 p)] (.tup [(encPlace (RPlace.mk (RRat.mk (RInt.mk false []) (RInt.mk false [])) (RRat.mk (RInt.mk false []) (RInt.mk false [])))), (.val (.int .i64 (1)))]) := by
  refine fn_intro Tryz.func51 rfl cb51 rfl ?_
  show PWp _ _ _ _ ⟨[(0, (.d (encA43 p)))], []⟩
  refine pwp_seq <| kx [(1, (.ref 0 0)), (2, (.ref 1 0))] [(0, some (bx (encA43 p))), (1, some (bx (encPlace (RPlace.mk (RRat.mk (RInt.mk false []) (RInt.mk false [])) (RRat.mk (RInt.mk false []) (RInt.mk false []))))))] (zN (oBx 0) <| zN (oAl 1 ze91 zo91) <| zM <| zZ) ?_
  refine pwp_seq <| pwp_seq <| kx [(8, (vb true))] [] (zR (oLa sh44) <| zE (oBk false (oCl (d_proper p p0 p1 p2 hp0 hp1 hp2)) (by exact hw)) <| zE oNt <| zZ) ?_
  refine pwp_cond (b := true) (by kernel_rfl) (fun _ => ?_) (fun h => by cases h)
  refine pwp_seq <| kx [(3, (vin 1))] [(1, some (bx (encPlace (RPlace.mk (RRat.mk (RInt.mk false []) (RInt.mk false [])) (RRat.mk (RInt.mk false []) (RInt.mk false []))))))] (zE (oBd pl91 ze91 zo91) <| zT (oSt sh91) <| zM <| zZ) ?_
  refine pwp_ret ⟨_, (res_a (cs := (bx (encPlace (RPlace.mk (RRat.mk (RInt.mk false []) (RInt.mk false [])) (RRat.mk (RInt.mk false []) (RInt.mk false [])))))) (d := (encPlace (RPlace.mk (RRat.mk (RInt.mk false []) (RInt.mk false [])) (RRat.mk (RInt.mk false []) (RInt.mk false []))))) rfl rfl sh91 rfl rfl (.tmp (d := (.val (.int .i64 (1)))) rfl .nil)), ?_⟩
  rfl
theorem d_Place0 (p : A3 RInt) (p0 p1 p2 : Int) (hp0 : IOk p.a0 p0 1000000) (hp1 : IOk p.a1 p1 1000000) (hp2 : IOk p.a2 p2 1000000) (hw : redB [p.a0, p.a1, p.a2] = true) (hz : p2 = 0) : Takes Tryz.prog 51 [(encA43 p)] (.tup [(encPlace (RPlace.mk (RRat.mk (RInt.mk false []) (RInt.mk false [])) (RRat.mk (RInt.mk false []) (RInt.mk false [])))), (.val (.int .i64 (15)))]) := by
  let y1 := (bx (encPlace (RPlace.mk (RRat.mk (RInt.mk false []) (RInt.mk false [])) (RRat.mk (RInt.mk false []) (RInt.mk false [])))))
  refine fn_intro Tryz.func51 rfl cb51 rfl ?_
  show PWp _ _ _ _ ⟨[(0, (.d (encA43 p)))], []⟩
  refine pwp_seq <| kx [(1, (.ref 0 0)), (2, (.ref 1 0))] [(0, some (bx (encA43 p))), (1, some y1)] (zN (oBx 0) <| zN (oAl 1 ze91 zo91) <| zM <| zZ) ?_
  refine pwp_seq <| pwp_seq <| kx [(8, (vb false))] [] (zR (oLa sh44) <| zE (oBk true (oCl (d_proper p p0 p1 p2 hp0 hp1 hp2)) (by exact hw)) <| zE oNt <| zZ) ?_
  refine pwp_cond (b := false) (by kernel_rfl) (fun h => by cases h) (fun _ => ?_)
  refine pwp_skip <| pwp_seq <| kx [(4, (.ref 2 0)), (5, (vb false))] [(2, some y1)] (zR (oLa sh44) <| zE (oCl (d_place0 p p0 p1 p2 hp0 hp1 hp2 hz)) <| zM <| zE oEx <| zE oEx <| zN (oAl 2 ze91 zo91) <| zT (oSt sh91) <| zM <| zZ) ?_
  refine pwp_seq <| pwp_seq <| kx [(16, (vb true))] [] (zM <| zE oNt <| zZ) ?_
  refine pwp_cond (b := true) (by kernel_rfl) (fun _ => ?_) (fun h => by cases h)
  refine pwp_seq <| kx [(3, (vin 15))] [(1, some y1)] (zE (oBd pl91 ze91 zo91) <| zT (oSt sh91) <| zM <| zZ) ?_
  refine pwp_ret ⟨_, (res_a (cs := (bx (encPlace (RPlace.mk (RRat.mk (RInt.mk false []) (RInt.mk false [])) (RRat.mk (RInt.mk false []) (RInt.mk false [])))))) (d := (encPlace (RPlace.mk (RRat.mk (RInt.mk false []) (RInt.mk false [])) (RRat.mk (RInt.mk false []) (RInt.mk false []))))) rfl rfl sh91 rfl rfl (.tmp (d := (.val (.int .i64 (15)))) rfl .nil)), ?_⟩
  rfl
theorem d_PlaceO (p : A3 RInt) (p0 p1 p2 : Int) (hp0 : IOk p.a0 p0 1000000) (hp1 : IOk p.a1 p1 1000000) (hp2 : IOk p.a2 p2 1000000) (hw : redB [p.a0, p.a1, p.a2] = true) (hb : p2 ≠ 0) : Takes Tryz.prog 51 [(encA43 p)] (.tup [(encPlace (RPlace.mk (ofQ (Rat.divInt p0 p2)) (ofQ (Rat.divInt p1 p2)))), (.val (.int .i64 (0)))]) := by
  refine fn_intro Tryz.func51 rfl cb51 rfl ?_
  show PWp _ _ _ _ ⟨[(0, (.d (encA43 p)))], []⟩
  refine pwp_seq <| kx [(1, (.ref 0 0)), (2, (.ref 1 0))] [(0, some (bx (encA43 p))), (1, some (bx (encPlace (RPlace.mk (RRat.mk (RInt.mk false []) (RInt.mk false [])) (RRat.mk (RInt.mk false []) (RInt.mk false []))))))] (zN (oBx 0) <| zN (oAl 1 ze91 zo91) <| zM <| zZ) ?_
  refine pwp_seq <| pwp_seq <| kx [(8, (vb false))] [] (zR (oLa sh44) <| zE (oBk true (oCl (d_proper p p0 p1 p2 hp0 hp1 hp2)) (by exact hw)) <| zE oNt <| zZ) ?_
  refine pwp_cond (b := false) (by kernel_rfl) (fun h => by cases h) (fun _ => ?_)
  refine pwp_skip <| pwp_seq <| kx [(4, (.ref 2 0)), (5, (vb true))] [(2, some (bx (encPlace (RPlace.mk (ofQ (Rat.divInt p0 p2)) (ofQ (Rat.divInt p1 p2))))))] (zR (oLa sh44) <| zE (oCl (d_placeO p p0 p1 p2 hp0 hp1 hp2 hb)) <| zM <| zE oEx <| zE oEx <| zN (oAl 2 ze91 zo91) <| zT (oSt sh91) <| zM <| zZ) ?_
  refine pwp_seq <| pwp_seq <| kx [(16, (vb false))] [] (zM <| zE oNt <| zZ) ?_
  refine pwp_cond (b := false) (by kernel_rfl) (fun h => by cases h) (fun _ => ?_)
  refine pwp_skip <| pwp_seq <| kx [(3, (vin 0))] [(1, some (bx (encPlace (RPlace.mk (ofQ (Rat.divInt p0 p2)) (ofQ (Rat.divInt p1 p2))))))] (zR (oLa sh91) <| zT (oSt sh91) <| zM <| zZ) ?_
  refine pwp_ret ⟨_, (res_a (cs := (bx (encPlace (RPlace.mk (ofQ (Rat.divInt p0 p2)) (ofQ (Rat.divInt p1 p2)))))) (d := (encPlace (RPlace.mk (ofQ (Rat.divInt p0 p2)) (ofQ (Rat.divInt p1 p2))))) rfl rfl sh91 rfl rfl (.tmp (d := (.val (.int .i64 (0)))) rfl .nil)), ?_⟩
  rfl
theorem d_point0 (x : RPlace) (u v : Rat) (hu : QOk x.x u 17179869184) (hv : QOk x.y v 17179869184) (hvx : validR x.x = false) : Takes Tryz.prog 49 [(encPlace x)] (.tup [(encA43 (A3.mk (RInt.mk false []) (RInt.mk false []) (RInt.mk false []))), (.val (.int .i64 (1)))]) := by
  refine fn_intro Tryz.func49 rfl cb49 rfl ?_
  show PWp _ _ _ _ ⟨[(0, (.d (encPlace x)))], []⟩
  refine pwp_seq <| kx [(1, (.ref 0 0)), (2, (.ref 1 0))] [(0, some (bx (encPlace x))), (1, some (bx (encA43 (A3.mk (RInt.mk false []) (RInt.mk false []) (RInt.mk false [])))))] (zN (oBx 0) <| zN (oAl 1 ze44 zo44) <| zM <| zZ) ?_
  refine pwp_seq <| pwp_seq <| kx [(14, (vb true))] [] (zE (oFr fo91_0) <| zR (oLa sh67) <| zE (oBk false (oCl (f_valid x.x u hu)) (by exact hvx)) <| zE oNt <| zM <| zK <| zK <| zK <| zK <| zE oPt <| zZ) ?_
  refine pwp_cond (b := true) (by kernel_rfl) (fun _ => ?_) (fun h => by cases h)
  refine pwp_seq <| kx [(3, (vin 1))] [(1, some (bx (encA43 (A3.mk (RInt.mk false []) (RInt.mk false []) (RInt.mk false [])))))] (zE (oBa ar44 ze44 zo44) <| zT (oSt sh44) <| zM <| zZ) ?_
  refine pwp_ret ⟨_, (res_a (cs := (bx (encA43 (A3.mk (RInt.mk false []) (RInt.mk false []) (RInt.mk false []))))) (d := (encA43 (A3.mk (RInt.mk false []) (RInt.mk false []) (RInt.mk false [])))) rfl rfl sh44 rfl rfl (.tmp (d := (.val (.int .i64 (1)))) rfl .nil)), ?_⟩
  rfl
theorem d_point1 (x : RPlace) (u v : Rat) (hu : QOk x.x u 17179869184) (hv : QOk x.y v 17179869184) (hvx : validR x.x = true) (hvy : validR x.y = false) : Takes Tryz.prog 49 [(encPlace x)] (.tup [(encA43 (A3.mk (RInt.mk false []) (RInt.mk false []) (RInt.mk false []))), (.val (.int .i64 (1)))]) := by
  refine fn_intro Tryz.func49 rfl cb49 rfl ?_
  show PWp _ _ _ _ ⟨[(0, (.d (encPlace x)))], []⟩
  refine pwp_seq <| kx [(1, (.ref 0 0)), (2, (.ref 1 0))] [(0, some (bx (encPlace x))), (1, some (bx (encA43 (A3.mk (RInt.mk false []) (RInt.mk false []) (RInt.mk false [])))))] (zN (oBx 0) <| zN (oAl 1 ze44 zo44) <| zM <| zZ) ?_
  refine pwp_seq <| pwp_seq <| kx [(14, (vb true))] [] (zE (oFr fo91_0) <| zR (oLa sh67) <| zE (oBk true (oCl (f_valid x.x u hu)) (by exact hvx)) <| zE oNt <| zM <| zE (oFr fo91_1) <| zR (oLa sh67) <| zE (oBk false (oCl (f_valid x.y v hv)) (by exact hvy)) <| zE oNt <| zE oPf <| zZ) ?_
  refine pwp_cond (b := true) (by kernel_rfl) (fun _ => ?_) (fun h => by cases h)
  refine pwp_seq <| kx [(3, (vin 1))] [(1, some (bx (encA43 (A3.mk (RInt.mk false []) (RInt.mk false []) (RInt.mk false [])))))] (zE (oBa ar44 ze44 zo44) <| zT (oSt sh44) <| zM <| zZ) ?_
  refine pwp_ret ⟨_, (res_a (cs := (bx (encA43 (A3.mk (RInt.mk false []) (RInt.mk false []) (RInt.mk false []))))) (d := (encA43 (A3.mk (RInt.mk false []) (RInt.mk false []) (RInt.mk false [])))) rfl rfl sh44 rfl rfl (.tmp (d := (.val (.int .i64 (1)))) rfl .nil)), ?_⟩
  rfl
theorem d_point (u v : Rat) (hu : QL u 1000) (hv : QL v 1000) (c0 c1 c2 : Int) (hc : redL [(u.num * (v.den : Int)), (v.num * (u.den : Int)), ((u.den : Int) * (v.den : Int))] = [c0, c1, c2]) (hnz : sgnL [(u.num * (v.den : Int)), (v.num * (u.den : Int)), ((u.den : Int) * (v.den : Int))] ≠ 0) : Takes Tryz.prog 49 [(encPlace (RPlace.mk (ofQ u) (ofQ v)))] (.tup [(encA43 (A3.mk (ofZ c0) (ofZ c1) (ofZ c2))), (.val (.int .i64 (0)))]) := by
  refine fn_intro Tryz.func49 rfl cb49 rfl ?_
  show PWp _ _ _ _ ⟨[(0, (.d (encPlace (RPlace.mk (ofQ u) (ofQ v)))))], []⟩
  refine pwp_seq <| kx [(1, (.ref 0 0)), (2, (.ref 1 0))] [(0, some (bx (encPlace (RPlace.mk (ofQ u) (ofQ v))))), (1, some (bx (encA43 (A3.mk (RInt.mk false []) (RInt.mk false []) (RInt.mk false [])))))] (zN (oBx 0) <| zN (oAl 1 ze44 zo44) <| zM <| zZ) ?_
  refine pwp_seq <| pwp_seq <| kx [(14, (vb false))] [] (zE (oFr fo91_0) <| zR (oLa sh67) <| zE (oBk true (oCl (f_valid (ofQ u) u (qok_up (qok_of hu) (by decide)))) (by exact (validR_ofQ u))) <| zE oNt <| zM <| zE (oFr fo91_1) <| zR (oLa sh67) <| zE (oBk true (oCl (f_valid (ofQ v) v (qok_up (qok_of hv) (by decide)))) (by exact (validR_ofQ v))) <| zE oNt <| zE oPf <| zZ) ?_
  refine pwp_cond (b := false) (by kernel_rfl) (fun h => by cases h) (fun _ => ?_)
  refine pwp_skip <| pwp_seq ?_
  have bn1 : IOk (ofZ (u.num * (v.den : Int))) (u.num * (v.den : Int)) 2000 := (iok_mul (k := 2000) (qok_num hu) (qok_den hv) (by decide))
  have bn2 : IOk (ofZ (v.num * (u.den : Int))) (v.num * (u.den : Int)) 2000 := (iok_mul (k := 2000) (qok_num hv) (qok_den hu) (by decide))
  have bn3 : IOk (ofZ ((u.den : Int) * (v.den : Int))) ((u.den : Int) * (v.den : Int)) 2000 := (iok_mul (k := 2000) (qok_den hu) (qok_den hv) (by decide))
  refine kd [(4, (.ref 2 0))] [(2, some (bx (encA43 (A3.mk (ofZ (u.num * (v.den : Int))) (ofZ (v.num * (u.den : Int))) (ofZ ((u.den : Int) * (v.den : Int)))))))] mo (wE (oFr fo91_0) <| wE (oFr fo67_0) <| wR (oLa sh30) <| wE (oFr fo91_1) <| wE (oFr fo67_1) <| wR (oLa sh30) <| wE (oCl (s_mul (qok_num hu) (qok_den hv) (by decide) (by decide))) <| wE (oFr fo91_1) <| wE (oFr fo67_0) <| wR (oLa sh30) <| wE (oFr fo91_0) <| wE (oFr fo67_1) <| wR (oLa sh30) <| wE (oCl (s_mul (qok_num hv) (qok_den hu) (by decide) (by decide))) <| wE (oFr fo91_0) <| wE (oFr fo67_1) <| wR (oLa sh30) <| wE (oFr fo91_1) <| wE (oFr fo67_1) <| wR (oLa sh30) <| wE (oCl (s_mul (qok_den hu) (qok_den hv) (by decide) (by decide))) <| wE (oBf ar44 ze44 zo44) <| wN (oAl 2 ze44 zo44) <| wT (oSt sh44) <| wZ) ?_
  refine pwp_seq ?_
  have bn4 : ∀ c ∈ [c0, c1, c2], IOk (ofZ c) c 2000 := red_iok (n := 2000) (.cons bn1 (.cons bn2 (.cons bn3 .nil))) hc
  refine kx [(3, (vin 0))] [(1, some (bx (encA43 (A3.mk (ofZ c0) (ofZ c1) (ofZ c2)))))] (zR (oLa sh44) <| zE (oCl (d_red3 (u.num * (v.den : Int)) (v.num * (u.den : Int)) ((u.den : Int) * (v.den : Int)) (iu bn1) (iu bn2) (iu bn3) c0 c1 c2 hc hnz)) <| zT (oSt sh44) <| zM <| zZ) ?_
  refine pwp_ret ⟨_, (res_a (cs := (bx (encA43 (A3.mk (ofZ c0) (ofZ c1) (ofZ c2))))) (d := (encA43 (A3.mk (ofZ c0) (ofZ c1) (ofZ c2)))) rfl rfl sh44 rfl rfl (.tmp (d := (.val (.int .i64 (0)))) rfl .nil)), ?_⟩
  rfl
theorem l_point (u v : Rat) (hu : QL u 1000) (hv : QL v 1000) (c0 c1 c2 : Int) (hc : redL [(u.num * (v.den : Int)), (v.num * (u.den : Int)), ((u.den : Int) * (v.den : Int))] = [c0, c1, c2]) (hnz : sgnL [(u.num * (v.den : Int)), (v.num * (u.den : Int)), ((u.den : Int) * (v.den : Int))] ≠ 0) : Takes Tryz.prog 52 [(encPlace (RPlace.mk (ofQ u) (ofQ v)))] (encA43 (A3.mk (ofZ c0) (ofZ c1) (ofZ c2))) := by
  refine fn_intro Tryz.func52 rfl cb52 rfl ?_
  show PWp _ _ _ _ ⟨[(0, (.d (encPlace (RPlace.mk (ofQ u) (ofQ v)))))], []⟩
  refine pwp_seq <| kx [(1, (.ref 0 0)), (2, (.ref 1 0))] [(0, some (bx (encPlace (RPlace.mk (ofQ u) (ofQ v))))), (1, some (bx (encA43 (A3.mk (RInt.mk false []) (RInt.mk false []) (RInt.mk false [])))))] (zN (oBx 0) <| zN (oAl 1 ze44 zo44) <| zZ) ?_
  refine pwp_seq ?_
  have bn1 : IOk (ofZ (u.num * (v.den : Int))) (u.num * (v.den : Int)) 2000 := (iok_mul (k := 2000) (qok_num hu) (qok_den hv) (by decide))
  have bn2 : IOk (ofZ (v.num * (u.den : Int))) (v.num * (u.den : Int)) 2000 := (iok_mul (k := 2000) (qok_num hv) (qok_den hu) (by decide))
  have bn3 : IOk (ofZ ((u.den : Int) * (v.den : Int))) ((u.den : Int) * (v.den : Int)) 2000 := (iok_mul (k := 2000) (qok_den hu) (qok_den hv) (by decide))
  have bn4 : ∀ c ∈ [c0, c1, c2], IOk (ofZ c) c 2000 := red_iok (n := 2000) (.cons bn1 (.cons bn2 (.cons bn3 .nil))) hc
  refine kd [(3, (.ref 2 0))] [(2, some (bx (encA43 (A3.mk (ofZ c0) (ofZ c1) (ofZ c2)))))] mo (wE (oFr fo91_0) <| wE (oFr fo67_0) <| wR (oLa sh30) <| wE (oFr fo91_1) <| wE (oFr fo67_1) <| wR (oLa sh30) <| wE (oCl (l_times ((ofQ u).num) u.num (iok_up (qok_num hu) (by decide)) ((ofQ v).den) (v.den : Int) (iok_up (qok_den hv) (by decide)))) <| wE (oFr fo91_1) <| wE (oFr fo67_0) <| wR (oLa sh30) <| wE (oFr fo91_0) <| wE (oFr fo67_1) <| wR (oLa sh30) <| wE (oCl (l_times ((ofQ v).num) v.num (iok_up (qok_num hv) (by decide)) ((ofQ u).den) (u.den : Int) (iok_up (qok_den hu) (by decide)))) <| wE (oFr fo91_0) <| wE (oFr fo67_1) <| wR (oLa sh30) <| wE (oFr fo91_1) <| wE (oFr fo67_1) <| wR (oLa sh30) <| wE (oCl (l_times ((ofQ u).den) (u.den : Int) (iok_up (qok_den hu) (by decide)) ((ofQ v).den) (v.den : Int) (iok_up (qok_den hv) (by decide)))) <| wE (oBf ar44 ze44 zo44) <| wE (oCl (l_trip (A3.mk (ofZ (u.num * (v.den : Int))) (ofZ (v.num * (u.den : Int))) (ofZ ((u.den : Int) * (v.den : Int)))) (u.num * (v.den : Int)) (v.num * (u.den : Int)) ((u.den : Int) * (v.den : Int)) (iu bn1) (iu bn2) (iu bn3) c0 c1 c2 hc hnz)) <| wM <| wE oEx <| wE oEx <| wN (oAl 2 ze44 zo44) <| wT (oSt sh44) <| wM <| wZ) ?_
  refine pwp_seq <| kx [] [(1, some (bx (encA43 (A3.mk (ofZ c0) (ofZ c1) (ofZ c2)))))] (zR (oLa sh44) <| zT (oSt sh44) <| zZ) ?_
  refine pwp_ret ⟨_, (res_a (cs := (bx (encA43 (A3.mk (ofZ c0) (ofZ c1) (ofZ c2))))) (d := (encA43 (A3.mk (ofZ c0) (ofZ c1) (ofZ c2)))) rfl rfl sh44 rfl rfl .nil), ?_⟩
  rfl
end Go.Proofs.YtadkkhdnccljcaaGreat
