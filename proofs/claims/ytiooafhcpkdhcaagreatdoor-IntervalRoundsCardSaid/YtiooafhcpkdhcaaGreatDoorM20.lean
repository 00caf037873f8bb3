/- Part 20 of a proof: rules, plain facts, and functions walked. -/
import Derived.Test.YtiooafhcpkdhcaaGreatDoorM19
import Derived.Test.YtiooafhcpkdhcaaGreatDoorM10
import Derived.Test.YtiooafhcpkdhcaaGreatDoorM11
namespace Go.Proofs.YtiooafhcpkdhcaaGreatDoor
open Go.Fid
set_option maxRecDepth 4000
set_option linter.unusedVariables false
set_option linter.unusedSimpArgs false
theorem cb12 : callB Tryz.prog 12 = true := by kernel_rfl
theorem cb13 : callB Tryz.prog 13 = true := by kernel_rfl
theorem cb16 : callB Tryz.prog 16 = true := by kernel_rfl
theorem cb21 : callB Tryz.prog 21 = true := by kernel_rfl
theorem cb22 : callB Tryz.prog 22 = true := by kernel_rfl
theorem cb49 : callB Tryz.prog 49 = true := by kernel_rfl
theorem cb76 : callB Tryz.prog 76 = true := by kernel_rfl
theorem cb77 : callB Tryz.prog 77 = true := by kernel_rfl
theorem cb78 : callB Tryz.prog 78 = true := by kernel_rfl
theorem cb79 : callB Tryz.prog 79 = true := by kernel_rfl
theorem cb84 : callB Tryz.prog 84 = true := by kernel_rfl
theorem cb88 : callB Tryz.prog 88 = true := by kernel_rfl
theorem cb90 : callB Tryz.prog 90 = true := by kernel_rfl
theorem cb92 : callB Tryz.prog 92 = true := by kernel_rfl
theorem cb95 : callB Tryz.prog 95 = true := by kernel_rfl
theorem cb145 : callB Tryz.prog 145 = true := by kernel_rfl
theorem el41 : elemB Tryz.prog 41 = some (26, 4) := by kernel_rfl
theorem el91 : elemB Tryz.prog 91 = some (28, 8) := by kernel_rfl
theorem pl28 : placesB Tryz.prog 28 = some [(0, 4), (4, 4)] := by kernel_rfl
theorem sh28 : shapeB Tryz.prog 28 = some (true, 8) := by kernel_rfl
theorem ze28 : zeroB Tryz.prog 28 = some [.bool false, .slice none 0 0, .bool false, .slice none 0 0, .bool false, .slice none 0 0, .bool false, .slice none 0 0] := by kernel_rfl
theorem zo28 : ZOk [.bool false, .slice none 0 0, .bool false, .slice none 0 0, .bool false, .slice none 0 0, .bool false, .slice none 0 0] [.val (.bool false), .sl 147 1 [], .val (.bool false), .sl 147 1 [], .val (.bool false), .sl 147 1 [], .val (.bool false), .sl 147 1 []] := by simp [ZOk, Value.oneCell']
theorem h_valid (a : RRng) (ha : GOk 4294967296 a) : Takes Tryz.prog 84 [(encG a)] (.val (.bool ((validG a)))) := by
  refine fn_intro Tryz.func84 rfl cb84 rfl ?_
  show PWp _ _ _ _ ⟨[(0, (.d (encG a)))], []⟩
  refine pwp_seq <| kx [(1, (.ref 0 0))] [(0, some (bx (encG a)))] (zN (oBx 0) <| zM <| zZ) ?_
  refine pwp_seq <| kx [(2, (vb (((validR a.lo) && (validR a.hi)) && decide ((cmpQ (toQ a.lo) (toQ a.hi)) ≤ 0))))] [] ?_ ?_
  · refine zE (oFr fo28_0) <| zR (oLa sh26) <| zE (oCl (g_valid a.lo (toQ a.lo) (qok_up ha.1 (by decide)))) <| zE (oV (vb (validR a.lo)) (mv_ok (by kernel_rfl))) <| ?_
    rcases hb1 : (validR a.lo) with _ | _
    · exact zK <| zK <| zK <| zE oPf <| zM <| zK <| zK <| zK <| zK <| zK <| zK <| zE oPf <| zM <| zZ
    · refine zE (oFr fo28_1) <| zR (oLa sh26) <| zE (oCl (g_valid a.hi (toQ a.hi) (qok_up ha.2 (by decide)))) <| zE oPa <| zE (oV (vb (true && (validR a.hi))) (mv_ok (by kernel_rfl))) <| ?_
      rcases hb2 : (true && (validR a.hi)) with _ | _
      · exact zK <| zK <| zK <| zK <| zK <| zK <| zE oPf <| zM <| zZ
      · exact zE (oFr fo28_0) <| zR (oLa sh26) <| zE (oFr fo28_1) <| zR (oLa sh26) <| zE (oCl (g_compare a.lo a.hi (toQ a.lo) (toQ a.hi) ha.1 ha.2)) <| zE oLe <| zE oPa <| zM <| zZ
  refine pwp_ret ⟨_, (.tmp (d := (.val (.bool ((((validR a.lo) && (validR a.hi)) && decide ((cmpQ (toQ a.lo) (toQ a.hi)) ≤ 0)))))) rfl .nil), ?_⟩
  rw [validG_eq]; rfl
theorem i_valid (a : RRng) (ha : GOk 4294967296 a) : Takes Tryz.prog 79 [(encG a)] (.val (.bool ((validG a)))) := by
  refine fn_intro Tryz.func79 rfl cb79 rfl ?_
  show PWp _ _ _ _ ⟨[(0, (.d (encG a)))], []⟩
  refine pwp_seq <| kx [(1, (.ref 0 0))] [(0, some (bx (encG a)))] (zN (oBx 0) <| zM <| zZ) ?_
  refine pwp_seq <| kx [(2, (vb (((validR a.lo) && (validR a.hi)) && decide ((cmpQ (toQ a.lo) (toQ a.hi)) ≤ 0))))] [] ?_ ?_
  · refine zE (oFr fo28_0) <| zR (oLa sh26) <| zE (oCl (f_valid a.lo (toQ a.lo) (qok_up ha.1 (by decide)))) <| zE (oV (vb (validR a.lo)) (mv_ok (by kernel_rfl))) <| ?_
    rcases hb1 : (validR a.lo) with _ | _
    · exact zK <| zK <| zK <| zE oPf <| zM <| zK <| zK <| zK <| zK <| zK <| zK <| zE oPf <| zM <| zZ
    · refine zE (oFr fo28_1) <| zR (oLa sh26) <| zE (oCl (f_valid a.hi (toQ a.hi) (qok_up ha.2 (by decide)))) <| zE oPa <| zE (oV (vb (true && (validR a.hi))) (mv_ok (by kernel_rfl))) <| ?_
      rcases hb2 : (true && (validR a.hi)) with _ | _
      · exact zK <| zK <| zK <| zK <| zK <| zK <| zE oPf <| zM <| zZ
      · exact zE (oFr fo28_0) <| zR (oLa sh26) <| zE (oFr fo28_1) <| zR (oLa sh26) <| zE (oCl (f_compare a.lo a.hi (toQ a.lo) (toQ a.hi) (qok_up ha.1 (by decide)) (qok_up ha.2 (by decide)))) <| zE oLe <| zE oPa <| zM <| zZ
  refine pwp_ret ⟨_, (.tmp (d := (.val (.bool ((((validR a.lo) && (validR a.hi)) && decide ((cmpQ (toQ a.lo) (toQ a.hi)) ≤ 0)))))) rfl .nil), ?_⟩
  rw [validG_eq]; rfl
theorem i_valids (l : List RRng) (hl : ∀ a ∈ l, GOk 4294967296 a) (hb : l.length ≤ 1000000) : Takes Tryz.prog 88 [(.sl 28 8 (List.map encG l))] (.val (.bool ((l.all validG)))) := by
  let y1 := (RRng.mk (RRat.mk (RInt.mk false []) (RInt.mk false [])) (RRat.mk (RInt.mk false []) (RInt.mk false [])))
  refine fn_intro Tryz.func88 rfl cb88 rfl ?_
  show PWp _ _ _ _ ⟨[(0, (vl 28 8 encG l))], []⟩
  refine pwp_seq <| kx [] [] (zM <| zZ) ?_
  refine pwp_seq <| pwp_seq <| kx [(5, (vl 28 8 encG l)), (6, (vin l.length)), (7, (vin 0))] [] (zM <| zE (oLm el91) <| zM <| zZ) ?_
  refine pwp_block <| pwp_loop (α := Nat) (fun i => ⟨[(5, (vl 28 8 encG l)), (6, (vin l.length)), (7, (vin i))], []⟩) (fun i => i ≤ l.length ∧ (l.take i).all validG = true) (fun i => l.length - i) 0 wk ⟨Nat.zero_le _, by simp⟩ ?_
  rintro i ⟨hi, hv⟩
  refine pwp_seq <| kx [(8, (vb (decide (((i : Nat) : Int) < ((l.length : Nat) : Int)))))] [] (zE oLt <| zZ) ?_
  refine pwp_seq <| pwp_cond rfl (fun h1 => ?_) (fun h1 => ?_)
  · replace h1 := of_decide_eq_true h1
    refine pwp_skip <| pwp_seq <| pwp_block <| pwp_seq <| kx [(4, (.ref 0 0))] [(0, some (bx (encG (l.getD i y1))))] (zE (oXl el91 i y1) <| zE (oCa sh28) <| zN (oAl 0 ze28 zo28) <| zT (oSt sh28) <| zZ) ?_
    refine pwp_seq <| kx [(13, (vb (!(validG (l.getD i y1)))))] [] (zR (oLa sh28) <| zE (oCl (i_valid (l.getD i y1) (gok_get hl (show i < l.length by omega)))) <| zE oNt <| zZ) ?_
    refine pwp_cond rfl (fun h2 => ?_) (fun h2 => ?_)
    · refine pwp_seq <| kx [(2, (vb false))] [] (zM <| zZ) ?_
      refine pwp_ret ⟨_, (.tmp (d := (.val (.bool (false)))) rfl .nil), ?_⟩
      rw [all_not (f := validG) (l := l) (i := i) (d := (RRng.mk (RRat.mk (RInt.mk false []) (RInt.mk false [])) (RRat.mk (RInt.mk false []) (RInt.mk false [])))) (by omega) (by simpa using h2)]; rfl
    · refine pwp_skip <| kx [(7, (vin (i + 1)))] [] (zE (oAd (i + 1)) <| zM <| zZ) ?_
      exact ⟨(i + 1), wk, ⟨by omega, all_take (d := (RRng.mk (RRat.mk (RInt.mk false []) (RInt.mk false [])) (RRat.mk (RInt.mk false []) (RInt.mk false [])))) (by omega) hv (by simpa using h2)⟩, (by first | omega | (dsimp only; omega))⟩
  · replace h1 := of_decide_eq_false h1
    have hie : i = l.length := by omega
    rw [hie, List.take_length] at hv
    refine pwp_exit <| pwp_seq <| kx [(2, (vb true))] [] (zM <| zZ) ?_
    refine pwp_ret ⟨_, (.tmp (d := (.val (.bool (true)))) rfl .nil), ?_⟩
    rw [hv]; rfl
theorem l_asked (l : List RRng) (hl : ∀ a ∈ l, GOk 4294967296 a) (hb : l.length ≤ 1000000) : Takes Tryz.prog 16 [(.sl 28 8 (List.map encG l))] (.val (.int .i64 ((askC (l.all validG))))) := by
  let y1 := (RRng.mk (RRat.mk (RInt.mk false []) (RInt.mk false [])) (RRat.mk (RInt.mk false []) (RInt.mk false [])))
  refine fn_intro Tryz.func16 rfl cb16 rfl ?_
  show PWp _ _ _ _ ⟨[(0, (vl 28 8 encG l))], []⟩
  refine pwp_seq <| kx [] [] (zM <| zZ) ?_
  refine pwp_seq <| pwp_seq <| kx [(5, (vl 28 8 encG l)), (6, (vin l.length)), (7, (vin 0))] [] (zM <| zE (oLm el91) <| zM <| zZ) ?_
  refine pwp_block <| pwp_loop (α := Nat) (fun i => ⟨[(5, (vl 28 8 encG l)), (6, (vin l.length)), (7, (vin i))], []⟩) (fun i => i ≤ l.length ∧ (l.take i).all validG = true) (fun i => l.length - i) 0 wk ⟨Nat.zero_le _, by simp⟩ ?_
  rintro i ⟨hi, hv⟩
  refine pwp_seq <| kx [(8, (vb (decide (((i : Nat) : Int) < ((l.length : Nat) : Int)))))] [] (zE oLt <| zZ) ?_
  refine pwp_seq <| pwp_cond rfl (fun h1 => ?_) (fun h1 => ?_)
  · replace h1 := of_decide_eq_true h1
    refine pwp_skip <| pwp_seq <| pwp_block <| pwp_seq <| kx [(4, (.ref 0 0))] [(0, some (bx (encG (l.getD i y1))))] (zE (oXl el91 i y1) <| zE (oCa sh28) <| zN (oAl 0 ze28 zo28) <| zT (oSt sh28) <| zZ) ?_
    refine pwp_seq <| kx [(13, (vb (!(validG (l.getD i y1)))))] [] (zR (oLa sh28) <| zE (oCl (h_valid (l.getD i y1) (gok_get hl (show i < l.length by omega)))) <| zE oNt <| zZ) ?_
    refine pwp_cond rfl (fun h2 => ?_) (fun h2 => ?_)
    · refine pwp_seq <| kx [(2, (vin 1))] [] (zM <| zZ) ?_
      refine pwp_ret ⟨_, (.tmp (d := (.val (.int .i64 (1)))) rfl .nil), ?_⟩
      rw [all_not (f := validG) (l := l) (i := i) (d := (RRng.mk (RRat.mk (RInt.mk false []) (RInt.mk false [])) (RRat.mk (RInt.mk false []) (RInt.mk false [])))) (by omega) (by simpa using h2)]; rfl
    · refine pwp_skip <| kx [(7, (vin (i + 1)))] [] (zE (oAd (i + 1)) <| zM <| zZ) ?_
      exact ⟨(i + 1), wk, ⟨by omega, all_take (d := (RRng.mk (RRat.mk (RInt.mk false []) (RInt.mk false [])) (RRat.mk (RInt.mk false []) (RInt.mk false [])))) (by omega) hv (by simpa using h2)⟩, (by first | omega | (dsimp only; omega))⟩
  · replace h1 := of_decide_eq_false h1
    have hie : i = l.length := by omega
    rw [hie, List.take_length] at hv
    refine pwp_exit <| pwp_seq <| kx [(2, (vin 0))] [] (zM <| zZ) ?_
    refine pwp_ret ⟨_, (.tmp (d := (.val (.int .i64 (0)))) rfl .nil), ?_⟩
    rw [hv]; rfl
theorem l_short (l : List RRng) (hl : ∀ a ∈ l, GOk 140737488355328 a) (hb : l.length ≤ 1000000) : Takes Tryz.prog 13 [(.sl 28 8 (List.map encG l))] (.val (.bool ((l.all shortG)))) := by
  refine fn_intro Tryz.func13 rfl cb13 rfl ?_
  show PWp _ _ _ _ ⟨[(0, (vl 28 8 encG l))], []⟩
  refine pwp_seq <| kx [] [] (zM <| zZ) ?_
  refine pwp_seq <| pwp_seq <| kx [(5, (vl 28 8 encG l)), (6, (vin l.length)), (7, (vin 0))] [] (zM <| zE (oLm el91) <| zM <| zZ) ?_
  refine pwp_block <| pwp_loop (α := Nat) (fun i => ⟨[(5, (vl 28 8 encG l)), (6, (vin l.length)), (7, (vin i))], []⟩) (fun i => i ≤ l.length ∧ (l.take i).all shortG = true) (fun i => l.length - i) 0 wk ⟨Nat.zero_le _, by simp⟩ ?_
  rintro i ⟨hi, hv⟩
  refine pwp_seq <| kx [(8, (vb (decide (((i : Nat) : Int) < ((l.length : Nat) : Int)))))] [] (zE oLt <| zZ) ?_
  refine pwp_seq <| pwp_cond rfl (fun h1 => ?_) (fun h1 => ?_)
  · replace h1 := of_decide_eq_true h1
    refine pwp_skip <| pwp_seq <| pwp_block <| pwp_seq <| kx [(4, (.ref 0 0))] [(0, some (bx (encG (l.getD i (RRng.mk (RRat.mk (RInt.mk false []) (RInt.mk false [])) (RRat.mk (RInt.mk false []) (RInt.mk false [])))))))] (zE (oXl el91 i (RRng.mk (RRat.mk (RInt.mk false []) (RInt.mk false [])) (RRat.mk (RInt.mk false []) (RInt.mk false [])))) <| zE (oCa sh28) <| zN (oAl 0 ze28 zo28) <| zT (oSt sh28) <| zZ) ?_
    refine pwp_seq <| kx [(20, (vb (decide (16 < (((digR ((l.getD i (RRng.mk (RRat.mk (RInt.mk false []) (RInt.mk false [])) (RRat.mk (RInt.mk false []) (RInt.mk false [])))).lo)) : Nat) : Int)) || decide (16 < (((digR ((l.getD i (RRng.mk (RRat.mk (RInt.mk false []) (RInt.mk false [])) (RRat.mk (RInt.mk false []) (RInt.mk false [])))).hi)) : Nat) : Int)))))] [] ?_ ?_
    · refine zE (oFr fo28_0) <| zR (oLa sh26) <| zE (oCl (g_digits ((l.getD i (RRng.mk (RRat.mk (RInt.mk false []) (RInt.mk false [])) (RRat.mk (RInt.mk false []) (RInt.mk false [])))).lo) (toQ (l.getD i (RRng.mk (RRat.mk (RInt.mk false []) (RInt.mk false [])) (RRat.mk (RInt.mk false []) (RInt.mk false [])))).lo) (gok_get hl (show i < l.length by omega)).1)) <| zE oGt <| zE (oV (vb (decide (16 < (((digR ((l.getD i (RRng.mk (RRat.mk (RInt.mk false []) (RInt.mk false [])) (RRat.mk (RInt.mk false []) (RInt.mk false [])))).lo)) : Nat) : Int)))) (mv_ok (by kernel_rfl))) <| ?_
      rcases hb2 : (decide (16 < (((digR ((l.getD i (RRng.mk (RRat.mk (RInt.mk false []) (RInt.mk false [])) (RRat.mk (RInt.mk false []) (RInt.mk false [])))).lo)) : Nat) : Int))) with _ | _
      · replace hb2 := of_decide_eq_false hb2
        exact zE (oFr fo28_1) <| zR (oLa sh26) <| zE (oCl (g_digits ((l.getD i (RRng.mk (RRat.mk (RInt.mk false []) (RInt.mk false [])) (RRat.mk (RInt.mk false []) (RInt.mk false [])))).hi) (toQ (l.getD i (RRng.mk (RRat.mk (RInt.mk false []) (RInt.mk false [])) (RRat.mk (RInt.mk false []) (RInt.mk false [])))).hi) (gok_get hl (show i < l.length by omega)).2)) <| zE oGt <| zE oPo <| zZ
      · replace hb2 := of_decide_eq_true hb2
        exact zK <| zK <| zK <| zK <| zE oPt <| zZ
    refine pwp_cond rfl (fun h3 => ?_) (fun h3 => ?_)
    · refine pwp_seq <| kx [(2, (vb false))] [] (zM <| zZ) ?_
      refine pwp_ret ⟨_, (.tmp (d := (.val (.bool (false)))) rfl .nil), ?_⟩
      rw [all_not (f := shortG) (l := l) (i := i) (d := (RRng.mk (RRat.mk (RInt.mk false []) (RInt.mk false [])) (RRat.mk (RInt.mk false []) (RInt.mk false [])))) (by omega) (by unfold shortG; rw [Bool.or_eq_true, decide_eq_true_eq, decide_eq_true_eq] at h3; rw [Bool.and_eq_false_iff, decide_eq_false_iff_not, decide_eq_false_iff_not]; omega)]; rfl
    · refine pwp_skip <| kx [(7, (vin (i + 1)))] [] (zE (oAd (i + 1)) <| zM <| zZ) ?_
      exact ⟨(i + 1), wk, ⟨by omega, all_take (d := (RRng.mk (RRat.mk (RInt.mk false []) (RInt.mk false [])) (RRat.mk (RInt.mk false []) (RInt.mk false [])))) (by omega) hv (by unfold shortG; rw [Bool.or_eq_false_iff, decide_eq_false_iff_not, decide_eq_false_iff_not] at h3; rw [Bool.and_eq_true, decide_eq_true_eq, decide_eq_true_eq]; omega)⟩, (by first | omega | (dsimp only; omega))⟩
  · replace h1 := of_decide_eq_false h1
    have hie : i = l.length := by omega
    rw [hie, List.take_length] at hv
    refine pwp_exit <| pwp_seq <| kx [(2, (vb true))] [] (zM <| zZ) ?_
    refine pwp_ret ⟨_, (.tmp (d := (.val (.bool (true)))) rfl .nil), ?_⟩
    rw [hv]; rfl
theorem i_zero (p q : Rat) (hp : QL p 1073741824) (hq : QL q 1073741824) : Takes Tryz.prog 92 [(encG (RRng.mk (ofQ p) (ofQ q)))] (.val (.bool ((zeroG p q)))) := by
  refine fn_intro Tryz.func92 rfl cb92 rfl ?_
  show PWp _ _ _ _ ⟨[(0, (.d (encG (RRng.mk (ofQ p) (ofQ q)))))], []⟩
  refine pwp_seq <| kx [(1, (.ref 0 0))] [(0, some (bx (encG (RRng.mk (ofQ p) (ofQ q)))))] (zN (oBx 0) <| zM <| zZ) ?_
  refine pwp_seq <| kx [(2, (vb (decide ((signQ p) ≤ 0) && decide (0 ≤ (signQ q)))))] [] ?_ ?_
  · refine zE (oFr fo28_0) <| zR (oLa sh26) <| zE (oCl (f_sign (ofQ p) p (qok_up (qok_of hp) (by decide)))) <| zE oLe <| zE (oV (vb (decide ((signQ p) ≤ 0))) (mv_ok (by kernel_rfl))) <| ?_
    rcases hb1 : (decide ((signQ p) ≤ 0)) with _ | _
    · replace hb1 := of_decide_eq_false hb1
      exact zK <| zK <| zK <| zK <| zE oPf <| zM <| zZ
    · replace hb1 := of_decide_eq_true hb1
      exact zE (oFr fo28_1) <| zR (oLa sh26) <| zE (oCl (f_sign (ofQ q) q (qok_up (qok_of hq) (by decide)))) <| zE oGe <| zE oPa <| zM <| zZ
  refine pwp_ret ⟨_, (.tmp (d := (.val (.bool ((decide ((signQ p) ≤ 0) && decide (0 ≤ (signQ q))))))) rfl .nil), ?_⟩
  rw [zeroG_eq]; rfl
theorem i_spanned (p : Rat) (qs : List Rat) (hp : QL p 17179869184) (hqs : ∀ q ∈ qs, QL q 17179869184) (hb : qs.length ≤ 1000000) : Takes Tryz.prog 90 [(encR (ofQ p)), (.sl 26 4 (List.map encR (List.map ofQ qs)))] (encG (RRng.mk (ofQ (mnL p qs)) (ofQ (mxL p qs)))) := by
  refine fn_intro Tryz.func90 rfl cb90 rfl ?_
  show PWp _ _ _ _ ⟨[(0, (.d (encR (ofQ p)))), (1, (vl 26 4 encR (List.map ofQ qs)))], []⟩
  refine pwp_seq <| kx [(2, (.ref 0 0)), (4, (.ref 1 0))] [(0, some (bx (encR (ofQ p)))), (1, some (bx (encG (RRng.mk (RRat.mk (RInt.mk false []) (RInt.mk false [])) (RRat.mk (RInt.mk false []) (RInt.mk false []))))))] (zN (oBx 0) <| zN (oAl 1 ze28 zo28) <| zZ) ?_
  refine pwp_seq <| kx [(5, (.ref 2 0))] [(2, some (bx (encG (RRng.mk (ofQ p) (ofQ p)))))] (zR (oLa sh26) <| zR (oLa sh26) <| zE (oBd pl28 ze28 zo28) <| zN (oAl 2 ze28 zo28) <| zT (oSt sh28) <| zZ) ?_
  refine pwp_seq <| pwp_seq <| kx [(11, (vl 26 4 encR (List.map ofQ qs))), (12, (vin qs.length)), (13, (vin 0))] [] (zM <| zE (oLn el41 qs.length) <| zM <| zZ) ?_
  refine pwp_block <| pwp_loop (α := Nat × Rat × Rat) (fun (i, lo, hi) => ⟨[(4, (.ref 1 0)), (5, (.ref 2 0)), (11, (vl 26 4 encR (List.map ofQ qs))), (12, (vin qs.length)), (13, (vin i))], [(1, some (bx (encG (RRng.mk (RRat.mk (RInt.mk false []) (RInt.mk false [])) (RRat.mk (RInt.mk false []) (RInt.mk false [])))))), (2, some (bx (encG (RRng.mk (ofQ lo) (ofQ hi)))))]⟩) (fun (i, lo, hi) => i ≤ qs.length ∧ lo = mnL p (qs.take i) ∧ hi = mxL p (qs.take i)) (fun (i, lo, hi) => qs.length - i) (0, p, p) wk ⟨Nat.zero_le _, rfl, rfl⟩ ?_
  rintro ⟨i, lo, hi⟩ ⟨hi1, hl, hh⟩
  have htk : ∀ q ∈ qs.take i, QL q 17179869184 := fun q hq => hqs q (List.mem_of_mem_take hq)
  have hlo : QL lo 17179869184 := by rw [hl]; exact ql_mnL hp htk
  have hhi : QL hi 17179869184 := by rw [hh]; exact ql_mxL hp htk
  refine pwp_seq <| kx [(14, (vb (decide (((i : Nat) : Int) < ((qs.length : Nat) : Int)))))] [] (zE oLt <| zZ) ?_
  refine pwp_seq <| pwp_cond rfl (fun h1 => ?_) (fun h1 => ?_)
  · replace h1 := of_decide_eq_true h1
    refine pwp_skip <| pwp_seq <| pwp_block <| pwp_seq <| kx [(7, (.ref 3 0))] [(3, some (bx (encR (ofQ (qs.getD i 0)))))] (zE (oXm el41 ofQ i 0) <| zE (oCa sh26) <| zN (oAl 3 ze26 zo26) <| zT (oSt sh26) <| zZ) ?_
    refine pwp_seq <| pwp_seq <| kx [(21, (vb (decide ((cmpQ (qs.getD i 0) lo) < 0))))] [] (zR (oLa sh26) <| zE (oFr fo28_0) <| zR (oLa sh26) <| zE (oCl (f_compare (ofQ (qs.getD i 0)) (ofQ lo) (qs.getD i 0) lo (qok_of (ql_getD hqs (by decide) i)) (qok_of hlo))) <| zE oLt <| zZ) ?_
    refine pwp_cond (b := decide ((cmpQ (qs.getD i 0) lo) < 0)) rfl (fun h2 => ?_) (fun h2 => ?_)
    · replace h2 := of_decide_eq_true h2
      have hc1 := h2
      refine kx [] [(2, some (bx (encG (RRng.mk (ofQ (qs.getD i 0)) (ofQ hi)))))] (zR (oLa sh26) <| zE (oFr fo28_0) <| zT (oSt sh26) <| zZ) ?_
      refine pwp_seq <| kx [(28, (vb (decide (0 < (cmpQ (qs.getD i 0) hi)))))] [] (zR (oLa sh26) <| zE (oFr fo28_1) <| zR (oLa sh26) <| zE (oCl (f_compare (ofQ (qs.getD i 0)) (ofQ hi) (qs.getD i 0) hi (qok_of (ql_getD hqs (by decide) i)) (qok_of hhi))) <| zE oGt <| zZ) ?_
      refine pwp_cond (b := decide (0 < (cmpQ (qs.getD i 0) hi))) rfl (fun h3 => ?_) (fun h3 => ?_)
      · replace h3 := of_decide_eq_true h3
        have hc2 := h3
        refine kx [] [(2, some (bx (encG (RRng.mk (ofQ (qs.getD i 0)) (ofQ (qs.getD i 0))))))] (zR (oLa sh26) <| zE (oFr fo28_1) <| zT (oSt sh26) <| zZ) ?_
        refine kx [(13, (vin (i + 1)))] [] (zE (oAd (i + 1)) <| zM <| zZ) ?_
        exact ⟨(i + 1, qs.getD i 0, qs.getD i 0), wk, ⟨by omega, mnL_lt (by omega) hl hc1, mxL_gt (by omega) hh hc2⟩, (by first | omega | (dsimp only; omega))⟩
      · replace h3 := of_decide_eq_false h3
        have hc2 := h3
        refine pwp_skip <| kx [(13, (vin (i + 1)))] [] (zE (oAd (i + 1)) <| zM <| zZ) ?_
        exact ⟨(i + 1, qs.getD i 0, hi), wk, ⟨by omega, mnL_lt (by omega) hl hc1, mxL_le (by omega) hh hc2⟩, (by first | omega | (dsimp only; omega))⟩
    · replace h2 := of_decide_eq_false h2
      have hc1 := h2
      refine pwp_skip <| pwp_seq <| kx [(28, (vb (decide (0 < (cmpQ (qs.getD i 0) hi)))))] [] (zR (oLa sh26) <| zE (oFr fo28_1) <| zR (oLa sh26) <| zE (oCl (f_compare (ofQ (qs.getD i 0)) (ofQ hi) (qs.getD i 0) hi (qok_of (ql_getD hqs (by decide) i)) (qok_of hhi))) <| zE oGt <| zZ) ?_
      refine pwp_cond (b := decide (0 < (cmpQ (qs.getD i 0) hi))) rfl (fun h4 => ?_) (fun h4 => ?_)
      · replace h4 := of_decide_eq_true h4
        have hc2 := h4
        refine kx [] [(2, some (bx (encG (RRng.mk (ofQ lo) (ofQ (qs.getD i 0))))))] (zR (oLa sh26) <| zE (oFr fo28_1) <| zT (oSt sh26) <| zZ) ?_
        refine kx [(13, (vin (i + 1)))] [] (zE (oAd (i + 1)) <| zM <| zZ) ?_
        exact ⟨(i + 1, lo, qs.getD i 0), wk, ⟨by omega, mnL_ge (by omega) hl hc1, mxL_gt (by omega) hh hc2⟩, (by first | omega | (dsimp only; omega))⟩
      · replace h4 := of_decide_eq_false h4
        have hc2 := h4
        refine pwp_skip <| kx [(13, (vin (i + 1)))] [] (zE (oAd (i + 1)) <| zM <| zZ) ?_
        exact ⟨(i + 1, lo, hi), wk, ⟨by omega, mnL_ge (by omega) hl hc1, mxL_le (by omega) hh hc2⟩, (by first | omega | (dsimp only; omega))⟩
  · replace h1 := of_decide_eq_false h1
    have hie : i = qs.length := by omega
    rw [hie, List.take_length] at hl hh
    refine pwp_exit <| pwp_seq <| kx [] [(1, some (bx (encG (RRng.mk (ofQ lo) (ofQ hi)))))] (zR (oLa sh28) <| zT (oSt sh28) <| zZ) ?_
    refine pwp_ret ⟨_, (res_a (cs := (bx (encG (RRng.mk (ofQ lo) (ofQ hi))))) (d := (encG (RRng.mk (ofQ lo) (ofQ hi)))) rfl rfl sh28 rfl rfl .nil), ?_⟩
    rw [hl, hh]; rfl
theorem i_cornersM (p q r s : Rat) (hp : QL p 1073741824) (hq : QL q 1073741824) (hr : QL r 1073741824) (hs : QL s 1073741824) : Takes Tryz.prog 145 [(.val (.func (.func 91) #[] #[])), (encG (RRng.mk (ofQ p) (ofQ q))), (encG (RRng.mk (ofQ r) (ofQ s)))] (encG (RRng.mk (ofQ (mnL (p * r) [(p * s), (q * r), (q * s)])) (ofQ (mxL (p * r) [(p * s), (q * r), (q * s)])))) := by
  refine fn_intro Tryz.func145 rfl cb145 rfl ?_
  show PWp _ _ _ _ ⟨[(0, (.d (.val (.func (.func 91) #[] #[])))), (1, (.d (encG (RRng.mk (ofQ p) (ofQ q))))), (2, (.d (encG (RRng.mk (ofQ r) (ofQ s)))))], []⟩
  refine pwp_seq <| kx [(4, (.ref 0 0)), (5, (.ref 1 0)), (6, (.ref 2 0))] [(0, some (bx (encG (RRng.mk (ofQ p) (ofQ q))))), (1, some (bx (encG (RRng.mk (ofQ r) (ofQ s))))), (2, some (bx (encG (RRng.mk (RRat.mk (RInt.mk false []) (RInt.mk false [])) (RRat.mk (RInt.mk false []) (RInt.mk false []))))))] (zN (oBx 0) <| zN (oBx 1) <| zN (oAl 2 ze28 zo28) <| zZ) ?_
  refine pwp_seq <| kd [] [(2, some (bx (encG (RRng.mk (ofQ (mnL (p * r) [(p * s), (q * r), (q * s)])) (ofQ (mxL (p * r) [(p * s), (q * r), (q * s)]))))))] mo (wM <| wE (oFr fo28_0) <| wR (oLa sh26) <| wE (oFr fo28_0) <| wR (oLa sh26) <| wE (oCl (f_mul (ofQ p) (ofQ r) p r (qok_up (qok_of hp) (by decide)) (qok_up (qok_of hr) (by decide)))) <| wM <| wE (oFr fo28_0) <| wR (oLa sh26) <| wE (oFr fo28_1) <| wR (oLa sh26) <| wE (oCl (f_mul (ofQ p) (ofQ s) p s (qok_up (qok_of hp) (by decide)) (qok_up (qok_of hs) (by decide)))) <| wM <| wE (oFr fo28_1) <| wR (oLa sh26) <| wE (oFr fo28_0) <| wR (oLa sh26) <| wE (oCl (f_mul (ofQ q) (ofQ r) q r (qok_up (qok_of hq) (by decide)) (qok_up (qok_of hr) (by decide)))) <| wM <| wE (oFr fo28_1) <| wR (oLa sh26) <| wE (oFr fo28_1) <| wR (oLa sh26) <| wE (oCl (f_mul (ofQ q) (ofQ s) q s (qok_up (qok_of hq) (by decide)) (qok_up (qok_of hs) (by decide)))) <| wE (oBs el41 ze26 zo26) <| wE (oCl (i_spanned (p * r) [(p * s), (q * r), (q * s)] (ql_up (ql_mul (k := 2147483648) hp hr (by decide)) (by decide)) (List.forall_mem_cons.2 ⟨(ql_up (ql_mul (k := 2147483648) hp hs (by decide)) (by decide)), (List.forall_mem_cons.2 ⟨(ql_up (ql_mul (k := 2147483648) hq hr (by decide)) (by decide)), (List.forall_mem_cons.2 ⟨(ql_up (ql_mul (k := 2147483648) hq hs (by decide)) (by decide)), (fun a h => by cases h)⟩)⟩)⟩) (by simp))) <| wT (oSt sh28) <| wZ) ?_
  refine pwp_ret ⟨_, (res_a (cs := (bx (encG (RRng.mk (ofQ (mnL (p * r) [(p * s), (q * r), (q * s)])) (ofQ (mxL (p * r) [(p * s), (q * r), (q * s)])))))) (d := (encG (RRng.mk (ofQ (mnL (p * r) [(p * s), (q * r), (q * s)])) (ofQ (mxL (p * r) [(p * s), (q * r), (q * s)]))))) rfl rfl sh28 rfl rfl .nil), ?_⟩
  rfl
theorem i_mul (p q r s : Rat) (hp : QL p 1073741824) (hq : QL q 1073741824) (hr : QL r 1073741824) (hs : QL s 1073741824) (hpq : p ≤ q) (hrs : r ≤ s) : Takes Tryz.prog 76 [(encG (RRng.mk (ofQ p) (ofQ q))), (encG (RRng.mk (ofQ r) (ofQ s)))] (.tup [(encG (RRng.mk (ofQ (mnL (p * r) [(p * s), (q * r), (q * s)])) (ofQ (mxL (p * r) [(p * s), (q * r), (q * s)])))), (.val (.int .i64 (0)))]) := by
  refine fn_intro Tryz.func76 rfl cb76 rfl ?_
  show PWp _ _ _ _ ⟨[(0, (.d (encG (RRng.mk (ofQ p) (ofQ q))))), (1, (.d (encG (RRng.mk (ofQ r) (ofQ s)))))], []⟩
  refine pwp_seq <| kx [(2, (.ref 0 0)), (3, (.ref 1 0)), (4, (.ref 2 0))] [(0, some (bx (encG (RRng.mk (ofQ p) (ofQ q))))), (1, some (bx (encG (RRng.mk (ofQ r) (ofQ s))))), (2, some (bx (encG (RRng.mk (RRat.mk (RInt.mk false []) (RInt.mk false [])) (RRat.mk (RInt.mk false []) (RInt.mk false []))))))] (zN (oBx 0) <| zN (oBx 1) <| zN (oAl 2 ze28 zo28) <| zM <| zZ) ?_
  refine pwp_seq <| pwp_seq <| kx [(10, (vb false))] [] (zR (oLa sh28) <| zR (oLa sh28) <| zE (oBs el91 ze28 zo28) <| zE (oCl (by have h := i_valids [(RRng.mk (ofQ p) (ofQ q)), (RRng.mk (ofQ r) (ofQ s))] (List.forall_mem_cons.2 ⟨(gok_up (⟨qok_self (qok_up (qok_of hp) (by decide : 1073741824 ≤ 1073741824)), qok_self (qok_up (qok_of hq) (by decide : 1073741824 ≤ 1073741824))⟩) (by decide)), (List.forall_mem_cons.2 ⟨(gok_up (⟨qok_self (qok_up (qok_of hr) (by decide : 1073741824 ≤ 1073741824)), qok_self (qok_up (qok_of hs) (by decide : 1073741824 ≤ 1073741824))⟩) (by decide)), (fun a h => by cases h)⟩)⟩) (by simp); rw [show List.all [(RRng.mk (ofQ p) (ofQ q)), (RRng.mk (ofQ r) (ofQ s))] validG = true from by simp [validG_of hpq, validG_of hrs]] at h; exact h)) <| zE oNt <| zZ) ?_
  refine pwp_cond (b := false) (by kernel_rfl) (fun h => by cases h) (fun _ => ?_)
  refine pwp_skip <| pwp_seq <| kx [(5, (vin 0))] [(2, some (bx (encG (RRng.mk (ofQ (mnL (p * r) [(p * s), (q * r), (q * s)])) (ofQ (mxL (p * r) [(p * s), (q * r), (q * s)]))))))] (zR (oLa sh28) <| zR (oLa sh28) <| zE (oCl (i_cornersM p q r s hp hq hr hs)) <| zT (oSt sh28) <| zM <| zZ) ?_
  refine pwp_ret ⟨_, (res_a (cs := (bx (encG (RRng.mk (ofQ (mnL (p * r) [(p * s), (q * r), (q * s)])) (ofQ (mxL (p * r) [(p * s), (q * r), (q * s)])))))) (d := (encG (RRng.mk (ofQ (mnL (p * r) [(p * s), (q * r), (q * s)])) (ofQ (mxL (p * r) [(p * s), (q * r), (q * s)]))))) rfl rfl sh28 rfl rfl (.tmp (d := (.val (.int .i64 (0)))) rfl .nil)), ?_⟩
  rfl
theorem i_divideZ (p q r s : Rat) (hp : QL p 1073741824) (hq : QL q 1073741824) (hr : QL r 1073741824) (hs : QL s 1073741824) (hpq : p ≤ q) (hrs : r ≤ s) (hz : zeroG r s = true) : Takes Tryz.prog 78 [(encG (RRng.mk (ofQ p) (ofQ q))), (encG (RRng.mk (ofQ r) (ofQ s)))] (.tup [(encG (RRng.mk (RRat.mk (RInt.mk false []) (RInt.mk false [])) (RRat.mk (RInt.mk false []) (RInt.mk false [])))), (.val (.int .i64 (14)))]) := by
  refine fn_intro Tryz.func78 rfl cb78 rfl ?_
  show PWp _ _ _ _ ⟨[(0, (.d (encG (RRng.mk (ofQ p) (ofQ q))))), (1, (.d (encG (RRng.mk (ofQ r) (ofQ s)))))], []⟩
  refine pwp_seq <| kx [(2, (.ref 0 0)), (3, (.ref 1 0)), (4, (.ref 2 0))] [(0, some (bx (encG (RRng.mk (ofQ p) (ofQ q))))), (1, some (bx (encG (RRng.mk (ofQ r) (ofQ s))))), (2, some (bx (encG (RRng.mk (RRat.mk (RInt.mk false []) (RInt.mk false [])) (RRat.mk (RInt.mk false []) (RInt.mk false []))))))] (zN (oBx 0) <| zN (oBx 1) <| zN (oAl 2 ze28 zo28) <| zM <| zZ) ?_
  refine pwp_seq <| pwp_seq <| kx [(11, (vb false))] [] (zR (oLa sh28) <| zR (oLa sh28) <| zE (oBs el91 ze28 zo28) <| zE (oCl (by have h := i_valids [(RRng.mk (ofQ p) (ofQ q)), (RRng.mk (ofQ r) (ofQ s))] (List.forall_mem_cons.2 ⟨(gok_up (⟨qok_self (qok_up (qok_of hp) (by decide : 1073741824 ≤ 1073741824)), qok_self (qok_up (qok_of hq) (by decide : 1073741824 ≤ 1073741824))⟩) (by decide)), (List.forall_mem_cons.2 ⟨(gok_up (⟨qok_self (qok_up (qok_of hr) (by decide : 1073741824 ≤ 1073741824)), qok_self (qok_up (qok_of hs) (by decide : 1073741824 ≤ 1073741824))⟩) (by decide)), (fun a h => by cases h)⟩)⟩) (by simp); rw [show List.all [(RRng.mk (ofQ p) (ofQ q)), (RRng.mk (ofQ r) (ofQ s))] validG = true from by simp [validG_of hpq, validG_of hrs]] at h; exact h)) <| zE oNt <| zZ) ?_
  refine pwp_cond (b := false) (by kernel_rfl) (fun h => by cases h) (fun _ => ?_)
  refine pwp_skip <| pwp_seq <| pwp_seq <| kx [(14, (vb true))] [] (zR (oLa sh28) <| zE (oCl (by have h := i_zero r s hr hs; rw [show zeroG r s = true from hz] at h; exact h)) <| zZ) ?_
  refine pwp_cond (b := true) (by kernel_rfl) (fun _ => ?_) (fun h => by cases h)
  refine pwp_seq <| kx [(5, (vin 14))] [(2, some (bx (encG (RRng.mk (RRat.mk (RInt.mk false []) (RInt.mk false [])) (RRat.mk (RInt.mk false []) (RInt.mk false []))))))] (zE (oBd pl28 ze28 zo28) <| zT (oSt sh28) <| zM <| zZ) ?_
  refine pwp_ret ⟨_, (res_a (cs := (bx (encG (RRng.mk (RRat.mk (RInt.mk false []) (RInt.mk false [])) (RRat.mk (RInt.mk false []) (RInt.mk false [])))))) (d := (encG (RRng.mk (RRat.mk (RInt.mk false []) (RInt.mk false [])) (RRat.mk (RInt.mk false []) (RInt.mk false []))))) rfl rfl sh28 rfl rfl (.tmp (d := (.val (.int .i64 (14)))) rfl .nil)), ?_⟩
  rfl
theorem i_square (p q : Rat) (hp : QL p 1073741824) (hq : QL q 1073741824) (hpq : p ≤ q) : Takes Tryz.prog 22 [(encG (RRng.mk (ofQ p) (ofQ q)))] (.tup [(encG (RRng.mk (ofQ (sqL p q)) (ofQ (sqH p q)))), (.val (.int .i64 (0)))]) := by
  refine fn_intro Tryz.func22 rfl cb22 rfl ?_
  show PWp _ _ _ _ ⟨[(0, (.d (encG (RRng.mk (ofQ p) (ofQ q)))))], []⟩
  refine pwp_seq <| kx [(1, (.ref 0 0)), (2, (.ref 1 0))] [(0, some (bx (encG (RRng.mk (ofQ p) (ofQ q))))), (1, some (bx (encG (RRng.mk (RRat.mk (RInt.mk false []) (RInt.mk false [])) (RRat.mk (RInt.mk false []) (RInt.mk false []))))))] (zN (oBx 0) <| zN (oAl 1 ze28 zo28) <| zM <| zZ) ?_
  refine pwp_seq <| pwp_seq <| kx [(7, (vb false))] [] (zR (oLa sh28) <| zE (oCl (by have h := i_valid (RRng.mk (ofQ p) (ofQ q)) (gok_up (⟨qok_self (qok_up (qok_of hp) (by decide : 1073741824 ≤ 1073741824)), qok_self (qok_up (qok_of hq) (by decide : 1073741824 ≤ 1073741824))⟩) (by decide)); rw [show validG (RRng.mk (ofQ p) (ofQ q)) = true from validG_of hpq] at h; exact h)) <| zE oNt <| zZ) ?_
  refine pwp_cond (b := false) (by kernel_rfl) (fun h => by cases h) (fun _ => ?_)
  refine pwp_skip <| pwp_seq <| kd [(4, (.ref 2 0))] [(2, some (bx (encG (RRng.mk (ofQ (mnL (p * p) [(q * q)])) (ofQ (mxL (p * p) [(q * q)]))))))] mo (wE (oFr fo28_0) <| wR (oLa sh26) <| wE (oFr fo28_0) <| wR (oLa sh26) <| wE (oCl (f_mul (ofQ p) (ofQ p) p p (qok_up (qok_of hp) (by decide)) (qok_up (qok_of hp) (by decide)))) <| wE (oFr fo28_1) <| wR (oLa sh26) <| wE (oFr fo28_1) <| wR (oLa sh26) <| wE (oCl (f_mul (ofQ q) (ofQ q) q q (qok_up (qok_of hq) (by decide)) (qok_up (qok_of hq) (by decide)))) <| wE (oBs el41 ze26 zo26) <| wE (oCl (i_spanned (p * p) [(q * q)] (ql_up (ql_mul (k := 2147483648) hp hp (by decide)) (by decide)) (List.forall_mem_cons.2 ⟨(ql_up (ql_mul (k := 2147483648) hq hq (by decide)) (by decide)), (fun a h => by cases h)⟩) (by simp))) <| wN (oAl 2 ze28 zo28) <| wT (oSt sh28) <| wZ) ?_
  refine pwp_seq <| pwp_seq <| kx [(22, (vb (zeroG p q)))] [] (zR (oLa sh28) <| zE (oCl (i_zero p q hp hq)) <| zZ) ?_
  refine pwp_cond (b := (zeroG p q)) rfl (fun h1 => ?_) (fun h1 => ?_)
  · refine kx [] [(2, some (bx (encG (RRng.mk (ofQ ((0 : Int) : Rat)) (ofQ (mxL (p * p) [(q * q)]))))))] (zE (oCl (f_whole 0 (by decide) (by decide))) <| zE (oFr fo28_0) <| zT (oSt sh26) <| zZ) ?_
    refine pwp_seq <| kx [(3, (vin 0))] [(1, some (bx (encG (RRng.mk (ofQ ((0 : Int) : Rat)) (ofQ (mxL (p * p) [(q * q)]))))))] (zR (oLa sh28) <| zT (oSt sh28) <| zM <| zZ) ?_
    refine pwp_ret ⟨_, (res_a (cs := (bx (encG (RRng.mk (ofQ ((0 : Int) : Rat)) (ofQ (mxL (p * p) [(q * q)])))))) (d := (encG (RRng.mk (ofQ ((0 : Int) : Rat)) (ofQ (mxL (p * p) [(q * q)]))))) rfl rfl sh28 rfl rfl (.tmp (d := (.val (.int .i64 (0)))) rfl .nil)), ?_⟩
    rw [show sqL p q = _ from if_pos h1]; rfl
  · refine pwp_skip <| pwp_seq <| kx [(3, (vin 0))] [(1, some (bx (encG (RRng.mk (ofQ (mnL (p * p) [(q * q)])) (ofQ (mxL (p * p) [(q * q)]))))))] (zR (oLa sh28) <| zT (oSt sh28) <| zM <| zZ) ?_
    refine pwp_ret ⟨_, (res_a (cs := (bx (encG (RRng.mk (ofQ (mnL (p * p) [(q * q)])) (ofQ (mxL (p * p) [(q * q)])))))) (d := (encG (RRng.mk (ofQ (mnL (p * p) [(q * q)])) (ofQ (mxL (p * p) [(q * q)]))))) rfl rfl sh28 rfl rfl (.tmp (d := (.val (.int .i64 (0)))) rfl .nil)), ?_⟩
    rw [show sqL p q = _ from if_neg (by rw [h1]; simp)]; rfl
theorem h_whole (lo hi : Int) (h1 : -9223372036854775808 ≤ lo) (h2 : lo ≤ 9223372036854775807) (h3 : -9223372036854775808 ≤ hi) (h4 : hi ≤ 9223372036854775807) : Takes Tryz.prog 95 [(.val (.int .i64 (lo))), (.val (.int .i64 (hi)))] (encG (RRng.mk (ofQ ((lo : Int) : Rat)) (ofQ ((hi : Int) : Rat)))) := by
  refine fn_intro Tryz.func95 rfl cb95 rfl ?_
  show PWp _ _ _ _ ⟨[(0, (vi lo)), (1, (vi hi))], []⟩
  refine pwp_seq <| kx [(4, (.ref 0 0))] [(0, some (bx (encG (RRng.mk (RRat.mk (RInt.mk false []) (RInt.mk false [])) (RRat.mk (RInt.mk false []) (RInt.mk false []))))))] (zN (oAl 0 ze28 zo28) <| zZ) ?_
  refine pwp_seq <| kx [] [(0, some (bx (encG (RRng.mk (ofQ ((lo : Int) : Rat)) (ofQ ((hi : Int) : Rat))))))] (zM <| zE (oCl (g_whole lo (by omega) (by omega))) <| zM <| zE (oCl (g_whole hi (by omega) (by omega))) <| zE (oBd pl28 ze28 zo28) <| zT (oSt sh28) <| zZ) ?_
  refine pwp_ret ⟨_, (res_a (cs := (bx (encG (RRng.mk (ofQ ((lo : Int) : Rat)) (ofQ ((hi : Int) : Rat)))))) (d := (encG (RRng.mk (ofQ ((lo : Int) : Rat)) (ofQ ((hi : Int) : Rat))))) rfl rfl sh28 rfl rfl .nil), ?_⟩
  rfl
theorem l_whole (lo hi : Int) (h1 : -9223372036854775808 ≤ lo) (h2 : lo ≤ 9223372036854775807) (h3 : -9223372036854775808 ≤ hi) (h4 : hi ≤ 9223372036854775807) : Takes Tryz.prog 77 [(.val (.int .i64 (lo))), (.val (.int .i64 (hi)))] (encG (RRng.mk (ofQ ((lo : Int) : Rat)) (ofQ ((hi : Int) : Rat)))) := by
  refine fn_intro Tryz.func77 rfl cb77 rfl ?_
  show PWp _ _ _ _ ⟨[(0, (vi lo)), (1, (vi hi))], []⟩
  refine pwp_seq <| kx [(4, (.ref 0 0))] [(0, some (bx (encG (RRng.mk (RRat.mk (RInt.mk false []) (RInt.mk false [])) (RRat.mk (RInt.mk false []) (RInt.mk false []))))))] (zN (oAl 0 ze28 zo28) <| zZ) ?_
  refine pwp_seq <| kx [] [(0, some (bx (encG (RRng.mk (ofQ ((lo : Int) : Rat)) (ofQ ((hi : Int) : Rat))))))] (zM <| zM <| zE (oCl (h_whole lo hi (by omega) (by omega) (by omega) (by omega))) <| zT (oSt sh28) <| zZ) ?_
  refine pwp_ret ⟨_, (res_a (cs := (bx (encG (RRng.mk (ofQ ((lo : Int) : Rat)) (ofQ ((hi : Int) : Rat)))))) (d := (encG (RRng.mk (ofQ ((lo : Int) : Rat)) (ofQ ((hi : Int) : Rat))))) rfl rfl sh28 rfl rfl .nil), ?_⟩
  rfl
theorem h_same (a b : RRng) (ha : GOk 4294967296 a) (hb : GOk 4294967296 b) : Takes Tryz.prog 49 [(encG a), (encG b)] (.val (.bool ((sameG a b)))) := by
  refine fn_intro Tryz.func49 rfl cb49 rfl ?_
  show PWp _ _ _ _ ⟨[(0, (.d (encG a))), (1, (.d (encG b)))], []⟩
  refine pwp_seq <| kx [(2, (.ref 0 0)), (3, (.ref 1 0))] [(0, some (bx (encG a))), (1, some (bx (encG b)))] (zN (oBx 0) <| zN (oBx 1) <| zM <| zZ) ?_
  refine pwp_seq <| kx [(4, (vb (((validG a) && (validG b)) && (sameR a.lo b.lo && sameR a.hi b.hi))))] [] ?_ ?_
  · refine zR (oLa sh28) <| zE (oCl (h_valid a ha)) <| zE (oV (vb (validG a)) (mv_ok (by kernel_rfl))) <| ?_
    rcases hb1 : (validG a) with _ | _
    · exact zK <| zK <| zE oPf <| zM <| zK <| zK <| zK <| zE oPf <| zM <| zZ
    · refine zR (oLa sh28) <| zE (oCl (h_valid b hb)) <| zE oPa <| zE (oV (vb (true && (validG b))) (mv_ok (by kernel_rfl))) <| ?_
      rcases hb2 : (true && (validG b)) with _ | _
      · exact zK <| zK <| zK <| zE oPf <| zM <| zZ
      · exact zR (oLa sh28) <| zR (oLa sh28) <| zE (oCl (g_samerange a b ha hb)) <| zE oPa <| zM <| zZ
  refine pwp_ret ⟨_, (.tmp (d := (.val (.bool ((((validG a) && (validG b)) && (sameR a.lo b.lo && sameR a.hi b.hi)))))) rfl .nil), ?_⟩
  rfl
theorem l_same (a b : RRng) (ha : GOk 4294967296 a) (hb : GOk 4294967296 b) : Takes Tryz.prog 21 [(encG a), (encG b)] (.val (.bool ((sameG a b)))) := by
  refine fn_intro Tryz.func21 rfl cb21 rfl ?_
  show PWp _ _ _ _ ⟨[(0, (.d (encG a))), (1, (.d (encG b)))], []⟩
  refine pwp_seq <| kx [(2, (.ref 0 0)), (3, (.ref 1 0))] [(0, some (bx (encG a))), (1, some (bx (encG b)))] (zN (oBx 0) <| zN (oBx 1) <| zM <| zZ) ?_
  refine pwp_seq <| kx [(4, (vb (sameG a b)))] [] (zR (oLa sh28) <| zR (oLa sh28) <| zE (oCl (h_same a b ha hb)) <| zM <| zZ) ?_
  refine pwp_ret ⟨_, (.tmp (d := (.val (.bool ((sameG a b))))) rfl .nil), ?_⟩
  rfl
theorem l_known  : Takes Tryz.prog 12 [] (.val (.bool (true))) := by
  let y2 := (RRng.mk (ofQ (sqL ((-1 : Int) : Rat) ((2 : Int) : Rat))) (ofQ (sqH ((-1 : Int) : Rat) ((2 : Int) : Rat))))
  let y1 := (RRng.mk (ofQ (mnL (((-1 : Int) : Rat) * ((3 : Int) : Rat)) [(((-1 : Int) : Rat) * ((4 : Int) : Rat)), (((2 : Int) : Rat) * ((3 : Int) : Rat)), (((2 : Int) : Rat) * ((4 : Int) : Rat))])) (ofQ (mxL (((-1 : Int) : Rat) * ((3 : Int) : Rat)) [(((-1 : Int) : Rat) * ((4 : Int) : Rat)), (((2 : Int) : Rat) * ((3 : Int) : Rat)), (((2 : Int) : Rat) * ((4 : Int) : Rat))])))
  refine fn_intro Tryz.func12 rfl cb12 rfl ?_
  show PWp _ _ _ _ ⟨[], []⟩
  refine pwp_seq <| kx [] [] (zM <| zZ) ?_
  refine pwp_seq <| kx [(1, (.ref 0 0)), (2, (vi 0))] [(0, some (bx (encG y1)))] (zE (oCl (l_whole (-1) 2 (by decide) (by decide) (by decide) (by decide))) <| zE (oCl (l_whole 3 4 (by decide) (by decide) (by decide) (by decide))) <| zE (oCl (i_mul ((-1 : Int) : Rat) ((2 : Int) : Rat) ((3 : Int) : Rat) ((4 : Int) : Rat) (ql_up (ql_int (z := (-1)) (lenZ_one (by decide)) (by decide)) (by decide)) (ql_up (ql_int (z := 2) (lenZ_one (by decide)) (by decide)) (by decide)) (ql_up (ql_int (z := 3) (lenZ_one (by decide)) (by decide)) (by decide)) (ql_up (ql_int (z := 4) (lenZ_one (by decide)) (by decide)) (by decide)) (by decide : ((-1 : Int) : Rat) ≤ ((2 : Int) : Rat)) (by decide : ((3 : Int) : Rat) ≤ ((4 : Int) : Rat)))) <| zM <| zE oEx <| zE oEx <| zN (oAl 0 ze28 zo28) <| zT (oSt sh28) <| zM <| zZ) ?_
  refine pwp_seq <| kx [(3, (.ref 1 0)), (4, (vi 0))] [(1, some (bx (encG y2)))] (zE (oCl (l_whole (-1) 2 (by decide) (by decide) (by decide) (by decide))) <| zE (oCl (i_square ((-1 : Int) : Rat) ((2 : Int) : Rat) (ql_up (ql_int (z := (-1)) (lenZ_one (by decide)) (by decide)) (by decide)) (ql_up (ql_int (z := 2) (lenZ_one (by decide)) (by decide)) (by decide)) (by decide : ((-1 : Int) : Rat) ≤ ((2 : Int) : Rat)))) <| zM <| zE oEx <| zE oEx <| zN (oAl 1 ze28 zo28) <| zT (oSt sh28) <| zM <| zZ) ?_
  refine pwp_seq <| kx [(6, (vi 14))] [(2, none)] (zE (oCl (l_whole 1 2 (by decide) (by decide) (by decide) (by decide))) <| zE (oCl (l_whole 0 1 (by decide) (by decide) (by decide) (by decide))) <| zE (oCl (i_divideZ ((1 : Int) : Rat) ((2 : Int) : Rat) ((0 : Int) : Rat) ((1 : Int) : Rat) (ql_up (ql_int (z := 1) (lenZ_one (by decide)) (by decide)) (by decide)) (ql_up (ql_int (z := 2) (lenZ_one (by decide)) (by decide)) (by decide)) (ql_up (ql_int (z := 0) (lenZ_one (by decide)) (by decide)) (by decide)) (ql_up (ql_int (z := 1) (lenZ_one (by decide)) (by decide)) (by decide)) (by decide : ((1 : Int) : Rat) ≤ ((2 : Int) : Rat)) (by decide : ((0 : Int) : Rat) ≤ ((1 : Int) : Rat)) (by decide))) <| zM <| zE oEx <| zE oEx <| zN (oAl 2 ze28 zo28) <| zT (oSt sh28) <| zM <| zZ) ?_
  refine pwp_seq <| kd [(0, (vb true))] [] mo (wM <| wE oEq <| wM <| wM <| wE oEq <| wE oPt <| wM <| wM <| wE oEq <| wE oPt <| wM <| wR (oLa sh28) <| wE (oCl (l_whole (-4) 8 (by decide) (by decide) (by decide) (by decide))) <| wE (oCl (by have h := l_same y1 (RRng.mk (ofQ ((-4 : Int) : Rat)) (ofQ ((8 : Int) : Rat))) (gok_up (⟨qok_self (qok_up (qok_of (ql_mnL (ql_mul (k := 2) (ql_int (z := (-1)) (lenZ_one (by decide)) (by decide)) (ql_int (z := 3) (lenZ_one (by decide)) (by decide)) (by decide)) (List.forall_mem_cons.2 ⟨(ql_mul (k := 2) (ql_int (z := (-1)) (lenZ_one (by decide)) (by decide)) (ql_int (z := 4) (lenZ_one (by decide)) (by decide)) (by decide)), (List.forall_mem_cons.2 ⟨(ql_mul (k := 2) (ql_int (z := 2) (lenZ_one (by decide)) (by decide)) (ql_int (z := 3) (lenZ_one (by decide)) (by decide)) (by decide)), (List.forall_mem_cons.2 ⟨(ql_mul (k := 2) (ql_int (z := 2) (lenZ_one (by decide)) (by decide)) (ql_int (z := 4) (lenZ_one (by decide)) (by decide)) (by decide)), (fun a h => by cases h)⟩)⟩)⟩))) (by decide : 2 ≤ 2)), qok_self (qok_up (qok_of (ql_mxL (ql_mul (k := 2) (ql_int (z := (-1)) (lenZ_one (by decide)) (by decide)) (ql_int (z := 3) (lenZ_one (by decide)) (by decide)) (by decide)) (List.forall_mem_cons.2 ⟨(ql_mul (k := 2) (ql_int (z := (-1)) (lenZ_one (by decide)) (by decide)) (ql_int (z := 4) (lenZ_one (by decide)) (by decide)) (by decide)), (List.forall_mem_cons.2 ⟨(ql_mul (k := 2) (ql_int (z := 2) (lenZ_one (by decide)) (by decide)) (ql_int (z := 3) (lenZ_one (by decide)) (by decide)) (by decide)), (List.forall_mem_cons.2 ⟨(ql_mul (k := 2) (ql_int (z := 2) (lenZ_one (by decide)) (by decide)) (ql_int (z := 4) (lenZ_one (by decide)) (by decide)) (by decide)), (fun a h => by cases h)⟩)⟩)⟩))) (by decide : 2 ≤ 2))⟩) (by decide)) (gok_up (⟨qok_self (qok_up (qok_of (ql_int (z := (-4)) (lenZ_one (by decide)) (by decide))) (by decide : 1 ≤ 1)), qok_self (qok_up (qok_of (ql_int (z := 8) (lenZ_one (by decide)) (by decide))) (by decide : 1 ≤ 1))⟩) (by decide)); rw [show sameG y1 (RRng.mk (ofQ ((-4 : Int) : Rat)) (ofQ ((8 : Int) : Rat))) = true from by rw [sameG_of]; kernel_rfl] at h; exact h)) <| wE oPt <| wM <| wR (oLa sh28) <| wE (oCl (l_whole 0 4 (by decide) (by decide) (by decide) (by decide))) <| wE (oCl (by have h := l_same y2 (RRng.mk (ofQ ((0 : Int) : Rat)) (ofQ ((4 : Int) : Rat))) (gok_up (⟨qok_self (qok_up (qok_of (ql_sqL (ql_mul (k := 2) (ql_int (z := (-1)) (lenZ_one (by decide)) (by decide)) (ql_int (z := (-1)) (lenZ_one (by decide)) (by decide)) (by decide)) (ql_mul (k := 2) (ql_int (z := 2) (lenZ_one (by decide)) (by decide)) (ql_int (z := 2) (lenZ_one (by decide)) (by decide)) (by decide)))) (by decide : 2 ≤ 2)), qok_self (qok_up (qok_of (ql_sqH (ql_mul (k := 2) (ql_int (z := (-1)) (lenZ_one (by decide)) (by decide)) (ql_int (z := (-1)) (lenZ_one (by decide)) (by decide)) (by decide)) (ql_mul (k := 2) (ql_int (z := 2) (lenZ_one (by decide)) (by decide)) (ql_int (z := 2) (lenZ_one (by decide)) (by decide)) (by decide)))) (by decide : 2 ≤ 2))⟩) (by decide)) (gok_up (⟨qok_self (qok_up (qok_of (ql_int (z := 0) (lenZ_one (by decide)) (by decide))) (by decide : 1 ≤ 1)), qok_self (qok_up (qok_of (ql_int (z := 4) (lenZ_one (by decide)) (by decide))) (by decide : 1 ≤ 1))⟩) (by decide)); rw [show sameG y2 (RRng.mk (ofQ ((0 : Int) : Rat)) (ofQ ((4 : Int) : Rat))) = true from by rw [sameG_of]; kernel_rfl] at h; exact h)) <| wE oPt <| wM <| wE (oCl (l_whole 0 1 (by decide) (by decide) (by decide) (by decide))) <| wE (oCl (by have h := i_valid (RRng.mk (ofQ ((0 : Int) : Rat)) (ofQ ((1 : Int) : Rat))) (gok_up (⟨qok_self (qok_up (qok_of (ql_int (z := 0) (lenZ_one (by decide)) (by decide))) (by decide : 1 ≤ 1)), qok_self (qok_up (qok_of (ql_int (z := 1) (lenZ_one (by decide)) (by decide))) (by decide : 1 ≤ 1))⟩) (by decide)); rw [show validG (RRng.mk (ofQ ((0 : Int) : Rat)) (ofQ ((1 : Int) : Rat))) = true from validG_of (by decide : ((0 : Int) : Rat) ≤ ((1 : Int) : Rat))] at h; exact h)) <| wE oPt <| wM <| wE (oCl (l_whole 1 0 (by decide) (by decide) (by decide) (by decide))) <| wE (oCl (by have h := i_valid (RRng.mk (ofQ ((1 : Int) : Rat)) (ofQ ((0 : Int) : Rat))) (gok_up (⟨qok_self (qok_up (qok_of (ql_int (z := 1) (lenZ_one (by decide)) (by decide))) (by decide : 1 ≤ 1)), qok_self (qok_up (qok_of (ql_int (z := 0) (lenZ_one (by decide)) (by decide))) (by decide : 1 ≤ 1))⟩) (by decide)); rw [show validG (RRng.mk (ofQ ((1 : Int) : Rat)) (ofQ ((0 : Int) : Rat))) = false from validG_no (by decide)] at h; exact h)) <| wE oNt <| wE oPt <| wM <| wZ) ?_
  refine pwp_ret ⟨_, (.tmp (d := (.val (.bool (true)))) rfl .nil), ?_⟩
  rfl
end Go.Proofs.YtiooafhcpkdhcaaGreatDoor
namespace Go.Fid
theorem mnL_low (l : List Rat) : ∀ p : Rat, mnL p l ≤ p ∧ ∀ x ∈ l, mnL p l ≤ x := by
  induction l with
  | nil => intro p; exact ⟨Rat.le_refl, fun x h => by cases h⟩
  | cons q l ih =>
    intro p
    have h : mnL p (q :: l) = mnL (min p q) l := rfl
    obtain ⟨a, b⟩ := ih (min p q)
    rw [h]
    have c1 : min p q ≤ p := by
      rw [Rat.min_def]; split
      · exact Rat.le_refl
      · exact Rat.le_of_lt (Rat.not_le.1 (by assumption))
    have c2 : min p q ≤ q := by
      rw [Rat.min_def]; split
      · assumption
      · exact Rat.le_refl
    refine ⟨Rat.le_trans a c1, fun x hx => ?_⟩
    rcases List.mem_cons.1 hx with e | e
    · rw [e]; exact Rat.le_trans a c2
    · exact b x e
theorem mxL_upp (l : List Rat) : ∀ p : Rat, p ≤ mxL p l ∧ ∀ x ∈ l, x ≤ mxL p l := by
  induction l with
  | nil => intro p; exact ⟨Rat.le_refl, fun x h => by cases h⟩
  | cons q l ih =>
    intro p
    have h : mxL p (q :: l) = mxL (max p q) l := rfl
    obtain ⟨a, b⟩ := ih (max p q)
    rw [h]
    have c1 : p ≤ max p q := by
      rw [Rat.max_def]; split
      · assumption
      · exact Rat.le_refl
    have c2 : q ≤ max p q := by
      rw [Rat.max_def]; split
      · exact Rat.le_refl
      · exact Rat.le_of_lt (Rat.not_le.1 (by assumption))
    refine ⟨Rat.le_trans c1 a, fun x hx => ?_⟩
    rcases List.mem_cons.1 hx with e | e
    · rw [e]; exact Rat.le_trans c2 a
    · exact b x e
end Go.Fid
namespace Go.Proofs.YtiooafhcpkdhcaaGreatDoor
open Go.Fid
set_option maxRecDepth 4000
set_option linter.unusedVariables false
set_option linter.unusedSimpArgs false
end Go.Proofs.YtiooafhcpkdhcaaGreatDoor
namespace Go.Fid
theorem inside_of {p q r s : Rat} (h : r ≤ p ∧ q ≤ s) : (decide (r ≤ p) && decide (q ≤ s)) = true := by rw [decide_eq_true h.1, decide_eq_true h.2]; rfl
def insQ (p q r s : Rat) : Bool := decide (r ≤ p) && decide (q ≤ s)
theorem insQ_eq (p q r s : Rat) : (decide (cmpQ r p ≤ 0) && decide (cmpQ q s ≤ 0)) = insQ p q r s := by
  unfold insQ
  rw [Bool.eq_iff_iff, Bool.and_eq_true, Bool.and_eq_true, decide_eq_true_eq, decide_eq_true_eq, decide_eq_true_eq, decide_eq_true_eq, cmpQ_le, cmpQ_le]
theorem insQ_of {p q r s : Rat} (h1 : r ≤ p) (h2 : q ≤ s) : insQ p q r s = true := inside_of ⟨h1, h2⟩
end Go.Fid
namespace Go.Proofs.YtiooafhcpkdhcaaGreatDoor
open Go.Fid
set_option maxRecDepth 4000
set_option linter.unusedVariables false
set_option linter.unusedSimpArgs false
theorem cb20 : callB Tryz.prog 20 = true := by kernel_rfl
end Go.Proofs.YtiooafhcpkdhcaaGreatDoor
namespace Go.Fid
def zeroR (x : RRat) : Bool := ((!x.num.neg && !x.den.neg) && (((x.num.gs.length : Nat) : Int) == 0)) && (((x.den.gs.length : Nat) : Int) == 0)
theorem sameG_self {p q : Rat} (h : p ≤ q) : sameG ⟨ofQ p, ofQ q⟩ ⟨ofQ p, ofQ q⟩ = true := by rw [sameG_of]; simp [h]
end Go.Fid
