/- Part 29 of a proof: rules, plain facts, and functions walked. -/
import Derived.Test.YtleidgohjckmlaaGreatM21
import Derived.Test.YtleidgohjckmlaaGreatM17
import Derived.Test.YtleidgohjckmlaaGreatM28
set_option linter.unusedVariables false
set_option linter.unusedSimpArgs false
namespace Go.Proofs.YtleidgohjckmlaaGreat
open Go.Fid
theorem kn_r : RstOk 3 2 [5, 2, 9, 4, 4, 0] := ⟨by decide, by decide, by decide, by decide, rfl, fun x hx => by simp at hx; omega⟩
theorem kn_s : RstOk 3 1 [0, 0, 16] := ⟨by decide, by decide, by decide, by decide, rfl, fun x hx => by simp at hx; omega⟩
def itW (w : Nat) : Nat → Nat
  | 0 => w
  | k + 1 => (itW w k + 1) / 2
def itP (w h : Nat) (px : List Int) : Nat → List Int
  | 0 => px
  | k + 1 => bLow (itW w k) (itW h k) (itP w h px k)
theorem it_ok {w h : Nat} {px : List Int} (hv : RstOk w h px) : ∀ k, RstOk (itW w k) (itW h k) (itP w h px k)
  | 0 => hv
  | k + 1 => low_ok (it_ok hv k)
def levB (w h : Nat) (m : Int) (px : List Int) (k : Nat) : RBnd := RBnd.mk ((itW w k : Nat) : Int) ((itW h k : Nat) : Int) m (bLow (itW w k) (itW h k) (itP w h px k)) (bRight (itW w k) (itW h k) (itP w h px k)) (bDown (itW w k) (itW h k) (itP w h px k)) (bCorner (itW w k) (itW h k) (itP w h px k))
def levR (w h : Nat) (m : Int) (px : List Int) (n : Nat) : List RBnd := (List.range n).map (levB w h m px)
theorem levR_len (w h : Nat) (m : Int) (px : List Int) (n : Nat) : (levR w h m px n).length = n := by simp [levR]
theorem levR_step {w h : Nat} {m : Int} {px : List Int} {k : Nat} {out : List RBnd} (ho : out = levR w h m px k) : out ++ [levB w h m px k] = levR w h m px (k + 1) := by
  rw [ho, levR, levR, List.range_succ, List.map_append]; rfl
def bndLen (b : RBnd) : Prop := b.low.length ≤ 1000000 ∧ b.right.length ≤ 1000000 ∧ b.down.length ≤ 1000000 ∧ b.corner.length ≤ 1000000
theorem bnd_len {w h : Nat} {m : Int} {l r d c : List Int} (hv : BndOk w h l r d c) : bndLen (RBnd.mk ((w : Nat) : Int) ((h : Nat) : Int) m l r d c) := by
  obtain ⟨w1, w2, h1, h2, v1, v2, v3, v4, _⟩ := hv
  have q : ∀ a b : Nat, a ≤ 64 → b ≤ 64 → a * b ≤ 1000000 := fun a b ha hb => Nat.le_trans (Nat.mul_le_mul ha hb) (by decide)
  refine ⟨?_, ?_, ?_, ?_⟩
  · show l.length ≤ 1000000; rw [v1]; exact q _ _ (by omega) (by omega)
  · show r.length ≤ 1000000; rw [v2]; exact q _ _ (by omega) (by omega)
  · show d.length ≤ 1000000; rw [v3]; exact q _ _ (by omega) (by omega)
  · show c.length ≤ 1000000; rw [v4]; exact q _ _ (by omega) (by omega)
theorem lev_len {w h : Nat} {m : Int} {px : List Int} {n : Nat} (hv : RstOk w h px) : ∀ b ∈ levR w h m px n, bndLen b := fun b hb => by
  obtain ⟨k, _, rfl⟩ := List.mem_map.1 hb
  exact bnd_len (bands_ok (it_ok hv k))
theorem lb_get {L : List RBnd} (h : ∀ b ∈ L, bndLen b) (k : Nat) : bndLen (L.getD k (RBnd.mk 0 0 0 [] [] [] [])) := by
  by_cases hk : k < L.length
  · rw [List.getD_eq_getElem?_getD, List.getElem?_eq_getElem hk]; exact h _ (List.getElem_mem hk)
  · rw [List.getD_eq_getElem?_getD, List.getElem?_eq_none (by omega)]; exact ⟨Nat.zero_le _, Nat.zero_le _, Nat.zero_le _, Nat.zero_le _⟩
end Go.Proofs.YtleidgohjckmlaaGreat
namespace Go.Proofs.YtleidgohjckmlaaGreat
open Go.Fid
set_option maxRecDepth 4000
set_option linter.unusedVariables false
set_option linter.unusedSimpArgs false
theorem cb7 : callB Tryz.prog 7 = true := by kernel_rfl
theorem p_known  : Takes Tryz.prog 7 [] (.val (.bool (true))) := by
  have hkr := kn_r
  have hks := kn_s
  let y1 := [((5 : Nat) : Int), ((2 : Nat) : Int), ((9 : Nat) : Int), ((4 : Nat) : Int), ((4 : Nat) : Int), ((0 : Nat) : Int)]
  refine fn_intro Tryz.func7 rfl cb7 rfl ?_
  show PWp _ _ _ _ ⟨[], []⟩
  refine pwp_seq <| kx [] [] (zM <| zZ) ?_
  refine pwp_seq <| kx [(1, (.ref 0 0))] [(0, some (bx (encRst (RRst.mk ((3 : Nat) : Int) ((2 : Nat) : Int) ((9 : Nat) : Int) y1))))] (zE (oBs el22 ze3 zo3) <| zE (oBd pl24 ze24 zo24) <| zN (oAl 0 ze24 zo24) <| zT (oSt sh24) <| zZ) ?_
  refine pwp_seq <| kx [(2, (.ref 1 0)), (3, (vi 0))] [(1, some (bx (encBnd (RBnd.mk ((3 : Nat) : Int) ((2 : Nat) : Int) ((9 : Nat) : Int) (bLow 3 2 y1) (bRight 3 2 y1) (bDown 3 2 y1) (bCorner 3 2 y1)))))] (zR (oLa sh24) <| zE (oCl (p_splO 3 2 ((9 : Nat) : Int) y1 kn_r (by decide +kernel) (by decide +kernel))) <| zM <| zE oEx <| zE oEx <| zN (oAl 1 ze28 zo28) <| zT (oSt sh28) <| zM <| zZ) ?_
  refine pwp_seq <| kx [(4, (.ref 2 0)), (5, (vi 0))] [(2, some (bx (encRst (RRst.mk ((3 : Nat) : Int) ((2 : Nat) : Int) ((9 : Nat) : Int) (pxJ 3 2 (bLow 3 2 y1) (bRight 3 2 y1) (bDown 3 2 y1) (bCorner 3 2 y1))))))] (zR (oLa sh28) <| zE (oCl (p_joV 3 2 ((9 : Nat) : Int) (bLow 3 2 y1) (bRight 3 2 y1) (bDown 3 2 y1) (bCorner 3 2 y1) (by decide +kernel) (by decide +kernel) (by decide +kernel) (by decide +kernel) (by decide +kernel) (bands_ok kn_r) (by decide +kernel))) <| zM <| zE oEx <| zE oEx <| zN (oAl 2 ze24 zo24) <| zT (oSt sh24) <| zM <| zZ) ?_
  refine pwp_seq <| kx [(6, (.ref 3 0)), (7, (vi 0))] [(3, some (bx (encRst (RRst.mk ((3 : Nat) : Int) ((1 : Nat) : Int) ((16 : Nat) : Int) (smV 3 1 [((0 : Nat) : Int), ((0 : Nat) : Int), ((16 : Nat) : Int)])))))] (zE (oBs el22 ze3 zo3) <| zE (oBd pl24 ze24 zo24) <| zE (oCl (p_smo 3 1 ((16 : Nat) : Int) [((0 : Nat) : Int), ((0 : Nat) : Int), ((16 : Nat) : Int)] kn_s (by decide +kernel) (by decide +kernel))) <| zM <| zE oEx <| zE oEx <| zN (oAl 3 ze24 zo24) <| zT (oSt sh24) <| zM <| zZ) ?_
  refine pwp_seq <| kx [(8, (.ref 4 0)), (9, (vi 0))] [(4, some (bx (encR (ofQ (Rat.divInt (pySum y1) ((y1.length : Nat) : Int))))))] (zR (oLa sh24) <| zE (oCl (p_mean 3 2 ((9 : Nat) : Int) y1 kn_r (by decide +kernel) (by decide +kernel))) <| zM <| zE oEx <| zE oEx <| zN (oAl 4 ze51 zo51) <| zT (oSt sh51) <| zM <| zZ) ?_
  refine pwp_seq <| kd [(0, (vb true))] [] mo (wM <| wM <| wE (oAd 0 (hr := by decide)) <| wM <| wE (oAd 0 (hr := by decide)) <| wM <| wE (oAd 0 (hr := by decide)) <| wE (oBk true oEq) <| wM <| wE (oFr fo28_3) <| wR (oL1 sh22) <| wE (oBs el22 ze3 zo3) <| wE (oBk true (oCl (p_eq (bLow 3 2 y1) [((3 : Nat) : Int), ((4 : Nat) : Int)] (by decide +kernel))) (by exact beq_iff_eq.2 (by decide +kernel))) <| wE oPt <| wM <| wE (oFr fo28_4) <| wR (oL1 sh22) <| wE (oBs el22 ze3 zo3) <| wE (oBk true (oCl (p_eq (bRight 3 2 y1) [((1 : Nat) : Int)] (by decide +kernel))) (by exact beq_iff_eq.2 (by decide +kernel))) <| wE oPt <| wM <| wE (oFr fo28_5) <| wR (oL1 sh22) <| wE (oBs el22 ze3 zo3) <| wE (oBk true (oCl (p_eq (bDown 3 2 y1) [-1, ((9 : Nat) : Int)] (by decide +kernel))) (by exact beq_iff_eq.2 (by decide +kernel))) <| wE oPt <| wM <| wE (oFr fo28_6) <| wR (oL1 sh22) <| wE (oBs el22 ze3 zo3) <| wE (oBk true (oCl (p_eq (bCorner 3 2 y1) [((3 : Nat) : Int)] (by decide +kernel))) (by exact beq_iff_eq.2 (by decide +kernel))) <| wE oPt <| wM <| wR (oLa sh24) <| wR (oLa sh24) <| wE (oBk true (oCl (p_same ((3 : Nat) : Int) ((2 : Nat) : Int) ((9 : Nat) : Int) (pxJ 3 2 (bLow 3 2 y1) (bRight 3 2 y1) (bDown 3 2 y1) (bCorner 3 2 y1)) ((3 : Nat) : Int) ((2 : Nat) : Int) ((9 : Nat) : Int) y1 (by decide +kernel))) (by exact (by decide +kernel))) <| wE oPt <| wM <| wE (oFr fo24_3) <| wR (oL1 sh22) <| wE (oBs el22 ze3 zo3) <| wE (oBk true (oCl (p_eq (smV 3 1 [((0 : Nat) : Int), ((0 : Nat) : Int), ((16 : Nat) : Int)]) [((0 : Nat) : Int), ((4 : Nat) : Int), ((12 : Nat) : Int)] (by decide +kernel))) (by exact beq_iff_eq.2 (by decide +kernel))) <| wE oPt <| wM <| wR (oLa sh51) <| wE (oCl (p_rint ((4 : Nat) : Int) (by omega) (by omega))) <| wE (oBk true (oCl (p_samR (Rat.divInt (pySum y1) ((y1.length : Nat) : Int)) (ql_up (mean_ql (by assumption)) (by decide)) ((4 : Int) : Rat) (ql_up (ql_int (z := 4) (n := 3) (lenZ_int (by omega) (by omega)) (by decide)) (by decide)))) (by exact decide_eq_true (by decide +kernel))) <| wE oPt <| wM <| wZ) ?_
  refine pwp_ret ⟨_, (.tmp (d := (.val (.bool (true)))) rfl .nil), ?_⟩
  rfl
end Go.Proofs.YtleidgohjckmlaaGreat
namespace Go.Proofs.YtleidgohjckmlaaGreat
open Go.Fid
set_option maxRecDepth 4000
set_option linter.unusedVariables false
set_option linter.unusedSimpArgs false
theorem by28 : bytesB Tryz.prog 28 = some 120 := by kernel_rfl
theorem cb17 : callB Tryz.prog 17 = true := by kernel_rfl
theorem cb18 : callB Tryz.prog 18 = true := by kernel_rfl
theorem cb19 : callB Tryz.prog 19 = true := by kernel_rfl
theorem cb37 : callB Tryz.prog 37 = true := by kernel_rfl
theorem cb38 : callB Tryz.prog 38 = true := by kernel_rfl
theorem el39 : elemB Tryz.prog 39 = some (28, 7) := by kernel_rfl
theorem p_clone (l : List Int) (hb : l.length ≤ 1000000) : Takes Tryz.prog 37 [(.sl 3 1 (List.map enc_i64 l))] (.sl 3 1 (List.map enc_i64 l)) := by
  refine fn_intro Tryz.func37 rfl cb37 rfl ?_
  show PWp _ _ _ _ ⟨[(0, (vl 3 1 enc_i64 l))], []⟩
  refine pwp_seq <| kx [] [] (zE (oNl 3 1) <| zZ) ?_
  refine pwp_seq <| pwp_seq <| pwp_nilq rfl rfl rfl rfl rfl rfl el22 rfl rfl rfl (fun nb hnb => ?_)
  refine pwp_cond (b := nb) rfl (fun h1 => ?_) (fun h1 => ?_)
  · refine pwp_seq <| kx [(2, (vl 3 1 enc_i64 []))] [] (zE (oNl 3 1) <| zZ) ?_
    refine pwp_ret ⟨_, (.tmp (d := (.sl 3 1 (List.map enc_i64 []))) rfl .nil), ?_⟩
    rw [List.map_eq_nil_iff.1 (hnb h1)]; rfl
  · refine pwp_skip <| pwp_seq <| kf [(2, (.own 0 3 1 (([] ++ l).length)))] [(0, some (bm enc_i64 ([] ++ l)))] (zN (oBo 0 el22 ze3 zo3) <| zM <| zA enc_i64 [] l rfl el22 ze3 by3 <| zM <| zF) ?_
    refine pwp_sim (publish (t := 2) (k := 0) (es := List.map enc_i64 ([] ++ l)) rfl rfl (pub_cells _ _ (fun _ => rfl)) (map_len _ _ rfl) (pub_take _ _ (fun _ => rfl) rfl)) ?_
    refine pwp_ret ⟨_, (.tmp (d := (.sl 3 1 (List.map enc_i64 ([] ++ l)))) rfl .nil), ?_⟩
    rfl
theorem p_bld (w h : Nat) (mx : Int) (px : List Int) (n : Nat) (hv : RstOk w h px) (hb : px.length ≤ 1000000) (hc : chkC ((w : Nat) : Int) ((h : Nat) : Int) mx px = 0) (hn1 : 1 ≤ n) (hn2 : n ≤ 6) : Takes Tryz.prog 17 [(encRst (RRst.mk ((w : Nat) : Int) ((h : Nat) : Int) mx px)), (.val (.int .i64 (((n : Nat) : Int))))] (.tup [(.sl 28 7 (List.map encBnd (levR w h mx px n))), (.val (.int .i64 (0)))]) := by
  refine fn_intro Tryz.func17 rfl cb17 rfl ?_
  show PWp _ _ _ _ ⟨[(0, (.d (encRst (RRst.mk ((w : Nat) : Int) ((h : Nat) : Int) mx px)))), (1, (vin n))], []⟩
  refine pwp_seq <| kx [(2, (.ref 0 0))] [(0, some (bx (encRst (RRst.mk ((w : Nat) : Int) ((h : Nat) : Int) mx px))))] (zN (oBx 0) <| zE (oNl 28 7) <| zM <| zZ) ?_
  refine pwp_seq <| pwp_seq <| kx [(6, (vi (chkC ((w : Nat) : Int) ((h : Nat) : Int) mx px)))] [] (zR (oLa sh24) <| zE (oCl (p_chk ((w : Nat) : Int) ((h : Nat) : Int) mx px hb)) <| zM <| zZ) ?_
  refine pwp_seq <| kx [(13, (vb false))] [] (zM <| zE (oBk false oNe (by exact bne_eq_false_iff_eq.2 hc)) <| zZ) ?_
  refine pwp_cond (b := false) (by kernel_rfl) (fun h => by cases h) (fun _ => ?_)
  refine pwp_skip <| pwp_seq <| pwp_seq <| kx [(20, (vb false))] [] (zM <| zE (oBk false oLt (by exact decide_eq_false (by omega))) <| zM <| zM <| zE (oBk false oGt (by exact decide_eq_false (by omega))) <| zE oPf <| zZ) ?_
  refine pwp_cond (b := false) (by kernel_rfl) (fun h => by cases h) (fun _ => ?_)
  refine pwp_skip <| pwp_seq <| kx [(7, (.own 1 28 7 0))] [(1, some (bxs encBnd []))] (zO 1 28 7 <| zZ) ?_
  refine pwp_seq <| pwp_seq <| kx [(21, (vin n)), (22, (vin 0))] [] (zM <| zM <| zZ) ?_
  refine pwp_block <| pwp_loop (α := Nat × List RBnd) (fun (k, out) => ⟨[(2, (.ref 0 0)), (7, (.own 1 28 7 out.length)), (21, (vin n)), (22, (vin k))], [(0, some (bx (encRst (RRst.mk ((itW w k : Nat) : Int) ((itW h k : Nat) : Int) mx (itP w h px k))))), (1, some (bxs encBnd out))]⟩) (fun (k, out) => k ≤ n ∧ out = levR w h mx px k) (fun (k, out) => n - k) (0, []) wk ⟨Nat.zero_le _, rfl⟩ ?_
  rintro ⟨k, out⟩ ⟨hk, ho⟩
  have hok := it_ok hv k
  have hok2 := hok
  obtain ⟨q1, q2, q3, q4, _, _⟩ := hok2
  have hol : out.length ≤ 6 := by rw [ho, levR_len]; omega
  refine pwp_seq <| kx [(23, (vb (decide (((k : Nat) : Int) < ((n : Nat) : Int)))))] [] (zE oLt <| zZ) ?_
  refine pwp_seq <| pwp_cond rfl (fun h1 => ?_) (fun h1 => ?_)
  · replace h1 := of_decide_eq_true h1
    refine pwp_skip <| pwp_seq <| pwp_block <| pwp_seq <| kx [(8, (.ref 2 0))] [(2, some (bx (encBnd (RBnd.mk (((itW w k) : Nat) : Int) (((itW h k) : Nat) : Int) mx (bLow (itW w k) (itW h k) (itP w h px k)) (bRight (itW w k) (itW h k) (itP w h px k)) (bDown (itW w k) (itW h k) (itP w h px k)) (bCorner (itW w k) (itW h k) (itP w h px k))))))] (zR (oLa sh24) <| zE (oCl (p_bands (itW w k) (itW h k) mx (itP w h px k) hok)) <| zH (oAl 2 ze28 zo28) <| zT (oSt sh28) <| zZ) ?_
    refine pwp_seq <| kf [(7, (.own 1 28 7 ((out ++ [(RBnd.mk (((itW w k) : Nat) : Int) (((itW h k) : Nat) : Int) mx (bLow (itW w k) (itW h k) (itP w h px k)) (bRight (itW w k) (itW h k) (itP w h px k)) (bDown (itW w k) (itW h k) (itP w h px k)) (bCorner (itW w k) (itW h k) (itP w h px k)))]).length)))] [(1, some (bxs encBnd (out ++ [(RBnd.mk (((itW w k) : Nat) : Int) (((itW h k) : Nat) : Int) mx (bLow (itW w k) (itW h k) (itP w h px k)) (bRight (itW w k) (itW h k) (itP w h px k)) (bDown (itW w k) (itW h k) (itP w h px k)) (bCorner (itW w k) (itW h k) (itP w h px k)))])))] (zM <| zR (oLa sh28) <| zE (oBs el39 ze28 zo28) <| zAS encBnd out [(RBnd.mk (((itW w k) : Nat) : Int) (((itW h k) : Nat) : Int) mx (bLow (itW w k) (itW h k) (itP w h px k)) (bRight (itW w k) (itW h k) (itP w h px k)) (bDown (itW w k) (itW h k) (itP w h px k)) (bCorner (itW w k) (itW h k) (itP w h px k)))] rfl el39 ze28 by28 <| zM <| zF) ?_
    refine kx [] [(0, some (bx (encRst (RRst.mk (((((itW w k) + 1) / 2) : Nat) : Int) (((((itW h k) + 1) / 2) : Nat) : Int) mx (bLow (itW w k) (itW h k) (itP w h px k))))))] (zE (oFr fo24_0) <| zR (oL1 sh3) <| zE (oAd ((itW w k) + 1)) <| zE (oQu (((itW w k) + 1) / 2)) <| zE (oFr fo24_1) <| zR (oL1 sh3) <| zE (oAd ((itW h k) + 1)) <| zE (oQu (((itW h k) + 1) / 2)) <| zE (oFr fo24_2) <| zR (oL1 sh3) <| zE (oFr fo28_3) <| zR (oL1 sh22) <| zE (oBd pl24 ze24 zo24) <| zT (oSt sh24) <| zZ) ?_
    refine kx [(22, (vin (k + 1)))] [] (zE (oAd (k + 1)) <| zM <| zZ) ?_
    exact ⟨(k + 1, out ++ [levB w h mx px k]), wk, ⟨by omega, levR_step ho⟩, (by first | omega | (dsimp only; omega))⟩
  · replace h1 := of_decide_eq_false h1
    refine pwp_exit <| pwp_seq <| pwp_seq <| kx [(45, (vin out.length)), (46, (vin 0))] [] (zM <| zE (oLo el39) <| zM <| zZ) ?_
    refine pwp_block <| pwp_loop (α := Nat) (fun j => ⟨[(7, (.own 1 28 7 out.length)), (45, (vin out.length)), (46, (vin j))], [(1, some (bxs encBnd out))]⟩) (fun j => j ≤ out.length) (fun j => out.length - j) 0 wk (Nat.zero_le _) ?_
    rintro j hj
    refine pwp_seq <| kx [(47, (vb (decide (((j : Nat) : Int) < ((out.length : Nat) : Int)))))] [] (zE oLt <| zZ) ?_
    refine pwp_seq <| pwp_cond rfl (fun h2 => ?_) (fun h2 => ?_)
    · replace h2 := of_decide_eq_true h2
      refine pwp_skip <| pwp_seq <| pwp_block <| pwp_seq <| kx [(9, (vin j))] [] (zM <| zM <| zZ) ?_
      refine kx [] [(1, some (bxs encBnd out))] (zM <| zM <| zM <| zM <| zE (oXO el39 j) <| zE (oFr fo28_3) <| zR (oLs (s := 7) (i := 3) sh22 j (RBnd.mk 0 0 0 [] [] [] [])) <| zE (oCl (p_clone ((out.getD j (RBnd.mk 0 0 0 [] [] [] [])).low) ((lb_get (by rw [ho]; exact lev_len hv) j).1))) <| zE (oXO el39 j) <| zE (oFr fo28_3) <| zT (oSs (s := 7) (i := 3) sh22 j (RBnd.mk 0 0 0 [] [] [] [])) <| zZ) ?_
      refine kx [(46, (vin (j + 1)))] [] (zE (oAd (j + 1)) <| zM <| zZ) ?_
      exact ⟨(j + 1), wk, (by omega), (by omega)⟩
    · replace h2 := of_decide_eq_false h2
      refine pwp_exit <| pwp_seq <| pwp_sim (publish (t := 7) (k := 1) (es := List.map encBnd out) rfl rfl (pubs_cells _ _ (fun _ => rfl)) (map_len _ _ rfl) (pubs_take encBnd out (fun _ => rfl) rfl)) ?_
      refine kx [(4, (vl 28 7 encBnd out)), (5, (vin 0))] [] (zM <| zM <| zM <| zZ) ?_
      refine pwp_ret ⟨_, (.tmp (d := (.sl 28 7 (List.map encBnd out))) rfl (.tmp (d := (.val (.int .i64 (0)))) rfl .nil)), ?_⟩
      rw [ho, show k = n by omega]; rfl
theorem p_bldE (w h mx : Int) (px : List Int) (n : Int) (hb : px.length ≤ 1000000) (hc : chkC w h mx px ≠ 0) : Takes Tryz.prog 17 [(encRst (RRst.mk w h mx px)), (.val (.int .i64 (n)))] (.tup [(.sl 28 7 (List.map encBnd [])), (.val (.int .i64 (1)))]) := by
  refine fn_intro Tryz.func17 rfl cb17 rfl ?_
  show PWp _ _ _ _ ⟨[(0, (.d (encRst (RRst.mk w h mx px)))), (1, (vi n))], []⟩
  refine pwp_seq <| kx [(2, (.ref 0 0))] [(0, some (bx (encRst (RRst.mk w h mx px))))] (zN (oBx 0) <| zE (oNl 28 7) <| zM <| zZ) ?_
  refine pwp_seq <| pwp_seq <| kx [(6, (vi (chkC w h mx px)))] [] (zR (oLa sh24) <| zE (oCl (p_chk w h mx px hb)) <| zM <| zZ) ?_
  refine pwp_seq <| kx [(13, (vb true))] [] (zM <| zE (oBk true oNe (by exact bne_iff_ne.2 hc)) <| zZ) ?_
  refine pwp_cond (b := true) (by kernel_rfl) (fun _ => ?_) (fun h => by cases h)
  refine pwp_seq <| kx [(4, (vl 28 7 encBnd [])), (5, (vi (chkC w h mx px)))] [] (zM <| zE (oNl 28 7) <| zM <| zZ) ?_
  refine pwp_ret ⟨_, (.tmp (d := (.sl 28 7 (List.map encBnd []))) rfl (.tmp (d := (.val (.int .i64 ((chkC w h mx px))))) rfl .nil)), ?_⟩
  rw [chk_ko hc]; rfl
theorem p_bldR (w h : Nat) (mx : Int) (px : List Int) (n : Int) (hb : px.length ≤ 1000000) (hc : chkC ((w : Nat) : Int) ((h : Nat) : Int) mx px = 0) (hn : n < 1 ∨ 6 < n) : Takes Tryz.prog 17 [(encRst (RRst.mk ((w : Nat) : Int) ((h : Nat) : Int) mx px)), (.val (.int .i64 (n)))] (.tup [(.sl 28 7 (List.map encBnd [])), (.val (.int .i64 (2)))]) := by
  refine fn_intro Tryz.func17 rfl cb17 rfl ?_
  show PWp _ _ _ _ ⟨[(0, (.d (encRst (RRst.mk ((w : Nat) : Int) ((h : Nat) : Int) mx px)))), (1, (vi n))], []⟩
  refine pwp_seq <| kx [(2, (.ref 0 0))] [(0, some (bx (encRst (RRst.mk ((w : Nat) : Int) ((h : Nat) : Int) mx px))))] (zN (oBx 0) <| zE (oNl 28 7) <| zM <| zZ) ?_
  refine pwp_seq <| pwp_seq <| kx [(6, (vi (chkC ((w : Nat) : Int) ((h : Nat) : Int) mx px)))] [] (zR (oLa sh24) <| zE (oCl (p_chk ((w : Nat) : Int) ((h : Nat) : Int) mx px hb)) <| zM <| zZ) ?_
  refine pwp_seq <| kx [(13, (vb false))] [] (zM <| zE (oBk false oNe (by exact bne_eq_false_iff_eq.2 hc)) <| zZ) ?_
  refine pwp_cond (b := false) (by kernel_rfl) (fun h => by cases h) (fun _ => ?_)
  refine pwp_skip <| pwp_seq <| pwp_seq <| kx [(20, (vb (decide (n < 1) || decide (6 < n))))] [] ?_ ?_
  · refine zM <| zE oLt <| zE (oV (vb (decide (n < 1))) (mv_ok (by kernel_rfl))) <| ?_
    rcases hb1 : (decide (n < 1)) with _ | _
    · replace hb1 := of_decide_eq_false hb1
      exact zM <| zE oGt <| zE oPo <| zZ
    · replace hb1 := of_decide_eq_true hb1
      exact zK <| zK <| zE oPt <| zZ
  refine pwp_cond (b := (decide (n < 1) || decide (6 < n))) rfl (fun h2 => ?_) (fun h2 => ?_)
  · refine pwp_seq <| kx [(4, (vl 28 7 encBnd [])), (5, (vin 2))] [] (zE (oNl 28 7) <| zM <| zZ) ?_
    refine pwp_ret ⟨_, (.tmp (d := (.sl 28 7 (List.map encBnd []))) rfl (.tmp (d := (.val (.int .i64 (2)))) rfl .nil)), ?_⟩
    rfl
  · simp at h2; omega
theorem p_bltE (w h mx : Int) (px : List Int) (n : Int) (hb : px.length ≤ 1000000) (hc : chkC w h mx px ≠ 0) : Takes Tryz.prog 18 [(encRst (RRst.mk w h mx px)), (.val (.int .i64 (n)))] (.tup [(.sl 28 7 (List.map encBnd [])), (.val (.int .i64 (1)))]) := by
  refine fn_intro Tryz.func18 rfl cb18 rfl ?_
  show PWp _ _ _ _ ⟨[(0, (.d (encRst (RRst.mk w h mx px)))), (1, (vi n))], []⟩
  refine pwp_seq <| kx [(2, (.ref 0 0))] [(0, some (bx (encRst (RRst.mk w h mx px))))] (zN (oBx 0) <| zE (oNl 28 7) <| zM <| zZ) ?_
  refine pwp_seq <| pwp_seq <| kx [(6, (vi (chkC w h mx px)))] [] (zR (oLa sh24) <| zE (oCl (p_rchk w h mx px hb)) <| zM <| zZ) ?_
  refine pwp_seq <| kx [(12, (vb true))] [] (zM <| zE (oBk true oNe (by exact bne_iff_ne.2 hc)) <| zZ) ?_
  refine pwp_cond (b := true) (by kernel_rfl) (fun _ => ?_) (fun h => by cases h)
  refine pwp_seq <| kx [(4, (vl 28 7 encBnd [])), (5, (vi (chkC w h mx px)))] [] (zM <| zE (oNl 28 7) <| zM <| zZ) ?_
  refine pwp_ret ⟨_, (.tmp (d := (.sl 28 7 (List.map encBnd []))) rfl (.tmp (d := (.val (.int .i64 ((chkC w h mx px))))) rfl .nil)), ?_⟩
  rw [chk_ko hc]; rfl
theorem p_bltR (w h : Nat) (mx : Int) (px : List Int) (n : Int) (hb : px.length ≤ 1000000) (hc : chkC ((w : Nat) : Int) ((h : Nat) : Int) mx px = 0) (hn : n < 1 ∨ 6 < n) : Takes Tryz.prog 18 [(encRst (RRst.mk ((w : Nat) : Int) ((h : Nat) : Int) mx px)), (.val (.int .i64 (n)))] (.tup [(.sl 28 7 (List.map encBnd [])), (.val (.int .i64 (2)))]) := by
  refine fn_intro Tryz.func18 rfl cb18 rfl ?_
  show PWp _ _ _ _ ⟨[(0, (.d (encRst (RRst.mk ((w : Nat) : Int) ((h : Nat) : Int) mx px)))), (1, (vi n))], []⟩
  refine pwp_seq <| kx [(2, (.ref 0 0))] [(0, some (bx (encRst (RRst.mk ((w : Nat) : Int) ((h : Nat) : Int) mx px))))] (zN (oBx 0) <| zE (oNl 28 7) <| zM <| zZ) ?_
  refine pwp_seq <| pwp_seq <| kx [(6, (vi (chkC ((w : Nat) : Int) ((h : Nat) : Int) mx px)))] [] (zR (oLa sh24) <| zE (oCl (p_rchk ((w : Nat) : Int) ((h : Nat) : Int) mx px hb)) <| zM <| zZ) ?_
  refine pwp_seq <| kx [(12, (vb false))] [] (zM <| zE (oBk false oNe (by exact bne_eq_false_iff_eq.2 hc)) <| zZ) ?_
  refine pwp_cond (b := false) (by kernel_rfl) (fun h => by cases h) (fun _ => ?_)
  refine pwp_skip <| pwp_seq <| pwp_seq <| kx [(19, (vb (decide (n < 1) || decide (6 < n))))] [] ?_ ?_
  · refine zM <| zE oLt <| zE (oV (vb (decide (n < 1))) (mv_ok (by kernel_rfl))) <| ?_
    rcases hb1 : (decide (n < 1)) with _ | _
    · replace hb1 := of_decide_eq_false hb1
      exact zM <| zE oGt <| zE oPo <| zZ
    · replace hb1 := of_decide_eq_true hb1
      exact zK <| zK <| zE oPt <| zZ
  refine pwp_cond (b := (decide (n < 1) || decide (6 < n))) rfl (fun h2 => ?_) (fun h2 => ?_)
  · refine pwp_seq <| kx [(4, (vl 28 7 encBnd [])), (5, (vin 2))] [] (zE (oNl 28 7) <| zM <| zZ) ?_
    refine pwp_ret ⟨_, (.tmp (d := (.sl 28 7 (List.map encBnd []))) rfl (.tmp (d := (.val (.int .i64 (2)))) rfl .nil)), ?_⟩
    rfl
  · simp at h2; omega
theorem p_lowR (w h : Nat) (m : Int) (l r d c : List Int) (hw : w ≤ 64) (hh : h ≤ 64) : Takes Tryz.prog 38 [(encBnd (RBnd.mk ((w : Nat) : Int) ((h : Nat) : Int) m l r d c))] (encRst (RRst.mk (((w + 1) / 2 : Nat) : Int) (((h + 1) / 2 : Nat) : Int) m l)) := by
  refine fn_intro Tryz.func38 rfl cb38 rfl ?_
  show PWp _ _ _ _ ⟨[(0, (.d (encBnd (RBnd.mk ((w : Nat) : Int) ((h : Nat) : Int) m l r d c))))], []⟩
  refine pwp_seq <| kx [(1, (.ref 0 0)), (2, (.ref 1 0))] [(0, some (bx (encBnd (RBnd.mk ((w : Nat) : Int) ((h : Nat) : Int) m l r d c)))), (1, some (bx (encRst (RRst.mk 0 0 0 []))))] (zN (oBx 0) <| zN (oAl 1 ze24 zo24) <| zZ) ?_
  refine pwp_seq <| kx [] [(1, some (bx (encRst (RRst.mk ((((w + 1) / 2) : Nat) : Int) ((((h + 1) / 2) : Nat) : Int) m l))))] (zE (oFr fo28_0) <| zR (oL1 sh3) <| zE (oAd (w + 1)) <| zE (oQu ((w + 1) / 2)) <| zE (oFr fo28_1) <| zR (oL1 sh3) <| zE (oAd (h + 1)) <| zE (oQu ((h + 1) / 2)) <| zE (oFr fo28_2) <| zR (oL1 sh3) <| zE (oFr fo28_3) <| zR (oL1 sh22) <| zE (oBd pl24 ze24 zo24) <| zT (oSt sh24) <| zZ) ?_
  refine pwp_ret ⟨_, (res_a (cs := (bx (encRst (RRst.mk ((((w + 1) / 2) : Nat) : Int) ((((h + 1) / 2) : Nat) : Int) m l)))) (d := (encRst (RRst.mk ((((w + 1) / 2) : Nat) : Int) ((((h + 1) / 2) : Nat) : Int) m l))) rfl rfl sh24 rfl rfl .nil), ?_⟩
  rfl
theorem p_blt (w h : Nat) (mx : Int) (px : List Int) (n : Nat) (hv : RstOk w h px) (hb : px.length ≤ 1000000) (hc : chkC ((w : Nat) : Int) ((h : Nat) : Int) mx px = 0) (hn1 : 1 ≤ n) (hn2 : n ≤ 6) : Takes Tryz.prog 18 [(encRst (RRst.mk ((w : Nat) : Int) ((h : Nat) : Int) mx px)), (.val (.int .i64 (((n : Nat) : Int))))] (.tup [(.sl 28 7 (List.map encBnd (levR w h mx px n))), (.val (.int .i64 (0)))]) := by
  refine fn_intro Tryz.func18 rfl cb18 rfl ?_
  show PWp _ _ _ _ ⟨[(0, (.d (encRst (RRst.mk ((w : Nat) : Int) ((h : Nat) : Int) mx px)))), (1, (vin n))], []⟩
  refine pwp_seq <| kx [(2, (.ref 0 0))] [(0, some (bx (encRst (RRst.mk ((w : Nat) : Int) ((h : Nat) : Int) mx px))))] (zN (oBx 0) <| zE (oNl 28 7) <| zM <| zZ) ?_
  refine pwp_seq <| pwp_seq <| kx [(6, (vi (chkC ((w : Nat) : Int) ((h : Nat) : Int) mx px)))] [] (zR (oLa sh24) <| zE (oCl (p_rchk ((w : Nat) : Int) ((h : Nat) : Int) mx px hb)) <| zM <| zZ) ?_
  refine pwp_seq <| kx [(12, (vb false))] [] (zM <| zE (oBk false oNe (by exact bne_eq_false_iff_eq.2 hc)) <| zZ) ?_
  refine pwp_cond (b := false) (by kernel_rfl) (fun h => by cases h) (fun _ => ?_)
  refine pwp_skip <| pwp_seq <| pwp_seq <| kx [(19, (vb false))] [] (zM <| zE (oBk false oLt (by exact decide_eq_false (by omega))) <| zM <| zM <| zE (oBk false oGt (by exact decide_eq_false (by omega))) <| zE oPf <| zZ) ?_
  refine pwp_cond (b := false) (by kernel_rfl) (fun h => by cases h) (fun _ => ?_)
  refine pwp_skip <| pwp_seq <| kx [(7, (.own 1 28 7 0))] [(1, some (bxs encBnd []))] (zO 1 28 7 <| zZ) ?_
  refine pwp_seq <| pwp_seq <| kx [(20, (vin n)), (21, (vin 0))] [] (zM <| zM <| zZ) ?_
  refine pwp_block <| pwp_loop (α := Nat × List RBnd) (fun (k, out) => ⟨[(2, (.ref 0 0)), (7, (.own 1 28 7 out.length)), (20, (vin n)), (21, (vin k))], [(0, some (bx (encRst (RRst.mk ((itW w k : Nat) : Int) ((itW h k : Nat) : Int) mx (itP w h px k))))), (1, some (bxs encBnd out))]⟩) (fun (k, out) => k ≤ n ∧ out = levR w h mx px k) (fun (k, out) => n - k) (0, []) wk ⟨Nat.zero_le _, rfl⟩ ?_
  rintro ⟨k, out⟩ ⟨hk, ho⟩
  have hok := it_ok hv k
  have hok2 := hok
  obtain ⟨q1, q2, q3, q4, _, _⟩ := hok2
  have hol : out.length ≤ 6 := by rw [ho, levR_len]; omega
  refine pwp_seq <| kx [(22, (vb (decide (((k : Nat) : Int) < ((n : Nat) : Int)))))] [] (zE oLt <| zZ) ?_
  refine pwp_seq <| pwp_cond rfl (fun h1 => ?_) (fun h1 => ?_)
  · replace h1 := of_decide_eq_true h1
    refine pwp_skip <| pwp_seq <| pwp_block <| pwp_seq <| kx [(8, (.ref 2 0))] [(2, some (bx (encBnd (RBnd.mk (((itW w k) : Nat) : Int) (((itW h k) : Nat) : Int) mx (bLow (itW w k) (itW h k) (itP w h px k)) (bRight (itW w k) (itW h k) (itP w h px k)) (bDown (itW w k) (itW h k) (itP w h px k)) (bCorner (itW w k) (itW h k) (itP w h px k))))))] (zR (oLa sh24) <| zE (oCl (p_lbands (itW w k) (itW h k) mx (itP w h px k) hok)) <| zH (oAl 2 ze28 zo28) <| zT (oSt sh28) <| zZ) ?_
    refine pwp_seq <| kf [(7, (.own 1 28 7 ((out ++ [(RBnd.mk (((itW w k) : Nat) : Int) (((itW h k) : Nat) : Int) mx (bLow (itW w k) (itW h k) (itP w h px k)) (bRight (itW w k) (itW h k) (itP w h px k)) (bDown (itW w k) (itW h k) (itP w h px k)) (bCorner (itW w k) (itW h k) (itP w h px k)))]).length)))] [(1, some (bxs encBnd (out ++ [(RBnd.mk (((itW w k) : Nat) : Int) (((itW h k) : Nat) : Int) mx (bLow (itW w k) (itW h k) (itP w h px k)) (bRight (itW w k) (itW h k) (itP w h px k)) (bDown (itW w k) (itW h k) (itP w h px k)) (bCorner (itW w k) (itW h k) (itP w h px k)))])))] (zM <| zR (oLa sh28) <| zE (oBs el39 ze28 zo28) <| zAS encBnd out [(RBnd.mk (((itW w k) : Nat) : Int) (((itW h k) : Nat) : Int) mx (bLow (itW w k) (itW h k) (itP w h px k)) (bRight (itW w k) (itW h k) (itP w h px k)) (bDown (itW w k) (itW h k) (itP w h px k)) (bCorner (itW w k) (itW h k) (itP w h px k)))] rfl el39 ze28 by28 <| zM <| zF) ?_
    refine kx [] [(0, some (bx (encRst (RRst.mk ((((itW w k) + 1) / 2 : Nat) : Int) ((((itW h k) + 1) / 2 : Nat) : Int) mx (bLow (itW w k) (itW h k) (itP w h px k))))))] (zR (oLa sh28) <| zE (oCl (p_lowR (itW w k) (itW h k) mx (bLow (itW w k) (itW h k) (itP w h px k)) (bRight (itW w k) (itW h k) (itP w h px k)) (bDown (itW w k) (itW h k) (itP w h px k)) (bCorner (itW w k) (itW h k) (itP w h px k)) q2 q4)) <| zT (oSt sh24) <| zZ) ?_
    refine kx [(21, (vin (k + 1)))] [] (zE (oAd (k + 1)) <| zM <| zZ) ?_
    exact ⟨(k + 1, out ++ [levB w h mx px k]), wk, ⟨by omega, levR_step ho⟩, (by first | omega | (dsimp only; omega))⟩
  · replace h1 := of_decide_eq_false h1
    refine pwp_exit <| pwp_seq <| pwp_sim (publish (t := 7) (k := 1) (es := List.map encBnd out) rfl rfl (pubs_cells _ _ (fun _ => rfl)) (map_len _ _ rfl) (pubs_take encBnd out (fun _ => rfl) rfl)) ?_
    refine kx [(4, (vl 28 7 encBnd out)), (5, (vin 0))] [] (zM <| zM <| zM <| zZ) ?_
    refine pwp_ret ⟨_, (.tmp (d := (.sl 28 7 (List.map encBnd out))) rfl (.tmp (d := (.val (.int .i64 (0)))) rfl .nil)), ?_⟩
    rw [ho, show k = n by omega]; rfl
theorem p_eqB (L : List RBnd) (L : List RBnd) (hL : ∀ b ∈ L, bndLen b) (hlb : L.length ≤ 1000000) : Takes Tryz.prog 19 [(.sl 28 7 (List.map encBnd L)), (.sl 28 7 (List.map encBnd L)), (.val (.func (.func 11) #[] #[]))] (.val (.bool (true))) := by
  refine fn_intro Tryz.func19 rfl cb19 rfl ?_
  show PWp _ _ _ _ ⟨[(0, (vl 28 7 encBnd L)), (1, (vl 28 7 encBnd L)), (2, (.d (.val (.func (.func 11) #[] #[]))))], []⟩
  refine pwp_seq <| kx [] [] (zM <| zZ) ?_
  refine pwp_seq <| pwp_seq <| kx [(14, (vb false))] [] (zM <| zE (oLm el39) <| zM <| zE (oLm el39) <| zE (oBk false oNe (by exact bne_self_eq_false _)) <| zZ) ?_
  refine pwp_cond (b := false) (by kernel_rfl) (fun h => by cases h) (fun _ => ?_)
  refine pwp_skip <| pwp_seq <| pwp_seq <| kx [(15, (vl 28 7 encBnd L)), (16, (vin L.length)), (17, (vin 0))] [] (zM <| zE (oLm el39) <| zM <| zZ) ?_
  refine pwp_block <| pwp_loop (α := Nat) (fun k => ⟨[(1, (vl 28 7 encBnd L)), (2, (.d (.val (.func (.func 11) #[] #[])))), (15, (vl 28 7 encBnd L)), (16, (vin L.length)), (17, (vin k))], []⟩) (fun k => k ≤ L.length) (fun k => L.length - k) 0 wk (Nat.zero_le _) ?_
  rintro k hk
  have hlk := lb_get hL k
  refine pwp_seq <| kx [(18, (vb (decide (((k : Nat) : Int) < ((L.length : Nat) : Int)))))] [] (zE oLt <| zZ) ?_
  refine pwp_seq <| pwp_cond rfl (fun h1 => ?_) (fun h1 => ?_)
  · replace h1 := of_decide_eq_true h1
    refine pwp_skip <| pwp_seq <| pwp_block <| pwp_seq <| kx [(7, (vin k)), (8, (.ref 0 0))] [(0, some (bx (encBnd (L.getD k (RBnd.mk 0 0 0 [] [] [] [])))))] (zM <| zE (oXl el39 k (RBnd.mk 0 0 0 [] [] [] [])) <| zE (oCa sh28) <| zN (oAl 0 ze28 zo28) <| zM <| zT (oSt sh28) <| zZ) ?_
    refine pwp_seq <| kx [(9, (.ref 1 0))] [(1, some (bx (encBnd (L.getD k (RBnd.mk 0 0 0 [] [] [] [])))))] (zM <| zM <| zE (oXl el39 k (RBnd.mk 0 0 0 [] [] [] [])) <| zE (oCa sh28) <| zN (oAl 1 ze28 zo28) <| zT (oSt sh28) <| zZ) ?_
    refine pwp_seq <| kx [(30, (vb false))] [] (zM <| zR (oLa sh28) <| zR (oLa sh28) <| zE (oBk true (oCl (p_sameB ((L.getD k (RBnd.mk 0 0 0 [] [] [] [])).width) ((L.getD k (RBnd.mk 0 0 0 [] [] [] [])).height) ((L.getD k (RBnd.mk 0 0 0 [] [] [] [])).max_) ((L.getD k (RBnd.mk 0 0 0 [] [] [] [])).low) ((L.getD k (RBnd.mk 0 0 0 [] [] [] [])).right) ((L.getD k (RBnd.mk 0 0 0 [] [] [] [])).down) ((L.getD k (RBnd.mk 0 0 0 [] [] [] [])).corner) ((L.getD k (RBnd.mk 0 0 0 [] [] [] [])).width) ((L.getD k (RBnd.mk 0 0 0 [] [] [] [])).height) ((L.getD k (RBnd.mk 0 0 0 [] [] [] [])).max_) ((L.getD k (RBnd.mk 0 0 0 [] [] [] [])).low) ((L.getD k (RBnd.mk 0 0 0 [] [] [] [])).right) ((L.getD k (RBnd.mk 0 0 0 [] [] [] [])).down) ((L.getD k (RBnd.mk 0 0 0 [] [] [] [])).corner) hlk.1 hlk.2.1 hlk.2.2.1 hlk.2.2.2)) (by exact (same7_self _ _ _ _ _ _ _))) <| zE oNt <| zZ) ?_
    refine pwp_cond (b := false) (by kernel_rfl) (fun h => by cases h) (fun _ => ?_)
    refine pwp_skip <| kx [(17, (vin (k + 1)))] [] (zE (oAd (k + 1)) <| zM <| zZ) ?_
    exact ⟨(k + 1), wk, (by omega), (by omega)⟩
  · replace h1 := of_decide_eq_false h1
    refine pwp_exit <| pwp_seq <| kx [(6, (vb true))] [] (zM <| zZ) ?_
    refine pwp_ret ⟨_, (.tmp (d := (.val (.bool (true)))) rfl .nil), ?_⟩
    rfl
end Go.Proofs.YtleidgohjckmlaaGreat
namespace Go.Proofs.YtleidgohjckmlaaGreat
open Go.Fid
set_option maxRecDepth 4000
set_option linter.unusedVariables false
set_option linter.unusedSimpArgs false
theorem cb5 : callB Tryz.prog 5 = true := by kernel_rfl
theorem w_bld1 (w h mx : Int) (px : List Int) (n : Int) (hbig : ¬ px.length ≤ 300) : Takes Tryz.prog 5 [(encRst (RRst.mk w h mx px)), (.val (.int .i64 (n)))] (.val (.bool (true))) := by
  refine fn_intro Tryz.func5 rfl cb5 rfl ?_
  show PWp _ _ _ _ ⟨[(0, (.d (encRst (RRst.mk w h mx px)))), (1, (vi n))], []⟩
  refine pwp_seq <| kx [(2, (.ref 0 0))] [(0, some (bx (encRst (RRst.mk w h mx px))))] (zN (oBx 0) <| zM <| zZ) ?_
  refine pwp_seq <| pwp_seq <| kx [(10, (vb false))] [] (zE (oCl p_known) <| zE oNt <| zZ) ?_
  refine pwp_cond (b := false) (by kernel_rfl) (fun h => by cases h) (fun _ => ?_)
  refine pwp_skip <| pwp_seq <| pwp_seq <| kx [(13, (vb true))] [] (zR (oLa sh24) <| zE (oBk false (oCl (p_few w h mx px)) (by exact decide_eq_false (by omega))) <| zE oNt <| zZ) ?_
  refine pwp_cond (b := true) (by kernel_rfl) (fun _ => ?_) (fun h => by cases h)
  refine pwp_seq <| kx [(4, (vb true))] [] (zM <| zZ) ?_
  refine pwp_ret ⟨_, (.tmp (d := (.val (.bool (true)))) rfl .nil), ?_⟩
  rfl
theorem w_bld2 (w h mx : Int) (px : List Int) (n : Int) (hsm : px.length ≤ 300) (hc : chkC w h mx px ≠ 0) : Takes Tryz.prog 5 [(encRst (RRst.mk w h mx px)), (.val (.int .i64 (n)))] (.val (.bool (true))) := by
  refine fn_intro Tryz.func5 rfl cb5 rfl ?_
  show PWp _ _ _ _ ⟨[(0, (.d (encRst (RRst.mk w h mx px)))), (1, (vi n))], []⟩
  refine pwp_seq <| kx [(2, (.ref 0 0))] [(0, some (bx (encRst (RRst.mk w h mx px))))] (zN (oBx 0) <| zM <| zZ) ?_
  refine pwp_seq <| pwp_seq <| kx [(10, (vb false))] [] (zE (oCl p_known) <| zE oNt <| zZ) ?_
  refine pwp_cond (b := false) (by kernel_rfl) (fun h => by cases h) (fun _ => ?_)
  refine pwp_skip <| pwp_seq <| pwp_seq <| kx [(13, (vb false))] [] (zR (oLa sh24) <| zE (oBk true (oCl (p_few w h mx px)) (by exact decide_eq_true (by omega))) <| zE oNt <| zZ) ?_
  refine pwp_cond (b := false) (by kernel_rfl) (fun h => by cases h) (fun _ => ?_)
  refine pwp_skip <| pwp_seq <| kx [(5, (vl 28 7 encBnd [])), (6, (vi 1))] [] (zR (oLa sh24) <| zM <| zE (oCl (p_bldE w h mx px n (by omega) hc)) <| zM <| zE oEx <| zE oEx <| zM <| zM <| zZ) ?_
  refine pwp_seq <| kx [(7, (vl 28 7 encBnd [])), (8, (vi 1))] [] (zR (oLa sh24) <| zM <| zE (oCl (p_bltE w h mx px n (by omega) hc)) <| zM <| zE oEx <| zE oEx <| zM <| zM <| zZ) ?_
  refine pwp_seq <| kx [(4, (vb true))] [] (zM <| zM <| zE oEq <| zM <| zM <| zM <| zE (oCl (p_eqB [] [] (fun b hb => absurd hb List.not_mem_nil) (Nat.zero_le _))) <| zE oPt <| zM <| zZ) ?_
  refine pwp_ret ⟨_, (.tmp (d := (.val (.bool (true)))) rfl .nil), ?_⟩
  rfl
theorem w_bld3 (w h : Nat) (mx : Int) (px : List Int) (n : Int) (hsm : px.length ≤ 300) (hc : chkC ((w : Nat) : Int) ((h : Nat) : Int) mx px = 0) (hn : n < 1 ∨ 6 < n) : Takes Tryz.prog 5 [(encRst (RRst.mk ((w : Nat) : Int) ((h : Nat) : Int) mx px)), (.val (.int .i64 (n)))] (.val (.bool (true))) := by
  refine fn_intro Tryz.func5 rfl cb5 rfl ?_
  show PWp _ _ _ _ ⟨[(0, (.d (encRst (RRst.mk ((w : Nat) : Int) ((h : Nat) : Int) mx px)))), (1, (vi n))], []⟩
  refine pwp_seq <| kx [(2, (.ref 0 0))] [(0, some (bx (encRst (RRst.mk ((w : Nat) : Int) ((h : Nat) : Int) mx px))))] (zN (oBx 0) <| zM <| zZ) ?_
  refine pwp_seq <| pwp_seq <| kx [(10, (vb false))] [] (zE (oCl p_known) <| zE oNt <| zZ) ?_
  refine pwp_cond (b := false) (by kernel_rfl) (fun h => by cases h) (fun _ => ?_)
  refine pwp_skip <| pwp_seq <| pwp_seq <| kx [(13, (vb false))] [] (zR (oLa sh24) <| zE (oBk true (oCl (p_few ((w : Nat) : Int) ((h : Nat) : Int) mx px)) (by exact decide_eq_true (by omega))) <| zE oNt <| zZ) ?_
  refine pwp_cond (b := false) (by kernel_rfl) (fun h => by cases h) (fun _ => ?_)
  refine pwp_skip <| pwp_seq <| kx [(5, (vl 28 7 encBnd [])), (6, (vi 2))] [] (zR (oLa sh24) <| zM <| zE (oCl (p_bldR w h mx px n (by omega) hc hn)) <| zM <| zE oEx <| zE oEx <| zM <| zM <| zZ) ?_
  refine pwp_seq <| kx [(7, (vl 28 7 encBnd [])), (8, (vi 2))] [] (zR (oLa sh24) <| zM <| zE (oCl (p_bltR w h mx px n (by omega) hc hn)) <| zM <| zE oEx <| zE oEx <| zM <| zM <| zZ) ?_
  refine pwp_seq <| kx [(4, (vb true))] [] (zM <| zM <| zE oEq <| zM <| zM <| zM <| zE (oCl (p_eqB [] [] (fun b hb => absurd hb List.not_mem_nil) (Nat.zero_le _))) <| zE oPt <| zM <| zZ) ?_
  refine pwp_ret ⟨_, (.tmp (d := (.val (.bool (true)))) rfl .nil), ?_⟩
  rfl
theorem w_bld4 (w h : Nat) (mx : Int) (px : List Int) (n : Nat) (hsm : px.length ≤ 300) (hv : RstOk w h px) (hc : chkC ((w : Nat) : Int) ((h : Nat) : Int) mx px = 0) (hn1 : 1 ≤ n) (hn2 : n ≤ 6) : Takes Tryz.prog 5 [(encRst (RRst.mk ((w : Nat) : Int) ((h : Nat) : Int) mx px)), (.val (.int .i64 (((n : Nat) : Int))))] (.val (.bool (true))) := by
  refine fn_intro Tryz.func5 rfl cb5 rfl ?_
  show PWp _ _ _ _ ⟨[(0, (.d (encRst (RRst.mk ((w : Nat) : Int) ((h : Nat) : Int) mx px)))), (1, (vin n))], []⟩
  refine pwp_seq <| kx [(2, (.ref 0 0))] [(0, some (bx (encRst (RRst.mk ((w : Nat) : Int) ((h : Nat) : Int) mx px))))] (zN (oBx 0) <| zM <| zZ) ?_
  refine pwp_seq <| pwp_seq <| kx [(10, (vb false))] [] (zE (oCl p_known) <| zE oNt <| zZ) ?_
  refine pwp_cond (b := false) (by kernel_rfl) (fun h => by cases h) (fun _ => ?_)
  refine pwp_skip <| pwp_seq <| pwp_seq <| kx [(13, (vb false))] [] (zR (oLa sh24) <| zE (oBk true (oCl (p_few ((w : Nat) : Int) ((h : Nat) : Int) mx px)) (by exact decide_eq_true (by omega))) <| zE oNt <| zZ) ?_
  refine pwp_cond (b := false) (by kernel_rfl) (fun h => by cases h) (fun _ => ?_)
  refine pwp_skip <| pwp_seq <| kx [(5, (vl 28 7 encBnd (levR w h mx px n))), (6, (vi 0))] [] (zR (oLa sh24) <| zM <| zE (oCl (p_bld w h mx px n hv (by omega) hc hn1 hn2)) <| zM <| zE oEx <| zE oEx <| zM <| zM <| zZ) ?_
  refine pwp_seq <| kx [(7, (vl 28 7 encBnd (levR w h mx px n))), (8, (vi 0))] [] (zR (oLa sh24) <| zM <| zE (oCl (p_blt w h mx px n hv (by omega) hc hn1 hn2)) <| zM <| zE oEx <| zE oEx <| zM <| zM <| zZ) ?_
  refine pwp_seq <| kx [(4, (vb true))] [] (zM <| zM <| zE oEq <| zM <| zM <| zM <| zE (oCl (p_eqB (levR w h mx px n) (levR w h mx px n) (lev_len hv) (by rw [levR_len]; omega))) <| zE oPt <| zM <| zZ) ?_
  refine pwp_ret ⟨_, (.tmp (d := (.val (.bool (true)))) rfl .nil), ?_⟩
  rfl
end Go.Proofs.YtleidgohjckmlaaGreat
