/- Part 28 of a proof: rules, plain facts, and functions walked. -/
import Derived.Test.YtleidgohjckmlaaGreatM21
import Derived.Test.YtleidgohjckmlaaGreatM17
import Derived.Test.YtleidgohjckmlaaGreatM27
set_option linter.unusedVariables false
set_option linter.unusedSimpArgs false
namespace Go.Proofs.YtleidgohjckmlaaGreat
open Go.Fid
theorem kn_r : RstOk 3 2 [5, 2, 9, 4, 4, 0] := ⟨by decide, by decide, by decide, by decide, rfl, fun x hx => by simp at hx; omega⟩
theorem kn_s : RstOk 3 1 [0, 0, 16] := ⟨by decide, by decide, by decide, by decide, rfl, fun x hx => by simp at hx; omega⟩
def itW (w : Nat) : Nat → Nat
  | 0 => w
  | k + 1 => (itW w k + 1) / 2
def itP (w h : Nat) (px : List Int) : Nat → List Int
  | 0 => px
  | k + 1 => bLow (itW w k) (itW h k) (itP w h px k)
theorem it_ok {w h : Nat} {px : List Int} (hv : RstOk w h px) : ∀ k, RstOk (itW w k) (itW h k) (itP w h px k)
  | 0 => hv
  | k + 1 => low_ok (it_ok hv k)
theorem it_in {w h : Nat} {px : List Int} {m : Int} (hv : RstOk w h px) (hp : ∀ x ∈ px, 0 ≤ x ∧ x ≤ m) : ∀ k, ∀ x ∈ itP w h px k, 0 ≤ x ∧ x ≤ m
  | 0 => hp
  | k + 1 => in_low (it_ok hv k).2.2.2.2.1 (it_in hv hp k)
def levB (w h : Nat) (m : Int) (px : List Int) (k : Nat) : RBnd := RBnd.mk ((itW w k : Nat) : Int) ((itW h k : Nat) : Int) m (bLow (itW w k) (itW h k) (itP w h px k)) (bRight (itW w k) (itW h k) (itP w h px k)) (bDown (itW w k) (itW h k) (itP w h px k)) (bCorner (itW w k) (itW h k) (itP w h px k))
def levR (w h : Nat) (m : Int) (px : List Int) (n : Nat) : List RBnd := (List.range n).map (levB w h m px)
theorem levR_len (w h : Nat) (m : Int) (px : List Int) (n : Nat) : (levR w h m px n).length = n := by simp [levR]
theorem levR_step {w h : Nat} {m : Int} {px : List Int} {k : Nat} {out : List RBnd} (ho : out = levR w h m px k) : out ++ [levB w h m px k] = levR w h m px (k + 1) := by
  rw [ho, levR, levR, List.range_succ, List.map_append]; rfl
theorem levR_get {w h : Nat} {m : Int} {px : List Int} {n k : Nat} (hk : k < n) (d : RBnd) : (levR w h m px n).getD k d = levB w h m px k := by
  simp [levR, List.getD_eq_getElem?_getD, hk]
def bndLen (b : RBnd) : Prop := b.low.length ≤ 1000000 ∧ b.right.length ≤ 1000000 ∧ b.down.length ≤ 1000000 ∧ b.corner.length ≤ 1000000
theorem bnd_len {w h : Nat} {m : Int} {l r d c : List Int} (hv : BndOk w h l r d c) : bndLen (RBnd.mk ((w : Nat) : Int) ((h : Nat) : Int) m l r d c) := by
  obtain ⟨w1, w2, h1, h2, v1, v2, v3, v4, _⟩ := hv
  have q : ∀ a b : Nat, a ≤ 64 → b ≤ 64 → a * b ≤ 1000000 := fun a b ha hb => Nat.le_trans (Nat.mul_le_mul ha hb) (by decide)
  refine ⟨?_, ?_, ?_, ?_⟩
  · show l.length ≤ 1000000; rw [v1]; exact q _ _ (by omega) (by omega)
  · show r.length ≤ 1000000; rw [v2]; exact q _ _ (by omega) (by omega)
  · show d.length ≤ 1000000; rw [v3]; exact q _ _ (by omega) (by omega)
  · show c.length ≤ 1000000; rw [v4]; exact q _ _ (by omega) (by omega)
theorem lev_len {w h : Nat} {m : Int} {px : List Int} {n : Nat} (hv : RstOk w h px) : ∀ b ∈ levR w h m px n, bndLen b := fun b hb => by
  obtain ⟨k, _, rfl⟩ := List.mem_map.1 hb
  exact bnd_len (bands_ok (it_ok hv k))
theorem lb_get {L : List RBnd} (h : ∀ b ∈ L, bndLen b) (k : Nat) : bndLen (L.getD k (RBnd.mk 0 0 0 [] [] [] [])) := by
  by_cases hk : k < L.length
  · rw [List.getD_eq_getElem?_getD, List.getElem?_eq_getElem hk]; exact h _ (List.getElem_mem hk)
  · rw [List.getD_eq_getElem?_getD, List.getElem?_eq_none (by omega)]; exact ⟨Nat.zero_le _, Nat.zero_le _, Nat.zero_le _, Nat.zero_le _⟩
theorem lev_px {w h : Nat} {m : Int} {px : List Int} (hv : RstOk w h px) (hp : ∀ x ∈ px, 0 ≤ x ∧ x ≤ m) (k : Nat) : (pxJ (itW w k) (itW h k) (bLow (itW w k) (itW h k) (itP w h px k)) (bRight (itW w k) (itW h k) (itP w h px k)) (bDown (itW w k) (itW h k) (itP w h px k)) (bCorner (itW w k) (itW h k) (itP w h px k))).any (badPx m) = false := by
  rw [pxJ_bands (it_ok hv k)]; exact px_ok.2 (it_in hv hp k)
theorem it_back {w h j : Nat} {px : List Int} (hj : 0 < j) : itP w h px j = bLow (itW w (j - 1)) (itW h (j - 1)) (itP w h px (j - 1)) := by
  obtain ⟨i, rfl⟩ : ∃ i, j = i + 1 := ⟨j - 1, by omega⟩
  rfl
theorem itW_back {w j : Nat} (hj : 0 < j) : itW w j = (itW w (j - 1) + 1) / 2 := by
  obtain ⟨i, rfl⟩ : ∃ i, j = i + 1 := ⟨j - 1, by omega⟩
  rfl
end Go.Proofs.YtleidgohjckmlaaGreat
namespace Go.Proofs.YtleidgohjckmlaaGreat
open Go.Fid
set_option maxRecDepth 4000
set_option linter.unusedVariables false
set_option linter.unusedSimpArgs false
theorem cb7 : callB Tryz.prog 7 = true := by kernel_rfl
theorem p_known  : Takes Tryz.prog 7 [] (.val (.bool (true))) := by
  have hkr := kn_r
  have hks := kn_s
  let y1 := [((5 : Nat) : Int), ((2 : Nat) : Int), ((9 : Nat) : Int), ((4 : Nat) : Int), ((4 : Nat) : Int), ((0 : Nat) : Int)]
  refine fn_intro Tryz.func7 rfl cb7 rfl ?_
  show PWp _ _ _ _ ⟨[], []⟩
  refine pwp_seq <| kx [] [] (zM <| zZ) ?_
  refine pwp_seq <| kx [(1, (.ref 0 0))] [(0, some (bx (encRst (RRst.mk ((3 : Nat) : Int) ((2 : Nat) : Int) ((9 : Nat) : Int) y1))))] (zE (oBs el22 ze3 zo3) <| zE (oBd pl24 ze24 zo24) <| zN (oAl 0 ze24 zo24) <| zT (oSt sh24) <| zZ) ?_
  refine pwp_seq <| kx [(2, (.ref 1 0)), (3, (vi 0))] [(1, some (bx (encBnd (RBnd.mk ((3 : Nat) : Int) ((2 : Nat) : Int) ((9 : Nat) : Int) (bLow 3 2 y1) (bRight 3 2 y1) (bDown 3 2 y1) (bCorner 3 2 y1)))))] (zR (oLa sh24) <| zE (oCl (p_splO 3 2 ((9 : Nat) : Int) y1 kn_r (by decide +kernel) (by decide +kernel))) <| zM <| zE oEx <| zE oEx <| zN (oAl 1 ze28 zo28) <| zT (oSt sh28) <| zM <| zZ) ?_
  refine pwp_seq <| kx [(4, (.ref 2 0)), (5, (vi 0))] [(2, some (bx (encRst (RRst.mk ((3 : Nat) : Int) ((2 : Nat) : Int) ((9 : Nat) : Int) (pxJ 3 2 (bLow 3 2 y1) (bRight 3 2 y1) (bDown 3 2 y1) (bCorner 3 2 y1))))))] (zR (oLa sh28) <| zE (oCl (p_joV 3 2 ((9 : Nat) : Int) (bLow 3 2 y1) (bRight 3 2 y1) (bDown 3 2 y1) (bCorner 3 2 y1) (by decide +kernel) (by decide +kernel) (by decide +kernel) (by decide +kernel) (by decide +kernel) (bands_ok kn_r) (by decide +kernel))) <| zM <| zE oEx <| zE oEx <| zN (oAl 2 ze24 zo24) <| zT (oSt sh24) <| zM <| zZ) ?_
  refine pwp_seq <| kx [(6, (.ref 3 0)), (7, (vi 0))] [(3, some (bx (encRst (RRst.mk ((3 : Nat) : Int) ((1 : Nat) : Int) ((16 : Nat) : Int) (smV 3 1 [((0 : Nat) : Int), ((0 : Nat) : Int), ((16 : Nat) : Int)])))))] (zE (oBs el22 ze3 zo3) <| zE (oBd pl24 ze24 zo24) <| zE (oCl (p_smo 3 1 ((16 : Nat) : Int) [((0 : Nat) : Int), ((0 : Nat) : Int), ((16 : Nat) : Int)] kn_s (by decide +kernel) (by decide +kernel))) <| zM <| zE oEx <| zE oEx <| zN (oAl 3 ze24 zo24) <| zT (oSt sh24) <| zM <| zZ) ?_
  refine pwp_seq <| kx [(8, (.ref 4 0)), (9, (vi 0))] [(4, some (bx (encR (ofQ (Rat.divInt (pySum y1) ((y1.length : Nat) : Int))))))] (zR (oLa sh24) <| zE (oCl (p_mean 3 2 ((9 : Nat) : Int) y1 kn_r (by decide +kernel) (by decide +kernel))) <| zM <| zE oEx <| zE oEx <| zN (oAl 4 ze51 zo51) <| zT (oSt sh51) <| zM <| zZ) ?_
  refine pwp_seq <| kd [(0, (vb true))] [] mo (wM <| wM <| wE (oAd 0 (hr := by decide)) <| wM <| wE (oAd 0 (hr := by decide)) <| wM <| wE (oAd 0 (hr := by decide)) <| wE (oBk true oEq) <| wM <| wE (oFr fo28_3) <| wR (oL1 sh22) <| wE (oBs el22 ze3 zo3) <| wE (oBk true (oCl (p_eq (bLow 3 2 y1) [((3 : Nat) : Int), ((4 : Nat) : Int)] (by decide +kernel))) (by exact beq_iff_eq.2 (by decide +kernel))) <| wE oPt <| wM <| wE (oFr fo28_4) <| wR (oL1 sh22) <| wE (oBs el22 ze3 zo3) <| wE (oBk true (oCl (p_eq (bRight 3 2 y1) [((1 : Nat) : Int)] (by decide +kernel))) (by exact beq_iff_eq.2 (by decide +kernel))) <| wE oPt <| wM <| wE (oFr fo28_5) <| wR (oL1 sh22) <| wE (oBs el22 ze3 zo3) <| wE (oBk true (oCl (p_eq (bDown 3 2 y1) [-1, ((9 : Nat) : Int)] (by decide +kernel))) (by exact beq_iff_eq.2 (by decide +kernel))) <| wE oPt <| wM <| wE (oFr fo28_6) <| wR (oL1 sh22) <| wE (oBs el22 ze3 zo3) <| wE (oBk true (oCl (p_eq (bCorner 3 2 y1) [((3 : Nat) : Int)] (by decide +kernel))) (by exact beq_iff_eq.2 (by decide +kernel))) <| wE oPt <| wM <| wR (oLa sh24) <| wR (oLa sh24) <| wE (oBk true (oCl (p_same ((3 : Nat) : Int) ((2 : Nat) : Int) ((9 : Nat) : Int) (pxJ 3 2 (bLow 3 2 y1) (bRight 3 2 y1) (bDown 3 2 y1) (bCorner 3 2 y1)) ((3 : Nat) : Int) ((2 : Nat) : Int) ((9 : Nat) : Int) y1 (by decide +kernel))) (by exact (by decide +kernel))) <| wE oPt <| wM <| wE (oFr fo24_3) <| wR (oL1 sh22) <| wE (oBs el22 ze3 zo3) <| wE (oBk true (oCl (p_eq (smV 3 1 [((0 : Nat) : Int), ((0 : Nat) : Int), ((16 : Nat) : Int)]) [((0 : Nat) : Int), ((4 : Nat) : Int), ((12 : Nat) : Int)] (by decide +kernel))) (by exact beq_iff_eq.2 (by decide +kernel))) <| wE oPt <| wM <| wR (oLa sh51) <| wE (oCl (p_rint ((4 : Nat) : Int) (by omega) (by omega))) <| wE (oBk true (oCl (p_samR (Rat.divInt (pySum y1) ((y1.length : Nat) : Int)) (ql_up (mean_ql (by assumption)) (by decide)) ((4 : Int) : Rat) (ql_up (ql_int (z := 4) (n := 3) (lenZ_int (by omega) (by omega)) (by decide)) (by decide)))) (by exact decide_eq_true (by decide +kernel))) <| wE oPt <| wM <| wZ) ?_
  refine pwp_ret ⟨_, (.tmp (d := (.val (.bool (true)))) rfl .nil), ?_⟩
  rfl
end Go.Proofs.YtleidgohjckmlaaGreat
namespace Go.Proofs.YtleidgohjckmlaaGreat
open Go.Fid
set_option maxRecDepth 4000
set_option linter.unusedVariables false
set_option linter.unusedSimpArgs false
theorem by28 : bytesB Tryz.prog 28 = some 120 := by kernel_rfl
theorem cb17 : callB Tryz.prog 17 = true := by kernel_rfl
theorem cb37 : callB Tryz.prog 37 = true := by kernel_rfl
theorem el39 : elemB Tryz.prog 39 = some (28, 7) := by kernel_rfl
theorem p_clone (l : List Int) (hb : l.length ≤ 1000000) : Takes Tryz.prog 37 [(.sl 3 1 (List.map enc_i64 l))] (.sl 3 1 (List.map enc_i64 l)) := by
  refine fn_intro Tryz.func37 rfl cb37 rfl ?_
  show PWp _ _ _ _ ⟨[(0, (vl 3 1 enc_i64 l))], []⟩
  refine pwp_seq <| kx [] [] (zE (oNl 3 1) <| zZ) ?_
  refine pwp_seq <| pwp_seq <| pwp_nilq rfl rfl rfl rfl rfl rfl el22 rfl rfl rfl (fun nb hnb => ?_)
  refine pwp_cond (b := nb) rfl (fun h1 => ?_) (fun h1 => ?_)
  · refine pwp_seq <| kx [(2, (vl 3 1 enc_i64 []))] [] (zE (oNl 3 1) <| zZ) ?_
    refine pwp_ret ⟨_, (.tmp (d := (.sl 3 1 (List.map enc_i64 []))) rfl .nil), ?_⟩
    rw [List.map_eq_nil_iff.1 (hnb h1)]; rfl
  · refine pwp_skip <| pwp_seq <| kf [(2, (.own 0 3 1 (([] ++ l).length)))] [(0, some (bm enc_i64 ([] ++ l)))] (zN (oBo 0 el22 ze3 zo3) <| zM <| zA enc_i64 [] l rfl el22 ze3 by3 <| zM <| zF) ?_
    refine pwp_sim (publish (t := 2) (k := 0) (es := List.map enc_i64 ([] ++ l)) rfl rfl (pub_cells _ _ (fun _ => rfl)) (map_len _ _ rfl) (pub_take _ _ (fun _ => rfl) rfl)) ?_
    refine pwp_ret ⟨_, (.tmp (d := (.sl 3 1 (List.map enc_i64 ([] ++ l)))) rfl .nil), ?_⟩
    rfl
theorem p_bld (w h : Nat) (mx : Int) (px : List Int) (n : Nat) (hv : RstOk w h px) (hb : px.length ≤ 1000000) (hc : chkC ((w : Nat) : Int) ((h : Nat) : Int) mx px = 0) (hn1 : 1 ≤ n) (hn2 : n ≤ 6) : Takes Tryz.prog 17 [(encRst (RRst.mk ((w : Nat) : Int) ((h : Nat) : Int) mx px)), (.val (.int .i64 (((n : Nat) : Int))))] (.tup [(.sl 28 7 (List.map encBnd (levR w h mx px n))), (.val (.int .i64 (0)))]) := by
  refine fn_intro Tryz.func17 rfl cb17 rfl ?_
  show PWp _ _ _ _ ⟨[(0, (.d (encRst (RRst.mk ((w : Nat) : Int) ((h : Nat) : Int) mx px)))), (1, (vin n))], []⟩
  refine pwp_seq <| kx [(2, (.ref 0 0))] [(0, some (bx (encRst (RRst.mk ((w : Nat) : Int) ((h : Nat) : Int) mx px))))] (zN (oBx 0) <| zE (oNl 28 7) <| zM <| zZ) ?_
  refine pwp_seq <| pwp_seq <| kx [(6, (vi (chkC ((w : Nat) : Int) ((h : Nat) : Int) mx px)))] [] (zR (oLa sh24) <| zE (oCl (p_chk ((w : Nat) : Int) ((h : Nat) : Int) mx px hb)) <| zM <| zZ) ?_
  refine pwp_seq <| kx [(13, (vb false))] [] (zM <| zE (oBk false oNe (by exact bne_eq_false_iff_eq.2 hc)) <| zZ) ?_
  refine pwp_cond (b := false) (by kernel_rfl) (fun h => by cases h) (fun _ => ?_)
  refine pwp_skip <| pwp_seq <| pwp_seq <| kx [(20, (vb false))] [] (zM <| zE (oBk false oLt (by exact decide_eq_false (by omega))) <| zM <| zM <| zE (oBk false oGt (by exact decide_eq_false (by omega))) <| zE oPf <| zZ) ?_
  refine pwp_cond (b := false) (by kernel_rfl) (fun h => by cases h) (fun _ => ?_)
  refine pwp_skip <| pwp_seq <| kx [(7, (.own 1 28 7 0))] [(1, some (bxs encBnd []))] (zO 1 28 7 <| zZ) ?_
  refine pwp_seq <| pwp_seq <| kx [(21, (vin n)), (22, (vin 0))] [] (zM <| zM <| zZ) ?_
  refine pwp_block <| pwp_loop (α := Nat × List RBnd) (fun (k, out) => ⟨[(2, (.ref 0 0)), (7, (.own 1 28 7 out.length)), (21, (vin n)), (22, (vin k))], [(0, some (bx (encRst (RRst.mk ((itW w k : Nat) : Int) ((itW h k : Nat) : Int) mx (itP w h px k))))), (1, some (bxs encBnd out))]⟩) (fun (k, out) => k ≤ n ∧ out = levR w h mx px k) (fun (k, out) => n - k) (0, []) wk ⟨Nat.zero_le _, rfl⟩ ?_
  rintro ⟨k, out⟩ ⟨hk, ho⟩
  have hok := it_ok hv k
  have hok2 := hok
  obtain ⟨q1, q2, q3, q4, _, _⟩ := hok2
  have hol : out.length ≤ 6 := by rw [ho, levR_len]; omega
  refine pwp_seq <| kx [(23, (vb (decide (((k : Nat) : Int) < ((n : Nat) : Int)))))] [] (zE oLt <| zZ) ?_
  refine pwp_seq <| pwp_cond rfl (fun h1 => ?_) (fun h1 => ?_)
  · replace h1 := of_decide_eq_true h1
    refine pwp_skip <| pwp_seq <| pwp_block <| pwp_seq <| kx [(8, (.ref 2 0))] [(2, some (bx (encBnd (RBnd.mk (((itW w k) : Nat) : Int) (((itW h k) : Nat) : Int) mx (bLow (itW w k) (itW h k) (itP w h px k)) (bRight (itW w k) (itW h k) (itP w h px k)) (bDown (itW w k) (itW h k) (itP w h px k)) (bCorner (itW w k) (itW h k) (itP w h px k))))))] (zR (oLa sh24) <| zE (oCl (p_bands (itW w k) (itW h k) mx (itP w h px k) hok)) <| zH (oAl 2 ze28 zo28) <| zT (oSt sh28) <| zZ) ?_
    refine pwp_seq <| kf [(7, (.own 1 28 7 ((out ++ [(RBnd.mk (((itW w k) : Nat) : Int) (((itW h k) : Nat) : Int) mx (bLow (itW w k) (itW h k) (itP w h px k)) (bRight (itW w k) (itW h k) (itP w h px k)) (bDown (itW w k) (itW h k) (itP w h px k)) (bCorner (itW w k) (itW h k) (itP w h px k)))]).length)))] [(1, some (bxs encBnd (out ++ [(RBnd.mk (((itW w k) : Nat) : Int) (((itW h k) : Nat) : Int) mx (bLow (itW w k) (itW h k) (itP w h px k)) (bRight (itW w k) (itW h k) (itP w h px k)) (bDown (itW w k) (itW h k) (itP w h px k)) (bCorner (itW w k) (itW h k) (itP w h px k)))])))] (zM <| zR (oLa sh28) <| zE (oBs el39 ze28 zo28) <| zAS encBnd out [(RBnd.mk (((itW w k) : Nat) : Int) (((itW h k) : Nat) : Int) mx (bLow (itW w k) (itW h k) (itP w h px k)) (bRight (itW w k) (itW h k) (itP w h px k)) (bDown (itW w k) (itW h k) (itP w h px k)) (bCorner (itW w k) (itW h k) (itP w h px k)))] rfl el39 ze28 by28 <| zM <| zF) ?_
    refine kx [] [(0, some (bx (encRst (RRst.mk (((((itW w k) + 1) / 2) : Nat) : Int) (((((itW h k) + 1) / 2) : Nat) : Int) mx (bLow (itW w k) (itW h k) (itP w h px k))))))] (zE (oFr fo24_0) <| zR (oL1 sh3) <| zE (oAd ((itW w k) + 1)) <| zE (oQu (((itW w k) + 1) / 2)) <| zE (oFr fo24_1) <| zR (oL1 sh3) <| zE (oAd ((itW h k) + 1)) <| zE (oQu (((itW h k) + 1) / 2)) <| zE (oFr fo24_2) <| zR (oL1 sh3) <| zE (oFr fo28_3) <| zR (oL1 sh22) <| zE (oBd pl24 ze24 zo24) <| zT (oSt sh24) <| zZ) ?_
    refine kx [(22, (vin (k + 1)))] [] (zE (oAd (k + 1)) <| zM <| zZ) ?_
    exact ⟨(k + 1, out ++ [levB w h mx px k]), wk, ⟨by omega, levR_step ho⟩, (by first | omega | (dsimp only; omega))⟩
  · replace h1 := of_decide_eq_false h1
    refine pwp_exit <| pwp_seq <| pwp_seq <| kx [(45, (vin out.length)), (46, (vin 0))] [] (zM <| zE (oLo el39) <| zM <| zZ) ?_
    refine pwp_block <| pwp_loop (α := Nat) (fun j => ⟨[(7, (.own 1 28 7 out.length)), (45, (vin out.length)), (46, (vin j))], [(1, some (bxs encBnd out))]⟩) (fun j => j ≤ out.length) (fun j => out.length - j) 0 wk (Nat.zero_le _) ?_
    rintro j hj
    refine pwp_seq <| kx [(47, (vb (decide (((j : Nat) : Int) < ((out.length : Nat) : Int)))))] [] (zE oLt <| zZ) ?_
    refine pwp_seq <| pwp_cond rfl (fun h2 => ?_) (fun h2 => ?_)
    · replace h2 := of_decide_eq_true h2
      refine pwp_skip <| pwp_seq <| pwp_block <| pwp_seq <| kx [(9, (vin j))] [] (zM <| zM <| zZ) ?_
      refine kx [] [(1, some (bxs encBnd out))] (zM <| zM <| zM <| zM <| zE (oXO el39 j) <| zE (oFr fo28_3) <| zR (oLs (s := 7) (i := 3) sh22 j (RBnd.mk 0 0 0 [] [] [] [])) <| zE (oCl (p_clone ((out.getD j (RBnd.mk 0 0 0 [] [] [] [])).low) ((lb_get (by rw [ho]; exact lev_len hv) j).1))) <| zE (oXO el39 j) <| zE (oFr fo28_3) <| zT (oSs (s := 7) (i := 3) sh22 j (RBnd.mk 0 0 0 [] [] [] [])) <| zZ) ?_
      refine kx [(46, (vin (j + 1)))] [] (zE (oAd (j + 1)) <| zM <| zZ) ?_
      exact ⟨(j + 1), wk, (by omega), (by omega)⟩
    · replace h2 := of_decide_eq_false h2
      refine pwp_exit <| pwp_seq <| pwp_sim (publish (t := 7) (k := 1) (es := List.map encBnd out) rfl rfl (pubs_cells _ _ (fun _ => rfl)) (map_len _ _ rfl) (pubs_take encBnd out (fun _ => rfl) rfl)) ?_
      refine kx [(4, (vl 28 7 encBnd out)), (5, (vin 0))] [] (zM <| zM <| zM <| zZ) ?_
      refine pwp_ret ⟨_, (.tmp (d := (.sl 28 7 (List.map encBnd out))) rfl (.tmp (d := (.val (.int .i64 (0)))) rfl .nil)), ?_⟩
      rw [ho, show k = n by omega]; rfl
end Go.Proofs.YtleidgohjckmlaaGreat
namespace Go.Proofs.YtleidgohjckmlaaGreat
open Go.Fid
set_option maxRecDepth 4000
set_option linter.unusedVariables false
set_option linter.unusedSimpArgs false
theorem cb20 : callB Tryz.prog 20 = true := by kernel_rfl
theorem cb39 : callB Tryz.prog 39 = true := by kernel_rfl
theorem cb40 : callB Tryz.prog 40 = true := by kernel_rfl
theorem cb56 : callB Tryz.prog 56 = true := by kernel_rfl
theorem p_rs1 (w h : Nat) (m : Int) (l r d c : List Int) (hnl : l.length ≤ 1000000) (hnr : r.length ≤ 1000000) (hnd : d.length ≤ 1000000) (hnc : c.length ≤ 1000000) (hf : vBnd ((w : Nat) : Int) ((h : Nat) : Int) m l r d c = true) : Takes Tryz.prog 40 [(encBnd (RBnd.mk ((w : Nat) : Int) ((h : Nat) : Int) m l r d c))] (.val (.bool (false))) := by
  refine fn_intro Tryz.func40 rfl cb40 rfl ?_
  show PWp _ _ _ _ ⟨[(0, (.d (encBnd (RBnd.mk ((w : Nat) : Int) ((h : Nat) : Int) m l r d c))))], []⟩
  refine pwp_seq <| kx [(1, (.ref 0 0))] [(0, some (bx (encBnd (RBnd.mk ((w : Nat) : Int) ((h : Nat) : Int) m l r d c))))] (zN (oBx 0) <| zM <| zZ) ?_
  refine pwp_seq <| kx [(2, (vb false))] [] (zR (oLa sh28) <| zE (oBk true (oCl (p_valid ((w : Nat) : Int) ((h : Nat) : Int) m l r d c hnl hnr hnd hnc)) (by exact hf)) <| zE oNt <| zM <| zZ) ?_
  refine pwp_ret ⟨_, (.tmp (d := (.val (.bool (false)))) rfl .nil), ?_⟩
  rfl
theorem p_rsI (w h : Nat) (mx : Int) (px : List Int) (n : Nat) (hv : RstOk w h px) (m1 : 1 ≤ mx) (m2 : mx ≤ 65535) (hn : n ≤ 6) : Takes Tryz.prog 56 [(.sl 28 7 (List.map encBnd (levR w h mx px n))), (.val (.func (.func 40) #[] #[]))] (.val (.int .i64 (-1))) := by
  refine fn_intro Tryz.func56 rfl cb56 rfl ?_
  show PWp _ _ _ _ ⟨[(0, (vl 28 7 encBnd (levR w h mx px n))), (1, (.d (.val (.func (.func 40) #[] #[]))))], []⟩
  refine pwp_seq <| kx [] [] (zM <| zZ) ?_
  refine pwp_seq <| pwp_seq <| kx [(7, (vin n)), (8, (vin 0))] [] (zM <| zE (oLn el39 n (hr := by exact (by rw [List.length_map, levR_len]))) <| zM <| zZ) ?_
  refine pwp_block <| pwp_loop (α := Nat) (fun k => ⟨[(0, (vl 28 7 encBnd (levR w h mx px n))), (1, (.d (.val (.func (.func 40) #[] #[])))), (7, (vin n)), (8, (vin k))], []⟩) (fun k => k ≤ n) (fun k => n - k) 0 wk (Nat.zero_le _) ?_
  rintro k hk
  refine pwp_seq <| kx [(9, (vb (decide (((k : Nat) : Int) < ((n : Nat) : Int)))))] [] (zE oLt <| zZ) ?_
  refine pwp_seq <| pwp_cond rfl (fun h1 => ?_) (fun h1 => ?_)
  · replace h1 := of_decide_eq_true h1
    refine pwp_skip <| pwp_seq <| pwp_block <| pwp_seq <| kx [(5, (vin k))] [] (zM <| zM <| zZ) ?_
    refine pwp_seq <| kx [(16, (vb false))] [] (zM <| zM <| zM <| zE (oXl el39 k (RBnd.mk 0 0 0 [] [] [] []) (L := (levR w h mx px n)) (hj := by first | omega | (rw [levR_len]; omega)) (h1 := by first | omega | (rw [levR_len]; omega))) <| zE (oQd (encBnd ((levR w h mx px n).getD k (RBnd.mk 0 0 0 [] [] [] []))) (encBnd (RBnd.mk (((itW w k) : Nat) : Int) (((itW h k) : Nat) : Int) mx (bLow (itW w k) (itW h k) (itP w h px k)) (bRight (itW w k) (itW h k) (itP w h px k)) (bDown (itW w k) (itW h k) (itP w h px k)) (bCorner (itW w k) (itW h k) (itP w h px k)))) (oCa sh28) (by exact (congrArg encBnd (levR_get (by omega) _)))) <| zE (oCl (p_rs1 (itW w k) (itW h k) mx (bLow (itW w k) (itW h k) (itP w h px k)) (bRight (itW w k) (itW h k) (itP w h px k)) (bDown (itW w k) (itW h k) (itP w h px k)) (bCorner (itW w k) (itW h k) (itP w h px k)) ((bnd_len (m := 0) (bands_ok (it_ok hv k))).1) ((bnd_len (m := 0) (bands_ok (it_ok hv k))).2.1) ((bnd_len (m := 0) (bands_ok (it_ok hv k))).2.2.1) ((bnd_len (m := 0) (bands_ok (it_ok hv k))).2.2.2) (ok_vb (bands_ok (it_ok hv k)) m1 m2))) <| zZ) ?_
    refine pwp_cond (b := false) (by kernel_rfl) (fun h => by cases h) (fun _ => ?_)
    refine pwp_skip <| kx [(8, (vin (k + 1)))] [] (zE (oAd (k + 1)) <| zM <| zZ) ?_
    exact ⟨(k + 1), wk, (by omega), (by omega)⟩
  · replace h1 := of_decide_eq_false h1
    refine pwp_exit <| pwp_seq <| kx [(4, (vi (-1)))] [] (zM <| zZ) ?_
    refine pwp_ret ⟨_, (.tmp (d := (.val (.int .i64 (-1)))) rfl .nil), ?_⟩
    rfl
theorem p_rsC (w h : Nat) (mx : Int) (px : List Int) (n : Nat) (hv : RstOk w h px) (m1 : 1 ≤ mx) (m2 : mx ≤ 65535) (hn : n ≤ 6) : Takes Tryz.prog 39 [(.sl 28 7 (List.map encBnd (levR w h mx px n))), (.val (.func (.func 40) #[] #[]))] (.val (.bool (false))) := by
  refine fn_intro Tryz.func39 rfl cb39 rfl ?_
  show PWp _ _ _ _ ⟨[(0, (vl 28 7 encBnd (levR w h mx px n))), (1, (.d (.val (.func (.func 40) #[] #[]))))], []⟩
  refine pwp_seq <| kx [] [] (zM <| zZ) ?_
  refine pwp_seq <| kx [(4, (vb false))] [] (zM <| zM <| zE (oCl (p_rsI w h mx px n hv m1 m2 hn)) <| zE (oBk false oGe) <| zM <| zZ) ?_
  refine pwp_ret ⟨_, (.tmp (d := (.val (.bool (false)))) rfl .nil), ?_⟩
  rfl
theorem p_rest (w h : Nat) (mx : Int) (px : List Int) (n : Nat) (hv : RstOk w h px) (m1 : 1 ≤ mx) (m2 : mx ≤ 65535) (hp : ∀ x ∈ px, 0 ≤ x ∧ x ≤ mx) (hn1 : 1 ≤ n) (hn2 : n ≤ 6) : Takes Tryz.prog 20 [(.sl 28 7 (List.map encBnd (levR w h mx px n)))] (.tup [(encRst (RRst.mk ((w : Nat) : Int) ((h : Nat) : Int) mx px)), (.val (.int .i64 (0)))]) := by
  refine fn_intro Tryz.func20 rfl cb20 rfl ?_
  show PWp _ _ _ _ ⟨[(0, (vl 28 7 encBnd (levR w h mx px n)))], []⟩
  refine pwp_seq <| kx [(2, (.ref 0 0))] [(0, some (bx (encRst (RRst.mk 0 0 0 []))))] (zN (oAl 0 ze24 zo24) <| zM <| zZ) ?_
  refine pwp_seq <| kx [(4, (vin n))] [] (zM <| zE (oLn el39 n (hr := by exact (by rw [List.length_map, levR_len]))) <| zM <| zZ) ?_
  refine pwp_seq <| pwp_seq <| kx [(16, (vb false))] [] (zM <| zE (oBk false oLt (by exact decide_eq_false (by omega))) <| zM <| zM <| zE (oBk false oGt (by exact decide_eq_false (by omega))) <| zE oPf <| zZ) ?_
  refine pwp_cond (b := false) (by kernel_rfl) (fun h => by cases h) (fun _ => ?_)
  refine pwp_skip <| pwp_seq <| pwp_seq <| kx [(19, (vb false))] [] (zM <| zE (oCl (p_rsC w h mx px n hv m1 m2 hn2)) <| zZ) ?_
  refine pwp_cond (b := false) (by kernel_rfl) (fun h => by cases h) (fun _ => ?_)
  refine pwp_skip <| pwp_seq <| kx [(5, (.ref 1 0)), (6, (vi 0))] [(1, some (bx (encRst (RRst.mk ((itW w (n - 1) : Nat) : Int) ((itW h (n - 1) : Nat) : Int) mx (itP w h px (n - 1))))))] (zM <| zM <| zE (oSb (n - 1)) <| zE (oXl el39 (n - 1) (RBnd.mk 0 0 0 [] [] [] []) (L := (levR w h mx px n)) (hj := by first | omega | (rw [levR_len]; omega)) (h1 := by first | omega | (rw [levR_len]; omega))) <| zE (oQd (encBnd ((levR w h mx px n).getD (n - 1) (RBnd.mk 0 0 0 [] [] [] []))) (encBnd (RBnd.mk (((itW w (n - 1)) : Nat) : Int) (((itW h (n - 1)) : Nat) : Int) mx (bLow (itW w (n - 1)) (itW h (n - 1)) (itP w h px (n - 1))) (bRight (itW w (n - 1)) (itW h (n - 1)) (itP w h px (n - 1))) (bDown (itW w (n - 1)) (itW h (n - 1)) (itP w h px (n - 1))) (bCorner (itW w (n - 1)) (itW h (n - 1)) (itP w h px (n - 1))))) (oCa sh28) (by exact (congrArg encBnd (levR_get (by omega) _)))) <| zE (oCl (p_joiO (itW w (n - 1)) (itW h (n - 1)) mx (bLow (itW w (n - 1)) (itW h (n - 1)) (itP w h px (n - 1))) (bRight (itW w (n - 1)) (itW h (n - 1)) (itP w h px (n - 1))) (bDown (itW w (n - 1)) (itW h (n - 1)) (itP w h px (n - 1))) (bCorner (itW w (n - 1)) (itW h (n - 1)) (itP w h px (n - 1))) (bands_ok (it_ok hv (n - 1))) (lev_px hv hp (n - 1)))) <| zM <| zE (oQd (encRst (RRst.mk (((itW w (n - 1)) : Nat) : Int) (((itW h (n - 1)) : Nat) : Int) mx (pxJ (itW w (n - 1)) (itW h (n - 1)) (bLow (itW w (n - 1)) (itW h (n - 1)) (itP w h px (n - 1))) (bRight (itW w (n - 1)) (itW h (n - 1)) (itP w h px (n - 1))) (bDown (itW w (n - 1)) (itW h (n - 1)) (itP w h px (n - 1))) (bCorner (itW w (n - 1)) (itW h (n - 1)) (itP w h px (n - 1)))))) (encRst (RRst.mk ((itW w (n - 1) : Nat) : Int) ((itW h (n - 1) : Nat) : Int) mx (itP w h px (n - 1)))) oEx (by exact (congrArg (fun p => encRst (RRst.mk _ _ _ p)) (pxJ_bands (it_ok hv (n - 1)))))) <| zE oEx <| zN (oAl 1 ze24 zo24) <| zT (oSt sh24) <| zM <| zZ) ?_
  refine pwp_seq <| pwp_seq <| kx [(7, (vi (((n - 1 : Nat) : Int) - 1)))] [] (zM <| zE (zSb (((n - 1 : Nat) : Int) - 1)) <| zM <| zZ) ?_
  refine pwp_block <| pwp_loop (α := Nat) (fun j => ⟨[(0, (vl 28 7 encBnd (levR w h mx px n))), (2, (.ref 0 0)), (5, (.ref 1 0)), (6, (vi 0)), (7, (vi (((j : Nat) : Int) - 1)))], [(0, some (bx (encRst (RRst.mk 0 0 0 [])))), (1, some (bx (encRst (RRst.mk ((itW w j : Nat) : Int) ((itW h j : Nat) : Int) mx (itP w h px j)))))]⟩) (fun j => j + 1 ≤ n) (fun j => j) (n - 1) wk (by omega) ?_
  rintro j hj
  refine pwp_seq <| pwp_seq <| kx [(37, (vb (decide (0 ≤ (((j : Nat) : Int) - 1)) && true)))] [] ?_ ?_
  · refine zM <| zE oGe <| zE (oV (vb (decide (0 ≤ (((j : Nat) : Int) - 1)))) (mv_ok (by kernel_rfl))) <| ?_
    rcases hb1 : (decide (0 ≤ (((j : Nat) : Int) - 1))) with _ | _
    · replace hb1 := of_decide_eq_false hb1
      exact zK <| zK <| zE oPf <| zZ
    · replace hb1 := of_decide_eq_true hb1
      exact zM <| zE oEq <| zE oPt <| zZ
  refine pwp_cond rfl (fun h2 => ?_) (fun h2 => ?_)
  · have hj0 : 0 < j := by simp only [Bool.and_true, decide_eq_true_eq] at h2; omega
    obtain ⟨q1, q2, q3, q4, _, _⟩ := it_ok hv (j - 1)
    refine pwp_skip <| pwp_seq <| pwp_block <| pwp_seq <| kx [(8, (.ref 2 0))] [(2, some (bx (encBnd (RBnd.mk (((itW w (j - 1)) : Nat) : Int) (((itW h (j - 1)) : Nat) : Int) mx (bLow (itW w (j - 1)) (itW h (j - 1)) (itP w h px (j - 1))) (bRight (itW w (j - 1)) (itW h (j - 1)) (itP w h px (j - 1))) (bDown (itW w (j - 1)) (itW h (j - 1)) (itP w h px (j - 1))) (bCorner (itW w (j - 1)) (itW h (j - 1)) (itP w h px (j - 1)))))))] (zM <| zE (oQd (.val (.int .i64 ((((j : Nat) : Int) - 1)))) (.val (.int .i64 ((((j - 1) : Nat) : Int)))) (oV (vi (((j : Nat) : Int) - 1)) (mv_ok (by kernel_rfl))) (by exact (congrArg (fun z => Dat.val (.int .i64 z)) (show (((j : Nat) : Int) - 1) = ((j - 1 : Nat) : Int) by omega)))) <| zE (oXl el39 (j - 1) (RBnd.mk 0 0 0 [] [] [] []) (L := (levR w h mx px n)) (hj := by first | omega | (rw [levR_len]; omega)) (h1 := by first | omega | (rw [levR_len]; omega))) <| zE (oQd (encBnd ((levR w h mx px n).getD (j - 1) (RBnd.mk 0 0 0 [] [] [] []))) (encBnd (RBnd.mk (((itW w (j - 1)) : Nat) : Int) (((itW h (j - 1)) : Nat) : Int) mx (bLow (itW w (j - 1)) (itW h (j - 1)) (itP w h px (j - 1))) (bRight (itW w (j - 1)) (itW h (j - 1)) (itP w h px (j - 1))) (bDown (itW w (j - 1)) (itW h (j - 1)) (itP w h px (j - 1))) (bCorner (itW w (j - 1)) (itW h (j - 1)) (itP w h px (j - 1))))) (oCa sh28) (by exact (congrArg encBnd (levR_get (by omega) _)))) <| zN (oAl 2 ze28 zo28) <| zT (oSt sh28) <| zZ) ?_
    refine pwp_seq <| pwp_seq <| kx [(66, (vb false))] [] (zE (oFr fo24_0) <| zR (oL1 sh3) <| zE (oFr fo28_0) <| zR (oL1 sh3) <| zE (oAd ((itW w (j - 1)) + 1)) <| zE (oQu (((itW w (j - 1)) + 1) / 2)) <| zE (oBk false oNe (by exact bne_eq_false_iff_eq.2 (congrArg (fun z : Nat => (z : Int)) (itW_back hj0)))) <| zM <| zE (oFr fo24_1) <| zR (oL1 sh3) <| zE (oFr fo28_1) <| zR (oL1 sh3) <| zE (oAd ((itW h (j - 1)) + 1)) <| zE (oQu (((itW h (j - 1)) + 1) / 2)) <| zE (oBk false oNe (by exact bne_eq_false_iff_eq.2 (congrArg (fun z : Nat => (z : Int)) (itW_back hj0)))) <| zE oPf <| zM <| zE (oFr fo24_2) <| zR (oL1 sh3) <| zE (oFr fo28_2) <| zR (oL1 sh3) <| zE (oBk false oNe (by exact bne_self_eq_false _)) <| zE oPf <| zZ) ?_
    refine pwp_cond (b := false) (by kernel_rfl) (fun h => by cases h) (fun _ => ?_)
    refine pwp_skip <| pwp_seq <| kx [] [(2, some (bx (encBnd (RBnd.mk (((itW w (j - 1)) : Nat) : Int) (((itW h (j - 1)) : Nat) : Int) mx (itP w h px j) (bRight (itW w (j - 1)) (itW h (j - 1)) (itP w h px (j - 1))) (bDown (itW w (j - 1)) (itW h (j - 1)) (itP w h px (j - 1))) (bCorner (itW w (j - 1)) (itW h (j - 1)) (itP w h px (j - 1)))))))] (zE (oFr fo24_3) <| zR (oL1 sh22) <| zE (oFr fo28_3) <| zT (oSt sh22) <| zZ) ?_
    refine kx [(6, (vi 0))] [(1, some (bx (encRst (RRst.mk ((itW w (j - 1) : Nat) : Int) ((itW h (j - 1) : Nat) : Int) mx (itP w h px (j - 1))))))] (zR (oLa sh28) <| zE (oCl (p_joiO (itW w (j - 1)) (itW h (j - 1)) mx (itP w h px j) (bRight (itW w (j - 1)) (itW h (j - 1)) (itP w h px (j - 1))) (bDown (itW w (j - 1)) (itW h (j - 1)) (itP w h px (j - 1))) (bCorner (itW w (j - 1)) (itW h (j - 1)) (itP w h px (j - 1))) (by rw [it_back hj0]; exact (bands_ok (it_ok hv (j - 1)))) (by rw [it_back hj0]; exact (lev_px hv hp (j - 1))))) <| zM <| zE (oQd (encRst (RRst.mk (((itW w (j - 1)) : Nat) : Int) (((itW h (j - 1)) : Nat) : Int) mx (pxJ (itW w (j - 1)) (itW h (j - 1)) (itP w h px j) (bRight (itW w (j - 1)) (itW h (j - 1)) (itP w h px (j - 1))) (bDown (itW w (j - 1)) (itW h (j - 1)) (itP w h px (j - 1))) (bCorner (itW w (j - 1)) (itW h (j - 1)) (itP w h px (j - 1)))))) (encRst (RRst.mk ((itW w (j - 1) : Nat) : Int) ((itW h (j - 1) : Nat) : Int) mx (itP w h px (j - 1)))) oEx (by exact (congrArg (fun p => encRst (RRst.mk _ _ _ p)) (by rw [it_back hj0]; exact pxJ_bands (it_ok hv (j - 1)))))) <| zE oEx <| zT (oSt sh24) <| zM <| zZ) ?_
    refine kx [(7, (vi (((j - 1 : Nat) : Int) - 1)))] [] (zM <| zE (zSb (((j - 1 : Nat) : Int) - 1)) <| zM <| zZ) ?_
    exact ⟨(j - 1), wk, (by omega), (by omega)⟩
  · refine pwp_exit <| pwp_seq <| kx [(3, (vi 0))] [(0, some (bx (encRst (RRst.mk ((itW w j : Nat) : Int) ((itW h j : Nat) : Int) mx (itP w h px j)))))] (zR (oLa sh24) <| zM <| zT (oSt sh24) <| zM <| zZ) ?_
    refine pwp_ret ⟨_, (res_a (cs := (bx (encRst (RRst.mk ((itW w j : Nat) : Int) ((itW h j : Nat) : Int) mx (itP w h px j))))) (d := (encRst (RRst.mk ((itW w j : Nat) : Int) ((itW h j : Nat) : Int) mx (itP w h px j)))) rfl rfl sh24 rfl rfl (.tmp (d := (.val (.int .i64 (0)))) rfl .nil)), ?_⟩
    obtain rfl : j = 0 := by simp at h2; omega
    rfl
end Go.Proofs.YtleidgohjckmlaaGreat
namespace Go.Proofs.YtleidgohjckmlaaGreat
open Go.Fid
set_option maxRecDepth 4000
set_option linter.unusedVariables false
set_option linter.unusedSimpArgs false
theorem cb6 : callB Tryz.prog 6 = true := by kernel_rfl
theorem un5 : (Tryz.prog.underlying 5).isSome = true := by kernel_rfl
theorem w_rev1 (w h mx : Int) (px : List Int) (n : Nat) (hn : n ≤ 255) (hbig : ¬ px.length ≤ 300) : Takes Tryz.prog 6 [(encRst (RRst.mk w h mx px)), (.val (.int .u8 (((n : Nat) : Int))))] (.val (.bool (true))) := by
  refine fn_intro Tryz.func6 rfl cb6 rfl ?_
  show PWp _ _ _ _ ⟨[(0, (.d (encRst (RRst.mk w h mx px)))), (1, (vyn n))], []⟩
  refine pwp_seq <| kx [(2, (.ref 0 0))] [(0, some (bx (encRst (RRst.mk w h mx px))))] (zN (oBx 0) <| zM <| zZ) ?_
  refine pwp_seq <| pwp_seq <| kx [(14, (vb false))] [] (zE (oCl p_known) <| zE oNt <| zZ) ?_
  refine pwp_cond (b := false) (by kernel_rfl) (fun h => by cases h) (fun _ => ?_)
  refine pwp_skip <| pwp_seq <| pwp_seq <| kx [(22, (vb true))] [] (zR (oLa sh24) <| zE (oBk false (oCl (p_few w h mx px)) (by exact decide_eq_false (by omega))) <| zE oNt <| zM <| zK <| zK <| zK <| zE oPt <| zZ) ?_
  refine pwp_cond (b := true) (by kernel_rfl) (fun _ => ?_) (fun h => by cases h)
  refine pwp_seq <| kx [(4, (vb true))] [] (zM <| zZ) ?_
  refine pwp_ret ⟨_, (.tmp (d := (.val (.bool (true)))) rfl .nil), ?_⟩
  rfl
theorem w_rev2 (w h mx : Int) (px : List Int) (n : Nat) (hn : n ≤ 255) (hsm : px.length ≤ 300) (hc : chkC w h mx px ≠ 0) : Takes Tryz.prog 6 [(encRst (RRst.mk w h mx px)), (.val (.int .u8 (((n : Nat) : Int))))] (.val (.bool (true))) := by
  refine fn_intro Tryz.func6 rfl cb6 rfl ?_
  show PWp _ _ _ _ ⟨[(0, (.d (encRst (RRst.mk w h mx px)))), (1, (vyn n))], []⟩
  refine pwp_seq <| kx [(2, (.ref 0 0))] [(0, some (bx (encRst (RRst.mk w h mx px))))] (zN (oBx 0) <| zM <| zZ) ?_
  refine pwp_seq <| pwp_seq <| kx [(14, (vb false))] [] (zE (oCl p_known) <| zE oNt <| zZ) ?_
  refine pwp_cond (b := false) (by kernel_rfl) (fun h => by cases h) (fun _ => ?_)
  refine pwp_skip <| pwp_seq <| pwp_seq <| kx [(22, (vb true))] [] (zR (oLa sh24) <| zE (oBk true (oCl (p_few w h mx px)) (by exact decide_eq_true (by omega))) <| zE oNt <| zM <| zR (oLa sh24) <| zE (oCl (p_rchk w h mx px (by omega))) <| zE (oBk true oNe (by exact bne_iff_ne.2 hc)) <| zE oPf <| zZ) ?_
  refine pwp_cond (b := true) (by kernel_rfl) (fun _ => ?_) (fun h => by cases h)
  refine pwp_seq <| kx [(4, (vb true))] [] (zM <| zZ) ?_
  refine pwp_ret ⟨_, (.tmp (d := (.val (.bool (true)))) rfl .nil), ?_⟩
  rfl
theorem w_rev3 (w h : Nat) (mx : Int) (px : List Int) (n : Nat) (hn : n ≤ 255) (hsm : px.length ≤ 300) (hv : RstOk w h px) (m1 : 1 ≤ mx) (m2 : mx ≤ 65535) (hp : ∀ x ∈ px, 0 ≤ x ∧ x ≤ mx) (hc : chkC ((w : Nat) : Int) ((h : Nat) : Int) mx px = 0) : Takes Tryz.prog 6 [(encRst (RRst.mk ((w : Nat) : Int) ((h : Nat) : Int) mx px)), (.val (.int .u8 (((n : Nat) : Int))))] (.val (.bool (true))) := by
  let y1 := (encRst (RRst.mk ((w : Nat) : Int) ((h : Nat) : Int) mx px))
  refine fn_intro Tryz.func6 rfl cb6 rfl ?_
  show PWp _ _ _ _ ⟨[(0, (.d y1)), (1, (vyn n))], []⟩
  refine pwp_seq <| kx [(2, (.ref 0 0))] [(0, some (bx y1))] (zN (oBx 0) <| zM <| zZ) ?_
  refine pwp_seq <| pwp_seq <| kx [(14, (vb false))] [] (zE (oCl p_known) <| zE oNt <| zZ) ?_
  refine pwp_cond (b := false) (by kernel_rfl) (fun h => by cases h) (fun _ => ?_)
  refine pwp_skip <| pwp_seq <| pwp_seq <| kx [(22, (vb false))] [] (zR (oLa sh24) <| zE (oBk true (oCl (p_few ((w : Nat) : Int) ((h : Nat) : Int) mx px)) (by exact decide_eq_true (by omega))) <| zE oNt <| zM <| zR (oLa sh24) <| zE (oCl (p_rchk ((w : Nat) : Int) ((h : Nat) : Int) mx px (by omega))) <| zE (oBk false oNe (by exact bne_eq_false_iff_eq.2 hc)) <| zE oPf <| zZ) ?_
  refine pwp_cond (b := false) (by kernel_rfl) (fun h => by cases h) (fun _ => ?_)
  refine pwp_skip <| pwp_seq <| kx [(5, (.ref 1 0)), (6, (vi 0))] [(1, some (bx (encBnd (RBnd.mk ((w : Nat) : Int) ((h : Nat) : Int) mx (bLow w h px) (bRight w h px) (bDown w h px) (bCorner w h px)))))] (zR (oLa sh24) <| zE (oCl (p_splO w h mx px hv (by omega) hc)) <| zM <| zE oEx <| zE oEx <| zN (oAl 1 ze28 zo28) <| zT (oSt sh28) <| zM <| zZ) ?_
  refine pwp_seq <| kx [(7, (.ref 2 0)), (8, (vi 0))] [(2, some (bx y1))] (zR (oLa sh28) <| zE (oCl (p_joV w h mx (bLow w h px) (bRight w h px) (bDown w h px) (bCorner w h px) ((bnd_len (m := 0) (bands_ok hv)).1) ((bnd_len (m := 0) (bands_ok hv)).2.1) ((bnd_len (m := 0) (bands_ok hv)).2.2.1) ((bnd_len (m := 0) (bands_ok hv)).2.2.2) (ok_vb (bands_ok hv) m1 m2) (bands_ok hv) (by rw [pxJ_bands hv]; exact px_ok.2 hp))) <| zM <| zE (oQd (encRst (RRst.mk ((w : Nat) : Int) ((h : Nat) : Int) mx (pxJ w h (bLow w h px) (bRight w h px) (bDown w h px) (bCorner w h px)))) y1 oEx (by exact (congrArg (fun p => encRst (RRst.mk _ _ _ p)) (pxJ_bands hv)))) <| zE oEx <| zN (oAl 2 ze24 zo24) <| zT (oSt sh24) <| zM <| zZ) ?_
  refine pwp_seq <| kx [(9, (vl 28 7 encBnd (levR w h mx px (1 + (n % 6))))), (10, (vi 0))] [] (zR (oLa sh24) <| zM <| zE (oCv un5 in3 n) <| zE (oRe (n % 6)) <| zE (oAd (1 + (n % 6))) <| zE (oCl (p_bld w h mx px (1 + (n % 6)) hv (by omega) hc (by omega) (by omega))) <| zM <| zE oEx <| zE oEx <| zM <| zM <| zZ) ?_
  refine pwp_seq <| kx [(11, (.ref 3 0)), (12, (vi 0))] [(3, some (bx y1))] (zM <| zE (oCl (p_rest w h mx px (1 + (n % 6)) hv m1 m2 hp (by omega) (by omega))) <| zM <| zE oEx <| zE oEx <| zN (oAl 3 ze24 zo24) <| zT (oSt sh24) <| zM <| zZ) ?_
  refine pwp_seq <| kx [(4, (vb true))] [] (zM <| zM <| zE (oAd 0 (hr := by decide)) <| zM <| zE (oAd 0 (hr := by decide)) <| zM <| zE (oAd 0 (hr := by decide)) <| zE (oBk true oEq) <| zM <| zR (oLa sh24) <| zR (oLa sh24) <| zE (oBk true (oCl (p_same ((w : Nat) : Int) ((h : Nat) : Int) mx px ((w : Nat) : Int) ((h : Nat) : Int) mx px (by omega))) (by exact (same4_self _ _ _ _))) <| zE oPt <| zM <| zR (oLa sh24) <| zR (oLa sh24) <| zE (oBk true (oCl (p_same ((w : Nat) : Int) ((h : Nat) : Int) mx px ((w : Nat) : Int) ((h : Nat) : Int) mx px (by omega))) (by exact (same4_self _ _ _ _))) <| zE oPt <| zM <| zM <| zE (oLn el39 (1 + (n % 6)) (hr := by exact (by rw [List.length_map, levR_len]))) <| zM <| zE (oCv un5 in3 n) <| zE (oRe (n % 6)) <| zE (oAd (1 + (n % 6))) <| zE (oBk true oEq (by exact beq_self_eq_true _)) <| zE oPt <| zM <| zZ) ?_
  refine pwp_ret ⟨_, (.tmp (d := (.val (.bool (true)))) rfl .nil), ?_⟩
  rfl
end Go.Proofs.YtleidgohjckmlaaGreat
