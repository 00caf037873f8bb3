/- Part 29 of a proof: rules, plain facts, and functions walked. -/
import Derived.Test.YtleidgohjckmlaaM28
import Derived.OpenShut
import Derived.Test.YtleidgohjckmlaaM6
import Derived.ChangeArms
import Derived.SizedLaws
namespace Go.Proofs.Ytleidgohjckmlaa
open Go.Fid
set_option maxRecDepth 4000
set_option linter.unusedVariables false
set_option linter.unusedSimpArgs false
theorem cb4 : callB Try.prog 4 = true := by kernel_rfl
theorem w_com1 (w h mx : Int) (px : List Int) (q : Nat) (hq : q ≤ 255) (hbig : ¬ px.length ≤ 300) : Takes Try.prog 4 [(encRst (RRst.mk w h mx px)), (.val (.int .u8 (((q : Nat) : Int))))] (.val (.bool (true))) := by
  refine fn_intro Try.func4 rfl cb4 rfl ?_
  show PWp _ _ _ _ ⟨[(0, (.d (encRst (RRst.mk w h mx px)))), (1, (vyn q))], []⟩
  refine pwp_seq <| kx [(2, (.ref 0 0)), (3, (.ref 1 0))] [(0, some (bx (encRst (RRst.mk w h mx px)))), (1, some (bx (.val (.int .u8 (((q : Nat) : Int))))))] (zN (oBx 0) <| zN (oBx 1) <| zM <| zZ) ?_
  refine pwp_seq <| pwp_seq <| kx [(20, (vb false))] [] (zE (oCl p_known) <| zE oNt <| zZ) ?_
  refine pwp_cond (b := false) (by kernel_rfl) (fun h => by cases h) (fun _ => ?_)
  refine pwp_skip <| pwp_seq <| pwp_seq <| kx [(28, (vb true))] [] (zR (oLa sh24) <| zE (oBk false (oCl (p_few w h mx px)) (by exact decide_eq_false (by omega))) <| zE oNt <| zM <| zK <| zK <| zK <| zE oPt <| zZ) ?_
  refine pwp_cond (b := true) (by kernel_rfl) (fun _ => ?_) (fun h => by cases h)
  refine pwp_seq <| kx [(4, (vb true))] [] (zM <| zZ) ?_
  refine pwp_ret ⟨_, (.tmp (d := (.val (.bool (true)))) rfl .nil), ?_⟩
  rfl
theorem w_com2 (w h mx : Int) (px : List Int) (q : Nat) (hq : q ≤ 255) (hsm : px.length ≤ 300) (hc : chkC w h mx px ≠ 0) : Takes Try.prog 4 [(encRst (RRst.mk w h mx px)), (.val (.int .u8 (((q : Nat) : Int))))] (.val (.bool (true))) := by
  refine fn_intro Try.func4 rfl cb4 rfl ?_
  show PWp _ _ _ _ ⟨[(0, (.d (encRst (RRst.mk w h mx px)))), (1, (vyn q))], []⟩
  refine pwp_seq <| kx [(2, (.ref 0 0)), (3, (.ref 1 0))] [(0, some (bx (encRst (RRst.mk w h mx px)))), (1, some (bx (.val (.int .u8 (((q : Nat) : Int))))))] (zN (oBx 0) <| zN (oBx 1) <| zM <| zZ) ?_
  refine pwp_seq <| pwp_seq <| kx [(20, (vb false))] [] (zE (oCl p_known) <| zE oNt <| zZ) ?_
  refine pwp_cond (b := false) (by kernel_rfl) (fun h => by cases h) (fun _ => ?_)
  refine pwp_skip <| pwp_seq <| pwp_seq <| kx [(28, (vb true))] [] (zR (oLa sh24) <| zE (oBk true (oCl (p_few w h mx px)) (by exact decide_eq_true (by omega))) <| zE oNt <| zM <| zR (oLa sh24) <| zE (oCl (p_rchk w h mx px (by omega))) <| zE (oBk true oNe (by exact bne_iff_ne.2 hc)) <| zE oPf <| zZ) ?_
  refine pwp_cond (b := true) (by kernel_rfl) (fun _ => ?_) (fun h => by cases h)
  refine pwp_seq <| kx [(4, (vb true))] [] (zM <| zZ) ?_
  refine pwp_ret ⟨_, (.tmp (d := (.val (.bool (true)))) rfl .nil), ?_⟩
  rfl
theorem w_com3 (w h : Nat) (mx : Int) (px : List Int) (q : Nat) (hq : q ≤ 255) (hsm : px.length ≤ 300) (hv : RstOk w h px) (m1 : 1 ≤ mx) (m2 : mx ≤ 65535) (hp : ∀ x ∈ px, 0 ≤ x ∧ x ≤ mx) (hc : chkC ((w : Nat) : Int) ((h : Nat) : Int) mx px = 0) (hcu : chkC ((w : Nat) : Int) ((h : Nat) : Int) (min (mx + 255) 65535) (px.map (fun a => a + ((q : Nat) : Int))) ≠ 0) : Takes Try.prog 4 [(encRst (RRst.mk ((w : Nat) : Int) ((h : Nat) : Int) mx px)), (.val (.int .u8 (((q : Nat) : Int))))] (.val (.bool (true))) := by
  have hv0 := hv
  have hpl := rst_len hv
  obtain ⟨w1, w2, w3, w4, w5, w6⟩ := hv
  have hp0 := rst_pos hv0
  have hwh : w * h ≤ 64 * 64 := Nat.mul_le_mul w2 w4
  have hr2 := rdV_rst (smV_rst hv0 m1 m2 hp).1 m1 m2 (smV_le hv0 (by omega) hp)
  have hWH : (w + 1) / 2 * ((h + 1) / 2) ≤ 64 * 64 := Nat.mul_le_mul (by omega) (by omega)
  let y1 := (bx (encRst (RRst.mk ((w : Nat) : Int) ((h : Nat) : Int) mx px)))
  refine fn_intro Try.func4 rfl cb4 rfl ?_
  show PWp _ _ _ _ ⟨[(0, (.d (encRst (RRst.mk ((w : Nat) : Int) ((h : Nat) : Int) mx px)))), (1, (vyn q))], []⟩
  refine pwp_seq <| kx [(2, (.ref 0 0)), (3, (.ref 1 0))] [(0, some y1), (1, some (bx (.val (.int .u8 (((q : Nat) : Int))))))] (zN (oBx 0) <| zN (oBx 1) <| zM <| zZ) ?_
  refine pwp_seq <| pwp_seq <| kx [(20, (vb false))] [] (zE (oCl p_known) <| zE oNt <| zZ) ?_
  refine pwp_cond (b := false) (by kernel_rfl) (fun h => by cases h) (fun _ => ?_)
  refine pwp_skip <| pwp_seq <| pwp_seq <| kx [(28, (vb false))] [] (zR (oLa sh24) <| zE (oBk true (oCl (p_few ((w : Nat) : Int) ((h : Nat) : Int) mx px)) (by exact decide_eq_true (by omega))) <| zE oNt <| zM <| zR (oLa sh24) <| zE (oCl (p_rchk ((w : Nat) : Int) ((h : Nat) : Int) mx px (by omega))) <| zE (oBk false oNe (by exact bne_eq_false_iff_eq.2 hc)) <| zE oPf <| zZ) ?_
  refine pwp_cond (b := false) (by kernel_rfl) (fun h => by cases h) (fun _ => ?_)
  refine pwp_skip <| pwp_seq <| kx [(5, (.ref 2 0)), (6, (vi 0))] [(2, some (bx (encRst (RRst.mk ((w : Nat) : Int) ((h : Nat) : Int) mx (smV w h px)))))] (zR (oLa sh24) <| zE (oCl (p_smo w h mx px hv0 (by omega) hc)) <| zM <| zE oEx <| zE oEx <| zN (oAl 2 ze24 zo24) <| zT (oSt sh24) <| zM <| zZ) ?_
  refine pwp_seq <| kx [(7, (.ref 3 0)), (8, (vi 0))] [(3, some (bx (encRst (RRst.mk ((h : Nat) : Int) ((w : Nat) : Int) mx (smV h w (tuV w h px))))))] (zR (oLa sh24) <| zE (oCl (p_ltu w h mx px hv0)) <| zE (oCl (p_smo h w mx (tuV w h px) (tu_rst hv0) (by rw [tuV_len]; omega) (tu_chk hv0 m1 m2 hp))) <| zM <| zE oEx <| zE oEx <| zN (oAl 3 ze24 zo24) <| zT (oSt sh24) <| zM <| zZ) ?_
  refine pwp_seq <| kx [(9, (.ref 4 0)), (10, (vi 0))] [(4, some (bx (encRst (RRst.mk ((((w + 1) / 2) : Nat) : Int) ((((h + 1) / 2) : Nat) : Int) mx (rdV w h (smV w h px))))))] (zR (oLa sh24) <| zE (oCl (p_rdo w h mx px hv0 (by omega) hc)) <| zM <| zE oEx <| zE oEx <| zN (oAl 4 ze24 zo24) <| zT (oSt sh24) <| zM <| zZ) ?_
  refine pwp_seq <| kx [(11, (.ref 5 0)), (12, (vi 0))] [(5, some (bx (encRst (RRst.mk ((((h + 1) / 2) : Nat) : Int) ((((w + 1) / 2) : Nat) : Int) mx (rdV h w (smV h w (tuV w h px)))))))] (zR (oLa sh24) <| zE (oCl (p_ltu w h mx px hv0)) <| zE (oCl (p_rdo h w mx (tuV w h px) (tu_rst hv0) (by rw [tuV_len]; omega) (tu_chk hv0 m1 m2 hp))) <| zM <| zE oEx <| zE oEx <| zN (oAl 5 ze24 zo24) <| zT (oSt sh24) <| zM <| zZ) ?_
  refine pwp_seq <| pwp_seq <| kd [(82, (vb false))] [] mo (wM <| wM <| wE (oAd 0 (hr := by decide)) <| wM <| wE (oAd 0 (hr := by decide)) <| wM <| wE (oAd 0 (hr := by decide)) <| wE (oBk false oNe) <| wM <| wR (oLa sh24) <| wE (oCl (p_rchk ((w : Nat) : Int) ((h : Nat) : Int) mx (smV w h px) (by rw [smV_len]; omega))) <| wE (oBk false oNe (by exact bne_eq_false_iff_eq.2 ((smV_rst hv0 m1 m2 hp).2))) <| wE oPf <| wM <| wR (oLa sh24) <| wE (oCl (p_rchk ((((w + 1) / 2) : Nat) : Int) ((((h + 1) / 2) : Nat) : Int) mx (rdV w h (smV w h px)) (by rw [rdV_len]; omega))) <| wE (oBk false oNe (by exact bne_eq_false_iff_eq.2 hr2.2)) <| wE oPf <| wM <| wR (oLa sh24) <| wE (oCl (p_ltu w h mx (smV w h px) ((smV_rst hv0 m1 m2 hp).1))) <| wR (oLa sh24) <| wE (oBk true (oCl (p_same ((h : Nat) : Int) ((w : Nat) : Int) mx (tuV w h (smV w h px)) ((h : Nat) : Int) ((w : Nat) : Int) mx (smV h w (tuV w h px)) (by rw [tuV_len]; omega))) (by exact (by rw [sm_tu w1 w3]; exact same4_self _ _ _ _))) <| wE oNt <| wE oPf <| wM <| wR (oLa sh24) <| wE (oCl (p_ltu ((w + 1) / 2) ((h + 1) / 2) mx (rdV w h (smV w h px)) hr2.1)) <| wR (oLa sh24) <| wE (oBk true (oCl (p_same ((((h + 1) / 2) : Nat) : Int) ((((w + 1) / 2) : Nat) : Int) mx (tuV ((w + 1) / 2) ((h + 1) / 2) (rdV w h (smV w h px))) ((((h + 1) / 2) : Nat) : Int) ((((w + 1) / 2) : Nat) : Int) mx (rdV h w (smV h w (tuV w h px))) (by rw [tuV_len]; omega))) (by exact (by rw [rd_tu w1 w3, sm_tu w1 w3]; exact same4_self _ _ _ _))) <| wE oNt <| wE oPf <| wZ) ?_
  refine pwp_cond (b := false) (by kernel_rfl) (fun h => by cases h) (fun _ => ?_)
  refine pwp_skip <| pwp_seq <| kx [(13, (.ref 6 0))] [(6, some y1)] (zR (oLa sh24) <| zN (oAl 6 ze24 zo24) <| zT (oSt sh24) <| zZ) ?_
  refine pwp_seq <| kx [] [(6, some (bx (encRst (RRst.mk ((w : Nat) : Int) ((h : Nat) : Int) (min (mx + ((255 : Nat) : Int)) ((65535 : Nat) : Int)) px))))] (zE (oFr fo24_2) <| zR (oL1 sh3) <| zE (zAd (mx + ((255 : Nat) : Int))) <| zE (zMn (min (mx + ((255 : Nat) : Int)) ((65535 : Nat) : Int)) (hr := by first | omega | (dsimp only; omega))) <| zE (oFr fo24_2) <| zT (oSt sh3) <| zZ) ?_
  refine pwp_seq <| kx [] [(6, some [(vin w), (vin h), (vi (min (mx + ((255 : Nat) : Int)) ((65535 : Nat) : Int))), (.own 7 3 1 px.length)]), (7, some (bm enc_i64 px))] (zE (oFr fo24_3) <| zR (oL1 sh22) <| zN (oCo 7 (p_cloneO px (by omega) hp0)) <| zE (oFr fo24_3) <| zT (oSx sh22) <| zZ) ?_
  refine pwp_seq <| pwp_seq <| kx [(95, (vin px.length)), (96, (vin 0))] [] (zE (oFr fo24_3) <| zR (oL1 sh22) <| zE (oLo el22) <| zM <| zZ) ?_
  refine pwp_block <| pwp_loop (α := Nat × List Int) (fun (i, u) => ⟨[(2, (.ref 0 0)), (3, (.ref 1 0)), (5, (.ref 2 0)), (13, (.ref 6 0)), (95, (vin px.length)), (96, (vin i))], [(0, some y1), (1, some (bx (.val (.int .u8 (((q : Nat) : Int)))))), (2, some (bx (encRst (RRst.mk ((w : Nat) : Int) ((h : Nat) : Int) mx (smV w h px))))), (6, some [(vin w), (vin h), (vi (min (mx + ((255 : Nat) : Int)) ((65535 : Nat) : Int))), (.own 7 3 1 px.length)]), (7, some (bm enc_i64 u))]⟩) (fun (i, u) => i ≤ px.length ∧ u = addU ((q : Nat) : Int) px i) (fun (i, u) => px.length - i) (0, px) wk ⟨Nat.zero_le _, rfl⟩ ?_
  rintro ⟨i, u⟩ ⟨hi, hu⟩
  have hul : u.length = px.length := by rw [hu, addU_len]
  have hgk := w6.get (by decide) i
  refine pwp_seq <| kx [(97, (vb (decide (((i : Nat) : Int) < ((px.length : Nat) : Int)))))] [] (zE oLt <| zZ) ?_
  refine pwp_seq <| pwp_cond rfl (fun h1 => ?_) (fun h1 => ?_)
  · replace h1 := of_decide_eq_true h1
    have hgu : u.getD i 0 = px.getD i 0 := by rw [hu]; exact addU_get (by omega)
    refine pwp_skip <| pwp_seq <| pwp_block <| pwp_seq <| kx [(14, (vin i))] [] (zM <| zM <| zZ) ?_
    refine kd [] [(7, some (bm enc_i64 (u.set i ((u.getD i 0) + ((q : Nat) : Int)))))] mo (wE (oFr fo24_3) <| wR (oL1 sh22) <| wM <| wE (oXo el22 i) <| wR (oLp sh3 i (0 : Int)) <| wR (oL1 sh5) <| wE (oCv un5 in3 q) <| wE (zAd ((u.getD i 0) + ((q : Nat) : Int))) <| wE (oXo el22 i) <| wT (oSp sh3 i ((u.getD i 0) + ((q : Nat) : Int))) <| wZ) ?_
    refine kx [(96, (vin (i + 1)))] [] (zE (oAd (i + 1)) <| zM <| zZ) ?_
    exact ⟨(i + 1, u.set i (u.getD i 0 + ((q : Nat) : Int))), wk, ⟨by omega, by rw [hgu, hu]; exact addU_set (by omega)⟩, (by first | omega | (dsimp only; omega))⟩
  · replace h1 := of_decide_eq_false h1
    have hue : u = (px.map (fun a => a + ((q : Nat) : Int))) := by rw [hu]; exact addU_end (by omega)
    refine pwp_exit <| pwp_seq <| pwp_seq <| pwp_sim (publishAt (j := 6) (k := 7) (pre := [(vin w), (vin h), (vi (min (mx + ((255 : Nat) : Int)) ((65535 : Nat) : Int)))]) (post := []) (es := List.map enc_i64 u) rfl (by decide) rfl (pub_cells _ _ (fun _ => rfl)) (map_len _ _ hul) (pub_take _ _ (fun _ => rfl) hul)) ?_
    refine pwp_sim (wk (l := [(2, (.ref 0 0)), (3, (.ref 1 0)), (5, (.ref 2 0)), (13, (.ref 6 0)), (95, (vin px.length)), (96, (vin i)), (97, (vb (decide (((i : Nat) : Int) < ((px.length : Nat) : Int)))))]) (b := [(0, some y1), (1, some (bx (.val (.int .u8 (((q : Nat) : Int)))))), (2, some (bx (encRst (RRst.mk ((w : Nat) : Int) ((h : Nat) : Int) mx (smV w h px))))), (6, some (bx (encRst (RRst.mk ((w : Nat) : Int) ((h : Nat) : Int) (min (mx + ((255 : Nat) : Int)) ((65535 : Nat) : Int)) u))))])) ?_
    refine kx [(111, (vb true))] [] (zR (oLa sh24) <| zE (oCl (p_rchk ((w : Nat) : Int) ((h : Nat) : Int) (min (mx + ((255 : Nat) : Int)) ((65535 : Nat) : Int)) u (by omega))) <| zE (oBk true oNe (by exact bne_iff_ne.2 (by rw [hue]; exact hcu))) <| zZ) ?_
    refine pwp_cond (b := true) (by kernel_rfl) (fun _ => ?_) (fun h => by cases h)
    refine pwp_seq <| kx [(4, (vb true))] [] (zM <| zZ) ?_
    refine pwp_ret ⟨_, (.tmp (d := (.val (.bool (true)))) rfl .nil), ?_⟩
    rfl
theorem w_com4 (w h : Nat) (mx : Int) (px : List Int) (q : Nat) (hq : q ≤ 255) (hsm : px.length ≤ 300) (hv : RstOk w h px) (m1 : 1 ≤ mx) (m2 : mx ≤ 65535) (hp : ∀ x ∈ px, 0 ≤ x ∧ x ≤ mx) (hc : chkC ((w : Nat) : Int) ((h : Nat) : Int) mx px = 0) (hcu : chkC ((w : Nat) : Int) ((h : Nat) : Int) (min (mx + 255) 65535) (px.map (fun a => a + ((q : Nat) : Int))) = 0) : Takes Try.prog 4 [(encRst (RRst.mk ((w : Nat) : Int) ((h : Nat) : Int) mx px)), (.val (.int .u8 (((q : Nat) : Int))))] (.val (.bool (true))) := by
  have hv0 := hv
  have hpl := rst_len hv
  obtain ⟨w1, w2, w3, w4, w5, w6⟩ := hv
  have hp0 := rst_pos hv0
  have hwh : w * h ≤ 64 * 64 := Nat.mul_le_mul w2 w4
  have hr2 := rdV_rst (smV_rst hv0 m1 m2 hp).1 m1 m2 (smV_le hv0 (by omega) hp)
  have hWH : (w + 1) / 2 * ((h + 1) / 2) ≤ 64 * 64 := Nat.mul_le_mul (by omega) (by omega)
  let y1 := (bx (encRst (RRst.mk ((w : Nat) : Int) ((h : Nat) : Int) mx px)))
  refine fn_intro Try.func4 rfl cb4 rfl ?_
  show PWp _ _ _ _ ⟨[(0, (.d (encRst (RRst.mk ((w : Nat) : Int) ((h : Nat) : Int) mx px)))), (1, (vyn q))], []⟩
  refine pwp_seq <| kx [(2, (.ref 0 0)), (3, (.ref 1 0))] [(0, some y1), (1, some (bx (.val (.int .u8 (((q : Nat) : Int))))))] (zN (oBx 0) <| zN (oBx 1) <| zM <| zZ) ?_
  refine pwp_seq <| pwp_seq <| kx [(20, (vb false))] [] (zE (oCl p_known) <| zE oNt <| zZ) ?_
  refine pwp_cond (b := false) (by kernel_rfl) (fun h => by cases h) (fun _ => ?_)
  refine pwp_skip <| pwp_seq <| pwp_seq <| kx [(28, (vb false))] [] (zR (oLa sh24) <| zE (oBk true (oCl (p_few ((w : Nat) : Int) ((h : Nat) : Int) mx px)) (by exact decide_eq_true (by omega))) <| zE oNt <| zM <| zR (oLa sh24) <| zE (oCl (p_rchk ((w : Nat) : Int) ((h : Nat) : Int) mx px (by omega))) <| zE (oBk false oNe (by exact bne_eq_false_iff_eq.2 hc)) <| zE oPf <| zZ) ?_
  refine pwp_cond (b := false) (by kernel_rfl) (fun h => by cases h) (fun _ => ?_)
  refine pwp_skip <| pwp_seq <| kx [(5, (.ref 2 0)), (6, (vi 0))] [(2, some (bx (encRst (RRst.mk ((w : Nat) : Int) ((h : Nat) : Int) mx (smV w h px)))))] (zR (oLa sh24) <| zE (oCl (p_smo w h mx px hv0 (by omega) hc)) <| zM <| zE oEx <| zE oEx <| zN (oAl 2 ze24 zo24) <| zT (oSt sh24) <| zM <| zZ) ?_
  refine pwp_seq <| kx [(7, (.ref 3 0)), (8, (vi 0))] [(3, some (bx (encRst (RRst.mk ((h : Nat) : Int) ((w : Nat) : Int) mx (smV h w (tuV w h px))))))] (zR (oLa sh24) <| zE (oCl (p_ltu w h mx px hv0)) <| zE (oCl (p_smo h w mx (tuV w h px) (tu_rst hv0) (by rw [tuV_len]; omega) (tu_chk hv0 m1 m2 hp))) <| zM <| zE oEx <| zE oEx <| zN (oAl 3 ze24 zo24) <| zT (oSt sh24) <| zM <| zZ) ?_
  refine pwp_seq <| kx [(9, (.ref 4 0)), (10, (vi 0))] [(4, some (bx (encRst (RRst.mk ((((w + 1) / 2) : Nat) : Int) ((((h + 1) / 2) : Nat) : Int) mx (rdV w h (smV w h px))))))] (zR (oLa sh24) <| zE (oCl (p_rdo w h mx px hv0 (by omega) hc)) <| zM <| zE oEx <| zE oEx <| zN (oAl 4 ze24 zo24) <| zT (oSt sh24) <| zM <| zZ) ?_
  refine pwp_seq <| kx [(11, (.ref 5 0)), (12, (vi 0))] [(5, some (bx (encRst (RRst.mk ((((h + 1) / 2) : Nat) : Int) ((((w + 1) / 2) : Nat) : Int) mx (rdV h w (smV h w (tuV w h px)))))))] (zR (oLa sh24) <| zE (oCl (p_ltu w h mx px hv0)) <| zE (oCl (p_rdo h w mx (tuV w h px) (tu_rst hv0) (by rw [tuV_len]; omega) (tu_chk hv0 m1 m2 hp))) <| zM <| zE oEx <| zE oEx <| zN (oAl 5 ze24 zo24) <| zT (oSt sh24) <| zM <| zZ) ?_
  refine pwp_seq <| pwp_seq <| kd [(82, (vb false))] [] mo (wM <| wM <| wE (oAd 0 (hr := by decide)) <| wM <| wE (oAd 0 (hr := by decide)) <| wM <| wE (oAd 0 (hr := by decide)) <| wE (oBk false oNe) <| wM <| wR (oLa sh24) <| wE (oCl (p_rchk ((w : Nat) : Int) ((h : Nat) : Int) mx (smV w h px) (by rw [smV_len]; omega))) <| wE (oBk false oNe (by exact bne_eq_false_iff_eq.2 ((smV_rst hv0 m1 m2 hp).2))) <| wE oPf <| wM <| wR (oLa sh24) <| wE (oCl (p_rchk ((((w + 1) / 2) : Nat) : Int) ((((h + 1) / 2) : Nat) : Int) mx (rdV w h (smV w h px)) (by rw [rdV_len]; omega))) <| wE (oBk false oNe (by exact bne_eq_false_iff_eq.2 hr2.2)) <| wE oPf <| wM <| wR (oLa sh24) <| wE (oCl (p_ltu w h mx (smV w h px) ((smV_rst hv0 m1 m2 hp).1))) <| wR (oLa sh24) <| wE (oBk true (oCl (p_same ((h : Nat) : Int) ((w : Nat) : Int) mx (tuV w h (smV w h px)) ((h : Nat) : Int) ((w : Nat) : Int) mx (smV h w (tuV w h px)) (by rw [tuV_len]; omega))) (by exact (by rw [sm_tu w1 w3]; exact same4_self _ _ _ _))) <| wE oNt <| wE oPf <| wM <| wR (oLa sh24) <| wE (oCl (p_ltu ((w + 1) / 2) ((h + 1) / 2) mx (rdV w h (smV w h px)) hr2.1)) <| wR (oLa sh24) <| wE (oBk true (oCl (p_same ((((h + 1) / 2) : Nat) : Int) ((((w + 1) / 2) : Nat) : Int) mx (tuV ((w + 1) / 2) ((h + 1) / 2) (rdV w h (smV w h px))) ((((h + 1) / 2) : Nat) : Int) ((((w + 1) / 2) : Nat) : Int) mx (rdV h w (smV h w (tuV w h px))) (by rw [tuV_len]; omega))) (by exact (by rw [rd_tu w1 w3, sm_tu w1 w3]; exact same4_self _ _ _ _))) <| wE oNt <| wE oPf <| wZ) ?_
  refine pwp_cond (b := false) (by kernel_rfl) (fun h => by cases h) (fun _ => ?_)
  refine pwp_skip <| pwp_seq <| kx [(13, (.ref 6 0))] [(6, some y1)] (zR (oLa sh24) <| zN (oAl 6 ze24 zo24) <| zT (oSt sh24) <| zZ) ?_
  refine pwp_seq <| kx [] [(6, some (bx (encRst (RRst.mk ((w : Nat) : Int) ((h : Nat) : Int) (min (mx + ((255 : Nat) : Int)) ((65535 : Nat) : Int)) px))))] (zE (oFr fo24_2) <| zR (oL1 sh3) <| zE (zAd (mx + ((255 : Nat) : Int))) <| zE (zMn (min (mx + ((255 : Nat) : Int)) ((65535 : Nat) : Int)) (hr := by first | omega | (dsimp only; omega))) <| zE (oFr fo24_2) <| zT (oSt sh3) <| zZ) ?_
  refine pwp_seq <| kx [] [(6, some [(vin w), (vin h), (vi (min (mx + ((255 : Nat) : Int)) ((65535 : Nat) : Int))), (.own 7 3 1 px.length)]), (7, some (bm enc_i64 px))] (zE (oFr fo24_3) <| zR (oL1 sh22) <| zN (oCo 7 (p_cloneO px (by omega) hp0)) <| zE (oFr fo24_3) <| zT (oSx sh22) <| zZ) ?_
  refine pwp_seq <| pwp_seq <| kx [(95, (vin px.length)), (96, (vin 0))] [] (zE (oFr fo24_3) <| zR (oL1 sh22) <| zE (oLo el22) <| zM <| zZ) ?_
  refine pwp_block <| pwp_loop (α := Nat × List Int) (fun (i, u) => ⟨[(2, (.ref 0 0)), (3, (.ref 1 0)), (5, (.ref 2 0)), (13, (.ref 6 0)), (95, (vin px.length)), (96, (vin i))], [(0, some y1), (1, some (bx (.val (.int .u8 (((q : Nat) : Int)))))), (2, some (bx (encRst (RRst.mk ((w : Nat) : Int) ((h : Nat) : Int) mx (smV w h px))))), (6, some [(vin w), (vin h), (vi (min (mx + ((255 : Nat) : Int)) ((65535 : Nat) : Int))), (.own 7 3 1 px.length)]), (7, some (bm enc_i64 u))]⟩) (fun (i, u) => i ≤ px.length ∧ u = addU ((q : Nat) : Int) px i) (fun (i, u) => px.length - i) (0, px) wk ⟨Nat.zero_le _, rfl⟩ ?_
  rintro ⟨i, u⟩ ⟨hi, hu⟩
  have hul : u.length = px.length := by rw [hu, addU_len]
  have hgk := w6.get (by decide) i
  refine pwp_seq <| kx [(97, (vb (decide (((i : Nat) : Int) < ((px.length : Nat) : Int)))))] [] (zE oLt <| zZ) ?_
  refine pwp_seq <| pwp_cond rfl (fun h1 => ?_) (fun h1 => ?_)
  · replace h1 := of_decide_eq_true h1
    have hgu : u.getD i 0 = px.getD i 0 := by rw [hu]; exact addU_get (by omega)
    refine pwp_skip <| pwp_seq <| pwp_block <| pwp_seq <| kx [(14, (vin i))] [] (zM <| zM <| zZ) ?_
    refine kd [] [(7, some (bm enc_i64 (u.set i ((u.getD i 0) + ((q : Nat) : Int)))))] mo (wE (oFr fo24_3) <| wR (oL1 sh22) <| wM <| wE (oXo el22 i) <| wR (oLp sh3 i (0 : Int)) <| wR (oL1 sh5) <| wE (oCv un5 in3 q) <| wE (zAd ((u.getD i 0) + ((q : Nat) : Int))) <| wE (oXo el22 i) <| wT (oSp sh3 i ((u.getD i 0) + ((q : Nat) : Int))) <| wZ) ?_
    refine kx [(96, (vin (i + 1)))] [] (zE (oAd (i + 1)) <| zM <| zZ) ?_
    exact ⟨(i + 1, u.set i (u.getD i 0 + ((q : Nat) : Int))), wk, ⟨by omega, by rw [hgu, hu]; exact addU_set (by omega)⟩, (by first | omega | (dsimp only; omega))⟩
  · replace h1 := of_decide_eq_false h1
    have hue : u = (px.map (fun a => a + ((q : Nat) : Int))) := by rw [hu]; exact addU_end (by omega)
    refine pwp_exit <| pwp_seq <| pwp_seq <| pwp_sim (publishAt (j := 6) (k := 7) (pre := [(vin w), (vin h), (vi (min (mx + ((255 : Nat) : Int)) ((65535 : Nat) : Int)))]) (post := []) (es := List.map enc_i64 u) rfl (by decide) rfl (pub_cells _ _ (fun _ => rfl)) (map_len _ _ hul) (pub_take _ _ (fun _ => rfl) hul)) ?_
    refine pwp_sim (wk (l := [(2, (.ref 0 0)), (3, (.ref 1 0)), (5, (.ref 2 0)), (13, (.ref 6 0)), (95, (vin px.length)), (96, (vin i)), (97, (vb (decide (((i : Nat) : Int) < ((px.length : Nat) : Int)))))]) (b := [(0, some y1), (1, some (bx (.val (.int .u8 (((q : Nat) : Int)))))), (2, some (bx (encRst (RRst.mk ((w : Nat) : Int) ((h : Nat) : Int) mx (smV w h px))))), (6, some (bx (encRst (RRst.mk ((w : Nat) : Int) ((h : Nat) : Int) (min (mx + ((255 : Nat) : Int)) ((65535 : Nat) : Int)) u))))])) ?_
    refine kx [(111, (vb false))] [] (zR (oLa sh24) <| zE (oCl (p_rchk ((w : Nat) : Int) ((h : Nat) : Int) (min (mx + ((255 : Nat) : Int)) ((65535 : Nat) : Int)) u (by omega))) <| zE (oBk false oNe (by exact bne_eq_false_iff_eq.2 (by rw [hue]; exact hcu))) <| zZ) ?_
    refine pwp_cond (b := false) (by kernel_rfl) (fun h => by cases h) (fun _ => ?_)
    refine pwp_skip <| pwp_seq <| kx [(6, (vi 0)), (15, (.ref 8 0))] [(8, some (bx (encBnd (RBnd.mk ((w : Nat) : Int) ((h : Nat) : Int) mx (bLow w h px) (bRight w h px) (bDown w h px) (bCorner w h px)))))] (zR (oLa sh24) <| zE (oCl (p_splO w h mx px hv0 (by omega) hc)) <| zM <| zE oEx <| zE oEx <| zN (oAl 8 ze44 zo44) <| zT (oSt sh44) <| zM <| zZ) ?_
    refine pwp_seq <| kx [(8, (vi 0)), (16, (.ref 9 0))] [(9, some (bx (encBnd (RBnd.mk ((w : Nat) : Int) ((h : Nat) : Int) (min (mx + ((255 : Nat) : Int)) ((65535 : Nat) : Int)) (bLow w h u) (bRight w h u) (bDown w h u) (bCorner w h u)))))] (zR (oLa sh24) <| zE (oCl (p_splO w h (min (mx + ((255 : Nat) : Int)) ((65535 : Nat) : Int)) u (by rw [hue]; exact chk_rstN hcu) (by omega) (by rw [hue]; exact hcu))) <| zM <| zE oEx <| zE oEx <| zN (oAl 9 ze44 zo44) <| zT (oSt sh44) <| zM <| zZ) ?_
    refine pwp_seq <| kx [(10, (vi 0)), (17, (.ref 10 0))] [(10, some (bx (encRst (RRst.mk ((w : Nat) : Int) ((h : Nat) : Int) (min (mx + ((255 : Nat) : Int)) ((65535 : Nat) : Int)) (smV w h u)))))] (zR (oLa sh24) <| zE (oCl (p_smo w h (min (mx + ((255 : Nat) : Int)) ((65535 : Nat) : Int)) u (by rw [hue]; exact chk_rstN hcu) (by omega) (by rw [hue]; exact hcu))) <| zM <| zE oEx <| zE oEx <| zN (oAl 10 ze24 zo24) <| zT (oSt sh24) <| zM <| zZ) ?_
    refine pwp_seq <| kx [(18, (.clo 20 [1]))] [] (zE (oMf [1]) <| zM <| zZ) ?_
    refine pwp_seq <| kd [(4, (vb true))] [] mo (wM <| wM <| wE (oAd 0 (hr := by decide)) <| wM <| wE (oAd 0 (hr := by decide)) <| wE (oBk true oEq) <| wM <| wM <| wE (oFr fo44_3) <| wR (oL1 sh22) <| wC (oCc (ds := [(.sl 3 1 (List.map enc_i64 (bLow w h px)))]) [1] [(Dat.cells (.val (.int .u8 (((q : Nat) : Int)))))] (p_plus (bLow w h px) q (by omega) ((bands_ok hv0).2.2.2.2.2.2.2.2.1.up (by decide)) ((bnd_len (m := 0) (bands_ok hv0)).1)) (avo_slF (by decide) (fun _ => .val _) _)) <| wE (oFr fo44_3) <| wR (oL1 sh22) <| wE (oBk true (oCl (p_eq ((bLow w h px).map (fun a => a + ((q : Nat) : Int))) (bLow w h u) (by rw [List.length_map]; exact (bnd_len (m := 0) (bands_ok hv0)).1))) (by exact beq_iff_eq.2 (by rw [hue]; exact (shift_bands w5 (R2.shift ((q : Nat) : Int) px)).1))) <| wE oPt <| wM <| wE (oFr fo44_4) <| wR (oL1 sh22) <| wE (oFr fo44_4) <| wR (oL1 sh22) <| wE (oBk true (oCl (p_eq (bRight w h px) (bRight w h u) ((bnd_len (m := 0) (bands_ok hv0)).2.1))) (by exact beq_iff_eq.2 (by rw [hue]; exact (shift_bands w5 (R2.shift ((q : Nat) : Int) px)).2.1))) <| wE oPt <| wM <| wE (oFr fo44_5) <| wR (oL1 sh22) <| wE (oFr fo44_5) <| wR (oL1 sh22) <| wE (oBk true (oCl (p_eq (bDown w h px) (bDown w h u) ((bnd_len (m := 0) (bands_ok hv0)).2.2.1))) (by exact beq_iff_eq.2 (by rw [hue]; exact (shift_bands w5 (R2.shift ((q : Nat) : Int) px)).2.2.1))) <| wE oPt <| wM <| wE (oFr fo44_6) <| wR (oL1 sh22) <| wE (oFr fo44_6) <| wR (oL1 sh22) <| wE (oBk true (oCl (p_eq (bCorner w h px) (bCorner w h u) ((bnd_len (m := 0) (bands_ok hv0)).2.2.2))) (by exact beq_iff_eq.2 (by rw [hue]; exact (shift_bands w5 (R2.shift ((q : Nat) : Int) px)).2.2.2))) <| wE oPt <| wM <| wM <| wE (oFr fo24_3) <| wR (oL1 sh22) <| wC (oCc (ds := [(.sl 3 1 (List.map enc_i64 (smV w h px)))]) [1] [(Dat.cells (.val (.int .u8 (((q : Nat) : Int)))))] (p_plus (smV w h px) q (by omega) ((smV_rst hv0 m1 m2 hp).1.2.2.2.2.2.up (by decide)) (by rw [smV_len]; omega)) (avo_slF (by decide) (fun _ => .val _) _)) <| wE (oFr fo24_3) <| wR (oL1 sh22) <| wE (oBk true (oCl (p_eq ((smV w h px).map (fun a => a + ((q : Nat) : Int))) (smV w h u) (by rw [List.length_map, smV_len]; omega))) (by exact beq_iff_eq.2 (by rw [hue]; exact shift_smooth hv0 (fun x hx => (hp x hx).1) (Int.natCast_nonneg q) (R2.shift _ px)))) <| wE oPt <| wM <| wZ) ?_
    refine pwp_ret ⟨_, (.tmp (d := (.val (.bool (true)))) rfl .nil), ?_⟩
    rfl
end Go.Proofs.Ytleidgohjckmlaa
namespace Go.Fid
set_option linter.unusedVariables false
set_option linter.unusedSimpArgs false
open Go.RowKit (Below)
mutual
inductive Ty where
  | int (k : IntKind)
  | bool
  | sl (E : TypeId) (s : Nat) (e : Ty)
  | st (fs : TyL)
  | ar (n : Nat) (E : TypeId) (fs : TyL)
inductive TyL where
  | nil
  | cons (t : TypeId) (ty : Ty) (r : TyL)
end
mutual
def Ty.size : Ty → Nat
  | .int _ => 1
  | .bool => 1
  | .sl _ _ _ => 1
  | .st fs => fs.size
  | .ar _ _ fs => fs.size
def TyL.size : TyL → Nat
  | .nil => 0
  | .cons _ ty r => ty.size + r.size
end
def fieldsB : List Field → Nat → TyL → Bool
  | [], _, .nil => true
  | f :: l, off, .cons t ty r => Nat.beq f.type t && (Nat.beq f.offset off && fieldsB l (off + ty.size) r)
  | _, _, _ => false
def arFs (E : TypeId) (z : Nat) : Nat → Nat → List Field
  | 0, _ => []
  | n + 1, i => { name := "", type := E, offset := i * z, embedded := false, tag := "", pkgPath := "", byteOffset := 0 } :: arFs E z n (i + 1)
theorem arFs_mem {E : TypeId} {z : Nat} : ∀ {n i : Nat} {f : Field}, f ∈ arFs E z n i → ∃ j, j < n ∧ f.type = E ∧ f.offset = (i + j) * z
  | 0, _, _, h => by cases h
  | n + 1, i, f, h => by
    rcases List.mem_cons.1 h with e | h
    · exact ⟨0, by omega, by rw [e], by rw [e]; rfl⟩
    · obtain ⟨j, h1, h2, h3⟩ := arFs_mem h
      exact ⟨j + 1, by omega, h2, by rw [h3]; congr 1; omega⟩
mutual
def tyB (P : Program) : TypeId → Ty → Bool
  | t, .int k => match P.underlying t with
    | some (.int k') => decide (k' = k)
    | _ => false
  | t, .bool => match P.underlying t with
    | some .bool => true
    | _ => false
  | t, .sl E s e => match P.underlying t with
    | some (.slice E') => Nat.beq E' E && (Nat.beq (P.cellsOf E) s && (Nat.beq e.size s && (Nat.ble 1 s && (Nat.ble 1 (P.bytesOf E) && tyB P E e))))
    | _ => false
  | t, .st fs => match P.underlying t with
    | some (.struct fds) => Nat.beq (P.cellsOf t) fs.size && (fieldsB fds.toList 0 fs && tysB P fs)
    | _ => false
  | t, .ar n E fs => match P.underlying t with
    | some (.array n' E') => Nat.beq n' n && (Nat.beq E' E && (Nat.beq (P.cellsOf t) fs.size && (fieldsB (arFs E (P.cellsOf E) n 0) 0 fs && tysB P fs)))
    | _ => false
def tysB (P : Program) : TyL → Bool
  | .nil => true
  | .cons t ty r => Nat.beq (P.cellsOf t) ty.size && (tyB P t ty && tysB P r)
end
def isSt : Ty → Bool
  | .st _ => true
  | .ar _ _ _ => true
  | _ => false
def mkD (ty : Ty) (ds : List Dat) : Dat := bif isSt ty then .agg ds else ds.headD (.tup [])
mutual
def Sh : Ty → List Dat → Prop
  | .int k, ds => ∃ z, ds = [.val (.int k z)] ∧ (Lit.int k z).wf = true
  | .bool, ds => ∃ b, ds = [.val (.bool b)]
  | .sl E s e, ds => ∃ es : List (List Dat), ds = [.sl E s (es.map (mkD e))] ∧ es.length ≤ 140737488355328 ∧ ∀ x ∈ es, Sh e x
  | .st fs, ds => ShL fs ds
  | .ar _ _ fs, ds => ShL fs ds
def ShL : TyL → List Dat → Prop
  | .nil, ds => ds = []
  | .cons _ ty r, ds => ∃ a b, ds = a ++ b ∧ Sh ty a ∧ ShL r b
end
mutual
theorem Sh.len : ∀ {ty : Ty} {ds : List Dat}, Sh ty ds → ds.length = ty.size
  | .int k, ds, h => by obtain ⟨z, rfl, _⟩ := h; rfl
  | .bool, ds, h => by obtain ⟨b, rfl⟩ := h; rfl
  | .sl E s e, ds, h => by obtain ⟨es, rfl, _⟩ := h; rfl
  | .st fs, ds, h => ShL.len (h : ShL fs ds)
  | .ar _ _ fs, ds, h => ShL.len (h : ShL fs ds)
theorem ShL.len : ∀ {fs : TyL} {ds : List Dat}, ShL fs ds → ds.length = fs.size
  | .nil, ds, h => by have h : ds = [] := h; subst h; rfl
  | .cons t ty r, ds, h => by
    obtain ⟨a, b, rfl, h1, h2⟩ := h
    rw [List.length_append, Sh.len h1, ShL.len h2]; rfl
end
theorem mkD_cells {ty : Ty} {ds : List Dat} (h : Sh ty ds) : (mkD ty ds).cells = ds := by
  cases ty with
  | int k => obtain ⟨z, rfl, _⟩ := h; rfl
  | bool => obtain ⟨b, rfl⟩ := h; rfl
  | sl E s e => obtain ⟨es, rfl, _⟩ := h; rfl
  | st fs => rfl
  | ar n E fs => rfl
def oldD (w : World) : DSet := fun _ g _ => g < w.heap.size
def RepC (w : World) (cs : List Value) (ds : List Dat) : Prop := ds.length = cs.length ∧ (∀ v ∈ cs, v.oneCell' = true) ∧ ∀ (i : Nat) v d, cs[i]? = some v → ds[i]? = some d → Rep w (oldD w) v d
theorem RepC.append {w : World} {cs1 cs2 : List Value} {d1 d2 : List Dat} (h1 : RepC w cs1 d1) (h2 : RepC w cs2 d2) : RepC w (cs1 ++ cs2) (d1 ++ d2) := by
  refine ⟨by rw [List.length_append, List.length_append, h1.1, h2.1], fun v hv => ?_, fun i v d hv hd => ?_⟩
  · rcases List.mem_append.1 hv with h | h
    · exact h1.2.1 v h
    · exact h2.2.1 v h
  · by_cases hi : i < cs1.length
    · rw [List.getElem?_append_left hi] at hv
      rw [List.getElem?_append_left (by rw [h1.1]; exact hi)] at hd
      exact h1.2.2 i v d hv hd
    · rw [List.getElem?_append_right (by omega)] at hv
      rw [List.getElem?_append_right (by rw [h1.1]; omega), h1.1] at hd
      exact h2.2.2 _ v d hv hd
section
variable {H : Type} {enc : TypeId × Value → H} {P : Program} {w : World} {sp : Nat → Bool} {held : Bool}
theorem weightsAll_mem {e : TypeId} : ∀ {l : List (DataW H)} {d : DataW H}, d ∈ l → ∀ {n : Nat}, n ∈ d.weights P e → n ∈ DataW.weightsAll P e l
  | [], _, h, _, _ => by cases h
  | x :: l, d, h, n, hn => by
    simp only [DataW.weightsAll]
    rcases List.mem_cons.1 h with rfl | h
    · exact List.mem_append_left _ hn
    · exact List.mem_append_right _ (weightsAll_mem h hn)
theorem cells_get {a : Addr} {n : Nat} {cs : List Value} (h : w.cells? 0 a n = some cs) : cs.length = n ∧ ∀ i, i < n → w.cell? (a.add i) = cs[i]? := by
  unfold World.cells? at h
  rw [if_pos (Nat.zero_le _)] at h
  refine ⟨by simpa using mapM_some_length h, fun i hi => ?_⟩
  have := mapM_some_get h i i (by simp [hi])
  exact this
theorem drop_take_split {α : Type} {cs : List α} {off n m : Nat} (h : cs.length = off + (n + m)) : cs.drop off = (cs.drop off).take n ++ cs.drop (off + n) := by
  rw [← List.drop_drop, List.take_append_drop]
mutual
theorem bridge : ∀ {ty : Ty} {t : TypeId} {fuel : Nat} {cs : List Value} {x : DataW H × List MemPlace}, tyB P t ty = true → DataW.trod enc P w 0 sp held fuel t cs = some x → (∀ n ∈ x.1.weights P t, n ≤ reachBytes) → ∃ ds, RepC w cs ds ∧ Sh ty ds
  | .int k, t, fuel, cs, x, ht, h, _ => by
    unfold tyB at ht
    split at ht
    · rename_i k' hu
      obtain rfl : k' = k := of_decide_eq_true ht
      obtain ⟨n, rfl, _, hw⟩ := DataW.trod_int hu h
      refine ⟨[.val (.int k' n)], ⟨rfl, by simp [Value.oneCell'], fun i v d hv hd => ?_⟩, n, rfl, hw⟩
      rcases i with _ | i
      · simp at hv hd; subst hv; subst hd; exact .val _
      · simp at hv
    · cases ht
  | .bool, t, fuel, cs, x, ht, h, _ => by
    unfold tyB at ht
    split at ht
    · rename_i hu
      obtain ⟨b, rfl, _⟩ := DataW.trod_bool hu h
      refine ⟨[.val (.bool b)], ⟨rfl, by simp [Value.oneCell'], fun i v d hv hd => ?_⟩, b, rfl⟩
      rcases i with _ | i
      · simp at hv hd; subst hv; subst hd; exact .val _
      · simp at hv
    · cases ht
  | .sl E s e, t, fuel, cs, x, ht, h, hwt => by
    unfold tyB at ht
    split at ht
    · rename_i E' hu
      simp only [Bool.and_eq_true] at ht
      obtain ⟨h1, h2, h3, h4, h6, h5⟩ := ht
      obtain rfl : E' = E := Nat.eq_of_beq_eq_true h1
      have hs : P.cellsOf E' = s := Nat.eq_of_beq_eq_true h2
      have hes : e.size = s := Nat.eq_of_beq_eq_true h3
      have hs1 : 1 ≤ s := Nat.le_of_ble_eq_true h4
      have one : ∀ v : Value, v.oneCell' = true → ∀ d, Rep w (oldD w) v d → RepC w [v] [d] := fun v h1 d h2 => ⟨rfl, by simpa using h1, fun i v' d' hv hd => by
        rcases i with _ | i
        · simp at hv hd; subst hv; subst hd; exact h2
        · simp at hv⟩
      rcases DataW.trod_slice hu h with ⟨rfl, _⟩ | ⟨a, len, cap, elems, rest, n, _, rfl, hx, _, hl, hm, hlen, hel, _⟩
      · exact ⟨[.sl E' s []], one _ rfl _ (rep_nil w _ E' s), [], rfl, Nat.zero_le _, by simp⟩
      · have hws : ∀ n ∈ (elems.length + rest.length) * P.bytesOf E' :: (DataW.weightsAll P E' (elems.map (·.1)) ++ DataW.weightsAll P E' (rest.map (·.1))), n ≤ reachBytes := by
          intro n hn
          refine hwt n ?_
          rw [hx]
          simp only [DataW.weights, hu, List.length_map]
          exact hn
        have hlen47 : len ≤ 140737488355328 := by
          have h7 := hws _ (List.mem_cons_self)
          have h8 : 1 ≤ P.bytesOf E' := Nat.le_of_ble_eq_true h6
          have h9 := Nat.mul_le_mul_left (elems.length + rest.length) h8
          have h10 := reachBytes_lt
          omega
        have each : ∀ i, ∃ d : List Dat × List Value, i < len → (d.2.length = s ∧ (∀ j, j < s → w.cell? ((a.add (i * s)).add j) = d.2[j]?) ∧ RepC w d.2 d.1 ∧ Sh e d.1) := by
          intro i
          by_cases hi : i < len
          · have he := hel i hi
            rw [List.getElem?_eq_getElem (by omega), hs] at he
            cases hc : w.cells? 0 (a.add (i * s)) s with
            | none => rw [hc] at he; cases he
            | some ci =>
              rw [hc] at he
              obtain ⟨g1, g2⟩ := cells_get hc
              have hmem : elems[i] ∈ elems := List.getElem_mem _
              obtain ⟨ds, r1, r2⟩ := bridge (ty := e) h5 he (fun n hn => hws n (by
                refine List.mem_cons_of_mem _ (List.mem_append_left _ ?_)
                exact weightsAll_mem (List.mem_map_of_mem (f := (·.1)) hmem) hn))
              exact ⟨(ds, ci), fun _ => ⟨g1, g2, r1, r2⟩⟩
          · exact ⟨([], []), fun h => absurd h hi⟩
        obtain ⟨F, hF⟩ := Classical.axiomOfChoice each
        have hspot : 0 < len → a = ⟨a.block, a.off, none⟩ ∧ a.block < w.heap.size := by
          intro h0
          obtain ⟨q1, q2, _, _⟩ := hF 0 h0
          have q3 := q2 0 (by omega)
          rw [List.getElem?_eq_getElem (by omega)] at q3
          obtain ⟨b, o, sp'⟩ := a
          cases sp' with
          | none =>
            refine ⟨rfl, ?_⟩
            unfold World.cell? at q3
            split at q3
            · rename_i c _ _ hh
              simpa [Addr.add] using (Array.getElem?_eq_some_iff.1 hh).1
            · cases q3
          | some z =>
            exfalso
            unfold World.cell? at q3
            split at q3
            · simp [Addr.add] at q3
            · cases q3
        have hesl : ∀ d ∈ ((List.range len).map fun i => mkD e (F i).1), d.cells.length = s := by
          intro d hd
          rw [List.mem_map] at hd
          obtain ⟨i, hi, rfl⟩ := hd
          obtain ⟨q1, q2, q3, q4⟩ := hF i (by simpa using hi)
          rw [mkD_cells q4, Sh.len q4, hes]
        have hfl := flat_length hesl
        rw [List.length_map, List.length_range] at hfl
        have hget : ∀ q, q < len * s → ∃ u d, w.cell? (a.add q) = some u ∧ (flat ((List.range len).map fun i => mkD e (F i).1))[q]? = some d ∧ u.oneCell' = true ∧ Rep w (oldD w) u d := by
          intro q hq
          have hi : q / s < len := (Nat.div_lt_iff_lt_mul (by omega)).2 hq
          have hj : q % s < s := Nat.mod_lt _ (by omega)
          have hqe : q / s * s + q % s = q := by rw [Nat.mul_comm]; exact Nat.div_add_mod q s
          obtain ⟨q1, q2, q3, q4⟩ := hF (q / s) hi
          have c1 := q2 (q % s) hj
          have c2 : ((a.add (q / s * s)).add (q % s)) = a.add q := by
            rw [(hspot (Nat.lt_of_le_of_lt (Nat.zero_le _) hi)).1, Addr.add_lit, Addr.add_lit, Addr.add_lit, Nat.add_assoc, hqe]
          have hlen1 : (F (q / s)).1.length = s := by rw [q3.1, q1]
          have c4 : (F (q / s)).1[q % s]? = some ((F (q / s)).1[q % s]'(by rw [hlen1]; exact hj)) := List.getElem?_eq_getElem _
          have c5 : (F (q / s)).2[q % s]? = some ((F (q / s)).2[q % s]'(by rw [q1]; exact hj)) := List.getElem?_eq_getElem _
          rw [c2, c5] at c1
          have c3 := flat_get (es := (List.range len).map fun i => mkD e (F i).1) (i := q / s) (j := q % s) (e := mkD e (F (q / s)).1) hesl (by rw [List.getElem?_map, List.getElem?_range hi]; rfl) hj
          rw [hqe, mkD_cells q4, c4] at c3
          exact ⟨_, _, c1, c3, q3.2.1 _ (List.getElem_mem _), q3.2.2 (q % s) _ _ c5 c4⟩
        refine ⟨[.sl E' s ((List.range len).map fun i => mkD e (F i).1)], one _ rfl _ ?_, (List.range len).map fun i => (F i).1, ?_, by simpa using hlen47, ?_⟩
        · rcases Nat.eq_zero_or_pos len with h0 | h0
          · subst h0
            exact Rep.sl 0 0 (fun _ => undef) (by simp) hl hm (by simp) (fun h => absurd h (Nat.lt_irrefl 0)) (by simp [flat]) (by simp [flat]) (by simp [flat]) (by simp [flat])
          · obtain ⟨ha, hb⟩ := hspot h0
            refine Rep.sl a.block a.off (fun q => (w.cell? (a.add q)).getD undef) (by simp) hl hm hesl (fun _ => congrArg some ha) (fun q hq => hb) (fun q hq => ?_) (fun q hq => ?_) (fun q d hd => ?_)
            · obtain ⟨u, d, g1, _, _, _⟩ := hget q (by omega)
              have e1 : a.add q = ⟨a.block, a.off + q, none⟩ := by rw [ha, Addr.add_lit]
              rw [← e1, g1]; rfl
            · obtain ⟨u, d, g1, _, g3, _⟩ := hget q (by omega)
              rw [g1]; exact g3
            · have hq := (List.getElem?_eq_some_iff.1 hd).1
              obtain ⟨u, d', g1, g2, _, g4⟩ := hget q (by omega)
              rw [hd] at g2
              injection g2 with g2
              subst g2
              rw [g1]; exact g4
        · rw [List.map_map]; rfl
        · intro y hy
          rw [List.mem_map] at hy
          obtain ⟨i, hi, rfl⟩ := hy
          exact (hF i (by simpa using hi)).2.2.2
    · cases ht
  | .st fs, t, fuel, cs, x, ht, h, hwt => by
    unfold tyB at ht
    split at ht
    · rename_i fds hu
      simp only [Bool.and_eq_true] at ht
      obtain ⟨h1, h2, h3⟩ := ht
      obtain ⟨xs, n, _, hx, hl, hxl, hf⟩ := DataW.trod_struct hu h
      have hcl : cs.length = 0 + fs.size := by rw [hl, Nat.eq_of_beq_eq_true h1, Nat.zero_add]
      have key := bridgeL (fs := fs) (off := 0) (cs := cs) (l := fds.toList) (n := n) h2 h3 hcl (fun f hfm => by
        obtain ⟨i, hi⟩ := List.getElem?_of_mem hfm
        have := hf i f (by simpa using hi)
        have hlt : i < xs.length := by
          have := (List.getElem?_eq_some_iff.1 hi).1
          simp at this; omega
        rw [List.getElem?_eq_getElem hlt] at this
        refine ⟨_, this, fun m hm => hwt m ?_⟩
        rw [hx]
        simp only [DataW.weights, hu]
        exact DataW.weights_mem_each (j := i) (by rw [List.getElem?_map, hi]; rfl) (by rw [List.getElem?_map, List.getElem?_eq_getElem hlt]; rfl) m hm)
      rw [List.drop_zero] at key
      exact key
    · cases ht
  | .ar k E fs, t, fuel, cs, x, ht, h, hwt => by
    unfold tyB at ht
    split at ht
    · rename_i k' E' hu
      simp only [Bool.and_eq_true] at ht
      obtain ⟨h0, h1, h4, h2, h3⟩ := ht
      obtain rfl : k' = k := Nat.eq_of_beq_eq_true h0
      obtain rfl : E' = E := Nat.eq_of_beq_eq_true h1
      obtain ⟨xs, n, _, hx, hl, hxl, hf⟩ := DataW.trod_array hu h
      have hcl : cs.length = 0 + fs.size := by rw [hl, Nat.eq_of_beq_eq_true h4, Nat.zero_add]
      have key := bridgeL (fs := fs) (off := 0) (cs := cs) (l := arFs E' (P.cellsOf E') k' 0) (n := n) h2 h3 hcl (fun f hfm => by
        obtain ⟨j, hj, ft, fo⟩ := arFs_mem hfm
        have := hf j hj
        have hlt : j < xs.length := by omega
        rw [List.getElem?_eq_getElem hlt] at this
        refine ⟨xs[j], ?_, fun m hm => hwt m ?_⟩
        · rw [ft, fo, Nat.zero_add]; exact this
        · rw [hx]
          simp only [DataW.weights, hu]
          rw [ft] at hm
          exact weightsAll_mem (List.mem_map_of_mem (f := (·.1)) (List.getElem_mem hlt)) hm)
      rw [List.drop_zero] at key
      exact key
    · cases ht
theorem bridgeL : ∀ {fs : TyL} {l : List Field} {off n : Nat} {cs : List Value}, fieldsB l off fs = true → tysB P fs = true → cs.length = off + fs.size → (∀ f ∈ l, ∃ y, DataW.trod enc P w 0 sp held n f.type ((cs.drop f.offset).take (P.cellsOf f.type)) = some y ∧ ∀ m ∈ y.1.weights P f.type, m ≤ reachBytes) →
    ∃ ds, RepC w (cs.drop off) ds ∧ ShL fs ds
  | .nil, l, off, n, cs, h1, h2, h3, h4 => by
    have : cs.drop off = [] := List.drop_eq_nil_of_le (by rw [h3]; exact Nat.le_refl _)
    rw [this]
    exact ⟨[], ⟨rfl, by simp, by simp⟩, rfl⟩
  | .cons t ty r, l, off, n, cs, h1, h2, h3, h4 => by
    cases l with
    | nil => cases h1
    | cons f l =>
      simp only [fieldsB, Bool.and_eq_true] at h1
      obtain ⟨e1, e2, e3⟩ := h1
      simp only [tysB, Bool.and_eq_true] at h2
      obtain ⟨f1, f2, f3⟩ := h2
      have et := Nat.eq_of_beq_eq_true e1
      have eo := Nat.eq_of_beq_eq_true e2
      have ec := Nat.eq_of_beq_eq_true f1
      obtain ⟨y, hy, hyw⟩ := h4 f (by simp)
      rw [et, eo, ec] at hy
      rw [et] at hyw
      obtain ⟨d1, r1, s1⟩ := bridge (ty := ty) f2 hy hyw
      have h3' : cs.length = off + ty.size + r.size := by rw [h3]; show off + (ty.size + r.size) = _; omega
      obtain ⟨d2, r2, s2⟩ := bridgeL (fs := r) (off := off + ty.size) (cs := cs) (l := l) (n := n) e3 f3 h3' (fun g hg => h4 g (by simp [hg]))
      refine ⟨d1 ++ d2, ?_, d1, d2, rfl, s1, s2⟩
      rw [drop_take_split (cs := cs) (off := off) (n := ty.size) (m := r.size) (by omega)]
      exact r1.append r2
end
theorem open_arg {ty : Ty} {t : TypeId} {v : Value} {d : DataW H} {p : List MemPlace} (hty : tyB P t ty = true) (hv : isSt ty = true → ∃ cs, v = .agg cs) (hv1 : isSt ty = false → v.cells = #[v]) (h : DataW.Trod enc P w 0 sp held t v d p) (hwt : ∀ n ∈ d.weights P t, n ≤ reachBytes) :
    ∃ ds, Rep w (oldD w) v (mkD ty ds) ∧ Sh ty ds := by
  obtain ⟨fuel, hf⟩ := h
  obtain ⟨ds, hr, hs⟩ := bridge (ty := ty) hty hf hwt
  refine ⟨ds, ?_, hs⟩
  cases hst : isSt ty with
  | true =>
    obtain ⟨cs, rfl⟩ := hv hst
    have e : mkD ty ds = .agg ds := by unfold mkD; rw [hst]; rfl
    rw [e]
    have := Rep.agg (w := w) (D := oldD w) (cs := ds) cs.toList hr.1.symm hr.2.1 hr.2.2
    simpa using this
  | false =>
    have hv2 := hv1 hst
    have hc := hr.1
    rw [hv2] at hr
    simp only [Array.toList] at hr
    obtain ⟨h1, h2, h3⟩ := hr
    have hl : ds.length = 1 := by simpa using h1
    obtain ⟨d0, rfl⟩ := List.length_eq_one_iff.1 hl
    have e : mkD ty [d0] = d0 := by unfold mkD; rw [hst]; rfl
    rw [e]
    exact h3 0 v d0 rfl rfl
end
theorem oldD_ok (w : World) : DOk (oldD w) w := fun _ _ _ h => h
end Go.Fid
