/-
  Functions walked: each takes its data to what is said. Printed by a program of ours.
-/
import Derived.Test.YtadkkhdnccljcaaGreatLeafA
import Derived.Test.YtadkkhdnccljcaaGreatBack
namespace Go.Proofs.YtadkkhdnccljcaaGreat
open Go.Fid
set_option maxRecDepth 4000
set_option linter.unusedVariables false
set_option linter.unusedSimpArgs false
theorem cb126 : callB Tryz.prog 126 = true := by kernel_rfl
theorem cb127 : callB Tryz.prog 127 = true := by kernel_rfl
theorem cb156 : callB Tryz.prog 156 = true := by kernel_rfl
theorem cb157 : callB Tryz.prog 157 = true := by kernel_rfl
theorem cb160 : callB Tryz.prog 160 = true := by kernel_rfl
theorem cb165 : callB Tryz.prog 165 = true := by kernel_rfl
theorem cb166 : callB Tryz.prog 166 = true := by kernel_rfl
theorem cb167 : callB Tryz.prog 167 = true := by kernel_rfl
theorem cb170 : callB Tryz.prog 170 = true := by kernel_rfl
theorem pl30 : placesB Tryz.prog 30 = some [(0, 1), (1, 1)] := by kernel_rfl
theorem sh3 : shapeB Tryz.prog 3 = some (false, 1) := by kernel_rfl
theorem sh28 : shapeB Tryz.prog 28 = some (false, 1) := by kernel_rfl
theorem sh30 : shapeB Tryz.prog 30 = some (true, 2) := by kernel_rfl
theorem sh140 : shapeB Tryz.prog 140 = some (false, 1) := by kernel_rfl
theorem ze3 : zeroB Tryz.prog 3 = some [.int .i64 0] := by kernel_rfl
theorem ze30 : zeroB Tryz.prog 30 = some [.bool false, .slice none 0 0] := by kernel_rfl
theorem ze140 : zeroB Tryz.prog 140 = some [.int .u64 0] := by kernel_rfl
theorem zo3 : ZOk [.int .i64 0] [.val (.int .i64 0)] := by simp [ZOk, Value.oneCell']
theorem zo30 : ZOk [.bool false, .slice none 0 0] [.val (.bool false), .sl 138 1 []] := by simp [ZOk, Value.oneCell']
theorem zo140 : ZOk [.int .u64 0] [.val (.int .u64 0)] := by simp [ZOk, Value.oneCell']
theorem t_isnan_int (a : Int) : Takes Tryz.prog 165 [(.val (.int .i64 (a)))] (.val (.bool (false))) := by
  refine fn_intro Tryz.func165 rfl cb165 rfl ?_
  show PWp _ _ _ _ ⟨[(0, (vi a))], []⟩
  refine pwp_seq <| pwp_S (S' := [(0, (vi a))]) (B' := []) ?_ ?_
  · exact sM (vb false) rfl rfl <| sNil rfl rfl
  refine pwp_seq <| pwp_S (S' := [(2, (vb (a != a)))]) (B' := []) ?_ ?_
  · exact sM (vi a) rfl rfl <| sM (vi a) rfl rfl <| sE' (e_neq rfl rfl rfl) rfl <| sM (vb (a != a)) rfl rfl <| sNil rfl rfl
  refine pwp_ret ⟨_, (.tmp (d := (.val (.bool ((a != a))))) rfl .nil), ?_⟩
  simp [retD]
theorem t_cmp_int (a b : Int) : Takes Tryz.prog 156 [(.val (.int .i64 (a))), (.val (.int .i64 (b)))] (.val (.int .i64 ((cmpI a b)))) := by
  refine fn_intro Tryz.func156 rfl cb156 rfl ?_
  show PWp _ _ _ _ ⟨[(0, (vi a)), (1, (vi b))], []⟩
  refine pwp_seq <| pwp_S (S' := [(0, (vi a)), (1, (vi b))]) (B' := []) ?_ ?_
  · exact sM (vin 0) rfl rfl <| sNil rfl rfl
  refine pwp_seq <| pwp_S (S' := [(0, (vi a)), (1, (vi b)), (5, (vb false))]) (B' := []) ?_ ?_
  · exact sM (vi a) rfl rfl <| sE' (e_cl (t_isnan_int a) rfl rfl rfl) rfl <| sM (vb false) rfl rfl <| sNil rfl rfl
  refine pwp_seq <| pwp_S (S' := [(0, (vi a)), (1, (vi b)), (5, (vb false)), (6, (vb false))]) (B' := []) ?_ ?_
  · exact sM (vi b) rfl rfl <| sE' (e_cl (t_isnan_int b) rfl rfl rfl) rfl <| sM (vb false) rfl rfl <| sNil rfl rfl
  refine pwp_seq <| pwp_seq <| pwp_S (S' := [(0, (vi a)), (1, (vi b)), (6, (vb false)), (11, (vb false))]) (B' := []) ?_ ?_
  · exact sM (vb false) rfl rfl <| sNil rfl rfl
  refine pwp_cond (b := false) rfl (fun h => by cases h) (fun _ => ?_)
  refine pwp_skip <| pwp_seq <| pwp_seq <| pwp_S (S' := [(0, (vi a)), (1, (vi b)), (13, (vb false))]) (B' := []) ?_ ?_
  · exact sM (vb false) rfl rfl <| sNil rfl rfl
  refine pwp_cond (b := false) rfl (fun h => by cases h) (fun _ => ?_)
  refine pwp_skip <| pwp_seq <| pwp_seq <| pwp_S (S' := [(0, (vi a)), (1, (vi b)), (16, (vb (decide (a < b))))]) (B' := []) ?_ ?_
  · exact sM (vi a) rfl rfl <| sM (vi b) rfl rfl <| sE' (e_lss rfl rfl rfl) rfl <| sNil rfl rfl
  refine pwp_cond (b := decide (a < b)) rfl (fun h1 => ?_) (fun h1 => ?_)
  · replace h1 := of_decide_eq_true h1
    refine pwp_seq <| pwp_S (S' := [(4, (vi (-1)))]) (B' := []) ?_ ?_
    · exact sM (vi (-1)) rfl rfl <| sNil rfl rfl
    refine pwp_ret ⟨_, (.tmp (d := (.val (.int .i64 (-1)))) rfl .nil), ?_⟩
    rw [show cmpI a b = -1 from if_pos h1]; rfl
  · replace h1 := of_decide_eq_false h1
    refine pwp_skip <| pwp_seq <| pwp_seq <| pwp_S (S' := [(19, (vb (decide (b < a))))]) (B' := []) ?_ ?_
    · exact sM (vi a) rfl rfl <| sM (vi b) rfl rfl <| sE' (e_gtr rfl rfl rfl) rfl <| sNil rfl rfl
    refine pwp_cond (b := decide (b < a)) rfl (fun h2 => ?_) (fun h2 => ?_)
    · replace h2 := of_decide_eq_true h2
      refine pwp_seq <| pwp_S (S' := [(4, (vin 1))]) (B' := []) ?_ ?_
      · exact sM (vin 1) rfl rfl <| sNil rfl rfl
      refine pwp_ret ⟨_, (.tmp (d := (.val (.int .i64 (1)))) rfl .nil), ?_⟩
      rw [cmpI_gt h2]; rfl
    · replace h2 := of_decide_eq_false h2
      refine pwp_skip <| pwp_seq <| pwp_S (S' := [(4, (vin 0))]) (B' := []) ?_ ?_
      · exact sM (vin 0) rfl rfl <| sNil rfl rfl
      refine pwp_ret ⟨_, (.tmp (d := (.val (.int .i64 (0)))) rfl .nil), ?_⟩
      rw [cmpI_eq h1 h2]; rfl
theorem t_isnan_uint32 (a : Nat) : Takes Tryz.prog 170 [(.val (.int .u32 (((a : Nat) : Int))))] (.val (.bool (false))) := by
  refine fn_intro Tryz.func170 rfl cb170 rfl ?_
  show PWp _ _ _ _ ⟨[(0, (vwn a))], []⟩
  refine pwp_seq <| pwp_S (S' := [(0, (vwn a))]) (B' := []) ?_ ?_
  · exact sM (vb false) rfl rfl <| sNil rfl rfl
  refine pwp_seq <| pwp_S (S' := [(2, (vb (((a : Nat) : Int) != ((a : Nat) : Int))))]) (B' := []) ?_ ?_
  · exact sM (vwn a) rfl rfl <| sM (vwn a) rfl rfl <| sE' (e_neq rfl rfl rfl) rfl <| sM (vb (((a : Nat) : Int) != ((a : Nat) : Int))) rfl rfl <| sNil rfl rfl
  refine pwp_ret ⟨_, (.tmp (d := (.val (.bool ((((a : Nat) : Int) != ((a : Nat) : Int)))))) rfl .nil), ?_⟩
  simp [retD]
theorem t_cmp_uint32 (a b : Nat) : Takes Tryz.prog 167 [(.val (.int .u32 (((a : Nat) : Int)))), (.val (.int .u32 (((b : Nat) : Int))))] (.val (.int .i64 ((cmpI ((a : Nat) : Int) ((b : Nat) : Int))))) := by
  refine fn_intro Tryz.func167 rfl cb167 rfl ?_
  show PWp _ _ _ _ ⟨[(0, (vwn a)), (1, (vwn b))], []⟩
  refine pwp_seq <| pwp_S (S' := [(0, (vwn a)), (1, (vwn b))]) (B' := []) ?_ ?_
  · exact sM (vin 0) rfl rfl <| sNil rfl rfl
  refine pwp_seq <| pwp_S (S' := [(0, (vwn a)), (1, (vwn b)), (5, (vb false))]) (B' := []) ?_ ?_
  · exact sM (vwn a) rfl rfl <| sE' (e_cl (t_isnan_uint32 a) rfl rfl rfl) rfl <| sM (vb false) rfl rfl <| sNil rfl rfl
  refine pwp_seq <| pwp_S (S' := [(0, (vwn a)), (1, (vwn b)), (5, (vb false)), (6, (vb false))]) (B' := []) ?_ ?_
  · exact sM (vwn b) rfl rfl <| sE' (e_cl (t_isnan_uint32 b) rfl rfl rfl) rfl <| sM (vb false) rfl rfl <| sNil rfl rfl
  refine pwp_seq <| pwp_seq <| pwp_S (S' := [(0, (vwn a)), (1, (vwn b)), (6, (vb false)), (11, (vb false))]) (B' := []) ?_ ?_
  · exact sM (vb false) rfl rfl <| sNil rfl rfl
  refine pwp_cond (b := false) rfl (fun h => by cases h) (fun _ => ?_)
  refine pwp_skip <| pwp_seq <| pwp_seq <| pwp_S (S' := [(0, (vwn a)), (1, (vwn b)), (13, (vb false))]) (B' := []) ?_ ?_
  · exact sM (vb false) rfl rfl <| sNil rfl rfl
  refine pwp_cond (b := false) rfl (fun h => by cases h) (fun _ => ?_)
  refine pwp_skip <| pwp_seq <| pwp_seq <| pwp_S (S' := [(0, (vwn a)), (1, (vwn b)), (16, (vb (decide (((a : Nat) : Int) < ((b : Nat) : Int)))))]) (B' := []) ?_ ?_
  · exact sM (vwn a) rfl rfl <| sM (vwn b) rfl rfl <| sE' (e_lss rfl rfl rfl) rfl <| sNil rfl rfl
  refine pwp_cond (b := decide (((a : Nat) : Int) < ((b : Nat) : Int))) rfl (fun h1 => ?_) (fun h1 => ?_)
  · replace h1 := of_decide_eq_true h1
    refine pwp_seq <| pwp_S (S' := [(4, (vi (-1)))]) (B' := []) ?_ ?_
    · exact sM (vi (-1)) rfl rfl <| sNil rfl rfl
    refine pwp_ret ⟨_, (.tmp (d := (.val (.int .i64 (-1)))) rfl .nil), ?_⟩
    rw [show cmpI ((a : Nat) : Int) ((b : Nat) : Int) = -1 from if_pos h1]; rfl
  · replace h1 := of_decide_eq_false h1
    refine pwp_skip <| pwp_seq <| pwp_seq <| pwp_S (S' := [(19, (vb (decide (((b : Nat) : Int) < ((a : Nat) : Int)))))]) (B' := []) ?_ ?_
    · exact sM (vwn a) rfl rfl <| sM (vwn b) rfl rfl <| sE' (e_gtr rfl rfl rfl) rfl <| sNil rfl rfl
    refine pwp_cond (b := decide (((b : Nat) : Int) < ((a : Nat) : Int))) rfl (fun h2 => ?_) (fun h2 => ?_)
    · replace h2 := of_decide_eq_true h2
      refine pwp_seq <| pwp_S (S' := [(4, (vin 1))]) (B' := []) ?_ ?_
      · exact sM (vin 1) rfl rfl <| sNil rfl rfl
      refine pwp_ret ⟨_, (.tmp (d := (.val (.int .i64 (1)))) rfl .nil), ?_⟩
      rw [cmpI_gt h2]; rfl
    · replace h2 := of_decide_eq_false h2
      refine pwp_skip <| pwp_seq <| pwp_S (S' := [(4, (vin 0))]) (B' := []) ?_ ?_
      · exact sM (vin 0) rfl rfl <| sNil rfl rfl
      refine pwp_ret ⟨_, (.tmp (d := (.val (.int .i64 (0)))) rfl .nil), ?_⟩
      rw [cmpI_eq h1 h2]; rfl
theorem t_made (neg : Bool) (l : List Nat) (hd : Dig l) (hb : l.length ≤ 17592186044416) : Takes Tryz.prog 126 [(.val (.bool (neg))), (.sl 138 1 (List.map enc_u32 l))] (encI (mkI neg (val l))) := by
  refine fn_intro Tryz.func126 rfl cb126 rfl ?_
  show PWp _ _ _ _ ⟨[(0, (vb neg)), (1, (vl 138 1 enc_u32 l))], []⟩
  refine pwp_seq <| pwp_S (S' := [(0, (vb neg)), (1, (vl 138 1 enc_u32 l)), (4, (.ref 0 0))]) (B' := [(0, some (bx (encI (RInt.mk false []))))]) ?_ ?_
  · exact sN (n_al (cs := (bx (encI (RInt.mk false [])))) 0 rfl ze30 zo30 rfl) rfl rfl rfl rfl <| sNil rfl rfl
  refine pwp_seq <| pwp_S (S' := [(0, (vb neg)), (1, (vl 138 1 enc_u32 (ofNat (val l)))), (4, (.ref 0 0))]) (B' := [(0, some (bx (encI (RInt.mk false []))))]) ?_ ?_
  · exact sM (vl 138 1 enc_u32 l) rfl rfl <| sE' (e_cl (t_trim l (by assumption) (by omega)) rfl rfl rfl) rfl <| sM (vl 138 1 enc_u32 (ofNat (val l))) rfl rfl <| sNil rfl rfl
  refine pwp_seq <| pwp_seq <| pwp_S (S' := [(0, (vb neg)), (1, (vl 138 1 enc_u32 (ofNat (val l)))), (4, (.ref 0 0)), (9, (vb ((((ofNat (val l)).length : Nat) : Int) == 0)))]) (B' := [(0, some (bx (encI (RInt.mk false []))))]) ?_ ?_
  · exact sM (vl 138 1 enc_u32 (ofNat (val l))) rfl rfl <| sE' (e_ln (r := (((ofNat (val l)).length : Nat) : Int)) rfl el28 rfl (by simp)) rfl <| sE' (e_eql rfl rfl rfl) rfl <| sNil rfl rfl
  refine pwp_cond (b := ((((ofNat (val l)).length : Nat) : Int) == 0)) rfl (fun h1 => ?_) (fun h1 => ?_)
  · replace h1 := eq_of_beq h1
    refine pwp_seq <| pwp_S (S' := [(4, (.ref 0 0))]) (B' := [(0, some (bx (encI (RInt.mk false []))))]) ?_ ?_
    · exact sE' (e_bld (pd := []) (y := (encI (RInt.mk false []))) rfl pl30 ze30 zo30 rfl rfl rfl rfl) rfl <| sT (t_std (d := (encI (RInt.mk false []))) (cs := (bx (encI (RInt.mk false [])))) rfl rfl rfl sh30 rfl rfl rfl rfl) rfl rfl rfl <| sNil rfl rfl
    refine pwp_ret ⟨_, (res_a (cs := (bx (encI (RInt.mk false [])))) (d := (encI (RInt.mk false []))) rfl rfl sh30 rfl rfl .nil), ?_⟩
    rw [mkI_zero h1]; rfl
  · replace h1 := ne_of_beq_false h1
    refine pwp_skip <| pwp_seq <| pwp_S (S' := [(4, (.ref 0 0))]) (B' := [(0, some (bx (encI (RInt.mk neg (ofNat (val l))))))]) ?_ ?_
    · exact sM (vb neg) rfl rfl <| sM (vl 138 1 enc_u32 (ofNat (val l))) rfl rfl <| sE' (e_bld (pd := [(0, (.val (.bool (neg)))), (1, (.sl 138 1 (List.map enc_u32 (ofNat (val l)))))]) (y := (encI (RInt.mk neg (ofNat (val l))))) rfl pl30 ze30 zo30 rfl rfl rfl rfl) rfl <| sT (t_std (d := (encI (RInt.mk neg (ofNat (val l))))) (cs := (bx (encI (RInt.mk neg (ofNat (val l)))))) rfl rfl rfl sh30 rfl rfl rfl rfl) rfl rfl rfl <| sNil rfl rfl
    refine pwp_ret ⟨_, (res_a (cs := (bx (encI (RInt.mk neg (ofNat (val l)))))) (d := (encI (RInt.mk neg (ofNat (val l))))) rfl rfl sh30 rfl rfl .nil), ?_⟩
    rw [mkI_pos h1]; rfl
theorem t_word (l : List Nat) (hd : Dig l) : Takes Tryz.prog 160 [(.sl 138 1 (List.map enc_u32 l))] (.tup [(.val (.int .u64 ((((wordV l) : Nat) : Int)))), (.val (.bool ((wordB l))))]) := by
  refine fn_intro Tryz.func160 rfl cb160 rfl ?_
  show PWp _ _ _ _ ⟨[(0, (vl 138 1 enc_u32 l))], []⟩
  refine pwp_seq <| pwp_S (S' := [(0, (vl 138 1 enc_u32 l)), (2, (vqn 0)), (3, (vb false))]) (B' := []) ?_ ?_
  · exact sM (vqn 0) rfl rfl <| sM (vb false) rfl rfl <| sNil rfl rfl
  refine pwp_seq <| pwp_seq <| pwp_S (S' := [(0, (vl 138 1 enc_u32 l)), (2, (vqn 0)), (3, (vb false)), (9, (vb (decide (2 < ((l.length : Nat) : Int)))))]) (B' := []) ?_ ?_
  · exact sM (vl 138 1 enc_u32 l) rfl rfl <| sE' (e_ln (r := ((l.length : Nat) : Int)) rfl el28 rfl (by simp)) rfl <| sE' (e_gtr rfl rfl rfl) rfl <| sNil rfl rfl
  refine pwp_cond (b := decide (2 < ((l.length : Nat) : Int))) rfl (fun h1 => ?_) (fun h1 => ?_)
  · replace h1 := of_decide_eq_true h1
    refine pwp_seq <| pwp_S (S' := [(2, (vqn 0)), (3, (vb false))]) (B' := []) ?_ ?_
    · exact sM (vqn 0) rfl rfl <| sM (vb false) rfl rfl <| sNil rfl rfl
    refine pwp_ret ⟨_, (.tmp (d := (.val (.int .u64 (0)))) rfl (.tmp (d := (.val (.bool (false)))) rfl .nil)), ?_⟩
    rw [show wordV l = 0 from if_neg (by omega), show wordB l = false from decide_eq_false (by omega)]; rfl
  · replace h1 := of_decide_eq_false h1
    have h2 : l.length ≤ 2 := by omega
    refine pwp_skip <| pwp_seq <| pwp_S (S' := [(0, (vl 138 1 enc_u32 l)), (2, (vqn 0)), (3, (vb false)), (4, (.ref 0 0))]) (B' := [(0, some (bx (.val (.int .u64 (0)))))]) ?_ ?_
    · exact sN (n_al (cs := (bx (.val (.int .u64 (0))))) 0 rfl ze140 zo140 rfl) rfl rfl rfl rfl <| sT (t_std (d := (.val (.int .u64 (0)))) (cs := (bx (.val (.int .u64 (0))))) rfl rfl rfl sh140 rfl rfl rfl rfl) rfl rfl rfl <| sNil rfl rfl
    refine pwp_seq <| pwp_backL backs cb166 rfl 5 enc_u32 l 0 (fun n => ⟨[(2, (vqn 0)), (3, (vb false)), (4, (.ref 0 0))], [(0, some (bx (.val (.int .u64 (((n : Nat) : Int))))))]⟩) (fun (j : Nat) n => n = val (l.drop (l.length - j))) 0 rfl rfl rfl rfl rfl rfl rfl rfl rfl rfl rfl rfl (fun _ => rfl) (fun _ => rfl) (weak rfl rfl) (by simp [val]) (by omega) ?_ ?_
    · rintro rl j n hj hn
      have hw := word_bound hd hj h2
      rw [← hn] at hw
      have hg := hd.getD (l.length - 1 - j)
      refine pwp_S (S' := [(2, (vqn 0)), (3, (vb false)), (4, (.ref 0 0)), (6, (vwn (l.getD (l.length - 1 - j) 0))), (13, (vwn (l.getD (l.length - 1 - j) 0)))]) (B' := [(0, some (bx (.val (.int .u64 (((n : Nat) : Int))))))]) ?_ ?_
      · exact sM (vwn (l.getD (l.length - 1 - j) 0)) rfl rfl <| sNil rfl rfl
      refine pwp_block <| pwp_S (S' := [(2, (vqn 0)), (3, (vb false)), (4, (.ref 0 0)), (13, (vwn (l.getD (l.length - 1 - j) 0)))]) (B' := [(0, some (bx (.val (.int .u64 (((((n * 1000000000) + (l.getD (l.length - 1 - j) 0)) : Nat) : Int))))))]) ?_ ?_
      · exact sR (e_ld1 (cs := (bx (.val (.int .u64 (((n : Nat) : Int)))))) (y := (vqn n)) rfl rfl sh140 rfl) rfl rfl rfl rfl <| sE' (e_mul (r := (((n * 1000000000) : Nat) : Int)) rfl rfl rfl (wu64 (by omega) (by omega) (by omega))) rfl <| sM (vwn (l.getD (l.length - 1 - j) 0)) rfl rfl <| sE' (e_conv (r := (((l.getD (l.length - 1 - j) 0) : Nat) : Int)) rfl un138 in140 rfl (cu64 (by omega))) rfl <| sE' (e_add (r := ((((n * 1000000000) + (l.getD (l.length - 1 - j) 0)) : Nat) : Int)) rfl rfl rfl (wu64 (by omega) (by omega) (by omega))) rfl <| sT (t_std (d := (.val (.int .u64 (((((n * 1000000000) + (l.getD (l.length - 1 - j) 0)) : Nat) : Int))))) (cs := (bx (.val (.int .u64 (((((n * 1000000000) + (l.getD (l.length - 1 - j) 0)) : Nat) : Int)))))) rfl rfl rfl sh140 rfl rfl rfl rfl) rfl rfl rfl <| sNil rfl rfl
      exact ⟨n * 1000000000 + l.getD (l.length - 1 - j) 0, (weak rfl rfl), (by dsimp only; rw [val_drop l j hj, ← hn]; omega)⟩
    · rintro n hn
      refine pwp_seq <| pwp_S (S' := [(2, (vqn n)), (3, (vb true))]) (B' := []) ?_ ?_
      · exact sR (e_ld1 (cs := (bx (.val (.int .u64 (((n : Nat) : Int)))))) (y := (vqn n)) rfl rfl sh140 rfl) rfl rfl rfl rfl <| sM (vqn n) rfl rfl <| sM (vb true) rfl rfl <| sNil rfl rfl
      refine pwp_ret ⟨_, (.tmp (d := (.val (.int .u64 (((n : Nat) : Int))))) rfl (.tmp (d := (.val (.bool (true)))) rfl .nil)), ?_⟩
      rw [show wordV l = n by rw [hn, Nat.sub_self, List.drop_zero]; exact if_pos h2, show wordB l = true from decide_eq_true h2]; rfl
theorem t_compare (a b : List Nat) (ha : Cano a) (hb : Cano b) (hla : a.length ≤ 17592186044416) : Takes Tryz.prog 157 [(.sl 138 1 (List.map enc_u32 a)), (.sl 138 1 (List.map enc_u32 b))] (.val (.int .i64 ((cmpI ((val a : Nat) : Int) ((val b : Nat) : Int))))) := by
  refine fn_intro Tryz.func157 rfl cb157 rfl ?_
  show PWp _ _ _ _ ⟨[(0, (vl 138 1 enc_u32 a)), (1, (vl 138 1 enc_u32 b))], []⟩
  refine pwp_seq <| pwp_S (S' := [(0, (vl 138 1 enc_u32 a)), (3, (.ref 0 0)), (4, (.ref 1 0))]) (B' := [(0, some (bx (.sl 138 1 (List.map enc_u32 b)))), (1, some (bx (.val (.int .i64 (0)))))]) ?_ ?_
  · exact sN (n_bx (d := (.sl 138 1 (List.map enc_u32 b))) (cs := (bx (.sl 138 1 (List.map enc_u32 b)))) 0 rfl rfl rfl rfl) rfl rfl rfl rfl <| sN (n_al (cs := (bx (.val (.int .i64 (0))))) 1 rfl ze3 zo3 rfl) rfl rfl rfl rfl <| sNil rfl rfl
  refine pwp_seq <| pwp_seq <| pwp_S (S' := [(0, (vl 138 1 enc_u32 a)), (3, (.ref 0 0)), (4, (.ref 1 0)), (11, (vb (((a.length : Nat) : Int) != ((b.length : Nat) : Int))))]) (B' := [(0, some (bx (.sl 138 1 (List.map enc_u32 b)))), (1, some (bx (.val (.int .i64 (0)))))]) ?_ ?_
  · exact sM (vl 138 1 enc_u32 a) rfl rfl <| sE' (e_ln (r := ((a.length : Nat) : Int)) rfl el28 rfl (by simp)) rfl <| sR (e_ld1 (cs := (bx (.sl 138 1 (List.map enc_u32 b)))) (y := (vl 138 1 enc_u32 b)) rfl rfl sh28 rfl) rfl rfl rfl rfl <| sE' (e_ln (r := ((b.length : Nat) : Int)) rfl el28 rfl (by simp)) rfl <| sE' (e_neq rfl rfl rfl) rfl <| sNil rfl rfl
  refine pwp_cond (b := (((a.length : Nat) : Int) != ((b.length : Nat) : Int))) rfl (fun h1 => ?_) (fun h1 => ?_)
  · replace h1 := bne_iff_ne.1 h1
    refine pwp_seq <| pwp_S (S' := [(4, (.ref 1 0))]) (B' := [(1, some (bx (.val (.int .i64 ((cmpI ((a.length : Nat) : Int) ((b.length : Nat) : Int)))))))]) ?_ ?_
    · exact sM (vl 138 1 enc_u32 a) rfl rfl <| sE' (e_ln (r := ((a.length : Nat) : Int)) rfl el28 rfl (by simp)) rfl <| sR (e_ld1 (cs := (bx (.sl 138 1 (List.map enc_u32 b)))) (y := (vl 138 1 enc_u32 b)) rfl rfl sh28 rfl) rfl rfl rfl rfl <| sE' (e_ln (r := ((b.length : Nat) : Int)) rfl el28 rfl (by simp)) rfl <| sE' (e_cl (t_cmp_int ((a.length : Nat) : Int) ((b.length : Nat) : Int)) rfl rfl rfl) rfl <| sT (t_std (d := (.val (.int .i64 ((cmpI ((a.length : Nat) : Int) ((b.length : Nat) : Int)))))) (cs := (bx (.val (.int .i64 ((cmpI ((a.length : Nat) : Int) ((b.length : Nat) : Int))))))) rfl rfl rfl sh3 rfl rfl rfl rfl) rfl rfl rfl <| sNil rfl rfl
    refine pwp_ret ⟨_, (res_1 (cs := (bx (.val (.int .i64 ((cmpI ((a.length : Nat) : Int) ((b.length : Nat) : Int))))))) (d := (.val (.int .i64 ((cmpI ((a.length : Nat) : Int) ((b.length : Nat) : Int)))))) rfl rfl sh3 rfl rfl .nil), ?_⟩
    rw [← cmpI_len ha hb h1]; rfl
  · replace h1 := bne_eq_false_iff_eq.1 h1
    have hl : a.length = b.length := by omega
    refine pwp_skip <| pwp_seq <| pwp_backL backs cb166 rfl 5 enc_u32 a 0 (fun _ => ⟨[(3, (.ref 0 0)), (4, (.ref 1 0))], [(0, some (bx (.sl 138 1 (List.map enc_u32 b)))), (1, some (bx (.val (.int .i64 (0)))))]⟩) (fun (j : Nat) _ => val (a.drop (a.length - j)) = val (b.drop (a.length - j))) () rfl rfl rfl rfl rfl rfl rfl rfl rfl rfl rfl rfl (fun _ => rfl) (fun _ => rfl) (weak rfl rfl) (by rw [Nat.sub_zero, List.drop_length, hl, List.drop_length]) (by omega) ?_ ?_
    · rintro rl j ⟨⟩ hj he
      refine pwp_seq <| pwp_S (S' := [(3, (.ref 0 0)), (4, (.ref 1 0)), (5, (vin (a.length - 1 - j))), (19, (vin (a.length - 1 - j))), (20, (vwn (a.getD (a.length - 1 - j) 0)))]) (B' := [(0, some (bx (.sl 138 1 (List.map enc_u32 b)))), (1, some (bx (.val (.int .i64 (0)))))]) ?_ ?_
      · exact sM (vin (a.length - 1 - j)) rfl rfl <| sNil rfl rfl
      refine pwp_S (S' := [(3, (.ref 0 0)), (4, (.ref 1 0)), (5, (vin (a.length - 1 - j))), (6, (vwn (a.getD (a.length - 1 - j) 0))), (19, (vin (a.length - 1 - j))), (20, (vwn (a.getD (a.length - 1 - j) 0)))]) (B' := [(0, some (bx (.sl 138 1 (List.map enc_u32 b)))), (1, some (bx (.val (.int .i64 (0)))))]) ?_ ?_
      · exact sM (vwn (a.getD (a.length - 1 - j) 0)) rfl rfl <| sNil rfl rfl
      refine pwp_block <| pwp_seq <| pwp_S (S' := [(3, (.ref 0 0)), (4, (.ref 1 0)), (5, (vin (a.length - 1 - j))), (6, (vwn (a.getD (a.length - 1 - j) 0))), (19, (vin (a.length - 1 - j))), (20, (vwn (a.getD (a.length - 1 - j) 0))), (26, (vb ((((a.getD (a.length - 1 - j) 0) : Nat) : Int) != (((b.getD (a.length - 1 - j) 0) : Nat) : Int))))]) (B' := [(0, some (bx (.sl 138 1 (List.map enc_u32 b)))), (1, some (bx (.val (.int .i64 (0)))))]) ?_ ?_
      · exact sM (vwn (a.getD (a.length - 1 - j) 0)) rfl rfl <| sR (e_ld1 (cs := (bx (.sl 138 1 (List.map enc_u32 b)))) (y := (vl 138 1 enc_u32 b)) rfl rfl sh28 rfl) rfl rfl rfl rfl <| sM (vin (a.length - 1 - j)) rfl rfl <| sE' (e_ixs (j := (a.length - 1 - j)) (cs := (Dat.cells (.val (.int .u32 ((((b.getD (a.length - 1 - j) 0) : Nat) : Int)))))) rfl el28 rfl rfl (by omega) (ixm _ _ _ _ (by omega))) rfl <| sE' (e_lc1 (cs := (Dat.cells (.val (.int .u32 ((((b.getD (a.length - 1 - j) 0) : Nat) : Int)))))) (y := (.val (.int .u32 ((((b.getD (a.length - 1 - j) 0) : Nat) : Int))))) rfl rfl sh138 rfl) rfl <| sE' (e_neq rfl rfl rfl) rfl <| sNil rfl rfl
      refine pwp_cond (b := ((((a.getD (a.length - 1 - j) 0) : Nat) : Int) != (((b.getD (a.length - 1 - j) 0) : Nat) : Int))) rfl (fun h2 => ?_) (fun h2 => ?_)
      · replace h2 := bne_iff_ne.1 h2
        refine pwp_seq <| pwp_S (S' := [(4, (.ref 1 0))]) (B' := [(1, some (bx (.val (.int .i64 ((cmpI (((a.getD (a.length - 1 - j) 0) : Nat) : Int) (((b.getD (a.length - 1 - j) 0) : Nat) : Int)))))))]) ?_ ?_
        · exact sM (vwn (a.getD (a.length - 1 - j) 0)) rfl rfl <| sR (e_ld1 (cs := (bx (.sl 138 1 (List.map enc_u32 b)))) (y := (vl 138 1 enc_u32 b)) rfl rfl sh28 rfl) rfl rfl rfl rfl <| sM (vin (a.length - 1 - j)) rfl rfl <| sE' (e_ixs (j := (a.length - 1 - j)) (cs := (Dat.cells (.val (.int .u32 ((((b.getD (a.length - 1 - j) 0) : Nat) : Int)))))) rfl el28 rfl rfl (by omega) (ixm _ _ _ _ (by omega))) rfl <| sE' (e_lc1 (cs := (Dat.cells (.val (.int .u32 ((((b.getD (a.length - 1 - j) 0) : Nat) : Int)))))) (y := (.val (.int .u32 ((((b.getD (a.length - 1 - j) 0) : Nat) : Int))))) rfl rfl sh138 rfl) rfl <| sE' (e_cl (t_cmp_uint32 (a.getD (a.length - 1 - j) 0) (b.getD (a.length - 1 - j) 0)) rfl rfl rfl) rfl <| sT (t_std (d := (.val (.int .i64 ((cmpI (((a.getD (a.length - 1 - j) 0) : Nat) : Int) (((b.getD (a.length - 1 - j) 0) : Nat) : Int)))))) (cs := (bx (.val (.int .i64 ((cmpI (((a.getD (a.length - 1 - j) 0) : Nat) : Int) (((b.getD (a.length - 1 - j) 0) : Nat) : Int))))))) rfl rfl rfl sh3 rfl rfl rfl rfl) rfl rfl rfl <| sNil rfl rfl
        refine pwp_ret ⟨⟨[(4, (.ref 1 0))], [(1, some (bx (.val (.int .i64 ((cmpI (((a.getD (a.length - 1 - j) 0) : Nat) : Int) (((b.getD (a.length - 1 - j) 0) : Nat) : Int)))))))]⟩, (weak rfl rfl), keys_of rfl, ⟨_, (res_1 (cs := (bx (.val (.int .i64 ((cmpI (((a.getD (a.length - 1 - j) 0) : Nat) : Int) (((b.getD (a.length - 1 - j) 0) : Nat) : Int))))))) (d := (.val (.int .i64 ((cmpI (((a.getD (a.length - 1 - j) 0) : Nat) : Int) (((b.getD (a.length - 1 - j) 0) : Nat) : Int)))))) rfl rfl sh3 rfl rfl .nil), ?_⟩⟩
        rw [← cmpI_top ha.1 hb.1 hl hj he h2]; rfl
      · replace h2 := bne_eq_false_iff_eq.1 h2
        refine pwp_skip ?_
        exact ⟨(), (weak rfl rfl), (by dsimp only; have e1 := val_drop a j hj; have e2 := val_drop b j (by omega); rw [← hl] at e2; rw [e1, e2, he]; omega)⟩
    · rintro ⟨⟩ he
      refine pwp_seq <| pwp_S (S' := [(4, (.ref 1 0))]) (B' := [(1, some (bx (.val (.int .i64 (0)))))]) ?_ ?_
      · exact sT (t_std (d := (.val (.int .i64 (0)))) (cs := (bx (.val (.int .i64 (0))))) rfl rfl rfl sh3 rfl rfl rfl rfl) rfl rfl rfl <| sNil rfl rfl
      refine pwp_ret ⟨_, (res_1 (cs := (bx (.val (.int .i64 (0))))) (d := (.val (.int .i64 (0)))) rfl rfl sh3 rfl rfl .nil), ?_⟩
      rw [cmpI_same (by rw [Nat.sub_self, List.drop_zero, List.drop_zero] at he; exact he)]; rfl
theorem t_split (n : Nat) (hn : n < 18446744073709551616) : Takes Tryz.prog 127 [(.val (.int .u64 (((n : Nat) : Int))))] (.sl 138 1 (List.map enc_u32 (ofNat n))) := by
  refine fn_intro Tryz.func127 rfl cb127 rfl ?_
  show PWp _ _ _ _ ⟨[(0, (vqn n))], []⟩
  refine pwp_seq <| pwp_S (S' := [(0, (vqn n))]) (B' := []) ?_ ?_
  · exact sE' (e_asgnil 138 1 rfl) rfl <| sNil rfl rfl
  refine pwp_seq <| pwp_S (S' := [(0, (vqn n)), (3, (.own 0 138 1 0))]) (B' := [(0, some (bm enc_u32 []))]) ?_ ?_
  · exact sNilOwn 0 138 1 (.inl rfl) rfl rfl rfl rfl <| sNil rfl rfl
  refine pwp_seq <| pwp_block <| pwp_loop (α := Nat × List Nat) (fun (m, g) => ⟨[(0, (vqn m)), (3, (.own 0 138 1 g.length))], [(0, some (bm enc_u32 g))]⟩) (fun (m, g) => m ≤ n ∧ g ++ ofNat m = ofNat n) (fun (m, g) => m) (n, []) (weak rfl rfl) ⟨Nat.le_refl _, by rw [List.nil_append]⟩ ?_
  rintro ⟨m, g⟩ ⟨hm, hg⟩
  have hl := split_len hg hn
  refine pwp_seq <| pwp_seq <| pwp_S (S' := [(0, (vqn m)), (3, (.own 0 138 1 g.length)), (5, (vb (decide (0 < ((m : Nat) : Int)))))]) (B' := [(0, some (bm enc_u32 g))]) ?_ ?_
  · exact sM (vqn m) rfl rfl <| sE' (e_gtr rfl rfl rfl) rfl <| sNil rfl rfl
  refine pwp_cond (b := decide (0 < ((m : Nat) : Int))) rfl (fun h1 => ?_) (fun h1 => ?_)
  · replace h1 := of_decide_eq_true h1
    refine pwp_skip <| pwp_seq <| pwp_block <| pwp_S (S' := [(0, (vqn m)), (3, (.own 0 138 1 ((g ++ [(m % 1000000000)]).length)))]) (B' := [(0, some (bm enc_u32 (g ++ [(m % 1000000000)])))]) ?_ ?_
    · exact sM (.own 0 138 1 g.length) rfl rfl <| sM (vqn m) rfl rfl <| sE' (e_rem (r := (((m % 1000000000) : Nat) : Int)) rfl rfl rfl (by decide) (tmod_nat _ _)) rfl <| sE' (e_conv (r := (((m % 1000000000) : Nat) : Int)) rfl un140 in138 rfl (cu32 (by omega))) rfl <| sE' (e_bsl (pd := [(0, (.val (.int .u32 ((((m % 1000000000) : Nat) : Int)))))]) (es := List.map enc_u32 [(m % 1000000000)]) rfl el28 ze138 zo138 rfl rfl rfl rfl rfl rfl rfl rfl) rfl <| sApp1 (m2 := (g ++ [(m % 1000000000)]).length) enc_u32 g [(m % 1000000000)] (fun _ => rfl) rfl rfl rfl rfl el28 ze138 rfl by138 rfl rfl rfl rfl (by simp only [List.length_cons, List.length_nil, maxLen]; omega) (by first | omega | (simp only [List.length_cons, List.length_nil]; omega)) (by repeat first | exact clr_nil _ | refine clr_self ?_ | refine clr_map ?_ | refine clr_bx ?_ | refine clr_d ?_) (by simp; try omega) <| sM (.own 0 138 1 ((g ++ [(m % 1000000000)]).length)) rfl rfl <| sNil rfl rfl
    refine pwp_S (S' := [(0, (vqn (m / 1000000000))), (3, (.own 0 138 1 ((g ++ [(m % 1000000000)]).length)))]) (B' := [(0, some (bm enc_u32 (g ++ [(m % 1000000000)])))]) ?_ ?_
    · exact sM (vqn m) rfl rfl <| sE' (e_quo (r := (((m / 1000000000) : Nat) : Int)) rfl rfl rfl (by decide) (quo_u64 _ _ (by omega))) rfl <| sM (vqn (m / 1000000000)) rfl rfl <| sNil rfl rfl
    exact ⟨(m / 1000000000, g ++ [m % 1000000000]), (weak rfl rfl), ⟨by omega, split_step hg h1⟩, (by first | omega | (dsimp only; omega))⟩
  · replace h1 := of_decide_eq_false h1
    refine pwp_exit <| pwp_seq <| pwp_sim (publish (t := 3) (k := 0) (es := List.map enc_u32 g) rfl rfl (pub_cells _ _ (fun _ => rfl)) (map_len _ _ rfl) (pub_take _ _ (fun _ => rfl) rfl)) ?_
    refine pwp_sim (weak (l := [(0, (vqn m)), (3, (vl 138 1 enc_u32 g)), (5, (vb (decide (0 < ((m : Nat) : Int)))))]) (b := []) rfl rfl) ?_
    refine pwp_S (S' := [(2, (vl 138 1 enc_u32 g))]) (B' := []) ?_ ?_
    · exact sM (vl 138 1 enc_u32 g) rfl rfl <| sM (vl 138 1 enc_u32 g) rfl rfl <| sNil rfl rfl
    refine pwp_ret ⟨_, (.tmp (d := (.sl 138 1 (List.map enc_u32 g))) rfl .nil), ?_⟩
    rw [split_end hg h1]; rfl
end Go.Proofs.YtadkkhdnccljcaaGreat
