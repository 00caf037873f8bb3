/-
  Functions walked: each takes its data to what is said. Printed by a program of ours.
-/
import Derived.Test.YtadkkhdnccljcaaGreatLeafA
import Derived.Test.YtadkkhdnccljcaaGreatBack
namespace Go.Proofs.YtadkkhdnccljcaaGreat
open Go.Fid
set_option maxRecDepth 4000
set_option linter.unusedVariables false
set_option linter.unusedSimpArgs false
theorem cb126 : callB Tryz.prog 126 = true := by kernel_rfl
theorem cb127 : callB Tryz.prog 127 = true := by kernel_rfl
theorem cb156 : callB Tryz.prog 156 = true := by kernel_rfl
theorem cb157 : callB Tryz.prog 157 = true := by kernel_rfl
theorem cb160 : callB Tryz.prog 160 = true := by kernel_rfl
theorem cb165 : callB Tryz.prog 165 = true := by kernel_rfl
theorem cb166 : callB Tryz.prog 166 = true := by kernel_rfl
theorem cb167 : callB Tryz.prog 167 = true := by kernel_rfl
theorem cb170 : callB Tryz.prog 170 = true := by kernel_rfl
theorem pl30 : placesB Tryz.prog 30 = some [(0, 1), (1, 1)] := by kernel_rfl
theorem sh3 : shapeB Tryz.prog 3 = some (false, 1) := by kernel_rfl
theorem sh28 : shapeB Tryz.prog 28 = some (false, 1) := by kernel_rfl
theorem sh30 : shapeB Tryz.prog 30 = some (true, 2) := by kernel_rfl
theorem sh140 : shapeB Tryz.prog 140 = some (false, 1) := by kernel_rfl
theorem ze3 : zeroB Tryz.prog 3 = some [.int .i64 0] := by kernel_rfl
theorem ze30 : zeroB Tryz.prog 30 = some [.bool false, .slice none 0 0] := by kernel_rfl
theorem ze140 : zeroB Tryz.prog 140 = some [.int .u64 0] := by kernel_rfl
theorem zo3 : ZOk [.int .i64 0] [.val (.int .i64 0)] := by simp [ZOk, Value.oneCell']
theorem zo30 : ZOk [.bool false, .slice none 0 0] [.val (.bool false), .sl 138 1 []] := by simp [ZOk, Value.oneCell']
theorem zo140 : ZOk [.int .u64 0] [.val (.int .u64 0)] := by simp [ZOk, Value.oneCell']
theorem t_isnan_int (a : Int) : Takes Tryz.prog 165 [(.val (.int .i64 (a)))] (.val (.bool (false))) := by
  refine fn_intro Tryz.func165 rfl cb165 rfl ?_
  show PWp _ _ _ _ ⟨[(0, (vi a))], []⟩
  refine pwp_seq <| kx [] [] (zM <| zZ) ?_
  refine pwp_seq <| kx [(2, (vb (a != a)))] [] (zM <| zM <| zE oNe <| zM <| zZ) ?_
  refine pwp_ret ⟨_, (.tmp (d := (.val (.bool ((a != a))))) rfl .nil), ?_⟩
  simp [retD]
theorem t_cmp_int (a b : Int) : Takes Tryz.prog 156 [(.val (.int .i64 (a))), (.val (.int .i64 (b)))] (.val (.int .i64 ((cmpI a b)))) := by
  refine fn_intro Tryz.func156 rfl cb156 rfl ?_
  show PWp _ _ _ _ ⟨[(0, (vi a)), (1, (vi b))], []⟩
  refine pwp_seq <| kx [] [] (zM <| zZ) ?_
  refine pwp_seq <| kx [(5, (vb false))] [] (zM <| zE (oCl (t_isnan_int a)) <| zM <| zZ) ?_
  refine pwp_seq <| kx [(6, (vb false))] [] (zM <| zE (oCl (t_isnan_int b)) <| zM <| zZ) ?_
  refine pwp_seq <| pwp_seq <| kx [(11, (vb false))] [] (zM <| zZ) ?_
  refine pwp_cond (b := false) (by kernel_rfl) (fun h => by cases h) (fun _ => ?_)
  refine pwp_skip <| pwp_seq <| pwp_seq <| kx [(13, (vb false))] [] (zM <| zZ) ?_
  refine pwp_cond (b := false) (by kernel_rfl) (fun h => by cases h) (fun _ => ?_)
  refine pwp_skip <| pwp_seq <| pwp_seq <| kx [(16, (vb (decide (a < b))))] [] (zM <| zM <| zE oLt <| zZ) ?_
  refine pwp_cond (b := decide (a < b)) rfl (fun h1 => ?_) (fun h1 => ?_)
  · replace h1 := of_decide_eq_true h1
    refine pwp_seq <| kx [(4, (vi (-1)))] [] (zM <| zZ) ?_
    refine pwp_ret ⟨_, (.tmp (d := (.val (.int .i64 (-1)))) rfl .nil), ?_⟩
    rw [show cmpI a b = -1 from if_pos h1]; rfl
  · replace h1 := of_decide_eq_false h1
    refine pwp_skip <| pwp_seq <| pwp_seq <| kx [(19, (vb (decide (b < a))))] [] (zM <| zM <| zE oGt <| zZ) ?_
    refine pwp_cond (b := decide (b < a)) rfl (fun h2 => ?_) (fun h2 => ?_)
    · replace h2 := of_decide_eq_true h2
      refine pwp_seq <| kx [(4, (vin 1))] [] (zM <| zZ) ?_
      refine pwp_ret ⟨_, (.tmp (d := (.val (.int .i64 (1)))) rfl .nil), ?_⟩
      rw [cmpI_gt h2]; rfl
    · replace h2 := of_decide_eq_false h2
      refine pwp_skip <| pwp_seq <| kx [(4, (vin 0))] [] (zM <| zZ) ?_
      refine pwp_ret ⟨_, (.tmp (d := (.val (.int .i64 (0)))) rfl .nil), ?_⟩
      rw [cmpI_eq h1 h2]; rfl
theorem t_isnan_uint32 (a : Nat) : Takes Tryz.prog 170 [(.val (.int .u32 (((a : Nat) : Int))))] (.val (.bool (false))) := by
  refine fn_intro Tryz.func170 rfl cb170 rfl ?_
  show PWp _ _ _ _ ⟨[(0, (vwn a))], []⟩
  refine pwp_seq <| kx [] [] (zM <| zZ) ?_
  refine pwp_seq <| kx [(2, (vb (((a : Nat) : Int) != ((a : Nat) : Int))))] [] (zM <| zM <| zE oNe <| zM <| zZ) ?_
  refine pwp_ret ⟨_, (.tmp (d := (.val (.bool ((((a : Nat) : Int) != ((a : Nat) : Int)))))) rfl .nil), ?_⟩
  simp [retD]
theorem t_cmp_uint32 (a b : Nat) : Takes Tryz.prog 167 [(.val (.int .u32 (((a : Nat) : Int)))), (.val (.int .u32 (((b : Nat) : Int))))] (.val (.int .i64 ((cmpI ((a : Nat) : Int) ((b : Nat) : Int))))) := by
  refine fn_intro Tryz.func167 rfl cb167 rfl ?_
  show PWp _ _ _ _ ⟨[(0, (vwn a)), (1, (vwn b))], []⟩
  refine pwp_seq <| kx [] [] (zM <| zZ) ?_
  refine pwp_seq <| kx [(5, (vb false))] [] (zM <| zE (oCl (t_isnan_uint32 a)) <| zM <| zZ) ?_
  refine pwp_seq <| kx [(6, (vb false))] [] (zM <| zE (oCl (t_isnan_uint32 b)) <| zM <| zZ) ?_
  refine pwp_seq <| pwp_seq <| kx [(11, (vb false))] [] (zM <| zZ) ?_
  refine pwp_cond (b := false) (by kernel_rfl) (fun h => by cases h) (fun _ => ?_)
  refine pwp_skip <| pwp_seq <| pwp_seq <| kx [(13, (vb false))] [] (zM <| zZ) ?_
  refine pwp_cond (b := false) (by kernel_rfl) (fun h => by cases h) (fun _ => ?_)
  refine pwp_skip <| pwp_seq <| pwp_seq <| kx [(16, (vb (decide (((a : Nat) : Int) < ((b : Nat) : Int)))))] [] (zM <| zM <| zE oLt <| zZ) ?_
  refine pwp_cond rfl (fun h1 => ?_) (fun h1 => ?_)
  · replace h1 := of_decide_eq_true h1
    refine pwp_seq <| kx [(4, (vi (-1)))] [] (zM <| zZ) ?_
    refine pwp_ret ⟨_, (.tmp (d := (.val (.int .i64 (-1)))) rfl .nil), ?_⟩
    rw [show cmpI ((a : Nat) : Int) ((b : Nat) : Int) = -1 from if_pos h1]; rfl
  · replace h1 := of_decide_eq_false h1
    refine pwp_skip <| pwp_seq <| pwp_seq <| kx [(19, (vb (decide (((b : Nat) : Int) < ((a : Nat) : Int)))))] [] (zM <| zM <| zE oGt <| zZ) ?_
    refine pwp_cond rfl (fun h2 => ?_) (fun h2 => ?_)
    · replace h2 := of_decide_eq_true h2
      refine pwp_seq <| kx [(4, (vin 1))] [] (zM <| zZ) ?_
      refine pwp_ret ⟨_, (.tmp (d := (.val (.int .i64 (1)))) rfl .nil), ?_⟩
      rw [cmpI_gt h2]; rfl
    · replace h2 := of_decide_eq_false h2
      refine pwp_skip <| pwp_seq <| kx [(4, (vin 0))] [] (zM <| zZ) ?_
      refine pwp_ret ⟨_, (.tmp (d := (.val (.int .i64 (0)))) rfl .nil), ?_⟩
      rw [cmpI_eq h1 h2]; rfl
theorem t_made (neg : Bool) (l : List Nat) (hd : Dig l) (hb : l.length ≤ 17592186044416) : Takes Tryz.prog 126 [(.val (.bool (neg))), (.sl 138 1 (List.map enc_u32 l))] (encI (mkI neg (val l))) := by
  refine fn_intro Tryz.func126 rfl cb126 rfl ?_
  show PWp _ _ _ _ ⟨[(0, (vb neg)), (1, (vl 138 1 enc_u32 l))], []⟩
  refine pwp_seq <| kx [(4, (.ref 0 0))] [(0, some (bx (encI (RInt.mk false []))))] (zN (oAl 0 ze30 zo30) <| zZ) ?_
  refine pwp_seq <| kx [(1, (vl 138 1 enc_u32 (ofNat (val l))))] [] (zM <| zE (oCl (t_trim l (by assumption) (by omega))) <| zM <| zZ) ?_
  refine pwp_seq <| pwp_seq <| kx [(9, (vb ((((ofNat (val l)).length : Nat) : Int) == 0)))] [] (zM <| zE (oLm el28 (L := (ofNat (val l)))) <| zE oEq <| zZ) ?_
  refine pwp_cond rfl (fun h1 => ?_) (fun h1 => ?_)
  · replace h1 := eq_of_beq h1
    refine pwp_seq <| kx [] [(0, some (bx (encI (RInt.mk false []))))] (zE (oBd pl30 ze30 zo30) <| zT (oSt sh30) <| zZ) ?_
    refine pwp_ret ⟨_, (res_a (cs := (bx (encI (RInt.mk false [])))) (d := (encI (RInt.mk false []))) rfl rfl sh30 rfl rfl .nil), ?_⟩
    rw [mkI_zero h1]; rfl
  · replace h1 := ne_of_beq_false h1
    refine pwp_skip <| pwp_seq <| kx [] [(0, some (bx (encI (RInt.mk neg (ofNat (val l))))))] (zM <| zM <| zE (oBd pl30 ze30 zo30) <| zT (oSt sh30) <| zZ) ?_
    refine pwp_ret ⟨_, (res_a (cs := (bx (encI (RInt.mk neg (ofNat (val l)))))) (d := (encI (RInt.mk neg (ofNat (val l))))) rfl rfl sh30 rfl rfl .nil), ?_⟩
    rw [mkI_pos h1]; rfl
theorem t_word (l : List Nat) (hd : Dig l) : Takes Tryz.prog 160 [(.sl 138 1 (List.map enc_u32 l))] (.tup [(.val (.int .u64 ((((wordV l) : Nat) : Int)))), (.val (.bool ((wordB l))))]) := by
  refine fn_intro Tryz.func160 rfl cb160 rfl ?_
  show PWp _ _ _ _ ⟨[(0, (vl 138 1 enc_u32 l))], []⟩
  refine pwp_seq <| kx [(2, (vqn 0)), (3, (vb false))] [] (zM <| zM <| zZ) ?_
  refine pwp_seq <| pwp_seq <| kx [(9, (vb (decide (2 < ((l.length : Nat) : Int)))))] [] (zM <| zE (oLm el28) <| zE oGt <| zZ) ?_
  refine pwp_cond (b := decide (2 < ((l.length : Nat) : Int))) rfl (fun h1 => ?_) (fun h1 => ?_)
  · replace h1 := of_decide_eq_true h1
    refine pwp_seq <| kx [(2, (vqn 0)), (3, (vb false))] [] (zM <| zM <| zZ) ?_
    refine pwp_ret ⟨_, (.tmp (d := (.val (.int .u64 (0)))) rfl (.tmp (d := (.val (.bool (false)))) rfl .nil)), ?_⟩
    rw [show wordV l = 0 from if_neg (by omega), show wordB l = false from decide_eq_false (by omega)]; rfl
  · replace h1 := of_decide_eq_false h1
    have h2 : l.length ≤ 2 := by omega
    refine pwp_skip <| pwp_seq <| kx [(4, (.ref 0 0))] [(0, some (bx (.val (.int .u64 (0)))))] (zN (oAl 0 ze140 zo140) <| zT (oSt sh140) <| zZ) ?_
    refine pwp_seq <| pwp_backL backs cb166 rfl 5 enc_u32 l 0 (fun n => ⟨[(2, (vqn 0)), (3, (vb false)), (4, (.ref 0 0))], [(0, some (bx (.val (.int .u64 (((n : Nat) : Int))))))]⟩) (fun (j : Nat) n => n = val (l.drop (l.length - j))) 0 rfl rfl rfl rfl rfl rfl rfl rfl rfl rfl rfl rfl (fun _ => rfl) (fun _ => rfl) wk (by simp [val]) (by omega) ?_ ?_
    · rintro rl j n hj hn
      have hw := word_bound hd hj h2
      rw [← hn] at hw
      have hg := hd.getD (l.length - 1 - j)
      refine kx [(6, (vwn (l.getD (l.length - 1 - j) 0)))] [] (zM <| zZ) ?_
      refine pwp_block <| kx [] [(0, some (bx (.val (.int .u64 (((((n * 1000000000) + (l.getD (l.length - 1 - j) 0)) : Nat) : Int))))))] (zR (oL1 sh140) <| zE (oMl (n * 1000000000)) <| zM <| zE (oCv un138 in140 (l.getD (l.length - 1 - j) 0)) <| zE (oAd ((n * 1000000000) + (l.getD (l.length - 1 - j) 0))) <| zT (oSt sh140) <| zZ) ?_
      exact ⟨n * 1000000000 + l.getD (l.length - 1 - j) 0, wk, (by dsimp only; rw [val_drop l j hj, ← hn]; omega)⟩
    · rintro n hn
      refine pwp_seq <| kx [(2, (vqn n)), (3, (vb true))] [] (zR (oL1 sh140) <| zM <| zM <| zZ) ?_
      refine pwp_ret ⟨_, (.tmp (d := (.val (.int .u64 (((n : Nat) : Int))))) rfl (.tmp (d := (.val (.bool (true)))) rfl .nil)), ?_⟩
      rw [show wordV l = n by rw [hn, Nat.sub_self, List.drop_zero]; exact if_pos h2, show wordB l = true from decide_eq_true h2]; rfl
theorem t_compare (a b : List Nat) (ha : Cano a) (hb : Cano b) (hla : a.length ≤ 17592186044416) : Takes Tryz.prog 157 [(.sl 138 1 (List.map enc_u32 a)), (.sl 138 1 (List.map enc_u32 b))] (.val (.int .i64 ((cmpI ((val a : Nat) : Int) ((val b : Nat) : Int))))) := by
  refine fn_intro Tryz.func157 rfl cb157 rfl ?_
  show PWp _ _ _ _ ⟨[(0, (vl 138 1 enc_u32 a)), (1, (vl 138 1 enc_u32 b))], []⟩
  refine pwp_seq <| kx [(3, (.ref 0 0)), (4, (.ref 1 0))] [(0, some (bx (.sl 138 1 (List.map enc_u32 b)))), (1, some (bx (.val (.int .i64 (0)))))] (zN (oBx 0) <| zN (oAl 1 ze3 zo3) <| zZ) ?_
  refine pwp_seq <| pwp_seq <| kx [(11, (vb (((a.length : Nat) : Int) != ((b.length : Nat) : Int))))] [] (zM <| zE (oLm el28) <| zR (oL1 sh28) <| zE (oLm el28) <| zE oNe <| zZ) ?_
  refine pwp_cond rfl (fun h1 => ?_) (fun h1 => ?_)
  · replace h1 := bne_iff_ne.1 h1
    refine pwp_seq <| kx [] [(1, some (bx (.val (.int .i64 ((cmpI ((a.length : Nat) : Int) ((b.length : Nat) : Int)))))))] (zM <| zE (oLm el28) <| zR (oL1 sh28) <| zE (oLm el28) <| zE (oCl (t_cmp_int ((a.length : Nat) : Int) ((b.length : Nat) : Int))) <| zT (oSt sh3) <| zZ) ?_
    refine pwp_ret ⟨_, (res_1 (cs := (bx (.val (.int .i64 ((cmpI ((a.length : Nat) : Int) ((b.length : Nat) : Int))))))) (d := (.val (.int .i64 ((cmpI ((a.length : Nat) : Int) ((b.length : Nat) : Int)))))) rfl rfl sh3 rfl rfl .nil), ?_⟩
    rw [← cmpI_len ha hb h1]; rfl
  · replace h1 := bne_eq_false_iff_eq.1 h1
    have hl : a.length = b.length := by omega
    refine pwp_skip <| pwp_seq <| pwp_backL backs cb166 rfl 5 enc_u32 a 0 (fun _ => ⟨[(3, (.ref 0 0)), (4, (.ref 1 0))], [(0, some (bx (.sl 138 1 (List.map enc_u32 b)))), (1, some (bx (.val (.int .i64 (0)))))]⟩) (fun (j : Nat) _ => val (a.drop (a.length - j)) = val (b.drop (a.length - j))) () rfl rfl rfl rfl rfl rfl rfl rfl rfl rfl rfl rfl (fun _ => rfl) (fun _ => rfl) wk (by rw [Nat.sub_zero, List.drop_length, hl, List.drop_length]) (by omega) ?_ ?_
    · rintro rl j ⟨⟩ hj he
      refine pwp_seq <| kx [(5, (vin (a.length - 1 - j)))] [] (zM <| zZ) ?_
      refine kx [(6, (vwn (a.getD (a.length - 1 - j) 0)))] [] (zM <| zZ) ?_
      refine pwp_block <| pwp_seq <| kx [(26, (vb ((((a.getD (a.length - 1 - j) 0) : Nat) : Int) != (((b.getD (a.length - 1 - j) 0) : Nat) : Int))))] [] (zM <| zR (oL1 sh28) <| zM <| zE (oXl el28 (a.length - 1 - j) (0 : Nat)) <| zE (oC1 sh138) <| zE oNe <| zZ) ?_
      refine pwp_cond rfl (fun h2 => ?_) (fun h2 => ?_)
      · replace h2 := bne_iff_ne.1 h2
        refine pwp_seq <| kx [] [(1, some (bx (.val (.int .i64 ((cmpI (((a.getD (a.length - 1 - j) 0) : Nat) : Int) (((b.getD (a.length - 1 - j) 0) : Nat) : Int)))))))] (zM <| zR (oL1 sh28) <| zM <| zE (oXl el28 (a.length - 1 - j) (0 : Nat)) <| zE (oC1 sh138) <| zE (oCl (t_cmp_uint32 (a.getD (a.length - 1 - j) 0) (b.getD (a.length - 1 - j) 0))) <| zT (oSt sh3) <| zZ) ?_
        refine pwp_ret ⟨⟨[(4, (.ref 1 0))], [(1, some (bx (.val (.int .i64 ((cmpI (((a.getD (a.length - 1 - j) 0) : Nat) : Int) (((b.getD (a.length - 1 - j) 0) : Nat) : Int)))))))]⟩, wk, keys_of rfl, ⟨_, (res_1 (cs := (bx (.val (.int .i64 ((cmpI (((a.getD (a.length - 1 - j) 0) : Nat) : Int) (((b.getD (a.length - 1 - j) 0) : Nat) : Int))))))) (d := (.val (.int .i64 ((cmpI (((a.getD (a.length - 1 - j) 0) : Nat) : Int) (((b.getD (a.length - 1 - j) 0) : Nat) : Int)))))) rfl rfl sh3 rfl rfl .nil), ?_⟩⟩
        rw [← cmpI_top ha.1 hb.1 hl hj he h2]; rfl
      · replace h2 := bne_eq_false_iff_eq.1 h2
        refine pwp_skip ?_
        exact ⟨(), wk, (by dsimp only; have e1 := val_drop a j hj; have e2 := val_drop b j (by omega); rw [← hl] at e2; rw [e1, e2, he]; omega)⟩
    · rintro ⟨⟩ he
      refine pwp_seq <| kx [] [(1, some (bx (.val (.int .i64 (0)))))] (zT (oSt sh3) <| zZ) ?_
      refine pwp_ret ⟨_, (res_1 (cs := (bx (.val (.int .i64 (0))))) (d := (.val (.int .i64 (0)))) rfl rfl sh3 rfl rfl .nil), ?_⟩
      rw [cmpI_same (by rw [Nat.sub_self, List.drop_zero, List.drop_zero] at he; exact he)]; rfl
theorem t_split (n : Nat) (hn : n < 18446744073709551616) : Takes Tryz.prog 127 [(.val (.int .u64 (((n : Nat) : Int))))] (.sl 138 1 (List.map enc_u32 (ofNat n))) := by
  refine fn_intro Tryz.func127 rfl cb127 rfl ?_
  show PWp _ _ _ _ ⟨[(0, (vqn n))], []⟩
  refine pwp_seq <| kx [] [] (zE (oNl 138 1) <| zZ) ?_
  refine pwp_seq <| kx [(3, (.own 0 138 1 0))] [(0, some (bm enc_u32 []))] (zO 0 138 1 <| zZ) ?_
  refine pwp_seq <| pwp_block <| pwp_loop (α := Nat × List Nat) (fun (m, g) => ⟨[(0, (vqn m)), (3, (.own 0 138 1 g.length))], [(0, some (bm enc_u32 g))]⟩) (fun (m, g) => m ≤ n ∧ g ++ ofNat m = ofNat n) (fun (m, g) => m) (n, []) wk ⟨Nat.le_refl _, by rw [List.nil_append]⟩ ?_
  rintro ⟨m, g⟩ ⟨hm, hg⟩
  have hl := split_len hg hn
  refine pwp_seq <| pwp_seq <| kx [(5, (vb (decide (0 < ((m : Nat) : Int)))))] [] (zM <| zE oGt <| zZ) ?_
  refine pwp_cond (b := decide (0 < ((m : Nat) : Int))) rfl (fun h1 => ?_) (fun h1 => ?_)
  · replace h1 := of_decide_eq_true h1
    refine pwp_skip <| pwp_seq <| pwp_block <| kf [(3, (.own 0 138 1 ((g ++ [(m % 1000000000)]).length)))] [(0, some (bm enc_u32 (g ++ [(m % 1000000000)])))] (zM <| zM <| zE (oRe (m % 1000000000)) <| zE (oCv un140 in138 (m % 1000000000)) <| zE (oBs el28 ze138 zo138) <| zA enc_u32 g [(m % 1000000000)] rfl el28 ze138 by138 <| zM <| zF) ?_
    refine kx [(0, (vqn (m / 1000000000)))] [] (zM <| zE (oQu (m / 1000000000)) <| zM <| zZ) ?_
    exact ⟨(m / 1000000000, g ++ [m % 1000000000]), wk, ⟨by omega, split_step hg h1⟩, (by first | omega | (dsimp only; omega))⟩
  · replace h1 := of_decide_eq_false h1
    refine pwp_exit <| pwp_seq <| pwp_sim (publish (t := 3) (k := 0) (es := List.map enc_u32 g) rfl rfl (pub_cells _ _ (fun _ => rfl)) (map_len _ _ rfl) (pub_take _ _ (fun _ => rfl) rfl)) ?_
    refine kx [(2, (vl 138 1 enc_u32 g))] [] (zM <| zM <| zZ) ?_
    refine pwp_ret ⟨_, (.tmp (d := (.sl 138 1 (List.map enc_u32 g))) rfl .nil), ?_⟩
    rw [split_end hg h1]; rfl
end Go.Proofs.YtadkkhdnccljcaaGreat
