/- Part 6 of a proof: rules, plain facts, and functions walked. -/
import Derived.Test.YtbecgnplakngdaaGreatM5
import Derived.Test.YtbecgnplakngdaaGreatM4
import Derived.Test.YtbecgnplakngdaaGreatChecked
import Derived.RangeFuncBox
import Derived.Shelf.Abstract
import Derived.OwnWalkIn
import Derived.TacticsInMore
import Derived.LoopNIn
import Derived.LoopIn
namespace Go.Proofs.YtbecgnplakngdaaGreat
open Go.Fid
set_option maxRecDepth 4000
set_option linter.unusedVariables false
set_option linter.unusedSimpArgs false
theorem cb166 : callB Tryz.prog 166 = true := by kernel_rfl
theorem cb178 : callB Tryz.prog 178 = true := by kernel_rfl
theorem cb180 : callB Tryz.prog 180 = true := by kernel_rfl
theorem cb183 : callB Tryz.prog 183 = true := by kernel_rfl
theorem cb184 : callB Tryz.prog 184 = true := by kernel_rfl
theorem cb185 : callB Tryz.prog 185 = true := by kernel_rfl
theorem cb208 : callB Tryz.prog 208 = true := by kernel_rfl
theorem cb209 : callB Tryz.prog 209 = true := by kernel_rfl
theorem cb218 : callB Tryz.prog 218 = true := by kernel_rfl
theorem pl40 : placesB Tryz.prog 40 = some [(0, 1), (1, 1)] := by kernel_rfl
theorem sh3 : shapeB Tryz.prog 3 = some (false, 1) := by kernel_rfl
theorem sh38 : shapeB Tryz.prog 38 = some (false, 1) := by kernel_rfl
theorem sh40 : shapeB Tryz.prog 40 = some (true, 2) := by kernel_rfl
theorem sh154 : shapeB Tryz.prog 154 = some (false, 1) := by kernel_rfl
theorem ze3 : zeroB Tryz.prog 3 = some [.int .i64 0] := by kernel_rfl
theorem ze40 : zeroB Tryz.prog 40 = some [.bool false, .slice none 0 0] := by kernel_rfl
theorem ze154 : zeroB Tryz.prog 154 = some [.int .u64 0] := by kernel_rfl
theorem zo3 : ZOk [.int .i64 0] [.val (.int .i64 0)] := by simp [ZOk, Value.oneCell']
theorem zo40 : ZOk [.bool false, .slice none 0 0] [.val (.bool false), .sl 152 1 []] := by simp [ZOk, Value.oneCell']
theorem zo154 : ZOk [.int .u64 0] [.val (.int .u64 0)] := by simp [ZOk, Value.oneCell']
theorem t_isnan_int (a : Int) : Takes Tryz.prog 208 [(.val (.int .i64 (a)))] (.val (.bool (false))) := by
  refine fn_intro Tryz.func208 rfl cb208 rfl ?_
  show PWp _ _ _ _ ⟨[(0, (vi a))], []⟩
  refine pwp_seq <| kx [] [] (zM <| zZ) ?_
  refine pwp_seq <| kx [(2, (vb (a != a)))] [] (zM <| zM <| zE oNe <| zM <| zZ) ?_
  refine pwp_ret ⟨_, (.tmp (d := (.val (.bool ((a != a))))) rfl .nil), ?_⟩
  simp [retD]
theorem t_cmp_int (a b : Int) : Takes Tryz.prog 183 [(.val (.int .i64 (a))), (.val (.int .i64 (b)))] (.val (.int .i64 ((cmpI a b)))) := by
  refine fn_intro Tryz.func183 rfl cb183 rfl ?_
  show PWp _ _ _ _ ⟨[(0, (vi a)), (1, (vi b))], []⟩
  refine pwp_seq <| kx [] [] (zM <| zZ) ?_
  refine pwp_seq <| kx [(5, (vb false))] [] (zM <| zE (oCl (t_isnan_int a)) <| zM <| zZ) ?_
  refine pwp_seq <| kx [(6, (vb false))] [] (zM <| zE (oCl (t_isnan_int b)) <| zM <| zZ) ?_
  refine pwp_seq <| pwp_seq <| kx [(11, (vb false))] [] (zM <| zZ) ?_
  refine pwp_cond (b := false) (by kernel_rfl) (fun h => by cases h) (fun _ => ?_)
  refine pwp_skip <| pwp_seq <| pwp_seq <| kx [(13, (vb false))] [] (zM <| zZ) ?_
  refine pwp_cond (b := false) (by kernel_rfl) (fun h => by cases h) (fun _ => ?_)
  refine pwp_skip <| pwp_seq <| pwp_seq <| kx [(16, (vb (decide (a < b))))] [] (zM <| zM <| zE oLt <| zZ) ?_
  refine pwp_cond (b := decide (a < b)) rfl (fun h1 => ?_) (fun h1 => ?_)
  · replace h1 := of_decide_eq_true h1
    refine pwp_seq <| kx [(4, (vi (-1)))] [] (zM <| zZ) ?_
    refine pwp_ret ⟨_, (.tmp (d := (.val (.int .i64 (-1)))) rfl .nil), ?_⟩
    rw [show cmpI a b = -1 from if_pos h1]; rfl
  · replace h1 := of_decide_eq_false h1
    refine pwp_skip <| pwp_seq <| pwp_seq <| kx [(19, (vb (decide (b < a))))] [] (zM <| zM <| zE oGt <| zZ) ?_
    refine pwp_cond (b := decide (b < a)) rfl (fun h2 => ?_) (fun h2 => ?_)
    · replace h2 := of_decide_eq_true h2
      refine pwp_seq <| kx [(4, (vin 1))] [] (zM <| zZ) ?_
      refine pwp_ret ⟨_, (.tmp (d := (.val (.int .i64 (1)))) rfl .nil), ?_⟩
      rw [cmpI_gt h2]; rfl
    · replace h2 := of_decide_eq_false h2
      refine pwp_skip <| pwp_seq <| kx [(4, (vin 0))] [] (zM <| zZ) ?_
      refine pwp_ret ⟨_, (.tmp (d := (.val (.int .i64 (0)))) rfl .nil), ?_⟩
      rw [cmpI_eq h1 h2]; rfl
theorem t_isnan_uint32 (a : Nat) : Takes Tryz.prog 218 [(.val (.int .u32 (((a : Nat) : Int))))] (.val (.bool (false))) := by
  refine fn_intro Tryz.func218 rfl cb218 rfl ?_
  show PWp _ _ _ _ ⟨[(0, (vwn a))], []⟩
  refine pwp_seq <| kx [] [] (zM <| zZ) ?_
  refine pwp_seq <| kx [(2, (vb (((a : Nat) : Int) != ((a : Nat) : Int))))] [] (zM <| zM <| zE oNe <| zM <| zZ) ?_
  refine pwp_ret ⟨_, (.tmp (d := (.val (.bool ((((a : Nat) : Int) != ((a : Nat) : Int)))))) rfl .nil), ?_⟩
  simp [retD]
theorem t_cmp_uint32 (a b : Nat) : Takes Tryz.prog 209 [(.val (.int .u32 (((a : Nat) : Int)))), (.val (.int .u32 (((b : Nat) : Int))))] (.val (.int .i64 ((cmpI ((a : Nat) : Int) ((b : Nat) : Int))))) := by
  refine fn_intro Tryz.func209 rfl cb209 rfl ?_
  show PWp _ _ _ _ ⟨[(0, (vwn a)), (1, (vwn b))], []⟩
  refine pwp_seq <| kx [] [] (zM <| zZ) ?_
  refine pwp_seq <| kx [(5, (vb false))] [] (zM <| zE (oCl (t_isnan_uint32 a)) <| zM <| zZ) ?_
  refine pwp_seq <| kx [(6, (vb false))] [] (zM <| zE (oCl (t_isnan_uint32 b)) <| zM <| zZ) ?_
  refine pwp_seq <| pwp_seq <| kx [(11, (vb false))] [] (zM <| zZ) ?_
  refine pwp_cond (b := false) (by kernel_rfl) (fun h => by cases h) (fun _ => ?_)
  refine pwp_skip <| pwp_seq <| pwp_seq <| kx [(13, (vb false))] [] (zM <| zZ) ?_
  refine pwp_cond (b := false) (by kernel_rfl) (fun h => by cases h) (fun _ => ?_)
  refine pwp_skip <| pwp_seq <| pwp_seq <| kx [(16, (vb (decide (((a : Nat) : Int) < ((b : Nat) : Int)))))] [] (zM <| zM <| zE oLt <| zZ) ?_
  refine pwp_cond rfl (fun h1 => ?_) (fun h1 => ?_)
  · replace h1 := of_decide_eq_true h1
    refine pwp_seq <| kx [(4, (vi (-1)))] [] (zM <| zZ) ?_
    refine pwp_ret ⟨_, (.tmp (d := (.val (.int .i64 (-1)))) rfl .nil), ?_⟩
    rw [show cmpI ((a : Nat) : Int) ((b : Nat) : Int) = -1 from if_pos h1]; rfl
  · replace h1 := of_decide_eq_false h1
    refine pwp_skip <| pwp_seq <| pwp_seq <| kx [(19, (vb (decide (((b : Nat) : Int) < ((a : Nat) : Int)))))] [] (zM <| zM <| zE oGt <| zZ) ?_
    refine pwp_cond rfl (fun h2 => ?_) (fun h2 => ?_)
    · replace h2 := of_decide_eq_true h2
      refine pwp_seq <| kx [(4, (vin 1))] [] (zM <| zZ) ?_
      refine pwp_ret ⟨_, (.tmp (d := (.val (.int .i64 (1)))) rfl .nil), ?_⟩
      rw [cmpI_gt h2]; rfl
    · replace h2 := of_decide_eq_false h2
      refine pwp_skip <| pwp_seq <| kx [(4, (vin 0))] [] (zM <| zZ) ?_
      refine pwp_ret ⟨_, (.tmp (d := (.val (.int .i64 (0)))) rfl .nil), ?_⟩
      rw [cmpI_eq h1 h2]; rfl
theorem t_made (neg : Bool) (l : List Nat) (hd : Dig l) (hb : l.length ≤ 17592186044416) : Takes Tryz.prog 178 [(.val (.bool (neg))), (.sl 152 1 (List.map enc_u32 l))] (encI (mkI neg (val l))) := by
  refine fn_intro Tryz.func178 rfl cb178 rfl ?_
  show PWp _ _ _ _ ⟨[(0, (vb neg)), (1, (vl 152 1 enc_u32 l))], []⟩
  refine pwp_seq <| kx [(4, (.ref 0 0))] [(0, some (bx (encI (RInt.mk false []))))] (zN (oAl 0 ze40 zo40) <| zZ) ?_
  refine pwp_seq <| kx [(1, (vl 152 1 enc_u32 (ofNat (val l))))] [] (zM <| zE (oCl (t_trim l (by assumption) (by omega))) <| zM <| zZ) ?_
  refine pwp_seq <| pwp_seq <| kx [(9, (vb ((((ofNat (val l)).length : Nat) : Int) == 0)))] [] (zM <| zE (oLm el38 (L := (ofNat (val l)))) <| zE oEq <| zZ) ?_
  refine pwp_cond rfl (fun h1 => ?_) (fun h1 => ?_)
  · replace h1 := eq_of_beq h1
    refine pwp_seq <| kx [] [(0, some (bx (encI (RInt.mk false []))))] (zE (oBd pl40 ze40 zo40) <| zT (oSt sh40) <| zZ) ?_
    refine pwp_ret ⟨_, (res_a (cs := (bx (encI (RInt.mk false [])))) (d := (encI (RInt.mk false []))) rfl rfl sh40 rfl rfl .nil), ?_⟩
    rw [mkI_zero h1]; rfl
  · replace h1 := ne_of_beq_false h1
    refine pwp_skip <| pwp_seq <| kx [] [(0, some (bx (encI (RInt.mk neg (ofNat (val l))))))] (zM <| zM <| zE (oBd pl40 ze40 zo40) <| zT (oSt sh40) <| zZ) ?_
    refine pwp_ret ⟨_, (res_a (cs := (bx (encI (RInt.mk neg (ofNat (val l)))))) (d := (encI (RInt.mk neg (ofNat (val l))))) rfl rfl sh40 rfl rfl .nil), ?_⟩
    rw [mkI_pos h1]; rfl
theorem t_word (l : List Nat) (hd : Dig l) : Takes Tryz.prog 185 [(.sl 152 1 (List.map enc_u32 l))] (.tup [(.val (.int .u64 ((((wordV l) : Nat) : Int)))), (.val (.bool ((wordB l))))]) := by
  refine fn_intro Tryz.func185 rfl cb185 rfl ?_
  show PWp _ _ _ _ ⟨[(0, (vl 152 1 enc_u32 l))], []⟩
  refine pwp_seq <| kx [(2, (vqn 0)), (3, (vb false))] [] (zM <| zM <| zZ) ?_
  refine pwp_seq <| pwp_seq <| kx [(9, (vb (decide (2 < ((l.length : Nat) : Int)))))] [] (zM <| zE (oLm el38) <| zE oGt <| zZ) ?_
  refine pwp_cond (b := decide (2 < ((l.length : Nat) : Int))) rfl (fun h1 => ?_) (fun h1 => ?_)
  · replace h1 := of_decide_eq_true h1
    refine pwp_seq <| kx [(2, (vqn 0)), (3, (vb false))] [] (zM <| zM <| zZ) ?_
    refine pwp_ret ⟨_, (.tmp (d := (.val (.int .u64 (0)))) rfl (.tmp (d := (.val (.bool (false)))) rfl .nil)), ?_⟩
    rw [show wordV l = 0 from if_neg (by omega), show wordB l = false from decide_eq_false (by omega)]; rfl
  · replace h1 := of_decide_eq_false h1
    have h2 : l.length ≤ 2 := by omega
    refine pwp_skip <| pwp_seq <| kx [(4, (.ref 0 0))] [(0, some (bx (.val (.int .u64 (0)))))] (zN (oAl 0 ze154 zo154) <| zT (oSt sh154) <| zZ) ?_
    refine pwp_seq <| pwp_backL backs cb166 rfl 5 enc_u32 l 0 (fun n => ⟨[(2, (vqn 0)), (3, (vb false)), (4, (.ref 0 0))], [(0, some (bx (.val (.int .u64 (((n : Nat) : Int))))))]⟩) (fun (j : Nat) n => n = val (l.drop (l.length - j))) 0 rfl rfl rfl rfl rfl rfl rfl rfl rfl rfl rfl rfl (fun _ => rfl) (fun _ => rfl) wk (by simp [val]) (by omega) ?_ ?_
    · rintro rl j n hj hn
      have hw := word_bound hd hj h2
      rw [← hn] at hw
      have hg := hd.getD (l.length - 1 - j)
      refine kx [(6, (vwn (l.getD (l.length - 1 - j) 0)))] [] (zM <| zZ) ?_
      refine pwp_block <| kx [] [(0, some (bx (.val (.int .u64 (((((n * 1000000000) + (l.getD (l.length - 1 - j) 0)) : Nat) : Int))))))] (zR (oL1 sh154) <| zE (oMl (n * 1000000000)) <| zM <| zE (oCv un152 in154 (l.getD (l.length - 1 - j) 0)) <| zE (oAd ((n * 1000000000) + (l.getD (l.length - 1 - j) 0))) <| zT (oSt sh154) <| zZ) ?_
      exact ⟨n * 1000000000 + l.getD (l.length - 1 - j) 0, wk, (by dsimp only; rw [val_drop l j hj, ← hn]; omega)⟩
    · rintro n hn
      refine pwp_seq <| kx [(2, (vqn n)), (3, (vb true))] [] (zR (oL1 sh154) <| zM <| zM <| zZ) ?_
      refine pwp_ret ⟨_, (.tmp (d := (.val (.int .u64 (((n : Nat) : Int))))) rfl (.tmp (d := (.val (.bool (true)))) rfl .nil)), ?_⟩
      rw [show wordV l = n by rw [hn, Nat.sub_self, List.drop_zero]; exact if_pos h2, show wordB l = true from decide_eq_true h2]; rfl
theorem t_compare (a b : List Nat) (ha : Cano a) (hb : Cano b) (hla : a.length ≤ 17592186044416) : Takes Tryz.prog 184 [(.sl 152 1 (List.map enc_u32 a)), (.sl 152 1 (List.map enc_u32 b))] (.val (.int .i64 ((cmpI ((val a : Nat) : Int) ((val b : Nat) : Int))))) := by
  refine fn_intro Tryz.func184 rfl cb184 rfl ?_
  show PWp _ _ _ _ ⟨[(0, (vl 152 1 enc_u32 a)), (1, (vl 152 1 enc_u32 b))], []⟩
  refine pwp_seq <| kx [(3, (.ref 0 0)), (4, (.ref 1 0))] [(0, some (bx (.sl 152 1 (List.map enc_u32 b)))), (1, some (bx (.val (.int .i64 (0)))))] (zN (oBx 0) <| zN (oAl 1 ze3 zo3) <| zZ) ?_
  refine pwp_seq <| pwp_seq <| kx [(11, (vb (((a.length : Nat) : Int) != ((b.length : Nat) : Int))))] [] (zM <| zE (oLm el38) <| zR (oL1 sh38) <| zE (oLm el38) <| zE oNe <| zZ) ?_
  refine pwp_cond rfl (fun h1 => ?_) (fun h1 => ?_)
  · replace h1 := bne_iff_ne.1 h1
    refine pwp_seq <| kx [] [(1, some (bx (.val (.int .i64 ((cmpI ((a.length : Nat) : Int) ((b.length : Nat) : Int)))))))] (zM <| zE (oLm el38) <| zR (oL1 sh38) <| zE (oLm el38) <| zE (oCl (t_cmp_int ((a.length : Nat) : Int) ((b.length : Nat) : Int))) <| zT (oSt sh3) <| zZ) ?_
    refine pwp_ret ⟨_, (res_1 (cs := (bx (.val (.int .i64 ((cmpI ((a.length : Nat) : Int) ((b.length : Nat) : Int))))))) (d := (.val (.int .i64 ((cmpI ((a.length : Nat) : Int) ((b.length : Nat) : Int)))))) rfl rfl sh3 rfl rfl .nil), ?_⟩
    rw [← cmpI_len ha hb h1]; rfl
  · replace h1 := bne_eq_false_iff_eq.1 h1
    have hl : a.length = b.length := by omega
    refine pwp_skip <| pwp_seq <| pwp_backL backs cb166 rfl 5 enc_u32 a 0 (fun _ => ⟨[(3, (.ref 0 0)), (4, (.ref 1 0))], [(0, some (bx (.sl 152 1 (List.map enc_u32 b)))), (1, some (bx (.val (.int .i64 (0)))))]⟩) (fun (j : Nat) _ => val (a.drop (a.length - j)) = val (b.drop (a.length - j))) () rfl rfl rfl rfl rfl rfl rfl rfl rfl rfl rfl rfl (fun _ => rfl) (fun _ => rfl) wk (by rw [Nat.sub_zero, List.drop_length, hl, List.drop_length]) (by omega) ?_ ?_
    · rintro rl j ⟨⟩ hj he
      refine pwp_seq <| kx [(5, (vin (a.length - 1 - j)))] [] (zM <| zZ) ?_
      refine kx [(6, (vwn (a.getD (a.length - 1 - j) 0)))] [] (zM <| zZ) ?_
      refine pwp_block <| pwp_seq <| kx [(26, (vb ((((a.getD (a.length - 1 - j) 0) : Nat) : Int) != (((b.getD (a.length - 1 - j) 0) : Nat) : Int))))] [] (zM <| zR (oL1 sh38) <| zM <| zE (oXl el38 (a.length - 1 - j) (0 : Nat)) <| zE (oC1 sh152) <| zE oNe <| zZ) ?_
      refine pwp_cond rfl (fun h2 => ?_) (fun h2 => ?_)
      · replace h2 := bne_iff_ne.1 h2
        refine pwp_seq <| kx [] [(1, some (bx (.val (.int .i64 ((cmpI (((a.getD (a.length - 1 - j) 0) : Nat) : Int) (((b.getD (a.length - 1 - j) 0) : Nat) : Int)))))))] (zM <| zR (oL1 sh38) <| zM <| zE (oXl el38 (a.length - 1 - j) (0 : Nat)) <| zE (oC1 sh152) <| zE (oCl (t_cmp_uint32 (a.getD (a.length - 1 - j) 0) (b.getD (a.length - 1 - j) 0))) <| zT (oSt sh3) <| zZ) ?_
        refine pwp_ret ⟨⟨[(4, (.ref 1 0))], [(1, some (bx (.val (.int .i64 ((cmpI (((a.getD (a.length - 1 - j) 0) : Nat) : Int) (((b.getD (a.length - 1 - j) 0) : Nat) : Int)))))))]⟩, wk, keys_of rfl, ⟨_, (res_1 (cs := (bx (.val (.int .i64 ((cmpI (((a.getD (a.length - 1 - j) 0) : Nat) : Int) (((b.getD (a.length - 1 - j) 0) : Nat) : Int))))))) (d := (.val (.int .i64 ((cmpI (((a.getD (a.length - 1 - j) 0) : Nat) : Int) (((b.getD (a.length - 1 - j) 0) : Nat) : Int)))))) rfl rfl sh3 rfl rfl .nil), ?_⟩⟩
        rw [← cmpI_top ha.1 hb.1 hl hj he h2]; rfl
      · replace h2 := bne_eq_false_iff_eq.1 h2
        refine pwp_skip ?_
        exact ⟨(), wk, (by dsimp only; have e1 := val_drop a j hj; have e2 := val_drop b j (by omega); rw [← hl] at e2; rw [e1, e2, he]; omega)⟩
    · rintro ⟨⟩ he
      refine pwp_seq <| kx [] [(1, some (bx (.val (.int .i64 (0)))))] (zT (oSt sh3) <| zZ) ?_
      refine pwp_ret ⟨_, (res_1 (cs := (bx (.val (.int .i64 (0))))) (d := (.val (.int .i64 (0)))) rfl rfl sh3 rfl rfl .nil), ?_⟩
      rw [cmpI_same (by rw [Nat.sub_self, List.drop_zero, List.drop_zero] at he; exact he)]; rfl
theorem t_split (n : Nat) (hn : n < 18446744073709551616) : Takes Tryz.prog 180 [(.val (.int .u64 (((n : Nat) : Int))))] (.sl 152 1 (List.map enc_u32 (ofNat n))) := by
  refine fn_intro Tryz.func180 rfl cb180 rfl ?_
  show PWp _ _ _ _ ⟨[(0, (vqn n))], []⟩
  refine pwp_seq <| kx [] [] (zE (oNl 152 1) <| zZ) ?_
  refine pwp_seq <| kx [(3, (.own 0 152 1 0))] [(0, some (bm enc_u32 []))] (zO 0 152 1 <| zZ) ?_
  refine pwp_seq <| pwp_block <| pwp_loop (α := Nat × List Nat) (fun (m, g) => ⟨[(0, (vqn m)), (3, (.own 0 152 1 g.length))], [(0, some (bm enc_u32 g))]⟩) (fun (m, g) => m ≤ n ∧ g ++ ofNat m = ofNat n) (fun (m, g) => m) (n, []) wk ⟨Nat.le_refl _, by rw [List.nil_append]⟩ ?_
  rintro ⟨m, g⟩ ⟨hm, hg⟩
  have hl := split_len hg hn
  refine pwp_seq <| pwp_seq <| kx [(5, (vb (decide (0 < ((m : Nat) : Int)))))] [] (zM <| zE oGt <| zZ) ?_
  refine pwp_cond (b := decide (0 < ((m : Nat) : Int))) rfl (fun h1 => ?_) (fun h1 => ?_)
  · replace h1 := of_decide_eq_true h1
    refine pwp_skip <| pwp_seq <| pwp_block <| kf [(3, (.own 0 152 1 ((g ++ [(m % 1000000000)]).length)))] [(0, some (bm enc_u32 (g ++ [(m % 1000000000)])))] (zM <| zM <| zE (oRe (m % 1000000000)) <| zE (oCv un154 in152 (m % 1000000000)) <| zE (oBs el38 ze152 zo152) <| zA enc_u32 g [(m % 1000000000)] rfl el38 ze152 by152 <| zM <| zF) ?_
    refine kx [(0, (vqn (m / 1000000000)))] [] (zM <| zE (oQu (m / 1000000000)) <| zM <| zZ) ?_
    exact ⟨(m / 1000000000, g ++ [m % 1000000000]), wk, ⟨by omega, split_step hg h1⟩, (by first | omega | (dsimp only; omega))⟩
  · replace h1 := of_decide_eq_false h1
    refine pwp_exit <| pwp_seq <| pwp_sim (publish (t := 3) (k := 0) (es := List.map enc_u32 g) rfl rfl (pub_cells _ _ (fun _ => rfl)) (map_len _ _ rfl) (pub_take _ _ (fun _ => rfl) rfl)) ?_
    refine kx [(2, (vl 152 1 enc_u32 g))] [] (zM <| zM <| zZ) ?_
    refine pwp_ret ⟨_, (.tmp (d := (.sl 152 1 (List.map enc_u32 g))) rfl .nil), ?_⟩
    rw [split_end hg h1]; rfl
end Go.Proofs.YtbecgnplakngdaaGreat
namespace Go.Proofs.YtbecgnplakngdaaGreat
open Go.Fid
set_option maxRecDepth 4000
set_option linter.unusedVariables false
set_option linter.unusedSimpArgs false
theorem cb143 : callB Tryz.prog 143 = true := by kernel_rfl
theorem cb165 : callB Tryz.prog 165 = true := by kernel_rfl
theorem cb181 : callB Tryz.prog 181 = true := by kernel_rfl
theorem cb182 : callB Tryz.prog 182 = true := by kernel_rfl
theorem cb187 : callB Tryz.prog 187 = true := by kernel_rfl
theorem cb207 : callB Tryz.prog 207 = true := by kernel_rfl
theorem fo40_0 : fieldB Tryz.prog 40 0 = some 0 := by kernel_rfl
theorem fo40_1 : fieldB Tryz.prog 40 1 = some 1 := by kernel_rfl
theorem sh4 : shapeB Tryz.prog 4 = some (false, 1) := by kernel_rfl
theorem t_big (a : Nat) : Takes Tryz.prog 182 [(.val (.int .u32 (((a : Nat) : Int))))] (.val (.bool ((decide (1000000000 ≤ ((a : Nat) : Int)))))) := by
  refine fn_intro Tryz.func182 rfl cb182 rfl ?_
  show PWp _ _ _ _ ⟨[(0, (vwn a))], []⟩
  refine pwp_seq <| kx [] [] (zM <| zZ) ?_
  refine pwp_seq <| kx [(2, (vb (decide (1000000000 ≤ ((a : Nat) : Int)))))] [] (zM <| zE oGe <| zM <| zZ) ?_
  refine pwp_ret ⟨_, (.tmp (d := (.val (.bool (decide (1000000000 ≤ ((a : Nat) : Int)))))) rfl .nil), ?_⟩
  rfl
theorem t_index (l : List Nat) (hb : l.length ≤ 17592186044416) : Takes Tryz.prog 207 [(.sl 152 1 (List.map enc_u32 l)), (.val (.func (.func 182) #[] #[]))] (.val (.int .i64 ((firstBig l)))) := by
  refine fn_intro Tryz.func207 rfl cb207 rfl ?_
  show PWp _ _ _ _ ⟨[(0, (vl 152 1 enc_u32 l)), (1, (.d (.val (.func (.func 182) #[] #[]))))], []⟩
  refine pwp_seq <| kx [] [] (zM <| zZ) ?_
  refine pwp_seq <| pwp_seq <| kx [(7, (vin l.length)), (8, (vin 0))] [] (zM <| zE (oLm el38) <| zM <| zZ) ?_
  refine pwp_block <| pwp_loop (α := Nat) (fun i => ⟨[(0, (vl 152 1 enc_u32 l)), (1, (.d (.val (.func (.func 182) #[] #[])))), (7, (vin l.length)), (8, (vin i))], []⟩) (fun i => i ≤ l.length ∧ Dig (l.take i)) (fun i => l.length - i) 0 wk ⟨Nat.zero_le _, dig_nil⟩ ?_
  rintro i ⟨hi, hd⟩
  refine pwp_seq <| kx [(9, (vb (decide (((i : Nat) : Int) < ((l.length : Nat) : Int)))))] [] (zE oLt <| zZ) ?_
  refine pwp_seq <| pwp_cond rfl (fun h1 => ?_) (fun h1 => ?_)
  · replace h1 := of_decide_eq_true h1
    refine pwp_skip <| pwp_seq <| pwp_block <| pwp_seq <| kx [(5, (vin i))] [] (zM <| zM <| zZ) ?_
    refine pwp_seq <| kx [(16, (vb (decide (1000000000 ≤ (((l.getD i 0) : Nat) : Int)))))] [] (zM <| zM <| zM <| zE (oXl el38 i (0 : Nat)) <| zE (oC1 sh152) <| zE (oCl (t_big (l.getD i 0))) <| zZ) ?_
    refine pwp_cond rfl (fun h2 => ?_) (fun h2 => ?_)
    · replace h2 := of_decide_eq_true h2
      refine pwp_seq <| kx [(4, (vin i))] [] (zM <| zM <| zZ) ?_
      refine pwp_ret ⟨_, (.tmp (d := (.val (.int .i64 (((i : Nat) : Int))))) rfl .nil), ?_⟩
      rw [firstBig_at (by omega) hd (by omega)]; rfl
    · replace h2 := of_decide_eq_false h2
      refine pwp_skip <| kx [(8, (vin (i + 1)))] [] (zE (oAd (i + 1)) <| zM <| zZ) ?_
      exact ⟨(i + 1), wk, ⟨by omega, dig_take_succ (by omega) hd (by omega)⟩, (by omega)⟩
  · replace h1 := of_decide_eq_false h1
    refine pwp_exit <| pwp_seq <| kx [(4, (vi (-1)))] [] (zM <| zZ) ?_
    refine pwp_ret ⟨_, (.tmp (d := (.val (.int .i64 (-1)))) rfl .nil), ?_⟩
    rw [firstBig_neg (by rw [List.take_of_length_le (by omega)] at hd; exact hd)]; rfl
theorem t_contains (l : List Nat) (hb : l.length ≤ 17592186044416) : Takes Tryz.prog 181 [(.sl 152 1 (List.map enc_u32 l)), (.val (.func (.func 182) #[] #[]))] (.val (.bool ((decide (0 ≤ firstBig l))))) := by
  refine fn_intro Tryz.func181 rfl cb181 rfl ?_
  show PWp _ _ _ _ ⟨[(0, (vl 152 1 enc_u32 l)), (1, (.d (.val (.func (.func 182) #[] #[]))))], []⟩
  refine pwp_seq <| kx [] [] (zM <| zZ) ?_
  refine pwp_seq <| kx [(4, (vb (decide (0 ≤ (firstBig l)))))] [] (zM <| zM <| zE (oCl (t_index l (by omega))) <| zE oGe <| zM <| zZ) ?_
  refine pwp_ret ⟨_, (.tmp (d := (.val (.bool (decide (0 ≤ (firstBig l)))))) rfl .nil), ?_⟩
  rfl
theorem t_valid (x : RInt) (hb : x.gs.length ≤ 17592186044416) : Takes Tryz.prog 143 [(encI x)] (.val (.bool ((validI x)))) := by
  refine fn_intro Tryz.func143 rfl cb143 rfl ?_
  show PWp _ _ _ _ ⟨[(0, (.d (encI x)))], []⟩
  refine pwp_seq <| kx [(1, (.ref 0 0))] [(0, some (bx (encI x)))] (zN (oBx 0) <| zM <| zZ) ?_
  refine pwp_seq <| kx [(3, (vin x.gs.length))] [] (zE (oFr fo40_1) <| zR (oL1 sh38) <| zE (oLm el38) <| zM <| zZ) ?_
  refine pwp_seq <| pwp_seq <| kx [(8, (vb (((x.gs.length : Nat) : Int) == 0)))] [] (zM <| zE oEq <| zZ) ?_
  refine pwp_cond (b := (((x.gs.length : Nat) : Int) == 0)) rfl (fun h1 => ?_) (fun h1 => ?_)
  · replace h1 := eq_of_beq h1
    refine pwp_seq <| kx [(2, (vb (!x.neg)))] [] (zE (oFr fo40_0) <| zR (oL1 sh4) <| zE oNt <| zM <| zZ) ?_
    refine pwp_ret ⟨_, (.tmp (d := (.val (.bool (!x.neg)))) rfl .nil), ?_⟩
    rw [show validI x = !x.neg from if_pos h1]; rfl
  · replace h1 := ne_of_beq_false h1
    refine pwp_skip <| pwp_seq <| kx [(2, (vb (((((x.gs.getD (x.gs.length - 1) 0) : Nat) : Int) != 0) && !(decide (0 ≤ firstBig x.gs)))))] [] ?_ ?_
    · refine zE (oFr fo40_1) <| zR (oL1 sh38) <| zM <| zE (oSb (x.gs.length - 1)) <| zE (oXl el38 (x.gs.length - 1) (0 : Nat)) <| zE (oC1 sh152) <| zE oNe <| zE (oV (vb ((((x.gs.getD (x.gs.length - 1) 0) : Nat) : Int) != 0)) (mv_ok (by kernel_rfl))) <| ?_
      rcases hb2 : ((((x.gs.getD (x.gs.length - 1) 0) : Nat) : Int) != 0) with _ | _
      · replace hb2 := bne_eq_false_iff_eq.1 hb2
        exact zK <| zK <| zK <| zK <| zE oPf <| zM <| zZ
      · replace hb2 := bne_iff_ne.1 hb2
        exact zE (oFr fo40_1) <| zR (oL1 sh38) <| zE (oCl (t_contains x.gs (by omega))) <| zE oNt <| zE oPa <| zM <| zZ
    refine pwp_ret ⟨_, (.tmp (d := (.val (.bool ((((((x.gs.getD (x.gs.length - 1) 0) : Nat) : Int) != 0) && !(decide (0 ≤ firstBig x.gs))))))) rfl .nil), ?_⟩
    rw [show validI x = _ from if_neg h1]; rfl
theorem t_groups (x : RInt) (hb : x.gs.length ≤ 17592186044416) : Takes Tryz.prog 165 [(encI x)] (.sl 152 1 (List.map enc_u32 (grpI x))) := by
  refine fn_intro Tryz.func165 rfl cb165 rfl ?_
  show PWp _ _ _ _ ⟨[(0, (.d (encI x)))], []⟩
  refine pwp_seq <| kx [(1, (.ref 0 0))] [(0, some (bx (encI x)))] (zN (oBx 0) <| zE (oNl 152 1) <| zZ) ?_
  refine pwp_seq <| pwp_seq <| kx [(5, (vb (!(validI x))))] [] (zR (oLa sh40) <| zE (oCl (t_valid x (by omega))) <| zE oNt <| zZ) ?_
  refine pwp_cond (b := !(validI x)) rfl (fun h1 => ?_) (fun h1 => ?_)
  · refine pwp_seq <| kx [(2, (vl 152 1 enc_u32 []))] [] (zE (oNl 152 1) <| zZ) ?_
    refine pwp_ret ⟨_, (.tmp (d := (.sl 152 1 (List.map enc_u32 []))) rfl .nil), ?_⟩
    rw [show grpI x = [] from if_neg (by simpa using h1)]; rfl
  · refine pwp_skip <| pwp_seq <| kx [(2, (vl 152 1 enc_u32 x.gs))] [] (zE (oFr fo40_1) <| zR (oL1 sh38) <| zM <| zZ) ?_
    refine pwp_ret ⟨_, (.tmp (d := (.sl 152 1 (List.map enc_u32 x.gs))) rfl .nil), ?_⟩
    rw [show grpI x = x.gs from if_pos (by simpa using h1)]; rfl
theorem t_clone (l : List Nat) (hb : l.length ≤ 17592186044416) : Takes Tryz.prog 187 [(.sl 152 1 (List.map enc_u32 l))] (.sl 152 1 (List.map enc_u32 l)) := by
  refine fn_intro Tryz.func187 rfl cb187 rfl ?_
  show PWp _ _ _ _ ⟨[(0, (vl 152 1 enc_u32 l))], []⟩
  refine pwp_seq <| kx [] [] (zE (oNl 152 1) <| zZ) ?_
  refine pwp_seq <| pwp_seq <| pwp_nilq rfl rfl rfl rfl rfl rfl el38 rfl rfl rfl (fun nb hnb => ?_)
  refine pwp_cond (b := nb) rfl (fun h1 => ?_) (fun h1 => ?_)
  · refine pwp_seq <| kx [(2, (vl 152 1 enc_u32 []))] [] (zE (oNl 152 1) <| zZ) ?_
    refine pwp_ret ⟨_, (.tmp (d := (.sl 152 1 (List.map enc_u32 []))) rfl .nil), ?_⟩
    rw [List.map_eq_nil_iff.1 (hnb h1)]; rfl
  · refine pwp_skip <| pwp_seq <| kf [(2, (.own 0 152 1 (([] ++ l).length)))] [(0, some (bm enc_u32 ([] ++ l)))] (zN (oBo 0 el38 ze152 zo152) <| zM <| zA enc_u32 [] l rfl el38 ze152 by152 <| zM <| zF) ?_
    refine pwp_sim (publish (t := 2) (k := 0) (es := List.map enc_u32 ([] ++ l)) rfl rfl (pub_cells _ _ (fun _ => rfl)) (map_len _ _ rfl) (pub_take _ _ (fun _ => rfl) rfl)) ?_
    refine pwp_ret ⟨_, (.tmp (d := (.sl 152 1 (List.map enc_u32 ([] ++ l)))) rfl .nil), ?_⟩
    rfl
end Go.Proofs.YtbecgnplakngdaaGreat
namespace Go.Proofs.YtbecgnplakngdaaGreat
open Go.Fid
set_option maxRecDepth 4000
set_option linter.unusedVariables false
set_option linter.unusedSimpArgs false
theorem bo4 : boolB Tryz.prog 4 = true := by kernel_rfl
theorem cb138 : callB Tryz.prog 138 = true := by kernel_rfl
theorem cb140 : callB Tryz.prog 140 = true := by kernel_rfl
theorem cb142 : callB Tryz.prog 142 = true := by kernel_rfl
theorem cb144 : callB Tryz.prog 144 = true := by kernel_rfl
theorem cb177 : callB Tryz.prog 177 = true := by kernel_rfl
theorem cb188 : callB Tryz.prog 188 = true := by kernel_rfl
theorem cb212 : callB Tryz.prog 212 = true := by kernel_rfl
theorem un3 : (Tryz.prog.underlying 3).isSome = true := by kernel_rfl
theorem t_sign (x : RInt) (hx : x.gs.length ≤ 1099511627776) : Takes Tryz.prog 138 [(encI x)] (.val (.int .i64 ((signI (toZ x))))) := by
  refine fn_intro Tryz.func138 rfl cb138 rfl ?_
  show PWp _ _ _ _ ⟨[(0, (.d (encI x)))], []⟩
  refine pwp_seq <| kx [(1, (.ref 0 0))] [(0, some (bx (encI x)))] (zN (oBx 0) <| zM <| zZ) ?_
  refine pwp_seq <| pwp_block <| pwp_seq <| kx [(3, (vb ((((grpI x).length : Nat) : Int) == 0)))] [] (zR (oLa sh40) <| zE (oCl (t_groups x (by omega))) <| zE (oLm el38 (L := (grpI x))) <| zE oEq <| zM <| zZ) ?_
  refine pwp_cond (b := ((((grpI x).length : Nat) : Int) == 0)) rfl (fun h1 => ?_) (fun h1 => ?_)
  · replace h1 := eq_of_beq h1
    refine pwp_seq <| kx [(2, (vin 0))] [] (zM <| zZ) ?_
    refine pwp_ret ⟨_, (.tmp (d := (.val (.int .i64 (0)))) rfl .nil), ?_⟩
    rw [toZ_nil h1]; rfl
  · replace h1 := ne_of_beq_false h1
    refine pwp_seq <| kx [(8, (vb x.neg))] [] (zE (oFr fo40_0) <| zR (oL1 sh4) <| zM <| zZ) ?_
    refine pwp_cond (b := x.neg) rfl (fun h2 => ?_) (fun h2 => ?_)
    · refine pwp_seq <| kx [(2, (vi (-1)))] [] (zM <| zZ) ?_
      refine pwp_ret ⟨_, (.tmp (d := (.val (.int .i64 (-1)))) rfl .nil), ?_⟩
      rw [sign_neg h1 h2]; rfl
    · refine pwp_skip <| pwp_seq <| kx [(2, (vin 1))] [] (zM <| zZ) ?_
      refine pwp_ret ⟨_, (.tmp (d := (.val (.int .i64 (1)))) rfl .nil), ?_⟩
      rw [sign_pos h1 h2]; rfl
theorem t_neg (x : RInt) (hx : x.gs.length ≤ 1099511627776) : Takes Tryz.prog 177 [(encI x)] (encI (ofZ (-toZ x))) := by
  refine fn_intro Tryz.func177 rfl cb177 rfl ?_
  show PWp _ _ _ _ ⟨[(0, (.d (encI x)))], []⟩
  refine pwp_seq <| kx [(1, (.ref 0 0)), (2, (.ref 1 0))] [(0, some (bx (encI x))), (1, some (bx (encI (RInt.mk false []))))] (zN (oBx 0) <| zN (oAl 1 ze40 zo40) <| zZ) ?_
  refine pwp_seq <| kd [] [(1, some (bx (encI (mkI (!x.neg) (val (grpI x))))))] mo (wE (oFr fo40_0) <| wR (oL1 sh4) <| wE oNt <| wR (oLa sh40) <| wE (oCl (t_groups x (by omega))) <| wE (oCl (t_clone (grpI x) (Nat.le_trans (grpI_len _) (by omega)))) <| wE (oCl (t_made (!x.neg) (grpI x) (grpI_can _).1 (Nat.le_trans (grpI_len _) (by omega)))) <| wT (oSt sh40) <| wZ) ?_
  refine pwp_ret ⟨_, (res_a (cs := (bx (encI (mkI (!x.neg) (val (grpI x)))))) (d := (encI (mkI (!x.neg) (val (grpI x))))) rfl rfl sh40 rfl rfl .nil), ?_⟩
  rw [← neg_eq]; rfl
theorem t_sum (b : Bool) (l : List Nat) (c : Bool) (m : List Nat) (hl : Cano l) (hm : Cano m) (hll : l.length ≤ 1099511627776) (hlm : m.length ≤ 1099511627776) : Takes Tryz.prog 212 [(.val (.bool (b))), (.sl 152 1 (List.map enc_u32 l)), (.val (.bool (c))), (.sl 152 1 (List.map enc_u32 m))] (encI (ofZ (sgn b (val l) + sgn c (val m)))) := by
  refine fn_intro Tryz.func212 rfl cb212 rfl ?_
  show PWp _ _ _ _ ⟨[(0, (vb b)), (1, (vl 152 1 enc_u32 l)), (2, (vb c)), (3, (vl 152 1 enc_u32 m))], []⟩
  refine pwp_seq <| kx [(8, (.ref 0 0))] [(0, some (bx (encI (RInt.mk false []))))] (zN (oAl 0 ze40 zo40) <| zZ) ?_
  refine pwp_seq <| pwp_block <| pwp_seq <| kx [(9, (vb (b == c)))] [] (zM <| zM <| zE (oEb bo4) <| zM <| zZ) ?_
  refine pwp_cond (b := (b == c)) rfl (fun h1 => ?_) (fun h1 => ?_)
  · replace h1 := eq_of_beq h1
    refine pwp_seq <| kx [] [(0, some (bx (encI (mkI b (val (ofNat (val l + val m)))))))] (zM <| zM <| zM <| zE (oCl (t_plus l m hl.1 hm.1 (by omega) (by omega))) <| zE (oCl (t_made b (ofNat (val l + val m)) (ofNat_dig _) (Nat.le_trans (add_len hl.1 hm.1) (by omega)))) <| zT (oSt sh40) <| zZ) ?_
    refine pwp_ret ⟨_, (res_a (cs := (bx (encI (mkI b (val (ofNat (val l + val m))))))) (d := (encI (mkI b (val (ofNat (val l + val m)))))) rfl rfl sh40 rfl rfl .nil), ?_⟩
    rw [← sum_same h1]; rfl
  · replace h1 := ne_of_beq_false h1
    refine pwp_seq <| kx [(18, (vb (decide (0 ≤ (cmpI ((val l : Nat) : Int) ((val m : Nat) : Int))))))] [] (zM <| zM <| zE (oCl (t_compare l m (by assumption) (by assumption) (by omega))) <| zE oGe <| zM <| zZ) ?_
    refine pwp_cond rfl (fun h2 => ?_) (fun h2 => ?_)
    · replace h2 := of_decide_eq_true h2
      refine pwp_seq <| kx [] [(0, some (bx (encI (mkI b (val (ofNat (val l - val m)))))))] (zM <| zM <| zM <| zE (oCl (t_minus l m hl.1 hm.1 (by have := cmpI_ge h2; omega) (by omega))) <| zE (oCl (t_made b (ofNat (val l - val m)) (ofNat_dig _) (Nat.le_trans (sub_len hl.1) (by omega)))) <| zT (oSt sh40) <| zZ) ?_
      refine pwp_ret ⟨_, (res_a (cs := (bx (encI (mkI b (val (ofNat (val l - val m))))))) (d := (encI (mkI b (val (ofNat (val l - val m)))))) rfl rfl sh40 rfl rfl .nil), ?_⟩
      rw [← sum_first h1 (by have := cmpI_ge h2; omega)]; rfl
    · replace h2 := of_decide_eq_false h2
      refine pwp_skip <| pwp_seq <| kx [] [(0, some (bx (encI (mkI c (val (ofNat (val m - val l)))))))] (zM <| zM <| zM <| zE (oCl (t_minus m l hm.1 hl.1 (by have := cmpI_lt h2; omega) (by omega))) <| zE (oCl (t_made c (ofNat (val m - val l)) (ofNat_dig _) (Nat.le_trans (sub_len hm.1) (by omega)))) <| zT (oSt sh40) <| zZ) ?_
      refine pwp_ret ⟨_, (res_a (cs := (bx (encI (mkI c (val (ofNat (val m - val l))))))) (d := (encI (mkI c (val (ofNat (val m - val l)))))) rfl rfl sh40 rfl rfl .nil), ?_⟩
      rw [← sum_second h1 (by have := cmpI_lt h2; omega)]; rfl
theorem t_add (x : RInt) (y : RInt) (hx : x.gs.length ≤ 1099511627776) (hy : y.gs.length ≤ 1099511627776) : Takes Tryz.prog 188 [(encI x), (encI y)] (encI (ofZ (toZ x + toZ y))) := by
  refine fn_intro Tryz.func188 rfl cb188 rfl ?_
  show PWp _ _ _ _ ⟨[(0, (.d (encI x))), (1, (.d (encI y)))], []⟩
  refine pwp_seq <| kx [(2, (.ref 0 0)), (3, (.ref 1 0)), (4, (.ref 2 0))] [(0, some (bx (encI x))), (1, some (bx (encI y))), (2, some (bx (encI (RInt.mk false []))))] (zN (oBx 0) <| zN (oBx 1) <| zN (oAl 2 ze40 zo40) <| zZ) ?_
  refine pwp_seq <| kd [] [(2, some (bx (encI (ofZ (sgn x.neg (val (grpI x)) + sgn y.neg (val (grpI y)))))))] mo (wE (oFr fo40_0) <| wR (oL1 sh4) <| wR (oLa sh40) <| wE (oCl (t_groups x (by omega))) <| wE (oFr fo40_0) <| wR (oL1 sh4) <| wR (oLa sh40) <| wE (oCl (t_groups y (by omega))) <| wE (oCl (t_sum x.neg (grpI x) y.neg (grpI y) (grpI_can _) (grpI_can _) (Nat.le_trans (grpI_len _) (by omega)) (Nat.le_trans (grpI_len _) (by omega)))) <| wT (oSt sh40) <| wZ) ?_
  refine pwp_ret ⟨_, (res_a (cs := (bx (encI (ofZ (sgn x.neg (val (grpI x)) + sgn y.neg (val (grpI y))))))) (d := (encI (ofZ (sgn x.neg (val (grpI x)) + sgn y.neg (val (grpI y)))))) rfl rfl sh40 rfl rfl .nil), ?_⟩
  rfl
theorem t_mul (x : RInt) (y : RInt) (hx : x.gs.length ≤ 1099511627776) (hy : y.gs.length ≤ 1099511627776) : Takes Tryz.prog 140 [(encI x), (encI y)] (encI (ofZ (toZ x * toZ y))) := by
  refine fn_intro Tryz.func140 rfl cb140 rfl ?_
  show PWp _ _ _ _ ⟨[(0, (.d (encI x))), (1, (.d (encI y)))], []⟩
  refine pwp_seq <| kx [(2, (.ref 0 0)), (3, (.ref 1 0)), (4, (.ref 2 0))] [(0, some (bx (encI x))), (1, some (bx (encI y))), (2, some (bx (encI (RInt.mk false []))))] (zN (oBx 0) <| zN (oBx 1) <| zN (oAl 2 ze40 zo40) <| zZ) ?_
  refine pwp_seq <| kd [] [(2, some (bx (encI (mkI (!(x.neg == y.neg)) (val (ofNat (val (grpI x) * val (grpI y))))))))] mo (wE (oFr fo40_0) <| wR (oL1 sh4) <| wE (oFr fo40_0) <| wR (oL1 sh4) <| wE (oNb bo4) <| wR (oLa sh40) <| wE (oCl (t_groups x (by omega))) <| wR (oLa sh40) <| wE (oCl (t_groups y (by omega))) <| wE (oCl (t_times (grpI x) (grpI y) (grpI_can _).1 (grpI_can _).1 (Nat.le_trans (grpI_len _) (by omega)) (Nat.le_trans (grpI_len _) (by omega)))) <| wE (oCl (t_made (!(x.neg == y.neg)) (ofNat (val (grpI x) * val (grpI y))) (ofNat_dig _) (Nat.le_trans (mul_len (grpI_can _).1 (grpI_can _).1) (by have := grpI_len x; have := grpI_len y; omega)))) <| wT (oSt sh40) <| wZ) ?_
  refine pwp_ret ⟨_, (res_a (cs := (bx (encI (mkI (!(x.neg == y.neg)) (val (ofNat (val (grpI x) * val (grpI y)))))))) (d := (encI (mkI (!(x.neg == y.neg)) (val (ofNat (val (grpI x) * val (grpI y))))))) rfl rfl sh40 rfl rfl .nil), ?_⟩
  rw [show toZ x * toZ y = _ from rfl, toZ, toZ, ← mul_eq]; rfl
theorem t_of (n : Int) (hlo : -9223372036854775808 ≤ n) (hhi : n ≤ 9223372036854775807) : Takes Tryz.prog 142 [(.val (.int .i64 (n)))] (encI (ofZ n)) := by
  refine fn_intro Tryz.func142 rfl cb142 rfl ?_
  show PWp _ _ _ _ ⟨[(0, (vi n))], []⟩
  refine pwp_seq <| kx [(2, (.ref 0 0))] [(0, some (bx (encI (RInt.mk false []))))] (zN (oAl 0 ze40 zo40) <| zZ) ?_
  refine pwp_seq <| kx [(3, (vqn ((n % 18446744073709551616).toNat)))] [] (zM <| zE (oCv un3 in154 ((n % 18446744073709551616).toNat) (hr := by exact (conv_u64 _))) <| zM <| zZ) ?_
  refine pwp_seq <| pwp_seq <| kx [(7, (vb (decide (n < 0))))] [] (zM <| zE oLt <| zZ) ?_
  refine pwp_cond (b := decide (n < 0)) rfl (fun h1 => ?_) (fun h1 => ?_)
  · replace h1 := of_decide_eq_true h1
    refine kx [(3, (vqn ((-n).toNat)))] [] (zM <| zE (oNg (((-n).toNat : Nat) : Int) (hr := by exact (neg_u64 (by assumption) hlo))) <| zM <| zZ) ?_
    refine pwp_seq <| kx [] [(0, some (bx (encI (mkI (decide (n < 0)) (val (ofNat ((-n).toNat)))))))] (zM <| zE oLt <| zM <| zE (oCl (t_split ((-n).toNat) (by omega))) <| zE (oCl (t_made (decide (n < 0)) (ofNat ((-n).toNat)) (ofNat_dig _) (Nat.le_trans (ofNat_len3 (by omega)) (by decide)))) <| zT (oSt sh40) <| zZ) ?_
    refine pwp_ret ⟨_, (res_a (cs := (bx (encI (mkI (decide (n < 0)) (val (ofNat ((-n).toNat))))))) (d := (encI (mkI (decide (n < 0)) (val (ofNat ((-n).toNat)))))) rfl rfl sh40 rfl rfl .nil), ?_⟩
    rw [of_neg h1]; rfl
  · replace h1 := of_decide_eq_false h1
    refine pwp_skip <| pwp_seq <| kx [] [(0, some (bx (encI (mkI (decide (n < 0)) (val (ofNat ((n % 18446744073709551616).toNat)))))))] (zM <| zE oLt <| zM <| zE (oCl (t_split ((n % 18446744073709551616).toNat) (by omega))) <| zE (oCl (t_made (decide (n < 0)) (ofNat ((n % 18446744073709551616).toNat)) (ofNat_dig _) (Nat.le_trans (ofNat_len3 (by omega)) (by decide)))) <| zT (oSt sh40) <| zZ) ?_
    refine pwp_ret ⟨_, (res_a (cs := (bx (encI (mkI (decide (n < 0)) (val (ofNat ((n % 18446744073709551616).toNat))))))) (d := (encI (mkI (decide (n < 0)) (val (ofNat ((n % 18446744073709551616).toNat)))))) rfl rfl sh40 rfl rfl .nil), ?_⟩
    rw [of_pos h1 hhi]; rfl
theorem t_compareI (x : RInt) (y : RInt) (hx : x.gs.length ≤ 1099511627776) (hy : y.gs.length ≤ 1099511627776) : Takes Tryz.prog 144 [(encI x), (encI y)] (.val (.int .i64 ((cmpI (toZ x) (toZ y))))) := by
  refine fn_intro Tryz.func144 rfl cb144 rfl ?_
  show PWp _ _ _ _ ⟨[(0, (.d (encI x))), (1, (.d (encI y)))], []⟩
  refine pwp_seq <| kx [(2, (.ref 0 0)), (3, (.ref 1 0))] [(0, some (bx (encI x))), (1, some (bx (encI y)))] (zN (oBx 0) <| zN (oBx 1) <| zM <| zZ) ?_
  refine pwp_seq <| pwp_seq <| kd [(5, (vi (signI (toZ x)))), (6, (vi (signI (toZ y))))] [] mo (wR (oLa sh40) <| wE (oCl (t_sign x (by omega))) <| wR (oLa sh40) <| wE (oCl (t_sign y (by omega))) <| wM <| wM <| wZ) ?_
  refine pwp_seq <| kx [(14, (vb ((signI (toZ x)) != (signI (toZ y)))))] [] (zM <| zM <| zE oNe <| zZ) ?_
  refine pwp_cond (b := ((signI (toZ x)) != (signI (toZ y)))) rfl (fun h1 => ?_) (fun h1 => ?_)
  · replace h1 := bne_iff_ne.1 h1
    refine pwp_seq <| kx [(4, (vi (cmpI (signI (toZ x)) (signI (toZ y)))))] [] (zM <| zM <| zE (oCl (t_cmp_int (signI (toZ x)) (signI (toZ y)))) <| zM <| zZ) ?_
    refine pwp_ret ⟨_, (.tmp (d := (.val (.int .i64 ((cmpI (signI (toZ x)) (signI (toZ y))))))) rfl .nil), ?_⟩
    rw [← cmp_sign h1]; rfl
  · replace h1 := bne_eq_false_iff_eq.1 h1
    refine pwp_skip <| pwp_seq <| kd [(7, (vi (cmpI ((val (grpI x) : Nat) : Int) ((val (grpI y) : Nat) : Int))))] [] mo (wR (oLa sh40) <| wE (oCl (t_groups x (by omega))) <| wR (oLa sh40) <| wE (oCl (t_groups y (by omega))) <| wE (oCl (t_compare (grpI x) (grpI y) (grpI_can _) (grpI_can _) (Nat.le_trans (grpI_len _) (by omega)))) <| wM <| wZ) ?_
    refine pwp_seq <| pwp_seq <| kx [(24, (vb x.neg))] [] (zE (oFr fo40_0) <| zR (oL1 sh4) <| zZ) ?_
    refine pwp_cond (b := x.neg) rfl (fun h2 => ?_) (fun h2 => ?_)
    · refine pwp_seq <| kx [(4, (vi (-(cmpI ((val (grpI x) : Nat) : Int) ((val (grpI y) : Nat) : Int)))))] [] (zM <| zE (oNg (-(cmpI ((val (grpI x) : Nat) : Int) ((val (grpI y) : Nat) : Int))) (hr := by exact (wi64 (by omega) (by have := cmpI_range ((val (grpI x) : Nat) : Int) ((val (grpI y) : Nat) : Int); omega) (by have := cmpI_range ((val (grpI x) : Nat) : Int) ((val (grpI y) : Nat) : Int); omega)))) <| zM <| zZ) ?_
      refine pwp_ret ⟨_, (.tmp (d := (.val (.int .i64 (-(cmpI ((val (grpI x) : Nat) : Int) ((val (grpI y) : Nat) : Int)))))) rfl .nil), ?_⟩
      rw [← cmp_neg h1 h2]; rfl
    · refine pwp_skip <| pwp_seq <| kx [(4, (vi (cmpI ((val (grpI x) : Nat) : Int) ((val (grpI y) : Nat) : Int))))] [] (zM <| zM <| zZ) ?_
      refine pwp_ret ⟨_, (.tmp (d := (.val (.int .i64 ((cmpI ((val (grpI x) : Nat) : Int) ((val (grpI y) : Nat) : Int)))))) rfl .nil), ?_⟩
      rw [← cmp_pos h1 h2]; rfl
end Go.Proofs.YtbecgnplakngdaaGreat
namespace Go.Proofs.YtbecgnplakngdaaGreat
open Go.RowKit Go.Shelf
attribute [local go_sem] Oper.semAt_some
set_option maxRecDepth 100000 in
set_option maxHeartbeats 2000000 in
theorem trimV (b cap : Nat) (l : List Nat) (hd : Go.Fid.Dig l) (h0 : Go.Fid.val l ≠ 0) (w : World) (hc : ∀ i, i < l.length → w.cell? ⟨b, i, none⟩ = some (.int .u32 ((l.getD i 0 : Nat) : Int))) (h1 : l.length ≤ cap) (h2 : cap ≤ maxLen) :
    CallsIn Fence.wide 1 Tryz.prog 206 #[.slice (some ⟨b, 0, none⟩) l.length cap] w fun e w' => e = .returned (.slice (some ⟨b, 0, none⟩) (Go.Fid.ofNat (Go.Fid.val l)).length cap) ∧ w' = w := by
  refine callsIn_of_wp Tryz.func206 rfl trivial ?_ rfl
  simp only [Tryz.ntmps206, List.size_toArray, List.length_cons, List.length_nil, Nat.reduceAdd, Nat.reduceSub, Array.replicate_succ, Array.replicate_zero, List.push_toArray, List.append_toArray, List.nil_append, List.cons_append]
  gi_wp2
  gi_loopw [0] (fun i wr => ∃ j : Nat, j ≤ l.length ∧ 0 < j ∧ i = .slice (some ⟨b, 0, none⟩) j cap ∧ Go.Fid.val (l.take j) = Go.Fid.val l ∧ wr = w)
    (fun i _ => match i with | .slice _ n _ => n | _ => 0)
  case atStart =>
    have hl : 0 < l.length := by
      rcases l with _ | ⟨d, l⟩
      · exact absurd rfl h0
      · simp
    exact ⟨l.length, Nat.le_refl _, hl, rfl, by rw [List.take_length], rfl⟩
  case round =>
    obtain ⟨j, hj, hj0, rfl, hv, rfl⟩ := hrel
    have hcj := hc (j - 1) (by omega)
    have hj63 : (j : Int) ≤ 9223372036854775807 := by unfold maxLen at h2; omega
    have hv2 := Go.Fid.val_take_succ l (j - 1)
    rw [show j - 1 + 1 = j by omega] at hv2
    by_cases hz : l.getD (j - 1) 0 = 0
    · rw [hz] at hcj hv2
      have h1j : 0 < j - 1 := by
        rcases Nat.eq_zero_or_pos (j - 1) with e | e
        · rw [e, List.take_zero, Go.Fid.val_nil, Nat.mul_zero] at hv2
          omega
        · exact e
      gi_wp2
      go_roundw
      case rel => exact ⟨j - 1, by omega, h1j, by simp, by rw [← hv, hv2]; simp, trivial⟩
      case measure => simp; omega
    · gi_wp2
      · rename_i hq
        exfalso
        simp [List.getD] at hz hq
        omega
      · refine ⟨rfl, .slice (some ⟨b, 0, none⟩) j cap, by simp [results, Tryz.results206, go_sem], ?_⟩
        have e : Go.Fid.ofNat (Go.Fid.val l) = l.take j := by
          rw [← hv]
          refine (Go.Fid.can_eq ⟨hd.take j, ?_⟩).symm
          unfold Go.Fid.Top
          have h5 : (l.take j).length - 1 = j - 1 := by rw [List.length_take]; omega
          rw [h5]
          have h6 : j - 1 < l.length := by omega
          simp [List.getD, List.getElem?_eq_getElem h6, List.getElem?_take_of_lt (show j - 1 < j by omega)] at hz ⊢
          exact hz
        rw [e, List.length_take, Nat.min_eq_left hj]
        exact ⟨rfl, rfl⟩
theorem trim_cb : Go.Fid.callB Tryz.prog 206 = true := by kernel_rfl
open Go.Fid in
theorem e_trimO {o : Oper} {S : Nat → SV} {x : Operand} {ats : Array TypeId} {k T m : Nat} (l : List Nat) (ho : o.op = .call { callee := .value (.func 206), args := #[x], argTypes := ats }) (hx : ev S x = .own k T 1 m) (hl : l.length = m) (hd : Dig l) (h0 : val l ≠ 0) :
    EOk Tryz.prog o S [(k, l.map (fun g => SV.d (enc_u32 g)))] (.own k T 1 (ofNat (val l)).length) :=
  fun a w D β Q hop hrd hD => by
    have hxv := hop x (by simp [ho, Op.operands, Call.operands])
    rw [hx] at hxv
    have hm : 0 < m := by
      rcases Nat.eq_zero_or_pos m with e | e
      · rw [e] at hl
        have := List.eq_nil_of_length_eq_zero hl
        subst this
        exact absurd rfl h0
      · exact e
    have hle : (ofNat (val l)).length ≤ l.length := ofNat_length_le (val_lt hd)
    rcases hxv with ⟨_, e, _⟩ | ⟨b, cap, vs, h1, h2, h3, h4, h5, h6⟩
    · omega
    · have hblk := hrd (k, l.map (fun g => SV.d (enc_u32 g))) (by simp)
      rcases hblk with ⟨g1, _⟩ | ⟨b', vs', T', g1, g2, g3, g4, g5⟩
      · rw [h1] at g1; cases g1
      · obtain rfl : b = b' := by rw [h1] at g1; injection g1
        rw [h3] at g2
        injection g2 with g2
        injection g2 with g2 gT
        subst g2; subst gT
        have hcell : ∀ i, w.cell? ⟨b, i, none⟩ = vs[i]? := fun i => cell_of_row w b i vs T (0, 0) h3
        have hrun : (execOp a.eval o).run Tryz.prog w = .ok (.enter 206 #[.slice (some ⟨b, 0, none⟩) l.length cap]) w := by
          simp only [execOp, ho, resolve, Deferred.ofValue, Act.eval, Sem.run_bind, Sem.run_pure, Result.andThen_ok, invoke, Array.empty_append, Array.append_empty]
          rw [run_callFunc trim_cb]
          simp [h2, hl]
        refine wp_enter hrun (((callsIn_wide (n := 1)).1 (trimV b cap l hd h0 w (fun i hi => ?_) (by omega) h6)).mono fun e w' h => ?_)
        · rw [hcell]
          obtain ⟨u, e1, _, e3⟩ := g4 i (.d (enc_u32 (l.getD i 0))) (by rw [List.getElem?_map, List.getElem?_eq_getElem hi]; simp [List.getD, List.getElem?_eq_getElem hi])
          rw [e1, rep_val e3]
        · obtain ⟨he, rfl⟩ := h
          exact ⟨_, he, _, D, rfl, Below.refl _ _, ⟨fun _ _ _ h => h, fun _ _ _ h => .inl h⟩, .inr ⟨b, cap, vs, h1, rfl, h3, h4, by omega, h6⟩⟩
open Go.Fid in
theorem trim_take {l : List Nat} (hd : Dig l) : ofNat (val l) = l.take (ofNat (val l)).length := by
  have h1 : ∀ (n : Nat) (l : List Nat), l.length = n → Dig l → ofNat (val l) = l.take (ofNat (val l)).length := by
    intro n
    induction n with
    | zero => intro l hl _; rw [List.eq_nil_of_length_eq_zero hl]; rw [val_nil, ofNat_zero]; rfl
    | succ n ih =>
      intro l hl hd
      have h2 := val_take_succ l n
      rw [← hl, List.take_length] at h2
      by_cases hz : l.getD n 0 = 0
      · rw [hz, Nat.mul_zero, Nat.add_zero] at h2
        have h3 := ih (l.take n) (by rw [List.length_take]; omega) (hd.take n)
        rw [← h2, List.take_take] at h3
        have h4 : (ofNat (val l)).length ≤ n := by
          rw [h2]; exact ofNat_length_le (by have := val_lt (hd.take n); rwa [List.length_take, Nat.min_eq_left (by omega)] at this)
        rw [Nat.min_eq_left h4] at h3
        exact h3
      · have h3 : Cano l := ⟨hd, by
          unfold Top
          rw [show l.length - 1 = n by omega]
          have h6 : n < l.length := by omega
          simp [List.getD, List.getElem?_eq_getElem h6] at hz ⊢
          exact hz⟩
        rw [← can_eq h3, List.take_length]
  exact h1 _ l rfl hd
end Go.Proofs.YtbecgnplakngdaaGreat
namespace Go.Proofs.YtbecgnplakngdaaGreat
open Go.Fid
set_option maxRecDepth 4000
set_option linter.unusedVariables false
set_option linter.unusedSimpArgs false
theorem cb210 : callB Tryz.prog 210 = true := by kernel_rfl
theorem ze38 : zeroB Tryz.prog 38 = some [.slice none 0 0] := by kernel_rfl
theorem zo38 : ZOk [.slice none 0 0] [.sl 152 1 []] := by simp [ZOk, Value.oneCell']
theorem t_short (a : List Nat) (d : Nat) (hda : Dig a) (hd0 : 0 < d) (hd1 : d ≤ 1000000000) (hla : a.length ≤ 17592186044416) : Takes Tryz.prog 210 [(.sl 152 1 (List.map enc_u32 a)), (.val (.int .u32 (((d : Nat) : Int))))] (.tup [(.sl 152 1 (List.map enc_u32 (ofNat (val a / d)))), (.val (.int .u32 ((((val a % d) : Nat) : Int))))]) := by
  refine fn_intro Tryz.func210 rfl cb210 rfl ?_
  show PWp _ _ _ _ ⟨[(0, (vl 152 1 enc_u32 a)), (1, (vwn d))], []⟩
  refine pwp_seq <| kx [(3, (.ref 0 0)), (4, (.ref 1 0)), (5, (vwn 0))] [(0, some (bx (.val (.int .u32 (((d : Nat) : Int)))))), (1, some (bx (.sl 152 1 (List.map enc_u32 []))))] (zN (oBx 0) <| zN (oAl 1 ze38 zo38) <| zM <| zZ) ?_
  refine pwp_seq <| kx [] [(1, some [(.own 2 152 1 a.length)]), (2, some (bm enc_u32 (List.replicate a.length 0)))] (zM <| zE (oLm el38) <| zN (oMk 2 enc_u32 (0 : Nat) a.length a.length el38 ze152 zo152 by152) <| zT (oSo sh38) <| zZ) ?_
  refine pwp_seq <| kx [(6, (.ref 3 0))] [(3, some (bx (.val (.int .u64 (0)))))] (zH (oAl 3 ze154 zo154) <| zT (oSt sh154) <| zZ) ?_
  refine pwp_seq <| pwp_backL backs cb166 rfl 7 enc_u32 a 0 (fun (q, rest) => ⟨[(3, (.ref 0 0)), (4, (.ref 1 0)), (5, (vwn 0)), (6, (.ref 3 0))], [(0, some (bx (.val (.int .u32 (((d : Nat) : Int)))))), (1, some [(.own 2 152 1 a.length)]), (2, some (bm enc_u32 q)), (3, some (bx (.val (.int .u64 (((rest : Nat) : Int))))))]⟩) (fun (j : Nat) (q, rest) => q.length = a.length ∧ Dig q ∧ rest < d ∧ val (a.drop (a.length - j)) = val (q.drop (a.length - j)) * d + rest) (List.replicate a.length 0, 0) rfl rfl rfl rfl rfl rfl rfl rfl rfl rfl rfl rfl (fun _ => rfl) (fun _ => rfl) wk ⟨by simp, dig_replicate _, hd0, by simp [val, val_replicate]⟩ (by omega) ?_ ?_
  · rintro rl j ⟨q, rest⟩ hj ⟨hlen, hdq, hr, hv⟩
    have hg := hda.getD (a.length - 1 - j)
    obtain ⟨hb1, hb2⟩ := short_bound hr hd1 hg
    refine pwp_seq <| kx [(7, (vin (a.length - 1 - j)))] [] (zM <| zZ) ?_
    refine kx [(8, (vwn (a.getD (a.length - 1 - j) 0)))] [] (zM <| zZ) ?_
    refine pwp_block <| pwp_seq <| kx [(9, (vqn ((rest * 1000000000) + (a.getD (a.length - 1 - j) 0))))] [] (zR (oL1 sh154) <| zE (oMl (rest * 1000000000)) <| zM <| zE (oCv un152 in154 (a.getD (a.length - 1 - j) 0)) <| zE (oAd ((rest * 1000000000) + (a.getD (a.length - 1 - j) 0))) <| zM <| zZ) ?_
    refine kd [] [(2, some (bm enc_u32 (q.set (a.length - 1 - j) (((rest * 1000000000) + (a.getD (a.length - 1 - j) 0)) / d)))), (3, some (bx (.val (.int .u64 ((((((rest * 1000000000) + (a.getD (a.length - 1 - j) 0)) % d) : Nat) : Int))))))] mo (wR (oL1 sh38) <| wM <| wM <| wR (oL1 sh152) <| wE (oCv un152 in154 d) <| wE (oQu (((rest * 1000000000) + (a.getD (a.length - 1 - j) 0)) / d)) <| wE (oCv un154 in152 (((rest * 1000000000) + (a.getD (a.length - 1 - j) 0)) / d)) <| wM <| wR (oL1 sh152) <| wE (oCv un152 in154 d) <| wE (oRe (((rest * 1000000000) + (a.getD (a.length - 1 - j) 0)) % d)) <| wE (oXo el38 (a.length - 1 - j)) <| wT (oSp sh152 (a.length - 1 - j) (((rest * 1000000000) + (a.getD (a.length - 1 - j) 0)) / d)) <| wT (oSt sh154) <| wZ) ?_
    exact ⟨(q.set (a.length - 1 - j) ((rest * 1000000000 + a.getD (a.length - 1 - j) 0) / d), (rest * 1000000000 + a.getD (a.length - 1 - j) 0) % d), wk, ⟨by simpa using hlen, hdq.set _ hb2, Nat.mod_lt _ hd0, short_step hj hlen hv rfl⟩⟩
  · rintro ⟨q, rest⟩ ⟨hlen, hdq, hr, hv⟩
    obtain ⟨e1, e2⟩ := short_end hv hr
    refine pwp_seq <| pwp_sim (publishB (j := 1) (k := 2) (es := List.map enc_u32 q) rfl rfl rfl (pub_cells _ _ (fun _ => rfl)) (map_len _ _ hlen) (pub_take _ _ (fun _ => rfl) hlen)) ?_
    refine kd [(5, (vwn rest))] [(1, some (bx (.sl 152 1 (List.map enc_u32 (ofNat (val q))))))] mo (wR (oL1 sh38) <| wE (oCl (t_trim q (by assumption) (by omega))) <| wR (oL1 sh154) <| wE (oCv un154 in152 rest) <| wT (oSt sh38) <| wM <| wZ) ?_
    refine pwp_ret ⟨_, (res_1 (cs := (bx (.sl 152 1 (List.map enc_u32 (ofNat (val q)))))) (d := (.sl 152 1 (List.map enc_u32 (ofNat (val q))))) rfl rfl sh38 rfl rfl (.tmp (d := (.val (.int .u32 (((rest : Nat) : Int))))) rfl .nil)), ?_⟩
    rw [← e1, ← e2]; rfl
theorem o_times (a b : List Nat) (hda : Dig a) (hdb : Dig b) (hla : a.length ≤ 4398046511104) (hlb : b.length ≤ 4398046511104) (h0 : 0 < val a * val b) : TakesO Tryz.prog 179 [(.sl 152 1 (List.map enc_u32 a)), (.sl 152 1 (List.map enc_u32 b))] 152 1 (ofNat (val a * val b)).length (List.map enc_u32 (ofNat (val a * val b))) := by
  refine fn_introO Tryz.func179 rfl cb179 rfl (ofNat_len_pos h0) ?_
  show PWp _ _ _ _ ⟨[(0, (vl 152 1 enc_u32 a)), (1, (vl 152 1 enc_u32 b))], []⟩
  refine pwp_seq <| kx [] [] (zE (oNl 152 1) <| zZ) ?_
  refine pwp_seq <| kx [(5, (.own 0 152 1 (a.length + b.length)))] [(0, some (bm enc_u32 (List.replicate (a.length + b.length) 0)))] (zM <| zE (oLm el38) <| zM <| zE (oLm el38) <| zE (oAd (a.length + b.length)) <| zN (oMk 0 enc_u32 (0 : Nat) (a.length + b.length) (a.length + b.length) el38 ze152 zo152 by152) <| zM <| zZ) ?_
  refine pwp_seq <| pwp_seq <| kx [(18, (vl 152 1 enc_u32 a)), (19, (vin a.length)), (20, (vin 0))] [] (zM <| zE (oLm el38) <| zM <| zZ) ?_
  refine pwp_block <| pwp_loop (α := Nat × List Nat) (fun (i, out) => ⟨[(1, (vl 152 1 enc_u32 b)), (5, (.own 0 152 1 (a.length + b.length))), (18, (vl 152 1 enc_u32 a)), (19, (vin a.length)), (20, (vin i))], [(0, some (bm enc_u32 out))]⟩) (fun (i, out) => out.length = a.length + b.length ∧ Dig out ∧ i ≤ a.length ∧ (∀ k, i + b.length ≤ k → out.getD k 0 = 0) ∧ val out = val (a.take i) * val b) (fun (i, out) => a.length - i) (0, List.replicate (a.length + b.length) 0) wk ⟨by simp, dig_replicate _, Nat.zero_le _, fun k _ => getD_replicate _ k, by simp [val, val_replicate]⟩ ?_
  rintro ⟨i, out⟩ ⟨hlen, hdo, hi, hz, hv⟩
  have hai := hda.getD i
  refine pwp_seq <| kx [(21, (vb (decide (((i : Nat) : Int) < ((a.length : Nat) : Int)))))] [] (zE oLt <| zZ) ?_
  refine pwp_seq <| pwp_cond rfl (fun h1 => ?_) (fun h1 => ?_)
  · replace h1 := of_decide_eq_true h1
    refine pwp_skip <| pwp_seq <| pwp_block <| pwp_seq <| kx [(6, (vin i)), (7, (vwn (a.getD i 0)))] [] (zM <| zE (oXl el38 i (0 : Nat)) <| zE (oC1 sh152) <| zM <| zM <| zZ) ?_
    refine pwp_seq <| kx [(8, (vqn 0))] [] (zM <| zZ) ?_
    refine pwp_seq <| pwp_seq <| kx [(25, (vl 152 1 enc_u32 b)), (26, (vin b.length)), (27, (vin 0))] [] (zM <| zE (oLm el38) <| zM <| zZ) ?_
    refine pwp_block <| pwp_loop (α := Nat × List Nat × Nat) (fun (j, o2, c) => ⟨[(1, (vl 152 1 enc_u32 b)), (5, (.own 0 152 1 (a.length + b.length))), (6, (vin i)), (7, (vwn (a.getD i 0))), (8, (vqn c)), (18, (vl 152 1 enc_u32 a)), (19, (vin a.length)), (20, (vin i)), (25, (vl 152 1 enc_u32 b)), (26, (vin b.length)), (27, (vin j))], [(0, some (bm enc_u32 o2))]⟩) (fun (j, o2, c) => o2.length = a.length + b.length ∧ Dig o2 ∧ j ≤ b.length ∧ c < 1000000000 ∧ (∀ k, i + b.length ≤ k → o2.getD k 0 = 0) ∧ val o2 + pw (i + j) * c = val (a.take i) * val b + pw i * (a.getD i 0 * val (b.take j))) (fun (j, o2, c) => b.length - j) (0, out, 0) wk ⟨hlen, hdo, Nat.zero_le _, by decide, hz, by simp [val, hv]⟩ ?_
    rintro ⟨j, o2, c⟩ ⟨hlen2, hdo2, hj, hc, hz2, hv2⟩
    have hbj := hdb.getD j
    have hoj := hdo2.getD (i + j)
    have hpq : a.getD i 0 * b.getD j 0 ≤ 999999999 * 999999999 := Nat.mul_le_mul (by omega) (by omega)
    refine pwp_seq <| kx [(28, (vb (decide (((j : Nat) : Int) < ((b.length : Nat) : Int)))))] [] (zE oLt <| zZ) ?_
    refine pwp_seq <| pwp_cond rfl (fun h2 => ?_) (fun h2 => ?_)
    · replace h2 := of_decide_eq_true h2
      refine pwp_skip <| pwp_seq <| pwp_block <| pwp_seq <| kx [(9, (vin j)), (10, (vwn (b.getD j 0)))] [] (zM <| zE (oXl el38 j (0 : Nat)) <| zE (oC1 sh152) <| zM <| zM <| zZ) ?_
      refine pwp_seq <| kx [(11, (vqn (((o2.getD (i + j) 0) + ((a.getD i 0) * (b.getD j 0))) + c)))] [] (zM <| zM <| zM <| zE (oAd (i + j)) <| zE (oXo el38 (i + j)) <| zR (oLp sh152 (i + j) (0 : Nat)) <| zE (oCv un152 in154 (o2.getD (i + j) 0)) <| zM <| zE (oCv un152 in154 (a.getD i 0)) <| zM <| zE (oCv un152 in154 (b.getD j 0)) <| zE (oMl ((a.getD i 0) * (b.getD j 0))) <| zE (oAd ((o2.getD (i + j) 0) + ((a.getD i 0) * (b.getD j 0)))) <| zM <| zE (oAd (((o2.getD (i + j) 0) + ((a.getD i 0) * (b.getD j 0))) + c)) <| zM <| zZ) ?_
      refine kx [(8, (vqn ((((o2.getD (i + j) 0) + ((a.getD i 0) * (b.getD j 0))) + c) / 1000000000)))] [(0, some (bm enc_u32 (o2.set (i + j) ((((o2.getD (i + j) 0) + ((a.getD i 0) * (b.getD j 0))) + c) % 1000000000))))] (zM <| zM <| zM <| zE (oAd (i + j)) <| zM <| zE (oRe ((((o2.getD (i + j) 0) + ((a.getD i 0) * (b.getD j 0))) + c) % 1000000000)) <| zE (oCv un154 in152 ((((o2.getD (i + j) 0) + ((a.getD i 0) * (b.getD j 0))) + c) % 1000000000)) <| zM <| zE (oQu ((((o2.getD (i + j) 0) + ((a.getD i 0) * (b.getD j 0))) + c) / 1000000000)) <| zE (oXo el38 (i + j)) <| zT (oSp sh152 (i + j) ((((o2.getD (i + j) 0) + ((a.getD i 0) * (b.getD j 0))) + c) % 1000000000)) <| zM <| zZ) ?_
      refine kx [(27, (vin (j + 1)))] [] (zE (oAd (j + 1)) <| zM <| zZ) ?_
      exact ⟨(j + 1, o2.set (i + j) ((o2.getD (i + j) 0 + a.getD i 0 * b.getD j 0 + c) % 1000000000), (o2.getD (i + j) 0 + a.getD i 0 * b.getD j 0 + c) / 1000000000), wk, (by obtain ⟨q1, q2⟩ := times_step (by omega) hdo2 hv2 rfl (val_take_succ b j); exact ⟨by simpa using hlen2, q1, by omega, by omega, zero_set (by omega) hz2, q2⟩), (by first | omega | (dsimp only; omega))⟩
    · replace h2 := of_decide_eq_false h2
      have hje : j = b.length := by omega
      rw [hje] at hv2
      refine pwp_exit <| kx [] [(0, some (bm enc_u32 (o2.set (i + b.length) c)))] (zM <| zM <| zM <| zE (oLm el38) <| zE (oAd (i + b.length)) <| zM <| zE (oCv un154 in152 c) <| zE (oXo el38 (i + b.length)) <| zT (oSp sh152 (i + b.length) c) <| zZ) ?_
      refine kx [(20, (vin (i + 1)))] [] (zE (oAd (i + 1)) <| zM <| zZ) ?_
      exact ⟨(i + 1, o2.set (i + b.length) c), wk, (by obtain ⟨q1, q2, q3, q4⟩ := times_row hdo2 (by omega) hlen2 hz2 hc hv2; exact ⟨q1, q2, by omega, q3, q4⟩), (by first | omega | (dsimp only; omega))⟩
  · replace h1 := of_decide_eq_false h1
    have hie : i = a.length := by omega
    rw [hie, List.take_length] at hv
    refine pwp_exit <| pwp_seq <| kx [(4, (.own 0 152 1 ((ofNat (val out)).length)))] [] (zM <| zR ⟨_, e_trimO out (by exact rfl) (by exact rfl) hlen hdo (by omega), by kernel_rfl⟩ <| zM <| zZ) ?_
    rw [← hv]
    refine pwp_ret ⟨4, 0, rfl, rfl, (bm enc_u32 out), rfl, ?_⟩
    exact own_prefix _ (trim_take hdo)
end Go.Proofs.YtbecgnplakngdaaGreat
namespace Go.Proofs.YtbecgnplakngdaaGreat
open Go.Fid
set_option maxRecDepth 4000
set_option linter.unusedVariables false
set_option linter.unusedSimpArgs false
theorem cb211 : callB Tryz.prog 211 = true := by kernel_rfl
theorem in2 : intB Tryz.prog 2 = some .i64 := by kernel_rfl
theorem un2 : (Tryz.prog.underlying 2).isSome = true := by kernel_rfl
set_option maxHeartbeats 4000000 in
theorem t_long (a b : List Nat) (hda : Cano a) (hdb : Cano b) (hb2 : 2 ≤ b.length) (hba : val b ≤ val a) (hla : a.length ≤ 1099511627776) : Takes Tryz.prog 211 [(.sl 152 1 (List.map enc_u32 a)), (.sl 152 1 (List.map enc_u32 b))] (.tup [(.sl 152 1 (List.map enc_u32 (ofNat (val a / val b)))), (.sl 152 1 (List.map enc_u32 (ofNat (val a % val b))))]) := by
  have hab := len_of_le hda hdb hba
  have hsc := scl_bound hdb (by omega)
  have htp := top_pos hdb (by omega)
  have hds : Dig [scl b] := dig_cons.2 ⟨by omega, dig_nil⟩
  have hbp : 0 < val b := by have := val_top hdb.1 (by omega); have h2 := Nat.mul_le_mul_right (pw (b.length - 1)) htp.1; have h3 := pw_pos (b.length - 1); rw [Nat.succ_mul] at h2; omega
  obtain ⟨u0, hue⟩ : ∃ u0, u0 = ofNat (val a * val [scl b]) := ⟨_, rfl⟩
  obtain ⟨v, hve⟩ : ∃ v, v = ofNat (val b * val [scl b]) := ⟨_, rfl⟩
  have hu0 : Dig u0 := by rw [hue]; exact ofNat_dig _
  have hvd : Dig v := by rw [hve]; exact ofNat_dig _
  have hvl : v.length = b.length := by rw [hve, val_one]; exact scl_len hdb (by omega)
  have hvv : val v = val b * scl b := by rw [hve, val_one]; exact ofNat_val _
  have hu0v : val u0 = val a * scl b := by rw [hue, val_one]; exact ofNat_val _
  have hu0l : a.length ≤ u0.length ∧ u0.length ≤ a.length + 1 := by rw [hue, val_one]; exact scl_lenA hda hdb (by omega)
  have hLU : (u0 ++ [0]).length = u0.length + 1 := by simp
  have hcv : Cano v := by rw [hve]; exact ofNat_can _
  have hv1p : 0 < v.getD (b.length - 1) 0 := by rw [← hvl]; exact (top_pos hcv (by omega)).1
  have hpv : pw (b.length - 1) ≤ val v := by have h1 := val_top hvd (by omega); rw [hvl] at h1; have h2 := Nat.mul_le_mul_right (pw (b.length - 1)) hv1p; omega
  refine fn_intro Tryz.func211 rfl cb211 rfl ?_
  show PWp _ _ _ _ ⟨[(0, (vl 152 1 enc_u32 a)), (1, (vl 152 1 enc_u32 b))], []⟩
  refine pwp_seq <| kx [] [] (zE (oNl 152 1) <| zE (oNl 152 1) <| zZ) ?_
  refine pwp_seq <| kx [(6, (vwn (scl b)))] [] (zM <| zM <| zE (oLm el38) <| zE (oSb (b.length - 1)) <| zE (oXl el38 (b.length - 1) (0 : Nat)) <| zE (oC1 sh152) <| zE (oCv un152 in154 (b.getD (b.length - 1) 0)) <| zE (oAd ((b.getD (b.length - 1) 0) + 1)) <| zE (oQu (scl b) (hr := by exact (quo_u64 1000000000 (b.getD (b.length - 1) 0 + 1) (by decide)))) <| zE (oCv un154 in152 (scl b)) <| zM <| zZ) ?_
  refine pwp_seq <| kx [(7, (.own 0 152 1 u0.length))] [(0, some (bm enc_u32 u0))] (zM <| zM <| zE (oBs el38 ze152 zo152) <| zN (oCo 0 (hue ▸ o_times a [scl b] hda.1 hds (by omega) (by simp) (by rw [val_one]; exact Nat.mul_pos (by omega) hsc.1))) <| zM <| zZ) ?_
  refine pwp_seq <| kx [(8, (vl 152 1 enc_u32 v))] [] (zM <| zM <| zE (oBs el38 ze152 zo152) <| zE (oCl (hve ▸ t_times b [scl b] hdb.1 hds (by omega) (by simp))) <| zM <| zZ) ?_
  refine pwp_seq <| kx [(9, (vin b.length))] [] (zM <| zE (oLn el38 b.length (hr := by exact (by simp [hvl]))) <| zM <| zZ) ?_
  refine pwp_seq <| kf [(7, (.own 0 152 1 ((u0 ++ [0]).length)))] [(0, some (bm enc_u32 (u0 ++ [0])))] (zM <| zE (oBs el38 ze152 zo152) <| zA enc_u32 u0 [0] rfl el38 ze152 by152 <| zM <| zF) ?_
  refine pwp_seq <| pwp_seq <| kx [(50, (vb (decide ((((u0 ++ [0]).length : Nat) : Int) ≤ ((a.length : Nat) : Int)))))] [] (zM <| zE (oLo el38) <| zM <| zE (oLm el38) <| zE oLe <| zZ) ?_
  refine pwp_cond rfl (fun h1 => ?_) (fun h1 => ?_)
  · replace h1 := of_decide_eq_true h1
    exfalso; simp at h1; omega
  · replace h1 := of_decide_eq_false h1
    refine pwp_skip <| pwp_seq <| kx [(4, (.own 1 152 1 ((u0 ++ [0]).length - b.length)))] [(1, some (bm enc_u32 (List.replicate ((u0 ++ [0]).length - b.length) 0)))] (zM <| zE (oLo el38) <| zM <| zE (oSb ((u0 ++ [0]).length - b.length)) <| zH (oMk 1 enc_u32 (0 : Nat) ((u0 ++ [0]).length - b.length) ((u0 ++ [0]).length - b.length) el38 ze152 zo152 by152) <| zM <| zZ) ?_
    refine pwp_seq <| pwp_seq <| kx [(10, (vi ((((u0 ++ [0]).length - b.length : Nat) : Int) - 1)))] [] (zM <| zE (oLo el38) <| zM <| zE (oSb ((u0 ++ [0]).length - b.length)) <| zE (zSb ((((u0 ++ [0]).length - b.length : Nat) : Int) - 1)) <| zM <| zZ) ?_
    refine pwp_block <| pwp_loop (α := Nat × List Nat × List Nat) (fun (k, u, q) => ⟨[(4, (.own 1 152 1 ((u0 ++ [0]).length - b.length))), (6, (vwn (scl b))), (7, (.own 0 152 1 ((u0 ++ [0]).length))), (8, (vl 152 1 enc_u32 v)), (9, (vin b.length)), (10, (vi (((k : Nat) : Int) - 1)))], [(0, some (bm enc_u32 u)), (1, some (bm enc_u32 q))]⟩) (fun (k, u, q) => u.length = (u0 ++ [0]).length ∧ Dig u ∧ q.length = (u0 ++ [0]).length - b.length ∧ Dig q ∧ k ≤ (u0 ++ [0]).length - b.length ∧ val u + val v * (pw k * val (q.drop k)) = val a * scl b ∧ val (u.drop k) < val v) (fun (k, u, q) => k) ((u0 ++ [0]).length - b.length, u0 ++ [0], List.replicate ((u0 ++ [0]).length - b.length) 0) wk ⟨rfl, dig_append.2 ⟨hu0, dig_cons.2 ⟨by decide, dig_nil⟩⟩, by simp, dig_replicate _, Nat.le_refl _, by simp [val_append, val, hu0v], by have := long_start hu0 hvl hb2 (by omega) hpv; rw [hLU]; exact this⟩ ?_
    rintro ⟨k, u, q⟩ ⟨hlen, hu, hql, hqd, hk, hU, hW⟩
    refine pwp_seq <| pwp_seq <| kx [(65, (vb (decide (0 ≤ (((k : Nat) : Int) - 1)))))] [] (zM <| zE oGe <| zZ) ?_
    refine pwp_cond (b := decide (0 ≤ (((k : Nat) : Int) - 1))) rfl (fun h2 => ?_) (fun h2 => ?_)
    · replace h2 := of_decide_eq_true h2
      obtain ⟨j, rfl⟩ : ∃ j, k = j + 1 := ⟨k - 1, by omega⟩
      rw [show (((j + 1 : Nat) : Int) - 1) = ((j : Nat) : Int) from by omega]
      have hg1 := hu.getD (j + b.length)
      have hg2 := hu.getD (j + b.length - 1)
      have hg3 := hu.getD (j + b.length - 2)
      have hg4 := hvd.getD (b.length - 1)
      have hg5 := hvd.getD (b.length - 2)
      obtain ⟨z1, z2, z3, z4, z5, z6⟩ := window_tops hu hvd hvl hb2 hW
      obtain ⟨hwz, hww⟩ := window hvd hvl hW
      refine pwp_skip <| pwp_seq <| pwp_block <| pwp_seq <| kd [(10, (vin j)), (11, (vqn (((u.getD (j + b.length) 0) * 1000000000) + (u.getD ((j + b.length) - 1) 0))))] [] mo (wM <| wM <| wM <| wE (oAd (j + b.length)) <| wR ⟨(bm enc_u32 u), e_clo (t_at u (j + b.length)) (by exact rfl) (by exact rfl) (by exact rfl) (.o (.d .nil)) (pub_cells enc_u32 u (fun _ => rfl)) (map_len _ _ hlen) (pub_take _ _ (fun _ => rfl) hlen), by kernel_rfl⟩ <| wE (oCv un152 in154 (u.getD (j + b.length) 0)) <| wE (oMl ((u.getD (j + b.length) 0) * 1000000000)) <| wM <| wM <| wM <| wE (oAd (j + b.length)) <| wE (oSb ((j + b.length) - 1)) <| wE (oXo el38 ((j + b.length) - 1)) <| wR (oLp sh152 ((j + b.length) - 1) (0 : Nat)) <| wE (oCv un152 in154 (u.getD ((j + b.length) - 1) 0)) <| wE (oAd (((u.getD (j + b.length) 0) * 1000000000) + (u.getD ((j + b.length) - 1) 0))) <| wM <| wZ) ?_
      refine pwp_seq <| kd [(12, (vqn ((((u.getD (j + b.length) 0) * 1000000000) + (u.getD ((j + b.length) - 1) 0)) / (v.getD (b.length - 1) 0)))), (13, (vqn ((((u.getD (j + b.length) 0) * 1000000000) + (u.getD ((j + b.length) - 1) 0)) % (v.getD (b.length - 1) 0))))] [] mo (wM <| wM <| wM <| wE (oSb (b.length - 1)) <| wE (oXl el38 (b.length - 1) (0 : Nat)) <| wE (oC1 sh152) <| wE (oCv un152 in154 (v.getD (b.length - 1) 0)) <| wE (oQu ((((u.getD (j + b.length) 0) * 1000000000) + (u.getD ((j + b.length) - 1) 0)) / (v.getD (b.length - 1) 0))) <| wM <| wM <| wM <| wE (oSb (b.length - 1)) <| wE (oXl el38 (b.length - 1) (0 : Nat)) <| wE (oC1 sh152) <| wE (oCv un152 in154 (v.getD (b.length - 1) 0)) <| wE (oRe ((((u.getD (j + b.length) 0) * 1000000000) + (u.getD ((j + b.length) - 1) 0)) % (v.getD (b.length - 1) 0))) <| wM <| wM <| wZ) ?_
      refine pwp_seqjoin (α := Nat × Nat) (fun (G, R) => ⟨[(4, (.own 1 152 1 ((u0 ++ [0]).length - b.length))), (6, (vwn (scl b))), (7, (.own 0 152 1 ((u0 ++ [0]).length))), (8, (vl 152 1 enc_u32 v)), (9, (vin b.length)), (10, (vin j)), (12, (vqn G))], [(0, some (bm enc_u32 u)), (1, some (bm enc_u32 q))]⟩) (fun (G, R) => G < 1000000000 ∧ val (u.drop j) / val v ≤ G ∧ G ≤ val (u.drop j) / val v + 1) ?_ ?_
      · refine pwp_loop (α := Nat × Nat) (fun (G, R) => ⟨[(4, (.own 1 152 1 ((u0 ++ [0]).length - b.length))), (6, (vwn (scl b))), (7, (.own 0 152 1 ((u0 ++ [0]).length))), (8, (vl 152 1 enc_u32 v)), (9, (vin b.length)), (10, (vin j)), (12, (vqn G)), (13, (vqn R))], [(0, some (bm enc_u32 u)), (1, some (bm enc_u32 q))]⟩) (fun (G, R) => G * (v.getD (b.length - 1) 0) + R = (u.getD (j + b.length) 0 * 1000000000 + u.getD (j + b.length - 1) 0) ∧ val (u.drop j) / val v ≤ G ∧ R < 1000000000 ∧ G ≤ 1999999999) (fun (G, R) => G) ((u.getD (j + b.length) 0 * 1000000000 + u.getD (j + b.length - 1) 0) / v.getD (b.length - 1) 0, (u.getD (j + b.length) 0 * 1000000000 + u.getD (j + b.length - 1) 0) % v.getD (b.length - 1) 0) wk ⟨by rw [Nat.mul_comm]; exact Nat.div_add_mod _ _, guess_first0 z5 z4 hv1p hg3, Nat.lt_trans (Nat.mod_lt _ hv1p) hg4, guess_top hv1p z1 hg2⟩ ?_
        rintro ⟨G, R⟩ ⟨hG0, hG1, hR, hGb⟩
        have hpq : G * v.getD (b.length - 2) 0 ≤ 1999999999 * 999999999 := Nat.mul_le_mul hGb (by omega)
        refine pwp_seq <| pwp_seq <| kd [(123, (vb (decide (1000000000 ≤ ((G : Nat) : Int)) || decide (((((R * 1000000000) + (u.getD ((j + b.length) - 2) 0)) : Nat) : Int) < (((G * (v.getD (b.length - 2) 0)) : Nat) : Int)))))] [] mo ?_ ?_
        · refine wM <| wE oGe <| wE (oV (vb (decide (1000000000 ≤ ((G : Nat) : Int)))) (mv_ok (by kernel_rfl))) <| ?_
          rcases hb3 : (decide (1000000000 ≤ ((G : Nat) : Int))) with _ | _
          · replace hb3 := of_decide_eq_false hb3
            exact wM <| wM <| wM <| wE (oSb (b.length - 2)) <| wE (oXl el38 (b.length - 2) (0 : Nat)) <| wE (oC1 sh152) <| wE (oCv un152 in154 (v.getD (b.length - 2) 0)) <| wE (oMl (G * (v.getD (b.length - 2) 0))) <| wM <| wE (oMl (R * 1000000000)) <| wM <| wM <| wM <| wE (oAd (j + b.length)) <| wE (oSb ((j + b.length) - 2)) <| wE (oXo el38 ((j + b.length) - 2)) <| wR (oLp sh152 ((j + b.length) - 2) (0 : Nat)) <| wE (oCv un152 in154 (u.getD ((j + b.length) - 2) 0)) <| wE (oAd ((R * 1000000000) + (u.getD ((j + b.length) - 2) 0))) <| wE oGt <| wE oPo <| wZ
          · replace hb3 := of_decide_eq_true hb3
            exact wK <| wK <| wK <| wK <| wK <| wK <| wK <| wK <| wK <| wK <| wK <| wK <| wK <| wK <| wK <| wK <| wK <| wK <| wK <| wK <| wE oPt <| wZ
        refine pwp_cond rfl (fun h4 => ?_) (fun h4 => ?_)
        · rw [Bool.or_eq_true, decide_eq_true_eq, decide_eq_true_eq] at h4
          have hgl := guess_less (pw_pos _) z5 z4 hG0 hG1 hv1p z2 (by omega)
          refine pwp_skip <| pwp_block <| pwp_seq <| kx [(12, (vqn (G - 1)))] [] (zM <| zE (oSb (G - 1)) <| zM <| zZ) ?_
          refine pwp_seq <| kx [(13, (vqn (R + (v.getD (b.length - 1) 0))))] [] (zM <| zM <| zM <| zE (oSb (b.length - 1)) <| zE (oXl el38 (b.length - 1) (0 : Nat)) <| zE (oC1 sh152) <| zE (oCv un152 in154 (v.getD (b.length - 1) 0)) <| zE (oAd (R + (v.getD (b.length - 1) 0))) <| zM <| zZ) ?_
          refine pwp_seq <| kx [(135, (vb (decide (1000000000 ≤ (((R + (v.getD (b.length - 1) 0)) : Nat) : Int)))))] [] (zM <| zE oGe <| zZ) ?_
          refine pwp_cond rfl (fun h5 => ?_) (fun h5 => ?_)
          · replace h5 := of_decide_eq_true h5
            refine pwp_exit ?_
            refine pjoin_exit (id := 2) (α := Nat × Nat) (Q := fun _ _ => True) (St := fun (G, R) => ⟨[(4, (.own 1 152 1 ((u0 ++ [0]).length - b.length))), (6, (vwn (scl b))), (7, (.own 0 152 1 ((u0 ++ [0]).length))), (8, (vl 152 1 enc_u32 v)), (9, (vin b.length)), (10, (vin j)), (12, (vqn G))], [(0, some (bm enc_u32 u)), (1, some (bm enc_u32 q))]⟩) (I := fun (G, R) => G < 1000000000 ∧ val (u.drop j) / val v ≤ G ∧ G ≤ val (u.drop j) / val v + 1) ?_
            exact ⟨(G - 1, R + v.getD (b.length - 1) 0), wk, (by have hd := guess_dec hgl.2 hG0; have hgb := guess_break hd z1 hg2 (by omega); exact ⟨hgb, hgl.1, guess_near z6 z3 hd hv1p (by omega) hgb (Nat.le_trans (Nat.mul_le_mul (show G - 1 ≤ 999999999 by omega) (show v.getD (b.length - 2) 0 ≤ 999999999 by omega)) (by omega))⟩)⟩
          · replace h5 := of_decide_eq_false h5
            refine pwp_skip ?_
            exact ⟨(G - 1, R + v.getD (b.length - 1) 0), wk, (by exact ⟨guess_dec hgl.2 hG0, hgl.1, by omega, by omega⟩), (by first | omega | (dsimp only; omega))⟩
        · refine pwp_exit ?_
          refine pjoin_exit (id := 2) (α := Nat × Nat) (Q := fun _ _ => True) (St := fun (G, R) => ⟨[(4, (.own 1 152 1 ((u0 ++ [0]).length - b.length))), (6, (vwn (scl b))), (7, (.own 0 152 1 ((u0 ++ [0]).length))), (8, (vl 152 1 enc_u32 v)), (9, (vin b.length)), (10, (vin j)), (12, (vqn G))], [(0, some (bm enc_u32 u)), (1, some (bm enc_u32 q))]⟩) (I := fun (G, R) => G < 1000000000 ∧ val (u.drop j) / val v ≤ G ∧ G ≤ val (u.drop j) / val v + 1) ?_
          exact ⟨(G, R), wk, (by rw [Bool.or_eq_false_iff, decide_eq_false_iff_not, decide_eq_false_iff_not] at h4; exact ⟨by omega, hG1, guess_near z6 z3 hG0 hv1p (by omega) (by omega) (by omega)⟩)⟩
      · rintro ⟨G, R⟩ ⟨hG, hG1, hG2⟩
        have hjn : j + b.length < (u0 ++ [0]).length := by omega
        refine pwp_seq <| kx [(14, (vin 0)), (15, (vqn 0))] [] (zM <| zM <| zZ) ?_
        refine pwp_seq <| pwp_seq <| kx [(136, (vin b.length)), (137, (vin 0))] [] (zM <| zM <| zZ) ?_
        refine pwp_block <| pwp_loop (α := Nat × List Nat × Nat × Nat) (fun (i, u2, bo, ca) => ⟨[(4, (.own 1 152 1 ((u0 ++ [0]).length - b.length))), (6, (vwn (scl b))), (7, (.own 0 152 1 ((u0 ++ [0]).length))), (8, (vl 152 1 enc_u32 v)), (9, (vin b.length)), (10, (vin j)), (12, (vqn G)), (14, (vi ((bo : Nat) : Int))), (15, (vqn ca)), (136, (vin b.length)), (137, (vin i))], [(0, some (bm enc_u32 u2)), (1, some (bm enc_u32 q))]⟩) (fun (i, u2, bo, ca) => u2.length = (u0 ++ [0]).length ∧ Dig u2 ∧ u2.take j = u.take j ∧ u2.drop (j + i) = u.drop (j + i) ∧ i ≤ b.length ∧ bo ≤ 1 ∧ ca < 1000000000 ∧ val ((u2.drop j).take i) + G * val (v.take i) = val ((u.drop j).take i) + pw i * (ca + bo)) (fun (i, u2, bo, ca) => b.length - i) (0, u, 0, 0) wk ⟨hlen, hu, rfl, rfl, Nat.zero_le _, Nat.zero_le _, by decide, by simp [val]⟩ ?_
        rintro ⟨i, u2, bo, ca⟩ ⟨hl2, hd2, ht2, hd2', hin, hbo, hca, hv2⟩
        have hgi := hvd.getD i
        have hgu := hd2.getD (i + j)
        have hpq : G * v.getD i 0 ≤ 999999999 * 999999999 := Nat.mul_le_mul (by omega) (by omega)
        refine pwp_seq <| kx [(138, (vb (decide (((i : Nat) : Int) < ((b.length : Nat) : Int)))))] [] (zE oLt <| zZ) ?_
        refine pwp_seq <| pwp_cond rfl (fun h6 => ?_) (fun h6 => ?_)
        · replace h6 := of_decide_eq_true h6
          have hi : i < b.length := by omega
          refine pwp_skip <| pwp_seq <| pwp_block <| pwp_seq <| kx [(16, (vin i))] [] (zM <| zM <| zZ) ?_
          refine pwp_seq <| kx [(17, (vqn ((G * (v.getD i 0)) + ca)))] [] (zM <| zM <| zM <| zE (oXl el38 i (0 : Nat)) <| zE (oC1 sh152) <| zE (oCv un152 in154 (v.getD i 0)) <| zE (oMl (G * (v.getD i 0))) <| zM <| zE (oAd ((G * (v.getD i 0)) + ca)) <| zM <| zZ) ?_
          refine pwp_seq <| kx [(15, (vqn (((G * (v.getD i 0)) + ca) / 1000000000)))] [] (zM <| zE (oQu (((G * (v.getD i 0)) + ca) / 1000000000)) <| zM <| zZ) ?_
          refine pwp_seq <| kx [(18, (vi (((((u2.getD (i + j) 0) : Nat) : Int) - ((bo : Nat) : Int)) - (((((G * (v.getD i 0)) + ca) % 1000000000) : Nat) : Int))))] [] (zM <| zM <| zM <| zE (oAd (i + j)) <| zE (oXo el38 (i + j)) <| zR (oLp sh152 (i + j) (0 : Nat)) <| zE (oCv un152 in2 (u2.getD (i + j) 0)) <| zM <| zE (zSb ((((u2.getD (i + j) 0) : Nat) : Int) - ((bo : Nat) : Int))) <| zM <| zE (oRe (((G * (v.getD i 0)) + ca) % 1000000000)) <| zE (oCv un154 in2 (((G * (v.getD i 0)) + ca) % 1000000000)) <| zE (zSb (((((u2.getD (i + j) 0) : Nat) : Int) - ((bo : Nat) : Int)) - (((((G * (v.getD i 0)) + ca) % 1000000000) : Nat) : Int))) <| zM <| zZ) ?_
          refine pwp_seq <| kx [(14, (vin 0))] [] (zM <| zZ) ?_
          refine pwp_seq <| pwp_seq <| kx [(165, (vb (decide ((((((u2.getD (i + j) 0) : Nat) : Int) - ((bo : Nat) : Int)) - (((((G * (v.getD i 0)) + ca) % 1000000000) : Nat) : Int)) < 0))))] [] (zM <| zE oLt <| zZ) ?_
          refine pwp_cond rfl (fun h7 => ?_) (fun h7 => ?_)
          · replace h7 := of_decide_eq_true h7
            refine kx [(14, (vin 1)), (18, (vi ((((((u2.getD (i + j) 0) : Nat) : Int) - ((bo : Nat) : Int)) - (((((G * (v.getD i 0)) + ca) % 1000000000) : Nat) : Int)) + 1000000000)))] [] (zM <| zE (zAd ((((((u2.getD (i + j) 0) : Nat) : Int) - ((bo : Nat) : Int)) - (((((G * (v.getD i 0)) + ca) % 1000000000) : Nat) : Int)) + 1000000000)) <| zM <| zM <| zZ) ?_
            refine kx [] [(0, some (bm enc_u32 (u2.set (i + j) ((u2.getD (i + j) 0 + 1000000000) - bo - (G * v.getD i 0 + ca) % 1000000000))))] (zM <| zM <| zM <| zE (oAd (i + j)) <| zM <| zE (oCv un2 in152 ((u2.getD (i + j) 0 + 1000000000) - bo - (G * v.getD i 0 + ca) % 1000000000) (hr := by exact (wu32 (by omega) (by omega) (by omega)))) <| zE (oXo el38 (i + j)) <| zT (oSp sh152 (i + j) ((u2.getD (i + j) 0 + 1000000000) - bo - (G * v.getD i 0 + ca) % 1000000000)) <| zZ) ?_
            refine kx [(137, (vin (i + 1)))] [] (zE (oAd (i + 1)) <| zM <| zZ) ?_
            exact ⟨(i + 1, u2.set (i + j) ((u2.getD (i + j) 0 + 1000000000) - bo - (G * v.getD i 0 + ca) % 1000000000), 1, (G * v.getD i 0 + ca) / 1000000000), wk, (by obtain ⟨q1, q2, q3, q4, q5⟩ := msub_step (v := v) (L := (u0 ++ [0]).length) (e := (u2.getD (i + j) 0 + 1000000000) - bo - (G * v.getD i 0 + ca) % 1000000000) (borrow' := 1) hjn hi hl2 hlen hd2 ht2 hd2' hv2 rfl (by omega) (by omega); exact ⟨q1, q2, q3, q4, by omega, by omega, by omega, q5⟩), (by first | omega | (dsimp only; omega))⟩
          · replace h7 := of_decide_eq_false h7
            refine pwp_skip <| kx [] [(0, some (bm enc_u32 (u2.set (i + j) (u2.getD (i + j) 0 - bo - (G * v.getD i 0 + ca) % 1000000000))))] (zM <| zM <| zM <| zE (oAd (i + j)) <| zM <| zE (oCv un2 in152 (u2.getD (i + j) 0 - bo - (G * v.getD i 0 + ca) % 1000000000) (hr := by exact (wu32 (by omega) (by omega) (by omega)))) <| zE (oXo el38 (i + j)) <| zT (oSp sh152 (i + j) (u2.getD (i + j) 0 - bo - (G * v.getD i 0 + ca) % 1000000000)) <| zZ) ?_
            refine kx [(137, (vin (i + 1)))] [] (zE (oAd (i + 1)) <| zM <| zZ) ?_
            exact ⟨(i + 1, u2.set (i + j) (u2.getD (i + j) 0 - bo - (G * v.getD i 0 + ca) % 1000000000), 0, (G * v.getD i 0 + ca) / 1000000000), wk, (by obtain ⟨q1, q2, q3, q4, q5⟩ := msub_step (v := v) (L := (u0 ++ [0]).length) (e := u2.getD (i + j) 0 - bo - (G * v.getD i 0 + ca) % 1000000000) (borrow' := 0) hjn hi hl2 hlen hd2 ht2 hd2' hv2 rfl (by omega) (by omega); exact ⟨q1, q2, q3, q4, by omega, by omega, by omega, q5⟩), (by first | omega | (dsimp only; omega))⟩
        · replace h6 := of_decide_eq_false h6
          have hie : i = b.length := by omega
          rw [hie] at hd2' hv2 hin
          obtain ⟨m1, m2, m3⟩ := msub_end hu hd2 hvd hvl hW hG1 hG2 hd2' hv2
          refine pwp_exit <| pwp_seq <| kx [(19, (vi (((((u2.getD (j + b.length) 0) : Nat) : Int) - ((bo : Nat) : Int)) - ((ca : Nat) : Int))))] [] (zM <| zM <| zM <| zE (oAd (j + b.length)) <| zE (oXo el38 (j + b.length)) <| zR (oLp sh152 (j + b.length) (0 : Nat)) <| zE (oCv un152 in2 (u2.getD (j + b.length) 0)) <| zM <| zE (zSb ((((u2.getD (j + b.length) 0) : Nat) : Int) - ((bo : Nat) : Int))) <| zM <| zE (oCv un154 in2 ca) <| zE (zSb (((((u2.getD (j + b.length) 0) : Nat) : Int) - ((bo : Nat) : Int)) - ((ca : Nat) : Int))) <| zM <| zZ) ?_
          refine pwp_seq <| pwp_seq <| kx [(189, (vb (decide ((((((u2.getD (j + b.length) 0) : Nat) : Int) - ((bo : Nat) : Int)) - ((ca : Nat) : Int)) < 0))))] [] (zM <| zE oLt <| zZ) ?_
          refine pwp_cond rfl (fun h8 => ?_) (fun h8 => ?_)
          · replace h8 := of_decide_eq_true h8
            obtain ⟨n1, n2, r, n3, n4, n5⟩ := m2 (by omega)
            refine pwp_seq <| kx [] [(0, some (bm enc_u32 (u2.set (j + b.length) 999999999)))] (zM <| zM <| zM <| zE (oAd (j + b.length)) <| zM <| zE (zAd ((((((u2.getD (j + b.length) 0) : Nat) : Int) - ((bo : Nat) : Int)) - ((ca : Nat) : Int)) + 1000000000)) <| zE (oCv un2 in152 999999999 (hr := by exact (wu32 (by omega) (by omega) (by omega)))) <| zE (oXo el38 (j + b.length)) <| zT (oSp sh152 (j + b.length) 999999999) <| zZ) ?_
            refine pwp_seq <| kx [(12, (vqn (G - 1)))] [] (zM <| zE (oSb (G - 1)) <| zM <| zZ) ?_
            refine pwp_seq <| kx [(20, (vwn 0))] [] (zM <| zZ) ?_
            refine pwp_seq <| pwp_seq <| kx [(200, (vin b.length)), (201, (vin 0))] [] (zM <| zM <| zZ) ?_
            refine pwp_block <| pwp_loop (α := Nat × List Nat × Nat) (fun (i, u3, c) => ⟨[(4, (.own 1 152 1 ((u0 ++ [0]).length - b.length))), (6, (vwn (scl b))), (7, (.own 0 152 1 ((u0 ++ [0]).length))), (8, (vl 152 1 enc_u32 v)), (9, (vin b.length)), (10, (vin j)), (12, (vqn (G - 1))), (20, (vwn c)), (200, (vin b.length)), (201, (vin i))], [(0, some (bm enc_u32 u3)), (1, some (bm enc_u32 q))]⟩) (fun (i, u3, c) => u3.length = (u0 ++ [0]).length ∧ Dig u3 ∧ u3.take j = (u2.set (j + b.length) 999999999).take j ∧ u3.drop (j + i) = (u2.set (j + b.length) 999999999).drop (j + i) ∧ i ≤ b.length ∧ c ≤ 1 ∧ val ((u3.drop j).take i) + pw i * c = val (((u2.set (j + b.length) 999999999).drop j).take i) + val (v.take i)) (fun (i, u3, c) => b.length - i) (0, u2.set (j + b.length) 999999999, 0) wk ⟨by simpa using hl2, hd2.set _ (by decide), rfl, rfl, Nat.zero_le _, Nat.zero_le _, by simp [val]⟩ ?_
            rintro ⟨i, u3, c⟩ ⟨hl3, hd3, ht3, hd3', hin, hc, hv3⟩
            have hgi := hvd.getD i
            have hgu := hd3.getD (i + j)
            have hgt := hd3.getD (j + b.length)
            refine pwp_seq <| kx [(202, (vb (decide (((i : Nat) : Int) < ((b.length : Nat) : Int)))))] [] (zE oLt <| zZ) ?_
            refine pwp_seq <| pwp_cond rfl (fun h9 => ?_) (fun h9 => ?_)
            · replace h9 := of_decide_eq_true h9
              have hi : i < b.length := by omega
              refine pwp_skip <| pwp_seq <| pwp_block <| pwp_seq <| kx [(21, (vin i))] [] (zM <| zM <| zZ) ?_
              refine pwp_seq <| kd [(22, (vwn (((u3.getD (i + j) 0) + (v.getD i 0)) + c)))] [] mo (wM <| wM <| wM <| wE (oAd (i + j)) <| wE (oXo el38 (i + j)) <| wR (oLp sh152 (i + j) (0 : Nat)) <| wM <| wM <| wE (oXl el38 i (0 : Nat)) <| wE (oC1 sh152) <| wE (oAd ((u3.getD (i + j) 0) + (v.getD i 0))) <| wM <| wE (oAd (((u3.getD (i + j) 0) + (v.getD i 0)) + c)) <| wM <| wZ) ?_
              refine pwp_seq <| kx [(20, (vwn 0))] [] (zM <| zZ) ?_
              refine pwp_seq <| pwp_seq <| kx [(218, (vb (decide (1000000000 ≤ (((((u3.getD (i + j) 0) + (v.getD i 0)) + c) : Nat) : Int)))))] [] (zM <| zE oGe <| zZ) ?_
              refine pwp_cond rfl (fun h10 => ?_) (fun h10 => ?_)
              · replace h10 := of_decide_eq_true h10
                refine kx [(20, (vwn 1)), (22, (vwn ((((u3.getD (i + j) 0) + (v.getD i 0)) + c) - 1000000000)))] [] (zM <| zE (oSb ((((u3.getD (i + j) 0) + (v.getD i 0)) + c) - 1000000000)) <| zM <| zM <| zZ) ?_
                refine kx [] [(0, some (bm enc_u32 (u3.set (i + j) ((((u3.getD (i + j) 0) + (v.getD i 0)) + c) - 1000000000))))] (zM <| zM <| zM <| zE (oAd (i + j)) <| zM <| zE (oXo el38 (i + j)) <| zT (oSp sh152 (i + j) ((((u3.getD (i + j) 0) + (v.getD i 0)) + c) - 1000000000)) <| zZ) ?_
                refine kx [(201, (vin (i + 1)))] [] (zE (oAd (i + 1)) <| zM <| zZ) ?_
                exact ⟨(i + 1, u3.set (i + j) (u3.getD (i + j) 0 + v.getD i 0 + c - 1000000000), 1), wk, (by obtain ⟨q1, q2, q3, q4, q5⟩ := addb_step (v := v) (L := (u0 ++ [0]).length) (s := u3.getD (i + j) 0 + v.getD i 0 + c) (e := u3.getD (i + j) 0 + v.getD i 0 + c - 1000000000) (c' := 1) hjn hi hl3 (by simpa using hl2) hd3 ht3 hd3' hv3 rfl (by omega) (by omega); exact ⟨q1, q2, q3, q4, by omega, by omega, q5⟩), (by first | omega | (dsimp only; omega))⟩
              · replace h10 := of_decide_eq_false h10
                refine pwp_skip <| kx [] [(0, some (bm enc_u32 (u3.set (i + j) (((u3.getD (i + j) 0) + (v.getD i 0)) + c))))] (zM <| zM <| zM <| zE (oAd (i + j)) <| zM <| zE (oXo el38 (i + j)) <| zT (oSp sh152 (i + j) (((u3.getD (i + j) 0) + (v.getD i 0)) + c)) <| zZ) ?_
                refine kx [(201, (vin (i + 1)))] [] (zE (oAd (i + 1)) <| zM <| zZ) ?_
                exact ⟨(i + 1, u3.set (i + j) (u3.getD (i + j) 0 + v.getD i 0 + c), 0), wk, (by obtain ⟨q1, q2, q3, q4, q5⟩ := addb_step (v := v) (L := (u0 ++ [0]).length) (s := u3.getD (i + j) 0 + v.getD i 0 + c) (e := u3.getD (i + j) 0 + v.getD i 0 + c) (c' := 0) hjn hi hl3 (by simpa using hl2) hd3 ht3 hd3' hv3 rfl (by omega) (by omega); exact ⟨q1, q2, q3, q4, by omega, by omega, q5⟩), (by first | omega | (dsimp only; omega))⟩
            · replace h9 := of_decide_eq_false h9
              have hie2 : i = b.length := by omega
              rw [hie2] at hd3' hv3 hin
              refine pwp_exit <| kx [] [(0, some (bm enc_u32 (u3.set (j + b.length) (((u3.getD (j + b.length) 0) + c) % 1000000000))))] (zM <| zM <| zM <| zE (oAd (j + b.length)) <| zM <| zM <| zM <| zE (oAd (j + b.length)) <| zE (oXo el38 (j + b.length)) <| zR (oLp sh152 (j + b.length) (0 : Nat)) <| zM <| zE (oAd ((u3.getD (j + b.length) 0) + c)) <| zE (oRe (((u3.getD (j + b.length) 0) + c) % 1000000000)) <| zE (oXo el38 (j + b.length)) <| zT (oSp sh152 (j + b.length) (((u3.getD (j + b.length) 0) + c) % 1000000000)) <| zZ) ?_
              refine kx [] [(1, some (bm enc_u32 (q.set j (G - 1))))] (zM <| zM <| zM <| zE (oCv un154 in152 (G - 1)) <| zE (oXo el38 j) <| zT (oSp sh152 j (G - 1)) <| zZ) ?_
              refine kx [(10, (vi (((j : Nat) : Int) - 1)))] [] (zM <| zE (zSb (((j : Nat) : Int) - 1)) <| zM <| zZ) ?_
              exact ⟨(j, u3.set (j + b.length) ((u3.getD (j + b.length) 0 + c) % 1000000000), q.set j (G - 1)), wk, (by obtain ⟨p1, p2⟩ := neg_end hd3 hvd hvl (by omega) (by omega) (hl2.trans hlen.symm) (hl3.trans hlen.symm) ht2 hd2' hW hc ht3 hd3' hv3 n3 n4 n5 hU; exact ⟨by simpa using hl3, hd3.set _ (Nat.mod_lt _ (by decide)), by simpa using hql, hqd.set _ (by omega), by omega, p1, p2⟩), (by first | omega | (dsimp only; omega))⟩
          · replace h8 := of_decide_eq_false h8
            obtain ⟨n1, n2, n3⟩ := m3 (by omega)
            refine kx [] [(0, some (bm enc_u32 (u2.set (j + b.length) 0)))] (zM <| zM <| zM <| zE (oAd (j + b.length)) <| zM <| zE (oCv un2 in152 0 (hr := by exact (wu32 (by omega) (by omega) (by omega)))) <| zE (oXo el38 (j + b.length)) <| zT (oSp sh152 (j + b.length) 0) <| zZ) ?_
            refine kx [] [(1, some (bm enc_u32 (q.set j G)))] (zM <| zM <| zM <| zE (oCv un154 in152 G) <| zE (oXo el38 j) <| zT (oSp sh152 j G) <| zZ) ?_
            refine kx [(10, (vi (((j : Nat) : Int) - 1)))] [] (zM <| zE (zSb (((j : Nat) : Int) - 1)) <| zM <| zZ) ?_
            exact ⟨(j, u2.set (j + b.length) 0, q.set j G), wk, (by obtain ⟨p1, p2⟩ := pos_end hu hvd hvl (by omega) (by omega) (hl2.trans hlen.symm) ht2 hd2' hW n2 n3 hU; exact ⟨by simpa using hl2, hd2.set _ (by decide), by simpa using hql, hqd.set _ (by omega), by omega, p1, p2⟩), (by first | omega | (dsimp only; omega))⟩
    · replace h2 := of_decide_eq_false h2
      obtain rfl : k = 0 := by omega
      obtain ⟨e1, e2⟩ := scl_div hdb (by omega) (by rw [hvv] at hU; exact hU) (by rw [hvv] at hW; exact hW)
      rw [List.drop_zero] at hW
      refine pwp_exit <| pwp_seq <| pwp_sim (publish (t := 7) (k := 0) (es := List.map enc_u32 u) rfl rfl (pub_cells _ _ (fun _ => rfl)) (map_len _ _ hlen) (pub_take _ _ (fun _ => rfl) hlen)) ?_
      refine kx [(5, (vl 152 1 enc_u32 (ofNat (val (ofNat (val (List.take b.length u))) / (scl b)))))] [] (zM <| zM <| zE (e_slc (l := 0) (h := b.length) (kl := .i64) (kh := .i64) (es' := List.map enc_u32 (List.take b.length u)) (by exact rfl) el38 (by exact rfl) (by exact rfl) (by exact rfl) (Nat.zero_le _) (by simp only [List.length_map]; omega) (by rw [List.drop_zero, List.map_take])) <| zE (oCl (t_trim (List.take b.length u) (hu.take _) (by rw [List.length_take]; omega))) <| zM <| zE (oCl (t_short (ofNat (val (List.take b.length u))) (scl b) (ofNat_dig _) (by omega) (by omega) (Nat.le_trans (ofNat_val_len (hu.take _)) (by rw [List.length_take]; omega)))) <| zM <| zE oEx <| zE oEx <| zM <| zZ) ?_
      refine pwp_seq <| pwp_sim (publish (t := 4) (k := 1) (es := List.map enc_u32 q) rfl rfl (pub_cells _ _ (fun _ => rfl)) (map_len _ _ hql) (pub_take _ _ (fun _ => rfl) hql)) ?_
      refine kx [(4, (vl 152 1 enc_u32 (ofNat (val q)))), (5, (vl 152 1 enc_u32 (ofNat (val (ofNat (val (List.take b.length u))) / (scl b)))))] [] (zM <| zE (oCl (t_trim q hqd (by omega))) <| zM <| zM <| zM <| zZ) ?_
      refine pwp_ret ⟨_, (.tmp (d := (.sl 152 1 (List.map enc_u32 (ofNat (val q))))) rfl (.tmp (d := (.sl 152 1 (List.map enc_u32 (ofNat (val (ofNat (val (List.take b.length u))) / (scl b)))))) rfl .nil)), ?_⟩
      rw [← e1, ← e2, ofNat_val, val_take_of_lt (Nat.lt_trans hW (by rw [← hvl]; exact val_lt hvd))]; rfl
end Go.Proofs.YtbecgnplakngdaaGreat
namespace Go.Proofs.YtbecgnplakngdaaGreat
open Go.Fid
set_option maxRecDepth 4000
set_option linter.unusedVariables false
set_option linter.unusedSimpArgs false
theorem cb145 : callB Tryz.prog 145 = true := by kernel_rfl
theorem cb151 : callB Tryz.prog 151 = true := by kernel_rfl
theorem cb186 : callB Tryz.prog 186 = true := by kernel_rfl
theorem t_over (a b : List Nat) (ha : Cano a) (hb : Cano b) (hb0 : 0 < val b) (hla : a.length ≤ 1099511627776) (hlb : b.length ≤ 1099511627776) : Takes Tryz.prog 186 [(.sl 152 1 (List.map enc_u32 a)), (.sl 152 1 (List.map enc_u32 b))] (.tup [(.sl 152 1 (List.map enc_u32 (ofNat (val a / val b)))), (.sl 152 1 (List.map enc_u32 (ofNat (val a % val b))))]) := by
  refine fn_intro Tryz.func186 rfl cb186 rfl ?_
  show PWp _ _ _ _ ⟨[(0, (vl 152 1 enc_u32 a)), (1, (vl 152 1 enc_u32 b))], []⟩
  refine pwp_seq <| kx [] [] (zE (oNl 152 1) <| zE (oNl 152 1) <| zZ) ?_
  refine pwp_seq <| pwp_seq <| kx [(15, (vb (decide ((cmpI ((val a : Nat) : Int) ((val b : Nat) : Int)) < 0))))] [] (zM <| zM <| zE (oCl (t_compare a b ha hb (by omega))) <| zE oLt <| zZ) ?_
  refine pwp_cond rfl (fun h1 => ?_) (fun h1 => ?_)
  · replace h1 := of_decide_eq_true h1
    refine pwp_seq <| kx [(4, (vl 152 1 enc_u32 [])), (5, (vl 152 1 enc_u32 a))] [] (zM <| zE (oNl 152 1) <| zM <| zZ) ?_
    refine pwp_ret ⟨_, (.tmp (d := (.sl 152 1 (List.map enc_u32 []))) rfl (.tmp (d := (.sl 152 1 (List.map enc_u32 a))) rfl .nil)), ?_⟩
    have hlt := cmpI_neg h1
    rw [Nat.div_eq_of_lt hlt, Nat.mod_eq_of_lt hlt, ofNat_zero, ← can_eq ha]; rfl
  · replace h1 := of_decide_eq_false h1
    refine pwp_skip <| pwp_seq <| kx [(6, (vqn (wordV a))), (7, (vb (wordB a)))] [] (zM <| zE (oCl (t_word a ha.1)) <| zM <| zE oEx <| zE oEx <| zM <| zM <| zZ) ?_
    refine pwp_seq <| kx [(8, (vqn (wordV b))), (9, (vb (wordB b)))] [] (zM <| zE (oCl (t_word b hb.1)) <| zM <| zE oEx <| zE oEx <| zM <| zM <| zZ) ?_
    refine pwp_seq <| pwp_seq <| kx [(30, (vb ((wordB a) && (wordB b))))] [] ?_ ?_
    · refine zM <| zE (oV (vb (wordB a)) (mv_ok (by kernel_rfl))) <| ?_
      rcases hb2 : (wordB a) with _ | _
      · exact zK <| zE oPf <| zZ
      · exact zM <| zE oPa <| zZ
    refine pwp_cond (b := ((wordB a) && (wordB b))) rfl (fun h3 => ?_) (fun h3 => ?_)
    · obtain ⟨w1, w2, w3⟩ := word_both ha.1 h3
      have w4 : wordV a / wordV b < 18446744073709551616 := Nat.lt_of_le_of_lt (Nat.div_le_self _ _) (by omega)
      have w5 : wordV a % wordV b < 18446744073709551616 := Nat.lt_of_le_of_lt (Nat.mod_le _ _) (by omega)
      refine pwp_seq <| kd [(4, (vl 152 1 enc_u32 (ofNat ((wordV a) / (wordV b))))), (5, (vl 152 1 enc_u32 (ofNat ((wordV a) % (wordV b)))))] [] mo (wM <| wM <| wE (oQu ((wordV a) / (wordV b))) <| wE (oCl (t_split ((wordV a) / (wordV b)) (by omega))) <| wM <| wM <| wE (oRe ((wordV a) % (wordV b))) <| wE (oCl (t_split ((wordV a) % (wordV b)) (by omega))) <| wM <| wM <| wZ) ?_
      refine pwp_ret ⟨_, (.tmp (d := (.sl 152 1 (List.map enc_u32 (ofNat ((wordV a) / (wordV b)))))) rfl (.tmp (d := (.sl 152 1 (List.map enc_u32 (ofNat ((wordV a) % (wordV b)))))) rfl .nil)), ?_⟩
      rw [w1, w2]; rfl
    · refine pwp_skip <| pwp_seq <| pwp_seq <| kx [(41, (vb (((b.length : Nat) : Int) == 1)))] [] (zM <| zE (oLm el38) <| zE oEq <| zZ) ?_
      refine pwp_cond (b := (((b.length : Nat) : Int) == 1)) rfl (fun h4 => ?_) (fun h4 => ?_)
      · replace h4 := eq_of_beq h4
        have hv1 := val_len1 (b := b) (by omega)
        have hg := hb.1.getD 0
        have w5 : val a % b.getD 0 0 < 4294967296 := Nat.lt_trans (Nat.mod_lt _ (by omega)) (by omega)
        refine pwp_seq <| kx [(10, (vl 152 1 enc_u32 (ofNat (val a / (b.getD 0 0))))), (11, (vwn (val a % (b.getD 0 0))))] [] (zM <| zM <| zE (oXl el38 0 (0 : Nat)) <| zE (oC1 sh152) <| zE (oCl (t_short a (b.getD 0 0) ha.1 (by omega) (by omega) (by omega))) <| zM <| zE oEx <| zE oEx <| zM <| zM <| zZ) ?_
        refine pwp_seq <| kx [(4, (vl 152 1 enc_u32 (ofNat (val a / (b.getD 0 0))))), (5, (vl 152 1 enc_u32 (ofNat (val a % (b.getD 0 0)))))] [] (zM <| zM <| zE (oCv un152 in154 (val a % (b.getD 0 0))) <| zE (oCl (t_split (val a % (b.getD 0 0)) (by omega))) <| zM <| zM <| zZ) ?_
        refine pwp_ret ⟨_, (.tmp (d := (.sl 152 1 (List.map enc_u32 (ofNat (val a / (b.getD 0 0)))))) rfl (.tmp (d := (.sl 152 1 (List.map enc_u32 (ofNat (val a % (b.getD 0 0)))))) rfl .nil)), ?_⟩
        rw [hv1]; rfl
      · replace h4 := ne_of_beq_false h4
        have hbl := val_pos_len hb0
        refine pwp_skip <| pwp_seq <| kx [(4, (vl 152 1 enc_u32 (ofNat (val a / val b)))), (5, (vl 152 1 enc_u32 (ofNat (val a % val b))))] [] (zM <| zM <| zE (oCl (t_long a b ha hb (by omega) (cmpI_nn h1) (by omega))) <| zE oEx <| zE oEx <| zM <| zM <| zZ) ?_
        refine pwp_ret ⟨_, (.tmp (d := (.sl 152 1 (List.map enc_u32 (ofNat (val a / val b))))) rfl (.tmp (d := (.sl 152 1 (List.map enc_u32 (ofNat (val a % val b))))) rfl .nil)), ?_⟩
        rfl
theorem t_divideI (x y : RInt) (hx : x.gs.length ≤ 1099511627776) (hy : y.gs.length ≤ 1099511627776) (hy0 : toZ y ≠ 0) : Takes Tryz.prog 151 [(encI x), (encI y)] (.tup [(encI (ofZ ((toZ x).fdiv (toZ y)))), (encI (ofZ ((toZ x).fmod (toZ y)))), (.val (.int .i64 (0)))]) := by
  have hgx := grpI_can x
  have hlx := grpI_len x
  have hgy := grpI_can y
  have hly := grpI_len y
  have hn : 0 < val (grpI y) := by have := toZ_natAbs y; omega
  have hq := len_quo (grpI x) hgx (val (grpI y))
  have hr := len_rem (grpI x) hgx (val (grpI y))
  have hrn := Nat.mod_lt (val (grpI x)) hn
  refine fn_intro Tryz.func151 rfl cb151 rfl ?_
  show PWp _ _ _ _ ⟨[(0, (.d (encI x))), (1, (.d (encI y)))], []⟩
  refine pwp_seq <| kx [(2, (.ref 0 0)), (3, (.ref 1 0)), (4, (.ref 2 0)), (5, (.ref 3 0))] [(0, some (bx (encI x))), (1, some (bx (encI y))), (2, some (bx (encI (RInt.mk false [])))), (3, some (bx (encI (RInt.mk false []))))] (zN (oBx 0) <| zN (oBx 1) <| zN (oAl 2 ze40 zo40) <| zN (oAl 3 ze40 zo40) <| zM <| zZ) ?_
  refine pwp_seq <| kd [(7, (vl 152 1 enc_u32 (grpI x))), (8, (vl 152 1 enc_u32 (grpI y)))] [] mo (wR (oLa sh40) <| wE (oCl (t_groups x (by omega))) <| wR (oLa sh40) <| wE (oCl (t_groups y (by omega))) <| wM <| wM <| wZ) ?_
  refine pwp_seq <| pwp_seq <| kx [(17, (vb ((((grpI y).length : Nat) : Int) == 0)))] [] (zM <| zE (oLm el38 (L := (grpI y))) <| zE oEq <| zZ) ?_
  refine pwp_cond (b := ((((grpI y).length : Nat) : Int) == 0)) rfl (fun h1 => ?_) (fun h1 => ?_)
  · replace h1 := eq_of_beq h1
    exact absurd (toZ_nil h1) hy0
  · replace h1 := ne_of_beq_false h1
    refine pwp_skip <| pwp_seq <| kx [(9, (vl 152 1 enc_u32 (ofNat (val (grpI x) / val (grpI y))))), (10, (vl 152 1 enc_u32 (ofNat (val (grpI x) % val (grpI y)))))] [] (zM <| zM <| zE (oCl (t_over (grpI x) (grpI y) hgx hgy (by omega) (by omega) (by omega))) <| zM <| zE oEx <| zE oEx <| zM <| zM <| zZ) ?_
    refine pwp_seq <| kx [(10, (vl 152 1 enc_u32 (ofNat (val (grpI x) % val (grpI y)))))] [] (zM <| zE (oCl (t_clone (ofNat (val (grpI x) % val (grpI y))) (by omega))) <| zM <| zZ) ?_
    refine pwp_seq <| pwp_seq <| kx [(37, (vb (decide (0 < (((ofNat (val (grpI x) % val (grpI y))).length : Nat) : Int)) && !(x.neg == y.neg))))] [] ?_ ?_
    · refine zM <| zE (oLm el38 (L := (ofNat (val (grpI x) % val (grpI y))))) <| zE oGt <| zE (oV (vb (decide (0 < (((ofNat (val (grpI x) % val (grpI y))).length : Nat) : Int)))) (mv_ok (by kernel_rfl))) <| ?_
      rcases hb2 : (decide (0 < (((ofNat (val (grpI x) % val (grpI y))).length : Nat) : Int))) with _ | _
      · replace hb2 := of_decide_eq_false hb2
        exact zK <| zK <| zK <| zK <| zK <| zE oPf <| zZ
      · replace hb2 := of_decide_eq_true hb2
        exact zE (oFr fo40_0) <| zR (oL1 sh4) <| zE (oFr fo40_0) <| zR (oL1 sh4) <| zE (oNb bo4) <| zE oPa <| zZ
    refine pwp_cond rfl (fun h3 => ?_) (fun h3 => ?_)
    · have e1 : (ofNat (val (ofNat (val (grpI x) / val (grpI y))) + val [1])).length ≤ 1099511627777 := ofNat_length_le (by rw [ofNat_val, val_one]; have := ofNat_lt_pw (val (grpI x) / val (grpI y)); have h3 : pw (ofNat (val (grpI x) / val (grpI y))).length ≤ pw 1099511627776 := pw_mono (by omega); have h4 := pw_lt (show 1099511627776 < 1099511627777 by decide); omega)
      have e2 := sub_len (b := ofNat (val (grpI x) % val (grpI y))) hgy.1
      rw [Bool.and_eq_true, decide_eq_true_eq, Bool.not_eq_true', beq_eq_false_iff_ne] at h3
      obtain ⟨k1, k2⟩ := h3
      have k3 : 0 < val (grpI x) % val (grpI y) := by have := len_pos_val (ofNat_can (val (grpI x) % val (grpI y))) (by omega); rwa [ofNat_val] at this
      obtain ⟨d1, d2⟩ := div_other hn k2 k3
      refine kx [(9, (vl 152 1 enc_u32 (ofNat (val (ofNat (val (grpI x) / val (grpI y))) + val [1])))), (10, (vl 152 1 enc_u32 (ofNat (val (grpI y) - val (ofNat (val (grpI x) % val (grpI y)))))))] [] (zM <| zE (oBs el38 ze152 zo152) <| zE (oCl (t_plus (ofNat (val (grpI x) / val (grpI y))) [1] (ofNat_dig _) (dig_cons.2 ⟨by decide, dig_nil⟩) (by omega) (by decide))) <| zM <| zM <| zE (oCl (t_minus (grpI y) (ofNat (val (grpI x) % val (grpI y))) hgy.1 (ofNat_dig _) (by rw [ofNat_val]; omega) (by omega))) <| zM <| zM <| zZ) ?_
      refine pwp_seq <| kd [(6, (vin 0))] [(2, some (bx (encI (mkI (!(x.neg == y.neg)) (val (ofNat (val (ofNat (val (grpI x) / val (grpI y))) + val [1]))))))), (3, some (bx (encI (mkI y.neg (val (ofNat (val (grpI y) - val (ofNat (val (grpI x) % val (grpI y))))))))))] mo (wE (oFr fo40_0) <| wR (oL1 sh4) <| wE (oFr fo40_0) <| wR (oL1 sh4) <| wE (oNb bo4) <| wM <| wE (oCl (t_made (!(x.neg == y.neg)) (ofNat (val (ofNat (val (grpI x) / val (grpI y))) + val [1])) (ofNat_dig _) (by omega))) <| wE (oFr fo40_0) <| wR (oL1 sh4) <| wM <| wE (oCl (t_made y.neg (ofNat (val (grpI y) - val (ofNat (val (grpI x) % val (grpI y))))) (ofNat_dig _) (by omega))) <| wT (oSt sh40) <| wT (oSt sh40) <| wM <| wZ) ?_
      refine pwp_ret ⟨_, (res_a (cs := (bx (encI (mkI (!(x.neg == y.neg)) (val (ofNat (val (ofNat (val (grpI x) / val (grpI y))) + val [1]))))))) (d := (encI (mkI (!(x.neg == y.neg)) (val (ofNat (val (ofNat (val (grpI x) / val (grpI y))) + val [1])))))) rfl rfl sh40 rfl rfl (res_a (cs := (bx (encI (mkI y.neg (val (ofNat (val (grpI y) - val (ofNat (val (grpI x) % val (grpI y)))))))))) (d := (encI (mkI y.neg (val (ofNat (val (grpI y) - val (ofNat (val (grpI x) % val (grpI y))))))))) rfl rfl sh40 rfl rfl (.tmp (d := (.val (.int .i64 (0)))) rfl .nil))), ?_⟩
      unfold toZ
      rw [d1, d2]
      simp only [ofNat_val, val_one]
      rfl
    · obtain ⟨d1, d2⟩ := div_same (b := x.neg) (c := y.neg) (m := val (grpI x)) hn (by rw [Bool.and_eq_false_iff, decide_eq_false_iff_not, Bool.not_eq_false', beq_iff_eq] at h3; rcases h3 with k | k; right; have := ofNat_len_pos (n := val (grpI x) % val (grpI y)); omega; exact .inl k)
      refine pwp_skip <| pwp_seq <| kd [(6, (vin 0))] [(2, some (bx (encI (mkI (!(x.neg == y.neg)) (val (ofNat (val (grpI x) / val (grpI y)))))))), (3, some (bx (encI (mkI y.neg (val (ofNat (val (grpI x) % val (grpI y))))))))] mo (wE (oFr fo40_0) <| wR (oL1 sh4) <| wE (oFr fo40_0) <| wR (oL1 sh4) <| wE (oNb bo4) <| wM <| wE (oCl (t_made (!(x.neg == y.neg)) (ofNat (val (grpI x) / val (grpI y))) (ofNat_dig _) (by omega))) <| wE (oFr fo40_0) <| wR (oL1 sh4) <| wM <| wE (oCl (t_made y.neg (ofNat (val (grpI x) % val (grpI y))) (ofNat_dig _) (by omega))) <| wT (oSt sh40) <| wT (oSt sh40) <| wM <| wZ) ?_
      refine pwp_ret ⟨_, (res_a (cs := (bx (encI (mkI (!(x.neg == y.neg)) (val (ofNat (val (grpI x) / val (grpI y)))))))) (d := (encI (mkI (!(x.neg == y.neg)) (val (ofNat (val (grpI x) / val (grpI y))))))) rfl rfl sh40 rfl rfl (res_a (cs := (bx (encI (mkI y.neg (val (ofNat (val (grpI x) % val (grpI y)))))))) (d := (encI (mkI y.neg (val (ofNat (val (grpI x) % val (grpI y))))))) rfl rfl sh40 rfl rfl (.tmp (d := (.val (.int .i64 (0)))) rfl .nil))), ?_⟩
      unfold toZ
      rw [d1, d2]
      simp only [ofNat_val]
      rfl
theorem t_gcdI (x y : RInt) (hx : x.gs.length ≤ 1099511627776) (hy : y.gs.length ≤ 1099511627776) : Takes Tryz.prog 145 [(encI x), (encI y)] (encI (ofZ ((Int.gcd (toZ x) (toZ y) : Nat) : Int))) := by
  have hgx := grpI_can x
  have hlx := grpI_len x
  have hgy := grpI_can y
  have hly := grpI_len y
  refine fn_intro Tryz.func145 rfl cb145 rfl ?_
  show PWp _ _ _ _ ⟨[(0, (.d (encI x))), (1, (.d (encI y)))], []⟩
  refine pwp_seq <| kx [(2, (.ref 0 0)), (3, (.ref 1 0)), (4, (.ref 2 0))] [(0, some (bx (encI x))), (1, some (bx (encI y))), (2, some (bx (encI (RInt.mk false []))))] (zN (oBx 0) <| zN (oBx 1) <| zN (oAl 2 ze40 zo40) <| zZ) ?_
  refine pwp_seq <| kd [(5, (vl 152 1 enc_u32 (grpI x))), (6, (vl 152 1 enc_u32 (grpI y)))] [] mo (wR (oLa sh40) <| wE (oCl (t_groups x (by omega))) <| wR (oLa sh40) <| wE (oCl (t_groups y (by omega))) <| wM <| wM <| wZ) ?_
  refine pwp_seq <| pwp_block <| pwp_loop (α := List Nat × List Nat) (fun (a, b) => ⟨[(4, (.ref 2 0)), (5, (vl 152 1 enc_u32 a)), (6, (vl 152 1 enc_u32 b))], [(2, some (bx (encI (RInt.mk false []))))]⟩) (fun (a, b) => Cano a ∧ Cano b ∧ a.length ≤ 1099511627776 ∧ b.length ≤ 1099511627776 ∧ Nat.gcd (val a) (val b) = Int.gcd (toZ x) (toZ y)) (fun (a, b) => val b) (grpI x, grpI y) wk ⟨hgx, hgy, by omega, by omega, gcd_toZ x y⟩ ?_
  rintro ⟨a, b⟩ ⟨ha, hb, hla, hlb, hg⟩
  refine pwp_seq <| pwp_seq <| kx [(19, (vb (decide (0 < ((b.length : Nat) : Int)))))] [] (zM <| zE (oLm el38) <| zE oGt <| zZ) ?_
  refine pwp_cond (b := decide (0 < ((b.length : Nat) : Int))) rfl (fun h1 => ?_) (fun h1 => ?_)
  · replace h1 := of_decide_eq_true h1
    have hb0 := len_pos_val hb (by omega)
    refine pwp_skip <| pwp_block <| pwp_seq <| kx [(7, (vqn (wordV a))), (8, (vb (wordB a)))] [] (zM <| zE (oCl (t_word a ha.1)) <| zM <| zE oEx <| zE oEx <| zM <| zM <| zZ) ?_
    refine pwp_seq <| kx [(9, (vqn (wordV b))), (10, (vb (wordB b)))] [] (zM <| zE (oCl (t_word b hb.1)) <| zM <| zE oEx <| zE oEx <| zM <| zM <| zZ) ?_
    refine pwp_seq <| pwp_seq <| kx [(33, (vb ((wordB a) && (wordB b))))] [] ?_ ?_
    · refine zM <| zE (oV (vb (wordB a)) (mv_ok (by kernel_rfl))) <| ?_
      rcases hb2 : (wordB a) with _ | _
      · exact zK <| zE oPf <| zZ
      · exact zM <| zE oPa <| zZ
    refine pwp_cond (b := ((wordB a) && (wordB b))) rfl (fun h3 => ?_) (fun h3 => ?_)
    · obtain ⟨w1, w2, w3⟩ := word_both ha.1 h3
      have w4 : val b < 1000000000000000000 := by rw [Bool.and_eq_true] at h3; exact val_len2 hb.1 (of_decide_eq_true h3.2)
      refine pwp_seq <| pwp_block <| pwp_loop (α := Nat × Nat) (fun (m, n) => ⟨[(4, (.ref 2 0)), (7, (vqn m)), (9, (vqn n))], [(2, some (bx (encI (RInt.mk false []))))]⟩) (fun (m, n) => m < 1000000000000000000 ∧ n < 1000000000000000000 ∧ Nat.gcd m n = Int.gcd (toZ x) (toZ y)) (fun (m, n) => n) (wordV a, wordV b) wk ⟨by omega, by omega, by rw [w1, w2]; exact hg⟩ ?_
      rintro ⟨m, n⟩ ⟨hm, hn, hg2⟩
      refine pwp_seq <| pwp_seq <| kx [(35, (vb (decide (0 < ((n : Nat) : Int)))))] [] (zM <| zE oGt <| zZ) ?_
      refine pwp_cond (b := decide (0 < ((n : Nat) : Int))) rfl (fun h4 => ?_) (fun h4 => ?_)
      · replace h4 := of_decide_eq_true h4
        refine pwp_skip <| pwp_block <| kd [(7, (vqn n)), (9, (vqn (m % n)))] [] mo (wM <| wM <| wM <| wE (oRe (m % n)) <| wM <| wM <| wZ) ?_
        exact ⟨(n, m % n), wk, ⟨hn, Nat.lt_of_le_of_lt (Nat.mod_le _ _) hm, by rw [← hg2, Nat.gcd_comm, ← Nat.gcd_rec, Nat.gcd_comm]⟩, (by dsimp only; exact Nat.mod_lt _ (by omega))⟩
      · replace h4 := of_decide_eq_false h4
        obtain rfl : n = 0 := by omega
        rw [Nat.gcd_zero_right] at hg2
        refine pwp_exit <| pwp_seq <| kx [] [(2, some (bx (encI (mkI false (val (ofNat m))))))] (zM <| zE (oCl (t_split m (by omega))) <| zE (oCl (t_made false (ofNat m) (ofNat_dig _) (Nat.le_trans (ofNat_len3 (by omega)) (by decide)))) <| zT (oSt sh40) <| zZ) ?_
        refine pwp_ret ⟨_, (res_a (cs := (bx (encI (mkI false (val (ofNat m)))))) (d := (encI (mkI false (val (ofNat m))))) rfl rfl sh40 rfl rfl .nil), ?_⟩
        rw [← hg2, ofNat_val, mkI_false]; rfl
    · refine pwp_skip <| pwp_seq <| kx [(12, (vl 152 1 enc_u32 (ofNat (val a % val b))))] [] (zM <| zM <| zE (oCl (t_over a b ha hb hb0 (by omega) (by omega))) <| zM <| zE oEx <| zE oEx <| zM <| zM <| zZ) ?_
      refine kx [(5, (vl 152 1 enc_u32 b)), (6, (vl 152 1 enc_u32 (ofNat (val a % val b))))] [] (zM <| zM <| zM <| zM <| zZ) ?_
      exact ⟨(b, ofNat (val a % val b)), wk, ⟨hb, ofNat_can _, hlb, Nat.le_trans (len_rem a ha _) hla, by rw [ofNat_val, ← hg, Nat.gcd_comm, ← Nat.gcd_rec, Nat.gcd_comm]⟩, (by dsimp only; rw [ofNat_val]; exact Nat.mod_lt _ hb0)⟩
  · replace h1 := of_decide_eq_false h1
    have hb1 : b = [] := List.eq_nil_of_length_eq_zero (by omega)
    rw [hb1, val_nil, Nat.gcd_zero_right] at hg
    refine pwp_exit <| pwp_seq <| kx [] [(2, some (bx (encI (mkI false (val a)))))] (zM <| zE (oCl (t_clone a (by omega))) <| zE (oCl (t_made false a ha.1 (by omega))) <| zT (oSt sh40) <| zZ) ?_
    refine pwp_ret ⟨_, (res_a (cs := (bx (encI (mkI false (val a))))) (d := (encI (mkI false (val a)))) rfl rfl sh40 rfl rfl .nil), ?_⟩
    rw [← hg, mkI_false]; rfl
end Go.Proofs.YtbecgnplakngdaaGreat
