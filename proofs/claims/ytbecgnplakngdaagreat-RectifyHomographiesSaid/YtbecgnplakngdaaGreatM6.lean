/- Part 6 of a proof: rules, plain facts, and functions walked. -/
import Derived.Test.YtbecgnplakngdaaGreatM5
import Derived.Test.YtbecgnplakngdaaGreatM4
import Derived.Test.YtbecgnplakngdaaGreatChecked
import Derived.RangeFuncBox
import Derived.Shelf.Abstract
import Derived.OwnWalkIn
import Derived.TacticsInMore
import Derived.LoopNIn
import Derived.LoopIn
namespace Go.Proofs.YtbecgnplakngdaaGreat
open Go.Fid
set_option maxRecDepth 4000
set_option linter.unusedVariables false
set_option linter.unusedSimpArgs false
theorem cb166 : callB Tryz.prog 166 = true := by kernel_rfl
theorem cb178 : callB Tryz.prog 178 = true := by kernel_rfl
theorem cb180 : callB Tryz.prog 180 = true := by kernel_rfl
theorem cb183 : callB Tryz.prog 183 = true := by kernel_rfl
theorem cb184 : callB Tryz.prog 184 = true := by kernel_rfl
theorem cb185 : callB Tryz.prog 185 = true := by kernel_rfl
theorem cb208 : callB Tryz.prog 208 = true := by kernel_rfl
theorem cb209 : callB Tryz.prog 209 = true := by kernel_rfl
theorem cb218 : callB Tryz.prog 218 = true := by kernel_rfl
theorem pl40 : mX Tryz.prog 40 = some [(0, 1), (1, 1)] := by kernel_rfl
theorem vW : uG Tryz.prog 3 = some (false, 1) := by kernel_rfl
theorem xI : uG Tryz.prog 38 = some (false, 1) := by kernel_rfl
theorem jI : uG Tryz.prog 40 = some (true, 2) := by kernel_rfl
theorem sh154 : uG Tryz.prog 154 = some (false, 1) := by kernel_rfl
theorem ze3 : xH Tryz.prog 3 = some [.int .i64 0] := by kernel_rfl
theorem uD : xH Tryz.prog 40 = some [.bool false, .slice none 0 0] := by kernel_rfl
theorem ze154 : xH Tryz.prog 154 = some [.int .u64 0] := by kernel_rfl
theorem zo3 : mP [.int .i64 0] [.val (.int .i64 0)] := by simp [mP, Value.oneCell']
theorem uE : mP [.bool false, .slice none 0 0] [.val (.bool false), .sl 152 1 []] := by simp [mP, Value.oneCell']
theorem zo154 : mP [.int .u64 0] [.val (.int .u64 0)] := by simp [mP, Value.oneCell']
theorem t_isnan_int (a : Int) : kF Tryz.prog 208 [(.val (.int .i64 (a)))] (.val (.bool (false))) := by
 refine jL Tryz.func208 rfl cb208 rfl ?_
 show uK _ _ _ _ ⟨[(0, (vi a))], []⟩
 refine jA <| kx [] [] (zM <| zZ) ?_
 refine jA <| kx [(2, (vb (a != a)))] [] (zM <| zM <| zE mR <| zM <| zZ) ?_
 refine jG ⟨_, (.tmp (d := (.val (.bool ((a != a))))) rfl .nil), ?_⟩
 simp [retD]
theorem t_cmp_int (a b : Int) : kF Tryz.prog 183 [(.val (.int .i64 (a))), (.val (.int .i64 (b)))] (.val (.int .i64 ((xF a b)))) := by
 refine jL Tryz.func183 rfl cb183 rfl ?_
 show uK _ _ _ _ ⟨[(0, (vi a)), (1, (vi b))], []⟩
 refine jA <| kx [] [] (zM <| zZ) ?_
 refine jA <| kx [(5, (vb false))] [] (zM <| zE (kC (t_isnan_int a)) <| zM <| zZ) ?_
 refine jA <| kx [(6, (vb false))] [] (zM <| zE (kC (t_isnan_int b)) <| zM <| zZ) ?_
 refine jA <| jA <| kx [(11, (vb false))] [] (zM <| zZ) ?_
 refine kO ?_
 refine jD <| jA <| jA <| kx [(13, (vb false))] [] (zM <| zZ) ?_
 refine kO ?_
 refine jD <| jA <| jA <| kx [(16, (vb (decide (a < b))))] [] (zM <| zM <| zE qS <| zZ) ?_
 refine jQ (b := decide (a < b)) rfl (fun h1 => ?_) (fun h1 => ?_)
 ·replace h1 := of_decide_eq_true h1
  refine jA <| kx [(4, (vi (-1)))] [] (zM <| zZ) ?_
  refine jG ⟨_, (.tmp (d := (.val (.int .i64 (-1)))) rfl .nil), ?_⟩
  rw [show xF a b = -1 from if_pos h1]; rfl
 ·replace h1 := of_decide_eq_false h1
  refine jD <| jA <| jA <| kx [(19, (vb (decide (b < a))))] [] (zM <| zM <| zE bO <| zZ) ?_
  refine jQ (b := decide (b < a)) rfl (fun h2 => ?_) (fun h2 => ?_)
  ·replace h2 := of_decide_eq_true h2
   refine jA <| kx [(4, (kE 1))] [] (zM <| zZ) ?_
   refine jG ⟨_, (.tmp (d := (.val (.int .i64 (1)))) rfl .nil), ?_⟩
   rw [aM h2]; rfl
  ·replace h2 := of_decide_eq_false h2
   refine jD <| jA <| kx [(4, (kE 0))] [] (zM <| zZ) ?_
   refine jG ⟨_, (.tmp (d := (.val (.int .i64 (0)))) rfl .nil), ?_⟩
   rw [cmpI_eq h1 h2]; rfl
theorem t_isnan_uint32 (a : Nat) : kF Tryz.prog 218 [(.val (.int .u32 (((a : Nat) : Int))))] (.val (.bool (false))) := by
 refine jL Tryz.func218 rfl cb218 rfl ?_
 show uK _ _ _ _ ⟨[(0, (aG a))], []⟩
 refine jA <| kx [] [] (zM <| zZ) ?_
 refine jA <| kx [(2, (vb (((a : Nat) : Int) != ((a : Nat) : Int))))] [] (zM <| zM <| zE mR <| zM <| zZ) ?_
 refine jG ⟨_, (.tmp (d := (.val (.bool ((((a : Nat) : Int) != ((a : Nat) : Int)))))) rfl .nil), ?_⟩
 simp [retD]
theorem t_cmp_uint32 (a b : Nat) : kF Tryz.prog 209 [(.val (.int .u32 (((a : Nat) : Int)))), (.val (.int .u32 (((b : Nat) : Int))))] (.val (.int .i64 ((xF ((a : Nat) : Int) ((b : Nat) : Int))))) := by
 refine jL Tryz.func209 rfl cb209 rfl ?_
 show uK _ _ _ _ ⟨[(0, (aG a)), (1, (aG b))], []⟩
 refine jA <| kx [] [] (zM <| zZ) ?_
 refine jA <| kx [(5, (vb false))] [] (zM <| zE (kC (t_isnan_uint32 a)) <| zM <| zZ) ?_
 refine jA <| kx [(6, (vb false))] [] (zM <| zE (kC (t_isnan_uint32 b)) <| zM <| zZ) ?_
 refine jA <| jA <| kx [(11, (vb false))] [] (zM <| zZ) ?_
 refine kO ?_
 refine jD <| jA <| jA <| kx [(13, (vb false))] [] (zM <| zZ) ?_
 refine kO ?_
 refine jD <| jA <| jA <| kx [(16, (vb (decide (((a : Nat) : Int) < ((b : Nat) : Int)))))] [] (zM <| zM <| zE qS <| zZ) ?_
 refine jQ rfl (fun h1 => ?_) (fun h1 => ?_)
 ·replace h1 := of_decide_eq_true h1
  refine jA <| kx [(4, (vi (-1)))] [] (zM <| zZ) ?_
  refine jG ⟨_, (.tmp (d := (.val (.int .i64 (-1)))) rfl .nil), ?_⟩
  rw [show xF ((a : Nat) : Int) ((b : Nat) : Int) = -1 from if_pos h1]; rfl
 ·replace h1 := of_decide_eq_false h1
  refine jD <| jA <| jA <| kx [(19, (vb (decide (((b : Nat) : Int) < ((a : Nat) : Int)))))] [] (zM <| zM <| zE bO <| zZ) ?_
  refine jQ rfl (fun h2 => ?_) (fun h2 => ?_)
  ·replace h2 := of_decide_eq_true h2
   refine jA <| kx [(4, (kE 1))] [] (zM <| zZ) ?_
   refine jG ⟨_, (.tmp (d := (.val (.int .i64 (1)))) rfl .nil), ?_⟩
   rw [aM h2]; rfl
  ·replace h2 := of_decide_eq_false h2
   refine jD <| jA <| kx [(4, (kE 0))] [] (zM <| zZ) ?_
   refine jG ⟨_, (.tmp (d := (.val (.int .i64 (0)))) rfl .nil), ?_⟩
   rw [cmpI_eq h1 h2]; rfl
theorem dK (neg : Bool) (l : List Nat) (hd : Dig l) (hb : l.length ≤ 17592186044416) : kF Tryz.prog 178 [(.val (.bool (neg))), (.sl 152 1 (List.map jB l))] (jH (zI neg (val l))) := by
 refine jL Tryz.func178 rfl cb178 rfl ?_
 show uK _ _ _ _ ⟨[(0, (vb neg)), (1, (vl 152 1 jB l))], []⟩
 refine jA <| kx [(4, (.ref 0 0))] [(0, some (bx (jH (jF.mk false []))))] (zN (qI 0 uD uE) <| zZ) ?_
 refine jA <| kx [(1, (vl 152 1 jB (ofNat (val l))))] [] (zM <| zE (kC (t_trim l (by assumption) (by omega))) <| zM <| zZ) ?_
 refine jA <| jA <| kx [(9, (vb ((((ofNat (val l)).length : Nat) : Int) == 0)))] [] (zM <| zE (nC kV (L := (ofNat (val l)))) <| zE aL <| zZ) ?_
 refine jQ rfl (fun h1 => ?_) (fun h1 => ?_)
 ·replace h1 := eq_of_beq h1
  refine jA <| kx [] [(0, some (bx (jH (jF.mk false []))))] (zE (oBd pl40 uD uE) <| zT (kR jI) <| zZ) ?_
  refine jG ⟨_, (qB (cs := (bx (jH (jF.mk false [])))) (d := (jH (jF.mk false []))) rfl rfl jI rfl rfl .nil), ?_⟩
  rw [mkI_zero h1]; rfl
 ·replace h1 := ne_of_beq_false h1
  refine jD <| jA <| kx [] [(0, some (bx (jH (jF.mk neg (ofNat (val l))))))] (zM <| zM <| zE (oBd pl40 uD uE) <| zT (kR jI) <| zZ) ?_
  refine jG ⟨_, (qB (cs := (bx (jH (jF.mk neg (ofNat (val l)))))) (d := (jH (jF.mk neg (ofNat (val l))))) rfl rfl jI rfl rfl .nil), ?_⟩
  rw [mkI_pos h1]; rfl
theorem t_word (l : List Nat) (hd : Dig l) : kF Tryz.prog 185 [(.sl 152 1 (List.map jB l))] (.tup [(.val (.int .u64 ((((gA l) : Nat) : Int)))), (.val (.bool ((mM l))))]) := by
 refine jL Tryz.func185 rfl cb185 rfl ?_
 show uK _ _ _ _ ⟨[(0, (vl 152 1 jB l))], []⟩
 refine jA <| kx [(2, (gQ 0)), (3, (vb false))] [] (zM <| zM <| zZ) ?_
 refine jA <| jA <| kx [(9, (vb (decide (2 < ((l.length : Nat) : Int)))))] [] (zM <| zE (nC kV) <| zE bO <| zZ) ?_
 refine jQ (b := decide (2 < ((l.length : Nat) : Int))) rfl (fun h1 => ?_) (fun h1 => ?_)
 ·replace h1 := of_decide_eq_true h1
  refine jA <| kx [(2, (gQ 0)), (3, (vb false))] [] (zM <| zM <| zZ) ?_
  refine jG ⟨_, (.tmp (d := (.val (.int .u64 (0)))) rfl (.tmp (d := (.val (.bool (false)))) rfl .nil)), ?_⟩
  rw [show gA l = 0 from if_neg (by omega), show mM l = false from decide_eq_false (by omega)]; rfl
 ·replace h1 := of_decide_eq_false h1
  have h2 : l.length ≤ 2 := by omega
  refine jD <| jA <| kx [(4, (.ref 0 0))] [(0, some (bx (.val (.int .u64 (0)))))] (zN (qI 0 ze154 zo154) <| zT (kR sh154) <| zZ) ?_
  refine jA <| pwp_backL backs cb166 rfl 5 jB l 0 (fun n => ⟨[(2, (gQ 0)), (3, (vb false)), (4, (.ref 0 0))], [(0, some (bx (.val (.int .u64 (((n : Nat) : Int))))))]⟩) (fun (j : Nat) n => n = val (l.drop (l.length - j))) 0 rfl rfl rfl rfl rfl rfl rfl rfl rfl rfl rfl rfl (fun _ => rfl) (fun _ => rfl) wk (by simp [val]) (by omega) ?_ ?_
  ·rintro rl j n hj hn
   have hw := word_bound hd hj h2
   rw [← hn] at hw
   have hg := hd.getD (l.length - 1 - j)
   refine kx [(6, (aG (l.getD (l.length - 1 - j) 0)))] [] (zM <| zZ) ?_
   refine jE <| kx [] [(0, some (bx (.val (.int .u64 (((((n * 1000000000) + (l.getD (l.length - 1 - j) 0)) : Nat) : Int))))))] (zR (uM sh154) <| zE (oMl (n * 1000000000)) <| zM <| zE (mW gG gC (l.getD (l.length - 1 - j) 0)) <| zE (qQ ((n * 1000000000) + (l.getD (l.length - 1 - j) 0))) <| zT (kR sh154) <| zZ) ?_
   exact ⟨n * 1000000000 + l.getD (l.length - 1 - j) 0, wk, (by dsimp only; rw [bR l j hj, ← hn]; omega)⟩
  ·rintro n hn
   refine jA <| kx [(2, (gQ n)), (3, (vb true))] [] (zR (uM sh154) <| zM <| zM <| zZ) ?_
   refine jG ⟨_, (.tmp (d := (.val (.int .u64 (((n : Nat) : Int))))) rfl (.tmp (d := (.val (.bool (true)))) rfl .nil)), ?_⟩
   rw [show gA l = n by rw [hn, Nat.sub_self, List.drop_zero]; exact if_pos h2, show mM l = true from decide_eq_true h2]; rfl
theorem t_compare (a b : List Nat) (ha : gW a) (hb : gW b) (hla : a.length ≤ 17592186044416) : kF Tryz.prog 184 [(.sl 152 1 (List.map jB a)), (.sl 152 1 (List.map jB b))] (.val (.int .i64 ((xF ((val a : Nat) : Int) ((val b : Nat) : Int))))) := by
 refine jL Tryz.func184 rfl cb184 rfl ?_
 show uK _ _ _ _ ⟨[(0, (vl 152 1 jB a)), (1, (vl 152 1 jB b))], []⟩
 refine jA <| kx [(3, (.ref 0 0)), (4, (.ref 1 0))] [(0, some (bx (.sl 152 1 (List.map jB b)))), (1, some (bx (.val (.int .i64 (0)))))] (zN (uX 0) <| zN (qI 1 ze3 zo3) <| zZ) ?_
 refine jA <| jA <| kx [(11, (vb (((a.length : Nat) : Int) != ((b.length : Nat) : Int))))] [] (zM <| zE (nC kV) <| zR (uM xI) <| zE (nC kV) <| zE mR <| zZ) ?_
 refine jQ rfl (fun h1 => ?_) (fun h1 => ?_)
 ·replace h1 := bne_iff_ne.1 h1
  refine jA <| kx [] [(1, some (bx (.val (.int .i64 ((xF ((a.length : Nat) : Int) ((b.length : Nat) : Int)))))))] (zM <| zE (nC kV) <| zR (uM xI) <| zE (nC kV) <| zE (kC (t_cmp_int ((a.length : Nat) : Int) ((b.length : Nat) : Int))) <| zT (kR vW) <| zZ) ?_
  refine jG ⟨_, (res_1 (cs := (bx (.val (.int .i64 ((xF ((a.length : Nat) : Int) ((b.length : Nat) : Int))))))) (d := (.val (.int .i64 ((xF ((a.length : Nat) : Int) ((b.length : Nat) : Int)))))) rfl rfl vW rfl rfl .nil), ?_⟩
  rw [← cmpI_len ha hb h1]; rfl
 ·replace h1 := bne_eq_false_iff_eq.1 h1
  have hl : a.length = b.length := by omega
  refine jD <| jA <| pwp_backL backs cb166 rfl 5 jB a 0 (fun _ => ⟨[(3, (.ref 0 0)), (4, (.ref 1 0))], [(0, some (bx (.sl 152 1 (List.map jB b)))), (1, some (bx (.val (.int .i64 (0)))))]⟩) (fun (j : Nat) _ => val (a.drop (a.length - j)) = val (b.drop (a.length - j))) () rfl rfl rfl rfl rfl rfl rfl rfl rfl rfl rfl rfl (fun _ => rfl) (fun _ => rfl) wk (by rw [Nat.sub_zero, List.drop_length, hl, List.drop_length]) (by omega) ?_ ?_
  ·rintro rl j ⟨⟩ hj he
   refine jA <| kx [(5, (kE (a.length - 1 - j)))] [] (zM <| zZ) ?_
   refine kx [(6, (aG (a.getD (a.length - 1 - j) 0)))] [] (zM <| zZ) ?_
   refine jE <| jA <| kx [(26, (vb ((((a.getD (a.length - 1 - j) 0) : Nat) : Int) != (((b.getD (a.length - 1 - j) 0) : Nat) : Int))))] [] (zM <| zR (uM xI) <| zM <| zE (eK kV (a.length - 1 - j) (0 : Nat)) <| zE (yL uR) <| zE mR <| zZ) ?_
   refine jQ rfl (fun h2 => ?_) (fun h2 => ?_)
   ·replace h2 := bne_iff_ne.1 h2
    refine jA <| kx [] [(1, some (bx (.val (.int .i64 ((xF (((a.getD (a.length - 1 - j) 0) : Nat) : Int) (((b.getD (a.length - 1 - j) 0) : Nat) : Int)))))))] (zM <| zR (uM xI) <| zM <| zE (eK kV (a.length - 1 - j) (0 : Nat)) <| zE (yL uR) <| zE (kC (t_cmp_uint32 (a.getD (a.length - 1 - j) 0) (b.getD (a.length - 1 - j) 0))) <| zT (kR vW) <| zZ) ?_
    refine jG ⟨⟨[(4, (.ref 1 0))], [(1, some (bx (.val (.int .i64 ((xF (((a.getD (a.length - 1 - j) 0) : Nat) : Int) (((b.getD (a.length - 1 - j) 0) : Nat) : Int)))))))]⟩, wk, keys_of rfl, ⟨_, (res_1 (cs := (bx (.val (.int .i64 ((xF (((a.getD (a.length - 1 - j) 0) : Nat) : Int) (((b.getD (a.length - 1 - j) 0) : Nat) : Int))))))) (d := (.val (.int .i64 ((xF (((a.getD (a.length - 1 - j) 0) : Nat) : Int) (((b.getD (a.length - 1 - j) 0) : Nat) : Int)))))) rfl rfl vW rfl rfl .nil), ?_⟩⟩
    rw [← cmpI_top ha.1 hb.1 hl hj he h2]; rfl
   ·replace h2 := bne_eq_false_iff_eq.1 h2
    refine jD ?_
    exact ⟨(), wk, (by dsimp only; have e1 := bR a j hj; have e2 := bR b j (by omega); rw [← hl] at e2; rw [e1, e2, he]; omega)⟩
  ·rintro ⟨⟩ he
   refine jA <| kx [] [(1, some (bx (.val (.int .i64 (0)))))] (zT (kR vW) <| zZ) ?_
   refine jG ⟨_, (res_1 (cs := (bx (.val (.int .i64 (0))))) (d := (.val (.int .i64 (0)))) rfl rfl vW rfl rfl .nil), ?_⟩
   rw [cmpI_same (by rw [Nat.sub_self, List.drop_zero, List.drop_zero] at he; exact he)]; rfl
theorem t_split (n : Nat) (hn : n < 18446744073709551616) : kF Tryz.prog 180 [(.val (.int .u64 (((n : Nat) : Int))))] (.sl 152 1 (List.map jB (ofNat n))) := by
 refine jL Tryz.func180 rfl cb180 rfl ?_
 show uK _ _ _ _ ⟨[(0, (gQ n))], []⟩
 refine jA <| kx [] [] (zE (oNl 152 1) <| zZ) ?_
 refine jA <| kx [(3, (.own 0 152 1 0))] [(0, some (bm jB []))] (zO 0 152 1 <| zZ) ?_
 refine jA <| jE <| uB (α := Nat × List Nat) (fun (m, g) => ⟨[(0, (gQ m)), (3, (.own 0 152 1 g.length))], [(0, some (bm jB g))]⟩) (fun (m, g) => m ≤ n ∧ g ++ ofNat m = ofNat n) (fun (m, g) => m) (n, []) wk ⟨Nat.le_refl _, by rw [List.nil_append]⟩ ?_
 rintro ⟨m, g⟩ ⟨hm, hg⟩
 have hl := split_len hg hn
 refine jA <| jA <| kx [(5, (vb (decide (0 < ((m : Nat) : Int)))))] [] (zM <| zE bO <| zZ) ?_
 refine jQ (b := decide (0 < ((m : Nat) : Int))) rfl (fun h1 => ?_) (fun h1 => ?_)
 ·replace h1 := of_decide_eq_true h1
  refine jD <| jA <| jE <| kf [(3, (.own 0 152 1 ((g ++ [(m % 1000000000)]).length)))] [(0, some (bm jB (g ++ [(m % 1000000000)])))] (zM <| zM <| zE (aI (m % 1000000000)) <| zE (mW nD hH (m % 1000000000)) <| zE (cX kV xR gI) <| zA jB g [(m % 1000000000)] rfl kV xR nP <| zM <| zF) ?_
  refine kx [(0, (gQ (m / 1000000000)))] [] (zM <| zE (oQu (m / 1000000000)) <| zM <| zZ) ?_
  exact ⟨(m / 1000000000, g ++ [m % 1000000000]), wk, ⟨by omega, split_step hg h1⟩, (by first | omega | (dsimp only; omega))⟩
 ·replace h1 := of_decide_eq_false h1
  refine kQ <| jA <| kX (xY (t := 3) (k := 0) (es := List.map jB g) rfl rfl (xV _ _ (fun _ => rfl)) (xU _ _ rfl) (yE _ _ (fun _ => rfl) rfl)) ?_
  refine kx [(2, (vl 152 1 jB g))] [] (zM <| zM <| zZ) ?_
  refine jG ⟨_, (.tmp (d := (.sl 152 1 (List.map jB g))) rfl .nil), ?_⟩
  rw [split_end hg h1]; rfl
end Go.Proofs.YtbecgnplakngdaaGreat
namespace Go.Proofs.YtbecgnplakngdaaGreat
open Go.Fid
set_option maxRecDepth 4000
set_option linter.unusedVariables false
set_option linter.unusedSimpArgs false
theorem cb143 : callB Tryz.prog 143 = true := by kernel_rfl
theorem cb165 : callB Tryz.prog 165 = true := by kernel_rfl
theorem cb181 : callB Tryz.prog 181 = true := by kernel_rfl
theorem cb182 : callB Tryz.prog 182 = true := by kernel_rfl
theorem cb187 : callB Tryz.prog 187 = true := by kernel_rfl
theorem cb207 : callB Tryz.prog 207 = true := by kernel_rfl
theorem uT : xK Tryz.prog 40 0 = some 0 := by kernel_rfl
theorem uS : xK Tryz.prog 40 1 = some 1 := by kernel_rfl
theorem eL : uG Tryz.prog 4 = some (false, 1) := by kernel_rfl
theorem t_big (a : Nat) : kF Tryz.prog 182 [(.val (.int .u32 (((a : Nat) : Int))))] (.val (.bool ((decide (1000000000 ≤ ((a : Nat) : Int)))))) := by
 refine jL Tryz.func182 rfl cb182 rfl ?_
 show uK _ _ _ _ ⟨[(0, (aG a))], []⟩
 refine jA <| kx [] [] (zM <| zZ) ?_
 refine jA <| kx [(2, (vb (decide (1000000000 ≤ ((a : Nat) : Int)))))] [] (zM <| zE oGe <| zM <| zZ) ?_
 refine jG ⟨_, (.tmp (d := (.val (.bool (decide (1000000000 ≤ ((a : Nat) : Int)))))) rfl .nil), ?_⟩
 rfl
theorem t_index (l : List Nat) (hb : l.length ≤ 17592186044416) : kF Tryz.prog 207 [(.sl 152 1 (List.map jB l)), (.val (.func (.func 182) #[] #[]))] (.val (.int .i64 ((zS l)))) := by
 refine jL Tryz.func207 rfl cb207 rfl ?_
 show uK _ _ _ _ ⟨[(0, (vl 152 1 jB l)), (1, (.d (.val (.func (.func 182) #[] #[]))))], []⟩
 refine jA <| kx [] [] (zM <| zZ) ?_
 refine jA <| jA <| kx [(7, (kE l.length)), (8, (kE 0))] [] (zM <| zE (nC kV) <| zM <| zZ) ?_
 refine jE <| uB (α := Nat) (fun i => ⟨[(0, (vl 152 1 jB l)), (1, (.d (.val (.func (.func 182) #[] #[])))), (7, (kE l.length)), (8, (kE i))], []⟩) (fun i => i ≤ l.length ∧ Dig (l.take i)) (fun i => l.length - i) 0 wk ⟨Nat.zero_le _, hO⟩ ?_
 rintro i ⟨hi, hd⟩
 refine jA <| kx [(9, (vb (decide (((i : Nat) : Int) < ((l.length : Nat) : Int)))))] [] (zE qS <| zZ) ?_
 refine jA <| jQ rfl (fun h1 => ?_) (fun h1 => ?_)
 ·replace h1 := of_decide_eq_true h1
  refine jD <| jA <| jE <| jA <| kx [(5, (kE i))] [] (zM <| zM <| zZ) ?_
  refine jA <| kx [(16, (vb (decide (1000000000 ≤ (((l.getD i 0) : Nat) : Int)))))] [] (zM <| zM <| zM <| zE (eK kV i (0 : Nat)) <| zE (yL uR) <| zE (kC (t_big (l.getD i 0))) <| zZ) ?_
  refine jQ rfl (fun h2 => ?_) (fun h2 => ?_)
  ·replace h2 := of_decide_eq_true h2
   refine jA <| kx [(4, (kE i))] [] (zM <| zM <| zZ) ?_
   refine jG ⟨_, (.tmp (d := (.val (.int .i64 (((i : Nat) : Int))))) rfl .nil), ?_⟩
   rw [firstBig_at (by omega) hd (by omega)]; rfl
  ·replace h2 := of_decide_eq_false h2
   refine jD <| kx [(8, (kE (i + 1)))] [] (zE (qQ (i + 1)) <| zM <| zZ) ?_
   exact ⟨(i + 1), wk, ⟨by omega, dig_take_succ (by omega) hd (by omega)⟩, (by omega)⟩
 ·replace h1 := of_decide_eq_false h1
  refine kQ <| jA <| kx [(4, (vi (-1)))] [] (zM <| zZ) ?_
  refine jG ⟨_, (.tmp (d := (.val (.int .i64 (-1)))) rfl .nil), ?_⟩
  rw [lD (by rw [List.take_of_length_le (by omega)] at hd; exact hd)]; rfl
theorem t_contains (l : List Nat) (hb : l.length ≤ 17592186044416) : kF Tryz.prog 181 [(.sl 152 1 (List.map jB l)), (.val (.func (.func 182) #[] #[]))] (.val (.bool ((decide (0 ≤ zS l))))) := by
 refine jL Tryz.func181 rfl cb181 rfl ?_
 show uK _ _ _ _ ⟨[(0, (vl 152 1 jB l)), (1, (.d (.val (.func (.func 182) #[] #[]))))], []⟩
 refine jA <| kx [] [] (zM <| zZ) ?_
 refine jA <| kx [(4, (vb (decide (0 ≤ (zS l)))))] [] (zM <| zM <| zE (kC (t_index l (by omega))) <| zE oGe <| zM <| zZ) ?_
 refine jG ⟨_, (.tmp (d := (.val (.bool (decide (0 ≤ (zS l)))))) rfl .nil), ?_⟩
 rfl
theorem t_valid (x : jF) (hb : x.gs.length ≤ 17592186044416) : kF Tryz.prog 143 [(jH x)] (.val (.bool ((uF x)))) := by
 refine jL Tryz.func143 rfl cb143 rfl ?_
 show uK _ _ _ _ ⟨[(0, (.d (jH x)))], []⟩
 refine jA <| kx [(1, (.ref 0 0))] [(0, some (bx (jH x)))] (zN (uX 0) <| zM <| zZ) ?_
 refine jA <| kx [(3, (kE x.gs.length))] [] (zE (kU uS) <| zR (uM xI) <| zE (nC kV) <| zM <| zZ) ?_
 refine jA <| jA <| kx [(8, (vb (((x.gs.length : Nat) : Int) == 0)))] [] (zM <| zE aL <| zZ) ?_
 refine jQ (b := (((x.gs.length : Nat) : Int) == 0)) rfl (fun h1 => ?_) (fun h1 => ?_)
 ·replace h1 := eq_of_beq h1
  refine jA <| kx [(2, (vb (!x.neg)))] [] (zE (kU uT) <| zR (uM eL) <| zE eX <| zM <| zZ) ?_
  refine jG ⟨_, (.tmp (d := (.val (.bool (!x.neg)))) rfl .nil), ?_⟩
  rw [show uF x = !x.neg from if_pos h1]; rfl
 ·replace h1 := ne_of_beq_false h1
  refine jD <| jA <| kx [(2, (vb (((((x.gs.getD (x.gs.length - 1) 0) : Nat) : Int) != 0) && !(decide (0 ≤ zS x.gs)))))] [] ?_ ?_
  ·refine zE (kU uS) <| zR (uM xI) <| zM <| zE (oSb (x.gs.length - 1)) <| zE (eK kV (x.gs.length - 1) (0 : Nat)) <| zE (yL uR) <| zE mR <| zE (oV (vb ((((x.gs.getD (x.gs.length - 1) 0) : Nat) : Int) != 0)) (xD (by kernel_rfl))) <| ?_
   rcases hb2 : ((((x.gs.getD (x.gs.length - 1) 0) : Nat) : Int) != 0) with _ | _
   ·replace hb2 := bne_eq_false_iff_eq.1 hb2
    exact zK <| zK <| zK <| zK <| zE fC <| zM <| zZ
   ·replace hb2 := bne_iff_ne.1 hb2
    exact zE (kU uS) <| zR (uM xI) <| zE (kC (t_contains x.gs (by omega))) <| zE eX <| zE oPa <| zM <| zZ
  refine jG ⟨_, (.tmp (d := (.val (.bool ((((((x.gs.getD (x.gs.length - 1) 0) : Nat) : Int) != 0) && !(decide (0 ≤ zS x.gs))))))) rfl .nil), ?_⟩
  rw [show uF x = _ from if_neg h1]; rfl
theorem gR (x : jF) (hb : x.gs.length ≤ 17592186044416) : kF Tryz.prog 165 [(jH x)] (.sl 152 1 (List.map jB (qD x))) := by
 refine jL Tryz.func165 rfl cb165 rfl ?_
 show uK _ _ _ _ ⟨[(0, (.d (jH x)))], []⟩
 refine jA <| kx [(1, (.ref 0 0))] [(0, some (bx (jH x)))] (zN (uX 0) <| zE (oNl 152 1) <| zZ) ?_
 refine jA <| jA <| kx [(5, (vb (!(uF x))))] [] (zR (kA jI) <| zE (kC (t_valid x (by omega))) <| zE eX <| zZ) ?_
 refine jQ (b := !(uF x)) rfl (fun h1 => ?_) (fun h1 => ?_)
 ·refine jA <| kx [(2, (vl 152 1 jB []))] [] (zE (oNl 152 1) <| zZ) ?_
  refine jG ⟨_, (.tmp (d := (.sl 152 1 (List.map jB []))) rfl .nil), ?_⟩
  rw [show qD x = [] from if_neg (by simpa using h1)]; rfl
 ·refine jD <| jA <| kx [(2, (vl 152 1 jB x.gs))] [] (zE (kU uS) <| zR (uM xI) <| zM <| zZ) ?_
  refine jG ⟨_, (.tmp (d := (.sl 152 1 (List.map jB x.gs))) rfl .nil), ?_⟩
  rw [show qD x = x.gs from if_pos (by simpa using h1)]; rfl
theorem t_clone (l : List Nat) (hb : l.length ≤ 17592186044416) : kF Tryz.prog 187 [(.sl 152 1 (List.map jB l))] (.sl 152 1 (List.map jB l)) := by
 refine jL Tryz.func187 rfl cb187 rfl ?_
 show uK _ _ _ _ ⟨[(0, (vl 152 1 jB l))], []⟩
 refine jA <| kx [] [] (zE (oNl 152 1) <| zZ) ?_
 refine jA <| jA <| pwp_nilq rfl rfl rfl rfl rfl rfl kV rfl rfl rfl (fun nb hnb => ?_)
 refine jQ (b := nb) rfl (fun h1 => ?_) (fun h1 => ?_)
 ·refine jA <| kx [(2, (vl 152 1 jB []))] [] (zE (oNl 152 1) <| zZ) ?_
  refine jG ⟨_, (.tmp (d := (.sl 152 1 (List.map jB []))) rfl .nil), ?_⟩
  rw [List.map_eq_nil_iff.1 (hnb h1)]; rfl
 ·refine jD <| jA <| kf [(2, (.own 0 152 1 (([] ++ l).length)))] [(0, some (bm jB ([] ++ l)))] (zN (oBo 0 kV xR gI) <| zM <| zA jB [] l rfl kV xR nP <| zM <| zF) ?_
  refine kX (xY (t := 2) (k := 0) (es := List.map jB ([] ++ l)) rfl rfl (xV _ _ (fun _ => rfl)) (xU _ _ rfl) (yE _ _ (fun _ => rfl) rfl)) ?_
  refine jG ⟨_, (.tmp (d := (.sl 152 1 (List.map jB ([] ++ l)))) rfl .nil), ?_⟩
  rfl
end Go.Proofs.YtbecgnplakngdaaGreat
namespace Go.Proofs.YtbecgnplakngdaaGreat
open Go.Fid
set_option maxRecDepth 4000
set_option linter.unusedVariables false
set_option linter.unusedSimpArgs false
theorem bo4 : boolB Tryz.prog 4 = true := by kernel_rfl
theorem cb138 : callB Tryz.prog 138 = true := by kernel_rfl
theorem cb140 : callB Tryz.prog 140 = true := by kernel_rfl
theorem cb142 : callB Tryz.prog 142 = true := by kernel_rfl
theorem cb144 : callB Tryz.prog 144 = true := by kernel_rfl
theorem cb177 : callB Tryz.prog 177 = true := by kernel_rfl
theorem cb188 : callB Tryz.prog 188 = true := by kernel_rfl
theorem cb212 : callB Tryz.prog 212 = true := by kernel_rfl
theorem cb215 : callB Tryz.prog 215 = true := by kernel_rfl
theorem un3 : (Tryz.prog.underlying 3).isSome = true := by kernel_rfl
theorem t_sign (x : jF) (hx : x.gs.length ≤ 1099511627776) : kF Tryz.prog 138 [(jH x)] (.val (.int .i64 ((qX (kK x))))) := by
 refine jL Tryz.func138 rfl cb138 rfl ?_
 show uK _ _ _ _ ⟨[(0, (.d (jH x)))], []⟩
 refine jA <| kx [(1, (.ref 0 0))] [(0, some (bx (jH x)))] (zN (uX 0) <| zM <| zZ) ?_
 refine jA <| jE <| jA <| kx [(3, (vb ((((qD x).length : Nat) : Int) == 0)))] [] (zR (kA jI) <| zE (kC (gR x (by omega))) <| zE (nC kV (L := (qD x))) <| zE aL <| zM <| zZ) ?_
 refine jQ (b := ((((qD x).length : Nat) : Int) == 0)) rfl (fun h1 => ?_) (fun h1 => ?_)
 ·replace h1 := eq_of_beq h1
  refine jA <| kx [(2, (kE 0))] [] (zM <| zZ) ?_
  refine jG ⟨_, (.tmp (d := (.val (.int .i64 (0)))) rfl .nil), ?_⟩
  rw [toZ_nil h1]; rfl
 ·replace h1 := ne_of_beq_false h1
  refine jA <| kx [(8, (vb x.neg))] [] (zE (kU uT) <| zR (uM eL) <| zM <| zZ) ?_
  refine jQ (b := x.neg) rfl (fun h2 => ?_) (fun h2 => ?_)
  ·refine jA <| kx [(2, (vi (-1)))] [] (zM <| zZ) ?_
   refine jG ⟨_, (.tmp (d := (.val (.int .i64 (-1)))) rfl .nil), ?_⟩
   rw [sign_neg h1 h2]; rfl
  ·refine jD <| jA <| kx [(2, (kE 1))] [] (zM <| zZ) ?_
   refine jG ⟨_, (.tmp (d := (.val (.int .i64 (1)))) rfl .nil), ?_⟩
   rw [sign_pos h1 h2]; rfl
theorem t_neg (x : jF) (hx : x.gs.length ≤ 1099511627776) : kF Tryz.prog 177 [(jH x)] (jH (jK (-kK x))) := by
 refine jL Tryz.func177 rfl cb177 rfl ?_
 show uK _ _ _ _ ⟨[(0, (.d (jH x)))], []⟩
 refine jA <| kx [(1, (.ref 0 0)), (2, (.ref 1 0))] [(0, some (bx (jH x))), (1, some (bx (jH (jF.mk false []))))] (zN (uX 0) <| zN (qI 1 uD uE) <| zZ) ?_
 refine jA <| kd [] [(1, some (bx (jH (zI (!x.neg) (val (qD x))))))] mo (wE (kU uT) <| wR (uM eL) <| wE eX <| wR (kA jI) <| wE (kC (gR x (by omega))) <| wE (kC (t_clone (qD x) (Nat.le_trans (yU _) (by omega)))) <| wE (kC (dK (!x.neg) (qD x) (uA _).1 (Nat.le_trans (yU _) (by omega)))) <| wT (kR jI) <| wZ) ?_
 refine jG ⟨_, (qB (cs := (bx (jH (zI (!x.neg) (val (qD x)))))) (d := (jH (zI (!x.neg) (val (qD x))))) rfl rfl jI rfl rfl .nil), ?_⟩
 rw [← neg_eq]; rfl
theorem t_sum (b : Bool) (l : List Nat) (c : Bool) (m : List Nat) (hl : gW l) (hm : gW m) (hll : l.length ≤ 1099511627776) (hlm : m.length ≤ 1099511627776) : kF Tryz.prog 212 [(.val (.bool (b))), (.sl 152 1 (List.map jB l)), (.val (.bool (c))), (.sl 152 1 (List.map jB m))] (jH (jK (mO b (val l) + mO c (val m)))) := by
 refine jL Tryz.func212 rfl cb212 rfl ?_
 show uK _ _ _ _ ⟨[(0, (vb b)), (1, (vl 152 1 jB l)), (2, (vb c)), (3, (vl 152 1 jB m))], []⟩
 refine jA <| kx [(8, (.ref 0 0))] [(0, some (bx (jH (jF.mk false []))))] (zN (qI 0 uD uE) <| zZ) ?_
 refine jA <| jE <| jA <| kx [(9, (vb (b == c)))] [] (zM <| zM <| zE (oEb bo4) <| zM <| zZ) ?_
 refine jQ (b := (b == c)) rfl (fun h1 => ?_) (fun h1 => ?_)
 ·replace h1 := eq_of_beq h1
  refine jA <| kx [] [(0, some (bx (jH (zI b (val (ofNat (val l + val m)))))))] (zM <| zM <| zM <| zE (kC (t_plus l m hl.1 hm.1 (by omega) (by omega))) <| zE (kC (dK b (ofNat (val l + val m)) (qA _) (Nat.le_trans (add_len hl.1 hm.1) (by omega)))) <| zT (kR jI) <| zZ) ?_
  refine jG ⟨_, (qB (cs := (bx (jH (zI b (val (ofNat (val l + val m))))))) (d := (jH (zI b (val (ofNat (val l + val m)))))) rfl rfl jI rfl rfl .nil), ?_⟩
  rw [← sum_same h1]; rfl
 ·replace h1 := ne_of_beq_false h1
  refine jA <| kx [(18, (vb (decide (0 ≤ (xF ((val l : Nat) : Int) ((val m : Nat) : Int))))))] [] (zM <| zM <| zE (kC (t_compare l m (by assumption) (by assumption) (by omega))) <| zE oGe <| zM <| zZ) ?_
  refine jQ rfl (fun h2 => ?_) (fun h2 => ?_)
  ·replace h2 := of_decide_eq_true h2
   refine jA <| kx [] [(0, some (bx (jH (zI b (val (ofNat (val l - val m)))))))] (zM <| zM <| zM <| zE (kC (t_minus l m hl.1 hm.1 (by have := iP h2; omega) (by omega))) <| zE (kC (dK b (ofNat (val l - val m)) (qA _) (Nat.le_trans (sub_len hl.1) (by omega)))) <| zT (kR jI) <| zZ) ?_
   refine jG ⟨_, (qB (cs := (bx (jH (zI b (val (ofNat (val l - val m))))))) (d := (jH (zI b (val (ofNat (val l - val m)))))) rfl rfl jI rfl rfl .nil), ?_⟩
   rw [← sum_first h1 (by have := iP h2; omega)]; rfl
  ·replace h2 := of_decide_eq_false h2
   refine jD <| jA <| kx [] [(0, some (bx (jH (zI c (val (ofNat (val m - val l)))))))] (zM <| zM <| zM <| zE (kC (t_minus m l hm.1 hl.1 (by have := cmpI_lt h2; omega) (by omega))) <| zE (kC (dK c (ofNat (val m - val l)) (qA _) (Nat.le_trans (sub_len hm.1) (by omega)))) <| zT (kR jI) <| zZ) ?_
   refine jG ⟨_, (qB (cs := (bx (jH (zI c (val (ofNat (val m - val l))))))) (d := (jH (zI c (val (ofNat (val m - val l)))))) rfl rfl jI rfl rfl .nil), ?_⟩
   rw [← sum_second h1 (by have := cmpI_lt h2; omega)]; rfl
theorem t_add (x : jF) (y : jF) (hx : x.gs.length ≤ 1099511627776) (hy : y.gs.length ≤ 1099511627776) : kF Tryz.prog 188 [(jH x), (jH y)] (jH (jK (kK x + kK y))) := by
 refine jL Tryz.func188 rfl cb188 rfl ?_
 show uK _ _ _ _ ⟨[(0, (.d (jH x))), (1, (.d (jH y)))], []⟩
 refine jA <| kx [(2, (.ref 0 0)), (3, (.ref 1 0)), (4, (.ref 2 0))] [(0, some (bx (jH x))), (1, some (bx (jH y))), (2, some (bx (jH (jF.mk false []))))] (zN (uX 0) <| zN (uX 1) <| zN (qI 2 uD uE) <| zZ) ?_
 refine jA <| kd [] [(2, some (bx (jH (jK (mO x.neg (val (qD x)) + mO y.neg (val (qD y)))))))] mo (wE (kU uT) <| wR (uM eL) <| wR (kA jI) <| wE (kC (gR x (by omega))) <| wE (kU uT) <| wR (uM eL) <| wR (kA jI) <| wE (kC (gR y (by omega))) <| wE (kC (t_sum x.neg (qD x) y.neg (qD y) (uA _) (uA _) (Nat.le_trans (yU _) (by omega)) (Nat.le_trans (yU _) (by omega)))) <| wT (kR jI) <| wZ) ?_
 refine jG ⟨_, (qB (cs := (bx (jH (jK (mO x.neg (val (qD x)) + mO y.neg (val (qD y))))))) (d := (jH (jK (mO x.neg (val (qD x)) + mO y.neg (val (qD y)))))) rfl rfl jI rfl rfl .nil), ?_⟩
 rfl
theorem t_sub (x : jF) (y : jF) (hx : x.gs.length ≤ 1099511627776) (hy : y.gs.length ≤ 1099511627776) : kF Tryz.prog 215 [(jH x), (jH y)] (jH (jK (kK x - kK y))) := by
 refine jL Tryz.func215 rfl cb215 rfl ?_
 show uK _ _ _ _ ⟨[(0, (.d (jH x))), (1, (.d (jH y)))], []⟩
 refine jA <| kx [(2, (.ref 0 0)), (3, (.ref 1 0)), (4, (.ref 2 0))] [(0, some (bx (jH x))), (1, some (bx (jH y))), (2, some (bx (jH (jF.mk false []))))] (zN (uX 0) <| zN (uX 1) <| zN (qI 2 uD uE) <| zZ) ?_
 refine jA <| kd [] [(2, some (bx (jH (jK (mO x.neg (val (qD x)) + mO (!y.neg) (val (qD y)))))))] mo (wE (kU uT) <| wR (uM eL) <| wR (kA jI) <| wE (kC (gR x (by omega))) <| wE (kU uT) <| wR (uM eL) <| wE eX <| wR (kA jI) <| wE (kC (gR y (by omega))) <| wE (kC (t_sum x.neg (qD x) (!y.neg) (qD y) (uA _) (uA _) (Nat.le_trans (yU _) (by omega)) (Nat.le_trans (yU _) (by omega)))) <| wT (kR jI) <| wZ) ?_
 refine jG ⟨_, (qB (cs := (bx (jH (jK (mO x.neg (val (qD x)) + mO (!y.neg) (val (qD y))))))) (d := (jH (jK (mO x.neg (val (qD x)) + mO (!y.neg) (val (qD y)))))) rfl rfl jI rfl rfl .nil), ?_⟩
 rw [← sub_sgn]; rfl
theorem t_mul (x : jF) (y : jF) (hx : x.gs.length ≤ 1099511627776) (hy : y.gs.length ≤ 1099511627776) : kF Tryz.prog 140 [(jH x), (jH y)] (jH (jK (kK x * kK y))) := by
 refine jL Tryz.func140 rfl cb140 rfl ?_
 show uK _ _ _ _ ⟨[(0, (.d (jH x))), (1, (.d (jH y)))], []⟩
 refine jA <| kx [(2, (.ref 0 0)), (3, (.ref 1 0)), (4, (.ref 2 0))] [(0, some (bx (jH x))), (1, some (bx (jH y))), (2, some (bx (jH (jF.mk false []))))] (zN (uX 0) <| zN (uX 1) <| zN (qI 2 uD uE) <| zZ) ?_
 refine jA <| kd [] [(2, some (bx (jH (zI (!(x.neg == y.neg)) (val (ofNat (val (qD x) * val (qD y))))))))] mo (wE (kU uT) <| wR (uM eL) <| wE (kU uT) <| wR (uM eL) <| wE (oNb bo4) <| wR (kA jI) <| wE (kC (gR x (by omega))) <| wR (kA jI) <| wE (kC (gR y (by omega))) <| wE (kC (t_times (qD x) (qD y) (uA _).1 (uA _).1 (Nat.le_trans (yU _) (by omega)) (Nat.le_trans (yU _) (by omega)))) <| wE (kC (dK (!(x.neg == y.neg)) (ofNat (val (qD x) * val (qD y))) (qA _) (Nat.le_trans (mul_len (uA _).1 (uA _).1) (by have := yU x; have := yU y; omega)))) <| wT (kR jI) <| wZ) ?_
 refine jG ⟨_, (qB (cs := (bx (jH (zI (!(x.neg == y.neg)) (val (ofNat (val (qD x) * val (qD y)))))))) (d := (jH (zI (!(x.neg == y.neg)) (val (ofNat (val (qD x) * val (qD y))))))) rfl rfl jI rfl rfl .nil), ?_⟩
 rw [show kK x * kK y = _ from rfl, kK, kK, ← mul_eq]; rfl
theorem t_of (n : Int) (hlo : -9223372036854775808 ≤ n) (hhi : n ≤ 9223372036854775807) : kF Tryz.prog 142 [(.val (.int .i64 (n)))] (jH (jK n)) := by
 refine jL Tryz.func142 rfl cb142 rfl ?_
 show uK _ _ _ _ ⟨[(0, (vi n))], []⟩
 refine jA <| kx [(2, (.ref 0 0))] [(0, some (bx (jH (jF.mk false []))))] (zN (qI 0 uD uE) <| zZ) ?_
 refine jA <| kx [(3, (gQ ((n % 18446744073709551616).toNat)))] [] (zM <| zE (mW un3 gC ((n % 18446744073709551616).toNat) (hr := by exact (conv_u64 _))) <| zM <| zZ) ?_
 refine jA <| jA <| kx [(7, (vb (decide (n < 0))))] [] (zM <| zE qS <| zZ) ?_
 refine jQ (b := decide (n < 0)) rfl (fun h1 => ?_) (fun h1 => ?_)
 ·replace h1 := of_decide_eq_true h1
  refine kx [(3, (gQ ((-n).toNat)))] [] (zM <| zE (oNg (((-n).toNat : Nat) : Int) (hr := by exact (neg_u64 (by assumption) hlo))) <| zM <| zZ) ?_
  refine jA <| kx [] [(0, some (bx (jH (zI (decide (n < 0)) (val (ofNat ((-n).toNat)))))))] (zM <| zE qS <| zM <| zE (kC (t_split ((-n).toNat) (by omega))) <| zE (kC (dK (decide (n < 0)) (ofNat ((-n).toNat)) (qA _) (Nat.le_trans (aB (by omega)) (by decide)))) <| zT (kR jI) <| zZ) ?_
  refine jG ⟨_, (qB (cs := (bx (jH (zI (decide (n < 0)) (val (ofNat ((-n).toNat))))))) (d := (jH (zI (decide (n < 0)) (val (ofNat ((-n).toNat)))))) rfl rfl jI rfl rfl .nil), ?_⟩
  rw [of_neg h1]; rfl
 ·replace h1 := of_decide_eq_false h1
  refine jD <| jA <| kx [] [(0, some (bx (jH (zI (decide (n < 0)) (val (ofNat ((n % 18446744073709551616).toNat)))))))] (zM <| zE qS <| zM <| zE (kC (t_split ((n % 18446744073709551616).toNat) (by omega))) <| zE (kC (dK (decide (n < 0)) (ofNat ((n % 18446744073709551616).toNat)) (qA _) (Nat.le_trans (aB (by omega)) (by decide)))) <| zT (kR jI) <| zZ) ?_
  refine jG ⟨_, (qB (cs := (bx (jH (zI (decide (n < 0)) (val (ofNat ((n % 18446744073709551616).toNat))))))) (d := (jH (zI (decide (n < 0)) (val (ofNat ((n % 18446744073709551616).toNat)))))) rfl rfl jI rfl rfl .nil), ?_⟩
  rw [of_pos h1 hhi]; rfl
theorem t_compareI (x : jF) (y : jF) (hx : x.gs.length ≤ 1099511627776) (hy : y.gs.length ≤ 1099511627776) : kF Tryz.prog 144 [(jH x), (jH y)] (.val (.int .i64 ((xF (kK x) (kK y))))) := by
 refine jL Tryz.func144 rfl cb144 rfl ?_
 show uK _ _ _ _ ⟨[(0, (.d (jH x))), (1, (.d (jH y)))], []⟩
 refine jA <| kx [(2, (.ref 0 0)), (3, (.ref 1 0))] [(0, some (bx (jH x))), (1, some (bx (jH y)))] (zN (uX 0) <| zN (uX 1) <| zM <| zZ) ?_
 refine jA <| jA <| kd [(5, (vi (qX (kK x)))), (6, (vi (qX (kK y))))] [] mo (wR (kA jI) <| wE (kC (t_sign x (by omega))) <| wR (kA jI) <| wE (kC (t_sign y (by omega))) <| wM <| wM <| wZ) ?_
 refine jA <| kx [(14, (vb ((qX (kK x)) != (qX (kK y)))))] [] (zM <| zM <| zE mR <| zZ) ?_
 refine jQ (b := ((qX (kK x)) != (qX (kK y)))) rfl (fun h1 => ?_) (fun h1 => ?_)
 ·replace h1 := bne_iff_ne.1 h1
  refine jA <| kx [(4, (vi (xF (qX (kK x)) (qX (kK y)))))] [] (zM <| zM <| zE (kC (t_cmp_int (qX (kK x)) (qX (kK y)))) <| zM <| zZ) ?_
  refine jG ⟨_, (.tmp (d := (.val (.int .i64 ((xF (qX (kK x)) (qX (kK y))))))) rfl .nil), ?_⟩
  rw [← cmp_sign h1]; rfl
 ·replace h1 := bne_eq_false_iff_eq.1 h1
  refine jD <| jA <| kd [(7, (vi (xF ((val (qD x) : Nat) : Int) ((val (qD y) : Nat) : Int))))] [] mo (wR (kA jI) <| wE (kC (gR x (by omega))) <| wR (kA jI) <| wE (kC (gR y (by omega))) <| wE (kC (t_compare (qD x) (qD y) (uA _) (uA _) (Nat.le_trans (yU _) (by omega)))) <| wM <| wZ) ?_
  refine jA <| jA <| kx [(24, (vb x.neg))] [] (zE (kU uT) <| zR (uM eL) <| zZ) ?_
  refine jQ (b := x.neg) rfl (fun h2 => ?_) (fun h2 => ?_)
  ·refine jA <| kx [(4, (vi (-(xF ((val (qD x) : Nat) : Int) ((val (qD y) : Nat) : Int)))))] [] (zM <| zE (oNg (-(xF ((val (qD x) : Nat) : Int) ((val (qD y) : Nat) : Int))) (hr := by exact (wi64 (by omega) (by have := cmpI_range ((val (qD x) : Nat) : Int) ((val (qD y) : Nat) : Int); omega) (by have := cmpI_range ((val (qD x) : Nat) : Int) ((val (qD y) : Nat) : Int); omega)))) <| zM <| zZ) ?_
   refine jG ⟨_, (.tmp (d := (.val (.int .i64 (-(xF ((val (qD x) : Nat) : Int) ((val (qD y) : Nat) : Int)))))) rfl .nil), ?_⟩
   rw [← cmp_neg h1 h2]; rfl
  ·refine jD <| jA <| kx [(4, (vi (xF ((val (qD x) : Nat) : Int) ((val (qD y) : Nat) : Int))))] [] (zM <| zM <| zZ) ?_
   refine jG ⟨_, (.tmp (d := (.val (.int .i64 ((xF ((val (qD x) : Nat) : Int) ((val (qD y) : Nat) : Int)))))) rfl .nil), ?_⟩
   rw [← cmp_pos h1 h2]; rfl
end Go.Proofs.YtbecgnplakngdaaGreat
namespace Go.Proofs.YtbecgnplakngdaaGreat
open Go.RowKit Go.Shelf
attribute [local go_sem] Oper.semAt_some
set_option maxRecDepth 100000 in
set_option maxHeartbeats 2000000 in
theorem trimV (b cap : Nat) (l : List Nat) (hd : Go.Fid.Dig l) (h0 : Go.Fid.val l ≠ 0) (w : World) (hc : ∀ i, i < l.length → w.cell? ⟨b, i, none⟩ = some (.int .u32 ((l.getD i 0 : Nat) : Int))) (h1 : l.length ≤ cap) (h2 : cap ≤ maxLen) :
    CallsIn Fence.wide 1 Tryz.prog 206 #[.slice (some ⟨b, 0, none⟩) l.length cap] w fun e w' => e = .returned (.slice (some ⟨b, 0, none⟩) (Go.Fid.ofNat (Go.Fid.val l)).length cap) ∧ w' = w := by
  refine callsIn_of_wp Tryz.func206 rfl trivial ?_ rfl
  simp only [Tryz.ntmps206, List.size_toArray, List.length_cons, List.length_nil, Nat.reduceAdd, Nat.reduceSub, Array.replicate_succ, Array.replicate_zero, List.push_toArray, List.append_toArray, List.nil_append, List.cons_append]
  gi_wp2
  gi_loopw [0] (fun i wr => ∃ j : Nat, j ≤ l.length ∧ 0 < j ∧ i = .slice (some ⟨b, 0, none⟩) j cap ∧ Go.Fid.val (l.take j) = Go.Fid.val l ∧ wr = w)
    (fun i _ => match i with | .slice _ n _ => n | _ => 0)
  case atStart =>
    have hl : 0 < l.length := by
      rcases l with _ | ⟨d, l⟩
      · exact absurd rfl h0
      · simp
    exact ⟨l.length, Nat.le_refl _, hl, rfl, by rw [List.take_length], rfl⟩
  case round =>
    obtain ⟨j, hj, hj0, rfl, hv, rfl⟩ := hrel
    have hcj := hc (j - 1) (by omega)
    have hj63 : (j : Int) ≤ 9223372036854775807 := by unfold maxLen at h2; omega
    have hv2 := Go.Fid.val_take_succ l (j - 1)
    rw [show j - 1 + 1 = j by omega] at hv2
    by_cases hz : l.getD (j - 1) 0 = 0
    · rw [hz] at hcj hv2
      have h1j : 0 < j - 1 := by
        rcases Nat.eq_zero_or_pos (j - 1) with e | e
        · rw [e, List.take_zero, Go.Fid.val_nil, Nat.mul_zero] at hv2
          omega
        · exact e
      gi_wp2
      go_roundw
      case rel => exact ⟨j - 1, by omega, h1j, by simp, by rw [← hv, hv2]; simp, trivial⟩
      case measure => simp; omega
    · gi_wp2
      · rename_i hq
        exfalso
        simp [List.getD] at hz hq
        omega
      · refine ⟨rfl, .slice (some ⟨b, 0, none⟩) j cap, by simp [results, Tryz.results206, go_sem], ?_⟩
        have e : Go.Fid.ofNat (Go.Fid.val l) = l.take j := by
          rw [← hv]
          refine (Go.Fid.can_eq ⟨hd.take j, ?_⟩).symm
          unfold Go.Fid.Top
          have h5 : (l.take j).length - 1 = j - 1 := by rw [List.length_take]; omega
          rw [h5]
          have h6 : j - 1 < l.length := by omega
          simp [List.getD, List.getElem?_eq_getElem h6, List.getElem?_take_of_lt (show j - 1 < j by omega)] at hz ⊢
          exact hz
        rw [e, List.length_take, Nat.min_eq_left hj]
        exact ⟨rfl, rfl⟩
theorem trim_cb : Go.Fid.callB Tryz.prog 206 = true := by kernel_rfl
open Go.Fid in
theorem e_trimO {o : Oper} {S : Nat → SV} {x : Operand} {ats : Array TypeId} {k T m : Nat} (l : List Nat) (ho : o.op = .call { callee := .value (.func 206), args := #[x], argTypes := ats }) (hx : ev S x = .own k T 1 m) (hl : l.length = m) (hd : Dig l) (h0 : val l ≠ 0) :
    vH Tryz.prog o S [(k, l.map (fun g => SV.d (jB g)))] (.own k T 1 (ofNat (val l)).length) :=
  fun a w D β Q hop hrd hD => by
    have hxv := hop x (by simp [ho, Op.operands, Call.operands])
    rw [hx] at hxv
    have hm : 0 < m := by
      rcases Nat.eq_zero_or_pos m with e | e
      · rw [e] at hl
        have := List.eq_nil_of_length_eq_zero hl
        subst this
        exact absurd rfl h0
      · exact e
    have hle : (ofNat (val l)).length ≤ l.length := vI (xT hd)
    rcases hxv with ⟨_, e, _⟩ | ⟨b, cap, vs, h1, h2, h3, h4, h5, h6⟩
    · omega
    · have hblk := hrd (k, l.map (fun g => SV.d (jB g))) (by simp)
      rcases hblk with ⟨g1, _⟩ | ⟨b', vs', T', g1, g2, g3, g4, g5⟩
      · rw [h1] at g1; cases g1
      · obtain rfl : b = b' := by rw [h1] at g1; injection g1
        rw [h3] at g2
        injection g2 with g2
        injection g2 with g2 gT
        subst g2; subst gT
        have hcell : ∀ i, w.cell? ⟨b, i, none⟩ = vs[i]? := fun i => cell_of_row w b i vs T (0, 0) h3
        have hrun : (execOp a.eval o).run Tryz.prog w = .ok (.enter 206 #[.slice (some ⟨b, 0, none⟩) l.length cap]) w := by
          simp only [execOp, ho, resolve, Deferred.ofValue, Act.eval, Sem.run_bind, Sem.run_pure, Result.andThen_ok, invoke, Array.empty_append, Array.append_empty]
          rw [gV trim_cb]
          simp [h2, hl]
        refine eO hrun (((callsIn_wide (n := 1)).1 (trimV b cap l hd h0 w (fun i hi => ?_) (by omega) h6)).mono fun e w' h => ?_)
        · rw [hcell]
          obtain ⟨u, e1, _, e3⟩ := g4 i (.d (jB (l.getD i 0))) (by rw [List.getElem?_map, List.getElem?_eq_getElem hi]; simp [List.getD, List.getElem?_eq_getElem hi])
          rw [e1, vT e3]
        · obtain ⟨he, rfl⟩ := h
          exact ⟨_, he, _, D, rfl, Below.refl _ _, ⟨fun _ _ _ h => h, fun _ _ _ h => .inl h⟩, .inr ⟨b, cap, vs, h1, rfl, h3, h4, by omega, h6⟩⟩
open Go.Fid in
theorem trim_take {l : List Nat} (hd : Dig l) : ofNat (val l) = l.take (ofNat (val l)).length := by
  have h1 : ∀ (n : Nat) (l : List Nat), l.length = n → Dig l → ofNat (val l) = l.take (ofNat (val l)).length := by
    intro n
    induction n with
    | zero => intro l hl _; rw [List.eq_nil_of_length_eq_zero hl]; rw [val_nil, vU]; rfl
    | succ n ih =>
      intro l hl hd
      have h2 := val_take_succ l n
      rw [← hl, List.take_length] at h2
      by_cases hz : l.getD n 0 = 0
      · rw [hz, Nat.mul_zero, Nat.add_zero] at h2
        have h3 := ih (l.take n) (by rw [List.length_take]; omega) (hd.take n)
        rw [← h2, List.take_take] at h3
        have h4 : (ofNat (val l)).length ≤ n := by
          rw [h2]; exact vI (by have := xT (hd.take n); rwa [List.length_take, Nat.min_eq_left (by omega)] at this)
        rw [Nat.min_eq_left h4] at h3
        exact h3
      · have h3 : gW l := ⟨hd, by
          unfold Top
          rw [show l.length - 1 = n by omega]
          have h6 : n < l.length := by omega
          simp [List.getD, List.getElem?_eq_getElem h6] at hz ⊢
          exact hz⟩
        rw [← can_eq h3, List.take_length]
  exact h1 _ l rfl hd
end Go.Proofs.YtbecgnplakngdaaGreat
namespace Go.Proofs.YtbecgnplakngdaaGreat
open Go.Fid
set_option maxRecDepth 4000
set_option linter.unusedVariables false
set_option linter.unusedSimpArgs false
theorem cb210 : callB Tryz.prog 210 = true := by kernel_rfl
theorem ze38 : xH Tryz.prog 38 = some [.slice none 0 0] := by kernel_rfl
theorem zo38 : mP [.slice none 0 0] [.sl 152 1 []] := by simp [mP, Value.oneCell']
theorem t_short (a : List Nat) (d : Nat) (hda : Dig a) (hd0 : 0 < d) (hd1 : d ≤ 1000000000) (hla : a.length ≤ 17592186044416) : kF Tryz.prog 210 [(.sl 152 1 (List.map jB a)), (.val (.int .u32 (((d : Nat) : Int))))] (.tup [(.sl 152 1 (List.map jB (ofNat (val a / d)))), (.val (.int .u32 ((((val a % d) : Nat) : Int))))]) := by
 refine jL Tryz.func210 rfl cb210 rfl ?_
 show uK _ _ _ _ ⟨[(0, (vl 152 1 jB a)), (1, (aG d))], []⟩
 refine jA <| kx [(3, (.ref 0 0)), (4, (.ref 1 0)), (5, (aG 0))] [(0, some (bx (.val (.int .u32 (((d : Nat) : Int)))))), (1, some (bx (.sl 152 1 (List.map jB []))))] (zN (uX 0) <| zN (qI 1 ze38 zo38) <| zM <| zZ) ?_
 refine jA <| kx [] [(1, some [(.own 2 152 1 a.length)]), (2, some (bm jB (List.replicate a.length 0)))] (zM <| zE (nC kV) <| zN (oMk 2 jB (0 : Nat) a.length a.length kV xR gI nP) <| zT (oSo xI) <| zZ) ?_
 refine jA <| kx [(6, (.ref 3 0))] [(3, some (bx (.val (.int .u64 (0)))))] (zH (qI 3 ze154 zo154) <| zT (kR sh154) <| zZ) ?_
 refine jA <| pwp_backL backs cb166 rfl 7 jB a 0 (fun (q, zG) => ⟨[(3, (.ref 0 0)), (4, (.ref 1 0)), (5, (aG 0)), (6, (.ref 3 0))], [(0, some (bx (.val (.int .u32 (((d : Nat) : Int)))))), (1, some [(.own 2 152 1 a.length)]), (2, some (bm jB q)), (3, some (bx (.val (.int .u64 (((zG : Nat) : Int))))))]⟩) (fun (j : Nat) (q, zG) => q.length = a.length ∧ Dig q ∧ zG < d ∧ val (a.drop (a.length - j)) = val (q.drop (a.length - j)) * d + zG) (List.replicate a.length 0, 0) rfl rfl rfl rfl rfl rfl rfl rfl rfl rfl rfl rfl (fun _ => rfl) (fun _ => rfl) wk ⟨by simp, yJ _, hd0, by simp [val, dY]⟩ (by omega) ?_ ?_
 ·rintro rl j ⟨q, zG⟩ hj ⟨vD, hdq, hr, hv⟩
  have hg := hda.getD (a.length - 1 - j)
  obtain ⟨hb1, hb2⟩ := short_bound hr hd1 hg
  refine jA <| kx [(7, (kE (a.length - 1 - j)))] [] (zM <| zZ) ?_
  refine kx [(8, (aG (a.getD (a.length - 1 - j) 0)))] [] (zM <| zZ) ?_
  refine jE <| jA <| kx [(9, (gQ ((zG * 1000000000) + (a.getD (a.length - 1 - j) 0))))] [] (zR (uM sh154) <| zE (oMl (zG * 1000000000)) <| zM <| zE (mW gG gC (a.getD (a.length - 1 - j) 0)) <| zE (qQ ((zG * 1000000000) + (a.getD (a.length - 1 - j) 0))) <| zM <| zZ) ?_
  refine kd [] [(2, some (bm jB (q.set (a.length - 1 - j) (((zG * 1000000000) + (a.getD (a.length - 1 - j) 0)) / d)))), (3, some (bx (.val (.int .u64 ((((((zG * 1000000000) + (a.getD (a.length - 1 - j) 0)) % d) : Nat) : Int))))))] mo (wR (uM xI) <| wM <| wM <| wR (uM uR) <| wE (mW gG gC d) <| wE (oQu (((zG * 1000000000) + (a.getD (a.length - 1 - j) 0)) / d)) <| wE (mW nD hH (((zG * 1000000000) + (a.getD (a.length - 1 - j) 0)) / d)) <| wM <| wR (uM uR) <| wE (mW gG gC d) <| wE (aI (((zG * 1000000000) + (a.getD (a.length - 1 - j) 0)) % d)) <| wE (oXo kV (a.length - 1 - j)) <| wT (oSp uR (a.length - 1 - j) (((zG * 1000000000) + (a.getD (a.length - 1 - j) 0)) / d)) <| wT (kR sh154) <| wZ) ?_
  exact ⟨(q.set (a.length - 1 - j) ((zG * 1000000000 + a.getD (a.length - 1 - j) 0) / d), (zG * 1000000000 + a.getD (a.length - 1 - j) 0) % d), wk, ⟨by simpa using vD, hdq.set _ hb2, Nat.mod_lt _ hd0, short_step hj vD hv rfl⟩⟩
 ·rintro ⟨q, zG⟩ ⟨vD, hdq, hr, hv⟩
  obtain ⟨e1, e2⟩ := short_end hv hr
  refine jA <| kX (publishB (j := 1) (k := 2) (es := List.map jB q) rfl rfl rfl (xV _ _ (fun _ => rfl)) (xU _ _ vD) (yE _ _ (fun _ => rfl) vD)) ?_
  refine kd [(5, (aG zG))] [(1, some (bx (.sl 152 1 (List.map jB (ofNat (val q))))))] mo (wR (uM xI) <| wE (kC (t_trim q (by assumption) (by omega))) <| wR (uM sh154) <| wE (mW nD hH zG) <| wT (kR xI) <| wM <| wZ) ?_
  refine jG ⟨_, (res_1 (cs := (bx (.sl 152 1 (List.map jB (ofNat (val q)))))) (d := (.sl 152 1 (List.map jB (ofNat (val q))))) rfl rfl xI rfl rfl (.tmp (d := (.val (.int .u32 (((zG : Nat) : Int))))) rfl .nil)), ?_⟩
  rw [← e1, ← e2]; rfl
theorem o_times (a b : List Nat) (hda : Dig a) (hdb : Dig b) (hla : a.length ≤ 4398046511104) (hlb : b.length ≤ 4398046511104) (h0 : 0 < val a * val b) : TakesO Tryz.prog 179 [(.sl 152 1 (List.map jB a)), (.sl 152 1 (List.map jB b))] 152 1 (ofNat (val a * val b)).length (List.map jB (ofNat (val a * val b))) := by
 refine fn_introO Tryz.func179 rfl cb179 rfl (eA h0) ?_
 show uK _ _ _ _ ⟨[(0, (vl 152 1 jB a)), (1, (vl 152 1 jB b))], []⟩
 refine jA <| kx [] [] (zE (oNl 152 1) <| zZ) ?_
 refine jA <| kx [(5, (.own 0 152 1 (a.length + b.length)))] [(0, some (bm jB (List.replicate (a.length + b.length) 0)))] (zM <| zE (nC kV) <| zM <| zE (nC kV) <| zE (qQ (a.length + b.length)) <| zN (oMk 0 jB (0 : Nat) (a.length + b.length) (a.length + b.length) kV xR gI nP) <| zM <| zZ) ?_
 refine jA <| jA <| kx [(18, (vl 152 1 jB a)), (19, (kE a.length)), (20, (kE 0))] [] (zM <| zE (nC kV) <| zM <| zZ) ?_
 refine jE <| uB (α := Nat × List Nat) (fun (i, out) => ⟨[(1, (vl 152 1 jB b)), (5, (.own 0 152 1 (a.length + b.length))), (18, (vl 152 1 jB a)), (19, (kE a.length)), (20, (kE i))], [(0, some (bm jB out))]⟩) (fun (i, out) => out.length = a.length + b.length ∧ Dig out ∧ i ≤ a.length ∧ (∀ k, i + b.length ≤ k → out.getD k 0 = 0) ∧ val out = val (a.take i) * val b) (fun (i, out) => a.length - i) (0, List.replicate (a.length + b.length) 0) wk ⟨by simp, yJ _, Nat.zero_le _, fun k _ => aC _ k, by simp [val, dY]⟩ ?_
 rintro ⟨i, out⟩ ⟨vD, hdo, hi, hz, hv⟩
 have hai := hda.getD i
 refine jA <| kx [(21, (vb (decide (((i : Nat) : Int) < ((a.length : Nat) : Int)))))] [] (zE qS <| zZ) ?_
 refine jA <| jQ rfl (fun h1 => ?_) (fun h1 => ?_)
 ·replace h1 := of_decide_eq_true h1
  refine jD <| jA <| jE <| jA <| kx [(6, (kE i)), (7, (aG (a.getD i 0)))] [] (zM <| zE (eK kV i (0 : Nat)) <| zE (yL uR) <| zM <| zM <| zZ) ?_
  refine jA <| kx [(8, (gQ 0))] [] (zM <| zZ) ?_
  refine jA <| jA <| kx [(25, (vl 152 1 jB b)), (26, (kE b.length)), (27, (kE 0))] [] (zM <| zE (nC kV) <| zM <| zZ) ?_
  refine jE <| uB (α := Nat × List Nat × Nat) (fun (j, o2, c) => ⟨[(1, (vl 152 1 jB b)), (5, (.own 0 152 1 (a.length + b.length))), (6, (kE i)), (7, (aG (a.getD i 0))), (8, (gQ c)), (18, (vl 152 1 jB a)), (19, (kE a.length)), (20, (kE i)), (25, (vl 152 1 jB b)), (26, (kE b.length)), (27, (kE j))], [(0, some (bm jB o2))]⟩) (fun (j, o2, c) => o2.length = a.length + b.length ∧ Dig o2 ∧ j ≤ b.length ∧ c < 1000000000 ∧ (∀ k, i + b.length ≤ k → o2.getD k 0 = 0) ∧ val o2 + pw (i + j) * c = val (a.take i) * val b + pw i * (a.getD i 0 * val (b.take j))) (fun (j, o2, c) => b.length - j) (0, out, 0) wk ⟨vD, hdo, Nat.zero_le _, by decide, hz, by simp [val, hv]⟩ ?_
  rintro ⟨j, o2, c⟩ ⟨hlen2, hdo2, hj, hc, hz2, hv2⟩
  have hbj := hdb.getD j
  have hoj := hdo2.getD (i + j)
  have hpq : a.getD i 0 * b.getD j 0 ≤ 999999999 * 999999999 := Nat.mul_le_mul (by omega) (by omega)
  refine jA <| kx [(28, (vb (decide (((j : Nat) : Int) < ((b.length : Nat) : Int)))))] [] (zE qS <| zZ) ?_
  refine jA <| jQ rfl (fun h2 => ?_) (fun h2 => ?_)
  ·replace h2 := of_decide_eq_true h2
   refine jD <| jA <| jE <| jA <| kx [(9, (kE j)), (10, (aG (b.getD j 0)))] [] (zM <| zE (eK kV j (0 : Nat)) <| zE (yL uR) <| zM <| zM <| zZ) ?_
   refine jA <| kx [(11, (gQ (((o2.getD (i + j) 0) + ((a.getD i 0) * (b.getD j 0))) + c)))] [] (zM <| zM <| zM <| zE (qQ (i + j)) <| zE (oXo kV (i + j)) <| zR (oLp uR (i + j) (0 : Nat)) <| zE (mW gG gC (o2.getD (i + j) 0)) <| zM <| zE (mW gG gC (a.getD i 0)) <| zM <| zE (mW gG gC (b.getD j 0)) <| zE (oMl ((a.getD i 0) * (b.getD j 0))) <| zE (qQ ((o2.getD (i + j) 0) + ((a.getD i 0) * (b.getD j 0)))) <| zM <| zE (qQ (((o2.getD (i + j) 0) + ((a.getD i 0) * (b.getD j 0))) + c)) <| zM <| zZ) ?_
   refine kx [(8, (gQ ((((o2.getD (i + j) 0) + ((a.getD i 0) * (b.getD j 0))) + c) / 1000000000)))] [(0, some (bm jB (o2.set (i + j) ((((o2.getD (i + j) 0) + ((a.getD i 0) * (b.getD j 0))) + c) % 1000000000))))] (zM <| zM <| zM <| zE (qQ (i + j)) <| zM <| zE (aI ((((o2.getD (i + j) 0) + ((a.getD i 0) * (b.getD j 0))) + c) % 1000000000)) <| zE (mW nD hH ((((o2.getD (i + j) 0) + ((a.getD i 0) * (b.getD j 0))) + c) % 1000000000)) <| zM <| zE (oQu ((((o2.getD (i + j) 0) + ((a.getD i 0) * (b.getD j 0))) + c) / 1000000000)) <| zE (oXo kV (i + j)) <| zT (oSp uR (i + j) ((((o2.getD (i + j) 0) + ((a.getD i 0) * (b.getD j 0))) + c) % 1000000000)) <| zM <| zZ) ?_
   refine kx [(27, (kE (j + 1)))] [] (zE (qQ (j + 1)) <| zM <| zZ) ?_
   exact ⟨(j + 1, o2.set (i + j) ((o2.getD (i + j) 0 + a.getD i 0 * b.getD j 0 + c) % 1000000000), (o2.getD (i + j) 0 + a.getD i 0 * b.getD j 0 + c) / 1000000000), wk, (by obtain ⟨q1, q2⟩ := times_step (by omega) hdo2 hv2 rfl (val_take_succ b j); exact ⟨by simpa using hlen2, q1, by omega, by omega, zero_set (by omega) hz2, q2⟩), (by first | omega | (dsimp only; omega))⟩
  ·replace h2 := of_decide_eq_false h2
   have hje : j = b.length := by omega
   rw [hje] at hv2
   refine kQ <| kx [] [(0, some (bm jB (o2.set (i + b.length) c)))] (zM <| zM <| zM <| zE (nC kV) <| zE (qQ (i + b.length)) <| zM <| zE (mW nD hH c) <| zE (oXo kV (i + b.length)) <| zT (oSp uR (i + b.length) c) <| zZ) ?_
   refine kx [(20, (kE (i + 1)))] [] (zE (qQ (i + 1)) <| zM <| zZ) ?_
   exact ⟨(i + 1, o2.set (i + b.length) c), wk, (by obtain ⟨q1, q2, q3, q4⟩ := times_row hdo2 (by omega) hlen2 hz2 hc hv2; exact ⟨q1, q2, by omega, q3, q4⟩), (by first | omega | (dsimp only; omega))⟩
 ·replace h1 := of_decide_eq_false h1
  have hie : i = a.length := by omega
  rw [hie, List.take_length] at hv
  refine kQ <| jA <| kx [(4, (.own 0 152 1 ((ofNat (val out)).length)))] [] (zM <| zR ⟨_, e_trimO out (by exact rfl) (by exact rfl) vD hdo (by omega), by kernel_rfl⟩ <| zM <| zZ) ?_
  rw [← hv]
  refine jG ⟨4, 0, rfl, rfl, (bm jB out), rfl, ?_⟩
  exact own_prefix _ (trim_take hdo)
end Go.Proofs.YtbecgnplakngdaaGreat
namespace Go.Proofs.YtbecgnplakngdaaGreat
open Go.Fid
set_option maxRecDepth 4000
set_option linter.unusedVariables false
set_option linter.unusedSimpArgs false
theorem cb211 : callB Tryz.prog 211 = true := by kernel_rfl
theorem in2 : intB Tryz.prog 2 = some .i64 := by kernel_rfl
theorem un2 : (Tryz.prog.underlying 2).isSome = true := by kernel_rfl
set_option maxHeartbeats 4000000 in
theorem t_long (a b : List Nat) (hda : gW a) (hdb : gW b) (hb2 : 2 ≤ b.length) (hba : val b ≤ val a) (hla : a.length ≤ 1099511627776) : kF Tryz.prog 211 [(.sl 152 1 (List.map jB a)), (.sl 152 1 (List.map jB b))] (.tup [(.sl 152 1 (List.map jB (ofNat (val a / val b)))), (.sl 152 1 (List.map jB (ofNat (val a % val b))))]) := by
 have hab := len_of_le hda hdb hba
 have hsc := bU hdb (by omega)
 have htp := iG hdb (by omega)
 have hds : Dig [cZ b] := gH.2 ⟨by omega, hO⟩
 have hbp : 0 < val b := by have := val_top hdb.1 (by omega); have h2 := Nat.mul_le_mul_right (pw (b.length - 1)) htp.1; have h3 := lE (b.length - 1); rw [Nat.succ_mul] at h2; omega
 obtain ⟨u0, hue⟩ : ∃ u0, u0 = ofNat (val a * val [cZ b]) := ⟨_, rfl⟩
 obtain ⟨v, hve⟩ : ∃ v, v = ofNat (val b * val [cZ b]) := ⟨_, rfl⟩
 have hu0 : Dig u0 := by rw [hue]; exact qA _
 have hvd : Dig v := by rw [hve]; exact qA _
 have hvl : v.length = b.length := by rw [hve, cU]; exact scl_len hdb (by omega)
 have hvv : val v = val b * cZ b := by rw [hve, cU]; exact kW _
 have hu0v : val u0 = val a * cZ b := by rw [hue, cU]; exact kW _
 have hu0l : a.length ≤ u0.length ∧ u0.length ≤ a.length + 1 := by rw [hue, cU]; exact scl_lenA hda hdb (by omega)
 have hLU : (u0 ++ [0]).length = u0.length + 1 := by simp
 have hcv : gW v := by rw [hve]; exact uC _
 have hv1p : 0 < v.getD (b.length - 1) 0 := by rw [← hvl]; exact (iG hcv (by omega)).1
 have hpv : pw (b.length - 1) ≤ val v := by have h1 := val_top hvd (by omega); rw [hvl] at h1; have h2 := Nat.mul_le_mul_right (pw (b.length - 1)) hv1p; omega
 refine jL Tryz.func211 rfl cb211 rfl ?_
 show uK _ _ _ _ ⟨[(0, (vl 152 1 jB a)), (1, (vl 152 1 jB b))], []⟩
 refine jA <| kx [] [] (zE (oNl 152 1) <| zE (oNl 152 1) <| zZ) ?_
 refine jA <| kx [(6, (aG (cZ b)))] [] (zM <| zM <| zE (nC kV) <| zE (oSb (b.length - 1)) <| zE (eK kV (b.length - 1) (0 : Nat)) <| zE (yL uR) <| zE (mW gG gC (b.getD (b.length - 1) 0)) <| zE (qQ ((b.getD (b.length - 1) 0) + 1)) <| zE (oQu (cZ b) (hr := by exact (quo_u64 1000000000 (b.getD (b.length - 1) 0 + 1) (by decide)))) <| zE (mW nD hH (cZ b)) <| zM <| zZ) ?_
 refine jA <| kx [(7, (.own 0 152 1 u0.length))] [(0, some (bm jB u0))] (zM <| zM <| zE (cX kV xR gI) <| zN (oCo 0 (hue ▸ o_times a [cZ b] hda.1 hds (by omega) (by simp) (by rw [cU]; exact Nat.mul_pos (by omega) hsc.1))) <| zM <| zZ) ?_
 refine jA <| kx [(8, (vl 152 1 jB v))] [] (zM <| zM <| zE (cX kV xR gI) <| zE (kC (hve ▸ t_times b [cZ b] hdb.1 hds (by omega) (by simp))) <| zM <| zZ) ?_
 refine jA <| kx [(9, (kE b.length))] [] (zM <| zE (fT kV b.length (hr := by exact (by simp [hvl]))) <| zM <| zZ) ?_
 refine jA <| kf [(7, (.own 0 152 1 ((u0 ++ [0]).length)))] [(0, some (bm jB (u0 ++ [0])))] (zM <| zE (cX kV xR gI) <| zA jB u0 [0] rfl kV xR nP <| zM <| zF) ?_
 refine jA <| jA <| kx [(50, (vb (decide ((((u0 ++ [0]).length : Nat) : Int) ≤ ((a.length : Nat) : Int)))))] [] (zM <| zE (oLo kV) <| zM <| zE (nC kV) <| zE oLe <| zZ) ?_
 refine jQ rfl (fun h1 => ?_) (fun h1 => ?_)
 ·replace h1 := of_decide_eq_true h1
  exfalso; simp at h1; omega
 ·replace h1 := of_decide_eq_false h1
  refine jD <| jA <| kx [(4, (.own 1 152 1 ((u0 ++ [0]).length - b.length)))] [(1, some (bm jB (List.replicate ((u0 ++ [0]).length - b.length) 0)))] (zM <| zE (oLo kV) <| zM <| zE (oSb ((u0 ++ [0]).length - b.length)) <| zH (oMk 1 jB (0 : Nat) ((u0 ++ [0]).length - b.length) ((u0 ++ [0]).length - b.length) kV xR gI nP) <| zM <| zZ) ?_
  refine jA <| jA <| kx [(10, (vi ((((u0 ++ [0]).length - b.length : Nat) : Int) - 1)))] [] (zM <| zE (oLo kV) <| zM <| zE (oSb ((u0 ++ [0]).length - b.length)) <| zE (aH ((((u0 ++ [0]).length - b.length : Nat) : Int) - 1)) <| zM <| zZ) ?_
  refine jE <| uB (α := Nat × List Nat × List Nat) (fun (k, u, q) => ⟨[(4, (.own 1 152 1 ((u0 ++ [0]).length - b.length))), (6, (aG (cZ b))), (7, (.own 0 152 1 ((u0 ++ [0]).length))), (8, (vl 152 1 jB v)), (9, (kE b.length)), (10, (vi (((k : Nat) : Int) - 1)))], [(0, some (bm jB u)), (1, some (bm jB q))]⟩) (fun (k, u, q) => u.length = (u0 ++ [0]).length ∧ Dig u ∧ q.length = (u0 ++ [0]).length - b.length ∧ Dig q ∧ k ≤ (u0 ++ [0]).length - b.length ∧ val u + val v * (pw k * val (q.drop k)) = val a * cZ b ∧ val (u.drop k) < val v) (fun (k, u, q) => k) ((u0 ++ [0]).length - b.length, u0 ++ [0], List.replicate ((u0 ++ [0]).length - b.length) 0) wk ⟨rfl, iK.2 ⟨hu0, gH.2 ⟨by decide, hO⟩⟩, by simp, yJ _, Nat.le_refl _, by simp [dJ, val, hu0v], by have := long_start hu0 hvl hb2 (by omega) hpv; rw [hLU]; exact this⟩ ?_
  rintro ⟨k, u, q⟩ ⟨vD, hu, hql, hqd, hk, hU, hW⟩
  refine jA <| jA <| kx [(65, (vb (decide (0 ≤ (((k : Nat) : Int) - 1)))))] [] (zM <| zE oGe <| zZ) ?_
  refine jQ (b := decide (0 ≤ (((k : Nat) : Int) - 1))) rfl (fun h2 => ?_) (fun h2 => ?_)
  ·replace h2 := of_decide_eq_true h2
   obtain ⟨j, rfl⟩ : ∃ j, k = j + 1 := ⟨k - 1, by omega⟩
   rw [show (((j + 1 : Nat) : Int) - 1) = ((j : Nat) : Int) from by omega]
   have hg1 := hu.getD (j + b.length)
   have hg2 := hu.getD (j + b.length - 1)
   have hg3 := hu.getD (j + b.length - 2)
   have hg4 := hvd.getD (b.length - 1)
   have hg5 := hvd.getD (b.length - 2)
   obtain ⟨z1, z2, z3, z4, z5, z6⟩ := window_tops hu hvd hvl hb2 hW
   obtain ⟨hwz, hww⟩ := window hvd hvl hW
   refine jD <| jA <| jE <| jA <| kd [(10, (kE j)), (11, (gQ (((u.getD (j + b.length) 0) * 1000000000) + (u.getD ((j + b.length) - 1) 0))))] [] mo (wM <| wM <| wM <| wE (qQ (j + b.length)) <| wR ⟨(bm jB u), e_clo (t_at u (j + b.length)) (by exact rfl) (by exact rfl) (by exact rfl) (.o (.d .nil)) (xV jB u (fun _ => rfl)) (xU _ _ vD) (yE _ _ (fun _ => rfl) vD), by kernel_rfl⟩ <| wE (mW gG gC (u.getD (j + b.length) 0)) <| wE (oMl ((u.getD (j + b.length) 0) * 1000000000)) <| wM <| wM <| wM <| wE (qQ (j + b.length)) <| wE (oSb ((j + b.length) - 1)) <| wE (oXo kV ((j + b.length) - 1)) <| wR (oLp uR ((j + b.length) - 1) (0 : Nat)) <| wE (mW gG gC (u.getD ((j + b.length) - 1) 0)) <| wE (qQ (((u.getD (j + b.length) 0) * 1000000000) + (u.getD ((j + b.length) - 1) 0))) <| wM <| wZ) ?_
   refine jA <| kd [(12, (gQ ((((u.getD (j + b.length) 0) * 1000000000) + (u.getD ((j + b.length) - 1) 0)) / (v.getD (b.length - 1) 0)))), (13, (gQ ((((u.getD (j + b.length) 0) * 1000000000) + (u.getD ((j + b.length) - 1) 0)) % (v.getD (b.length - 1) 0))))] [] mo (wM <| wM <| wM <| wE (oSb (b.length - 1)) <| wE (eK kV (b.length - 1) (0 : Nat)) <| wE (yL uR) <| wE (mW gG gC (v.getD (b.length - 1) 0)) <| wE (oQu ((((u.getD (j + b.length) 0) * 1000000000) + (u.getD ((j + b.length) - 1) 0)) / (v.getD (b.length - 1) 0))) <| wM <| wM <| wM <| wE (oSb (b.length - 1)) <| wE (eK kV (b.length - 1) (0 : Nat)) <| wE (yL uR) <| wE (mW gG gC (v.getD (b.length - 1) 0)) <| wE (aI ((((u.getD (j + b.length) 0) * 1000000000) + (u.getD ((j + b.length) - 1) 0)) % (v.getD (b.length - 1) 0))) <| wM <| wM <| wZ) ?_
   refine pwp_seqjoin (α := Nat × Nat) (fun (G, R) => ⟨[(4, (.own 1 152 1 ((u0 ++ [0]).length - b.length))), (6, (aG (cZ b))), (7, (.own 0 152 1 ((u0 ++ [0]).length))), (8, (vl 152 1 jB v)), (9, (kE b.length)), (10, (kE j)), (12, (gQ G))], [(0, some (bm jB u)), (1, some (bm jB q))]⟩) (fun (G, R) => G < 1000000000 ∧ val (u.drop j) / val v ≤ G ∧ G ≤ val (u.drop j) / val v + 1) ?_ ?_
   ·refine uB (α := Nat × Nat) (fun (G, R) => ⟨[(4, (.own 1 152 1 ((u0 ++ [0]).length - b.length))), (6, (aG (cZ b))), (7, (.own 0 152 1 ((u0 ++ [0]).length))), (8, (vl 152 1 jB v)), (9, (kE b.length)), (10, (kE j)), (12, (gQ G)), (13, (gQ R))], [(0, some (bm jB u)), (1, some (bm jB q))]⟩) (fun (G, R) => G * (v.getD (b.length - 1) 0) + R = (u.getD (j + b.length) 0 * 1000000000 + u.getD (j + b.length - 1) 0) ∧ val (u.drop j) / val v ≤ G ∧ R < 1000000000 ∧ G ≤ 1999999999) (fun (G, R) => G) ((u.getD (j + b.length) 0 * 1000000000 + u.getD (j + b.length - 1) 0) / v.getD (b.length - 1) 0, (u.getD (j + b.length) 0 * 1000000000 + u.getD (j + b.length - 1) 0) % v.getD (b.length - 1) 0) wk ⟨by rw [Nat.mul_comm]; exact Nat.div_add_mod _ _, guess_first0 z5 z4 hv1p hg3, Nat.lt_trans (Nat.mod_lt _ hv1p) hg4, guess_top hv1p z1 hg2⟩ ?_
    rintro ⟨G, R⟩ ⟨hG0, hG1, hR, hGb⟩
    have hpq : G * v.getD (b.length - 2) 0 ≤ 1999999999 * 999999999 := Nat.mul_le_mul hGb (by omega)
    refine jA <| jA <| kd [(123, (vb (decide (1000000000 ≤ ((G : Nat) : Int)) || decide (((((R * 1000000000) + (u.getD ((j + b.length) - 2) 0)) : Nat) : Int) < (((G * (v.getD (b.length - 2) 0)) : Nat) : Int)))))] [] mo ?_ ?_
    ·refine wM <| wE oGe <| wE (oV (vb (decide (1000000000 ≤ ((G : Nat) : Int)))) (xD (by kernel_rfl))) <| ?_
     rcases hb3 : (decide (1000000000 ≤ ((G : Nat) : Int))) with _ | _
     ·replace hb3 := of_decide_eq_false hb3
      exact wM <| wM <| wM <| wE (oSb (b.length - 2)) <| wE (eK kV (b.length - 2) (0 : Nat)) <| wE (yL uR) <| wE (mW gG gC (v.getD (b.length - 2) 0)) <| wE (oMl (G * (v.getD (b.length - 2) 0))) <| wM <| wE (oMl (R * 1000000000)) <| wM <| wM <| wM <| wE (qQ (j + b.length)) <| wE (oSb ((j + b.length) - 2)) <| wE (oXo kV ((j + b.length) - 2)) <| wR (oLp uR ((j + b.length) - 2) (0 : Nat)) <| wE (mW gG gC (u.getD ((j + b.length) - 2) 0)) <| wE (qQ ((R * 1000000000) + (u.getD ((j + b.length) - 2) 0))) <| wE bO <| wE oPo <| wZ
     ·replace hb3 := of_decide_eq_true hb3
      exact wK <| wK <| wK <| wK <| wK <| wK <| wK <| wK <| wK <| wK <| wK <| wK <| wK <| wK <| wK <| wK <| wK <| wK <| wK <| wK <| wE bD <| wZ
    refine jQ rfl (fun h4 => ?_) (fun h4 => ?_)
    ·rw [Bool.or_eq_true, decide_eq_true_eq, decide_eq_true_eq] at h4
     have hgl := guess_less (lE _) z5 z4 hG0 hG1 hv1p z2 (by omega)
     refine jD <| jE <| jA <| kx [(12, (gQ (G - 1)))] [] (zM <| zE (oSb (G - 1)) <| zM <| zZ) ?_
     refine jA <| kx [(13, (gQ (R + (v.getD (b.length - 1) 0))))] [] (zM <| zM <| zM <| zE (oSb (b.length - 1)) <| zE (eK kV (b.length - 1) (0 : Nat)) <| zE (yL uR) <| zE (mW gG gC (v.getD (b.length - 1) 0)) <| zE (qQ (R + (v.getD (b.length - 1) 0))) <| zM <| zZ) ?_
     refine jA <| kx [(135, (vb (decide (1000000000 ≤ (((R + (v.getD (b.length - 1) 0)) : Nat) : Int)))))] [] (zM <| zE oGe <| zZ) ?_
     refine jQ rfl (fun h5 => ?_) (fun h5 => ?_)
     ·replace h5 := of_decide_eq_true h5
      refine kQ ?_
      refine pjoin_exit (id := 2) (α := Nat × Nat) (Q := fun _ _ => True) (St := fun (G, R) => ⟨[(4, (.own 1 152 1 ((u0 ++ [0]).length - b.length))), (6, (aG (cZ b))), (7, (.own 0 152 1 ((u0 ++ [0]).length))), (8, (vl 152 1 jB v)), (9, (kE b.length)), (10, (kE j)), (12, (gQ G))], [(0, some (bm jB u)), (1, some (bm jB q))]⟩) (I := fun (G, R) => G < 1000000000 ∧ val (u.drop j) / val v ≤ G ∧ G ≤ val (u.drop j) / val v + 1) ?_
      exact ⟨(G - 1, R + v.getD (b.length - 1) 0), wk, (by have hd := guess_dec hgl.2 hG0; have hgb := guess_break hd z1 hg2 (by omega); exact ⟨hgb, hgl.1, guess_near z6 z3 hd hv1p (by omega) hgb (Nat.le_trans (Nat.mul_le_mul (show G - 1 ≤ 999999999 by omega) (show v.getD (b.length - 2) 0 ≤ 999999999 by omega)) (by omega))⟩)⟩
     ·replace h5 := of_decide_eq_false h5
      refine jD ?_
      exact ⟨(G - 1, R + v.getD (b.length - 1) 0), wk, (by exact ⟨guess_dec hgl.2 hG0, hgl.1, by omega, by omega⟩), (by first | omega | (dsimp only; omega))⟩
    ·refine kQ ?_
     refine pjoin_exit (id := 2) (α := Nat × Nat) (Q := fun _ _ => True) (St := fun (G, R) => ⟨[(4, (.own 1 152 1 ((u0 ++ [0]).length - b.length))), (6, (aG (cZ b))), (7, (.own 0 152 1 ((u0 ++ [0]).length))), (8, (vl 152 1 jB v)), (9, (kE b.length)), (10, (kE j)), (12, (gQ G))], [(0, some (bm jB u)), (1, some (bm jB q))]⟩) (I := fun (G, R) => G < 1000000000 ∧ val (u.drop j) / val v ≤ G ∧ G ≤ val (u.drop j) / val v + 1) ?_
     exact ⟨(G, R), wk, (by rw [Bool.or_eq_false_iff, decide_eq_false_iff_not, decide_eq_false_iff_not] at h4; exact ⟨by omega, hG1, guess_near z6 z3 hG0 hv1p (by omega) (by omega) (by omega)⟩)⟩
   ·rintro ⟨G, R⟩ ⟨hG, hG1, hG2⟩
    have hjn : j + b.length < (u0 ++ [0]).length := by omega
    refine jA <| kx [(14, (kE 0)), (15, (gQ 0))] [] (zM <| zM <| zZ) ?_
    refine jA <| jA <| kx [(136, (kE b.length)), (137, (kE 0))] [] (zM <| zM <| zZ) ?_
    refine jE <| uB (α := Nat × List Nat × Nat × Nat) (fun (i, u2, bo, ca) => ⟨[(4, (.own 1 152 1 ((u0 ++ [0]).length - b.length))), (6, (aG (cZ b))), (7, (.own 0 152 1 ((u0 ++ [0]).length))), (8, (vl 152 1 jB v)), (9, (kE b.length)), (10, (kE j)), (12, (gQ G)), (14, (vi ((bo : Nat) : Int))), (15, (gQ ca)), (136, (kE b.length)), (137, (kE i))], [(0, some (bm jB u2)), (1, some (bm jB q))]⟩) (fun (i, u2, bo, ca) => u2.length = (u0 ++ [0]).length ∧ Dig u2 ∧ u2.take j = u.take j ∧ u2.drop (j + i) = u.drop (j + i) ∧ i ≤ b.length ∧ bo ≤ 1 ∧ ca < 1000000000 ∧ val ((u2.drop j).take i) + G * val (v.take i) = val ((u.drop j).take i) + pw i * (ca + bo)) (fun (i, u2, bo, ca) => b.length - i) (0, u, 0, 0) wk ⟨vD, hu, rfl, rfl, Nat.zero_le _, Nat.zero_le _, by decide, by simp [val]⟩ ?_
    rintro ⟨i, u2, bo, ca⟩ ⟨hl2, hd2, ht2, hd2', hin, hbo, hca, hv2⟩
    have hgi := hvd.getD i
    have hgu := hd2.getD (i + j)
    have hpq : G * v.getD i 0 ≤ 999999999 * 999999999 := Nat.mul_le_mul (by omega) (by omega)
    refine jA <| kx [(138, (vb (decide (((i : Nat) : Int) < ((b.length : Nat) : Int)))))] [] (zE qS <| zZ) ?_
    refine jA <| jQ rfl (fun h6 => ?_) (fun h6 => ?_)
    ·replace h6 := of_decide_eq_true h6
     have hi : i < b.length := by omega
     refine jD <| jA <| jE <| jA <| kx [(16, (kE i))] [] (zM <| zM <| zZ) ?_
     refine jA <| kx [(17, (gQ ((G * (v.getD i 0)) + ca)))] [] (zM <| zM <| zM <| zE (eK kV i (0 : Nat)) <| zE (yL uR) <| zE (mW gG gC (v.getD i 0)) <| zE (oMl (G * (v.getD i 0))) <| zM <| zE (qQ ((G * (v.getD i 0)) + ca)) <| zM <| zZ) ?_
     refine jA <| kx [(15, (gQ (((G * (v.getD i 0)) + ca) / 1000000000)))] [] (zM <| zE (oQu (((G * (v.getD i 0)) + ca) / 1000000000)) <| zM <| zZ) ?_
     refine jA <| kx [(18, (vi (((((u2.getD (i + j) 0) : Nat) : Int) - ((bo : Nat) : Int)) - (((((G * (v.getD i 0)) + ca) % 1000000000) : Nat) : Int))))] [] (zM <| zM <| zM <| zE (qQ (i + j)) <| zE (oXo kV (i + j)) <| zR (oLp uR (i + j) (0 : Nat)) <| zE (mW gG in2 (u2.getD (i + j) 0)) <| zM <| zE (aH ((((u2.getD (i + j) 0) : Nat) : Int) - ((bo : Nat) : Int))) <| zM <| zE (aI (((G * (v.getD i 0)) + ca) % 1000000000)) <| zE (mW nD in2 (((G * (v.getD i 0)) + ca) % 1000000000)) <| zE (aH (((((u2.getD (i + j) 0) : Nat) : Int) - ((bo : Nat) : Int)) - (((((G * (v.getD i 0)) + ca) % 1000000000) : Nat) : Int))) <| zM <| zZ) ?_
     refine jA <| kx [(14, (kE 0))] [] (zM <| zZ) ?_
     refine jA <| jA <| kx [(165, (vb (decide ((((((u2.getD (i + j) 0) : Nat) : Int) - ((bo : Nat) : Int)) - (((((G * (v.getD i 0)) + ca) % 1000000000) : Nat) : Int)) < 0))))] [] (zM <| zE qS <| zZ) ?_
     refine jQ rfl (fun h7 => ?_) (fun h7 => ?_)
     ·replace h7 := of_decide_eq_true h7
      refine kx [(14, (kE 1)), (18, (vi ((((((u2.getD (i + j) 0) : Nat) : Int) - ((bo : Nat) : Int)) - (((((G * (v.getD i 0)) + ca) % 1000000000) : Nat) : Int)) + 1000000000)))] [] (zM <| zE (zAd ((((((u2.getD (i + j) 0) : Nat) : Int) - ((bo : Nat) : Int)) - (((((G * (v.getD i 0)) + ca) % 1000000000) : Nat) : Int)) + 1000000000)) <| zM <| zM <| zZ) ?_
      refine kx [] [(0, some (bm jB (u2.set (i + j) ((u2.getD (i + j) 0 + 1000000000) - bo - (G * v.getD i 0 + ca) % 1000000000))))] (zM <| zM <| zM <| zE (qQ (i + j)) <| zM <| zE (mW un2 hH ((u2.getD (i + j) 0 + 1000000000) - bo - (G * v.getD i 0 + ca) % 1000000000) (hr := by exact (wu32 (by omega) (by omega) (by omega)))) <| zE (oXo kV (i + j)) <| zT (oSp uR (i + j) ((u2.getD (i + j) 0 + 1000000000) - bo - (G * v.getD i 0 + ca) % 1000000000)) <| zZ) ?_
      refine kx [(137, (kE (i + 1)))] [] (zE (qQ (i + 1)) <| zM <| zZ) ?_
      exact ⟨(i + 1, u2.set (i + j) ((u2.getD (i + j) 0 + 1000000000) - bo - (G * v.getD i 0 + ca) % 1000000000), 1, (G * v.getD i 0 + ca) / 1000000000), wk, (by obtain ⟨q1, q2, q3, q4, q5⟩ := msub_step (v := v) (L := (u0 ++ [0]).length) (e := (u2.getD (i + j) 0 + 1000000000) - bo - (G * v.getD i 0 + ca) % 1000000000) (borrow' := 1) hjn hi hl2 vD hd2 ht2 hd2' hv2 rfl (by omega) (by omega); exact ⟨q1, q2, q3, q4, by omega, by omega, by omega, q5⟩), (by first | omega | (dsimp only; omega))⟩
     ·replace h7 := of_decide_eq_false h7
      refine jD <| kx [] [(0, some (bm jB (u2.set (i + j) (u2.getD (i + j) 0 - bo - (G * v.getD i 0 + ca) % 1000000000))))] (zM <| zM <| zM <| zE (qQ (i + j)) <| zM <| zE (mW un2 hH (u2.getD (i + j) 0 - bo - (G * v.getD i 0 + ca) % 1000000000) (hr := by exact (wu32 (by omega) (by omega) (by omega)))) <| zE (oXo kV (i + j)) <| zT (oSp uR (i + j) (u2.getD (i + j) 0 - bo - (G * v.getD i 0 + ca) % 1000000000)) <| zZ) ?_
      refine kx [(137, (kE (i + 1)))] [] (zE (qQ (i + 1)) <| zM <| zZ) ?_
      exact ⟨(i + 1, u2.set (i + j) (u2.getD (i + j) 0 - bo - (G * v.getD i 0 + ca) % 1000000000), 0, (G * v.getD i 0 + ca) / 1000000000), wk, (by obtain ⟨q1, q2, q3, q4, q5⟩ := msub_step (v := v) (L := (u0 ++ [0]).length) (e := u2.getD (i + j) 0 - bo - (G * v.getD i 0 + ca) % 1000000000) (borrow' := 0) hjn hi hl2 vD hd2 ht2 hd2' hv2 rfl (by omega) (by omega); exact ⟨q1, q2, q3, q4, by omega, by omega, by omega, q5⟩), (by first | omega | (dsimp only; omega))⟩
    ·replace h6 := of_decide_eq_false h6
     have hie : i = b.length := by omega
     rw [hie] at hd2' hv2 hin
     obtain ⟨m1, m2, m3⟩ := msub_end hu hd2 hvd hvl hW hG1 hG2 hd2' hv2
     refine kQ <| jA <| kx [(19, (vi (((((u2.getD (j + b.length) 0) : Nat) : Int) - ((bo : Nat) : Int)) - ((ca : Nat) : Int))))] [] (zM <| zM <| zM <| zE (qQ (j + b.length)) <| zE (oXo kV (j + b.length)) <| zR (oLp uR (j + b.length) (0 : Nat)) <| zE (mW gG in2 (u2.getD (j + b.length) 0)) <| zM <| zE (aH ((((u2.getD (j + b.length) 0) : Nat) : Int) - ((bo : Nat) : Int))) <| zM <| zE (mW nD in2 ca) <| zE (aH (((((u2.getD (j + b.length) 0) : Nat) : Int) - ((bo : Nat) : Int)) - ((ca : Nat) : Int))) <| zM <| zZ) ?_
     refine jA <| jA <| kx [(189, (vb (decide ((((((u2.getD (j + b.length) 0) : Nat) : Int) - ((bo : Nat) : Int)) - ((ca : Nat) : Int)) < 0))))] [] (zM <| zE qS <| zZ) ?_
     refine jQ rfl (fun h8 => ?_) (fun h8 => ?_)
     ·replace h8 := of_decide_eq_true h8
      obtain ⟨n1, n2, r, n3, n4, n5⟩ := m2 (by omega)
      refine jA <| kx [] [(0, some (bm jB (u2.set (j + b.length) 999999999)))] (zM <| zM <| zM <| zE (qQ (j + b.length)) <| zM <| zE (zAd ((((((u2.getD (j + b.length) 0) : Nat) : Int) - ((bo : Nat) : Int)) - ((ca : Nat) : Int)) + 1000000000)) <| zE (mW un2 hH 999999999 (hr := by exact (wu32 (by omega) (by omega) (by omega)))) <| zE (oXo kV (j + b.length)) <| zT (oSp uR (j + b.length) 999999999) <| zZ) ?_
      refine jA <| kx [(12, (gQ (G - 1)))] [] (zM <| zE (oSb (G - 1)) <| zM <| zZ) ?_
      refine jA <| kx [(20, (aG 0))] [] (zM <| zZ) ?_
      refine jA <| jA <| kx [(200, (kE b.length)), (201, (kE 0))] [] (zM <| zM <| zZ) ?_
      refine jE <| uB (α := Nat × List Nat × Nat) (fun (i, u3, c) => ⟨[(4, (.own 1 152 1 ((u0 ++ [0]).length - b.length))), (6, (aG (cZ b))), (7, (.own 0 152 1 ((u0 ++ [0]).length))), (8, (vl 152 1 jB v)), (9, (kE b.length)), (10, (kE j)), (12, (gQ (G - 1))), (20, (aG c)), (200, (kE b.length)), (201, (kE i))], [(0, some (bm jB u3)), (1, some (bm jB q))]⟩) (fun (i, u3, c) => u3.length = (u0 ++ [0]).length ∧ Dig u3 ∧ u3.take j = (u2.set (j + b.length) 999999999).take j ∧ u3.drop (j + i) = (u2.set (j + b.length) 999999999).drop (j + i) ∧ i ≤ b.length ∧ c ≤ 1 ∧ val ((u3.drop j).take i) + pw i * c = val (((u2.set (j + b.length) 999999999).drop j).take i) + val (v.take i)) (fun (i, u3, c) => b.length - i) (0, u2.set (j + b.length) 999999999, 0) wk ⟨by simpa using hl2, hd2.set _ (by decide), rfl, rfl, Nat.zero_le _, Nat.zero_le _, by simp [val]⟩ ?_
      rintro ⟨i, u3, c⟩ ⟨hl3, hd3, ht3, hd3', hin, hc, hv3⟩
      have hgi := hvd.getD i
      have hgu := hd3.getD (i + j)
      have hgt := hd3.getD (j + b.length)
      refine jA <| kx [(202, (vb (decide (((i : Nat) : Int) < ((b.length : Nat) : Int)))))] [] (zE qS <| zZ) ?_
      refine jA <| jQ rfl (fun h9 => ?_) (fun h9 => ?_)
      ·replace h9 := of_decide_eq_true h9
       have hi : i < b.length := by omega
       refine jD <| jA <| jE <| jA <| kx [(21, (kE i))] [] (zM <| zM <| zZ) ?_
       refine jA <| kd [(22, (aG (((u3.getD (i + j) 0) + (v.getD i 0)) + c)))] [] mo (wM <| wM <| wM <| wE (qQ (i + j)) <| wE (oXo kV (i + j)) <| wR (oLp uR (i + j) (0 : Nat)) <| wM <| wM <| wE (eK kV i (0 : Nat)) <| wE (yL uR) <| wE (qQ ((u3.getD (i + j) 0) + (v.getD i 0))) <| wM <| wE (qQ (((u3.getD (i + j) 0) + (v.getD i 0)) + c)) <| wM <| wZ) ?_
       refine jA <| kx [(20, (aG 0))] [] (zM <| zZ) ?_
       refine jA <| jA <| kx [(218, (vb (decide (1000000000 ≤ (((((u3.getD (i + j) 0) + (v.getD i 0)) + c) : Nat) : Int)))))] [] (zM <| zE oGe <| zZ) ?_
       refine jQ rfl (fun h10 => ?_) (fun h10 => ?_)
       ·replace h10 := of_decide_eq_true h10
        refine kx [(20, (aG 1)), (22, (aG ((((u3.getD (i + j) 0) + (v.getD i 0)) + c) - 1000000000)))] [] (zM <| zE (oSb ((((u3.getD (i + j) 0) + (v.getD i 0)) + c) - 1000000000)) <| zM <| zM <| zZ) ?_
        refine kx [] [(0, some (bm jB (u3.set (i + j) ((((u3.getD (i + j) 0) + (v.getD i 0)) + c) - 1000000000))))] (zM <| zM <| zM <| zE (qQ (i + j)) <| zM <| zE (oXo kV (i + j)) <| zT (oSp uR (i + j) ((((u3.getD (i + j) 0) + (v.getD i 0)) + c) - 1000000000)) <| zZ) ?_
        refine kx [(201, (kE (i + 1)))] [] (zE (qQ (i + 1)) <| zM <| zZ) ?_
        exact ⟨(i + 1, u3.set (i + j) (u3.getD (i + j) 0 + v.getD i 0 + c - 1000000000), 1), wk, (by obtain ⟨q1, q2, q3, q4, q5⟩ := addb_step (v := v) (L := (u0 ++ [0]).length) (s := u3.getD (i + j) 0 + v.getD i 0 + c) (e := u3.getD (i + j) 0 + v.getD i 0 + c - 1000000000) (c' := 1) hjn hi hl3 (by simpa using hl2) hd3 ht3 hd3' hv3 rfl (by omega) (by omega); exact ⟨q1, q2, q3, q4, by omega, by omega, q5⟩), (by first | omega | (dsimp only; omega))⟩
       ·replace h10 := of_decide_eq_false h10
        refine jD <| kx [] [(0, some (bm jB (u3.set (i + j) (((u3.getD (i + j) 0) + (v.getD i 0)) + c))))] (zM <| zM <| zM <| zE (qQ (i + j)) <| zM <| zE (oXo kV (i + j)) <| zT (oSp uR (i + j) (((u3.getD (i + j) 0) + (v.getD i 0)) + c)) <| zZ) ?_
        refine kx [(201, (kE (i + 1)))] [] (zE (qQ (i + 1)) <| zM <| zZ) ?_
        exact ⟨(i + 1, u3.set (i + j) (u3.getD (i + j) 0 + v.getD i 0 + c), 0), wk, (by obtain ⟨q1, q2, q3, q4, q5⟩ := addb_step (v := v) (L := (u0 ++ [0]).length) (s := u3.getD (i + j) 0 + v.getD i 0 + c) (e := u3.getD (i + j) 0 + v.getD i 0 + c) (c' := 0) hjn hi hl3 (by simpa using hl2) hd3 ht3 hd3' hv3 rfl (by omega) (by omega); exact ⟨q1, q2, q3, q4, by omega, by omega, q5⟩), (by first | omega | (dsimp only; omega))⟩
      ·replace h9 := of_decide_eq_false h9
       have hie2 : i = b.length := by omega
       rw [hie2] at hd3' hv3 hin
       refine kQ <| kx [] [(0, some (bm jB (u3.set (j + b.length) (((u3.getD (j + b.length) 0) + c) % 1000000000))))] (zM <| zM <| zM <| zE (qQ (j + b.length)) <| zM <| zM <| zM <| zE (qQ (j + b.length)) <| zE (oXo kV (j + b.length)) <| zR (oLp uR (j + b.length) (0 : Nat)) <| zM <| zE (qQ ((u3.getD (j + b.length) 0) + c)) <| zE (aI (((u3.getD (j + b.length) 0) + c) % 1000000000)) <| zE (oXo kV (j + b.length)) <| zT (oSp uR (j + b.length) (((u3.getD (j + b.length) 0) + c) % 1000000000)) <| zZ) ?_
       refine kx [] [(1, some (bm jB (q.set j (G - 1))))] (zM <| zM <| zM <| zE (mW nD hH (G - 1)) <| zE (oXo kV j) <| zT (oSp uR j (G - 1)) <| zZ) ?_
       refine kx [(10, (vi (((j : Nat) : Int) - 1)))] [] (zM <| zE (aH (((j : Nat) : Int) - 1)) <| zM <| zZ) ?_
       exact ⟨(j, u3.set (j + b.length) ((u3.getD (j + b.length) 0 + c) % 1000000000), q.set j (G - 1)), wk, (by obtain ⟨p1, p2⟩ := neg_end hd3 hvd hvl (by omega) (by omega) (hl2.trans vD.symm) (hl3.trans vD.symm) ht2 hd2' hW hc ht3 hd3' hv3 n3 n4 n5 hU; exact ⟨by simpa using hl3, hd3.set _ (Nat.mod_lt _ (by decide)), by simpa using hql, hqd.set _ (by omega), by omega, p1, p2⟩), (by first | omega | (dsimp only; omega))⟩
     ·replace h8 := of_decide_eq_false h8
      obtain ⟨n1, n2, n3⟩ := m3 (by omega)
      refine kx [] [(0, some (bm jB (u2.set (j + b.length) 0)))] (zM <| zM <| zM <| zE (qQ (j + b.length)) <| zM <| zE (mW un2 hH 0 (hr := by exact (wu32 (by omega) (by omega) (by omega)))) <| zE (oXo kV (j + b.length)) <| zT (oSp uR (j + b.length) 0) <| zZ) ?_
      refine kx [] [(1, some (bm jB (q.set j G)))] (zM <| zM <| zM <| zE (mW nD hH G) <| zE (oXo kV j) <| zT (oSp uR j G) <| zZ) ?_
      refine kx [(10, (vi (((j : Nat) : Int) - 1)))] [] (zM <| zE (aH (((j : Nat) : Int) - 1)) <| zM <| zZ) ?_
      exact ⟨(j, u2.set (j + b.length) 0, q.set j G), wk, (by obtain ⟨p1, p2⟩ := pos_end hu hvd hvl (by omega) (by omega) (hl2.trans vD.symm) ht2 hd2' hW n2 n3 hU; exact ⟨by simpa using hl2, hd2.set _ (by decide), by simpa using hql, hqd.set _ (by omega), by omega, p1, p2⟩), (by first | omega | (dsimp only; omega))⟩
  ·replace h2 := of_decide_eq_false h2
   obtain rfl : k = 0 := by omega
   obtain ⟨e1, e2⟩ := scl_div hdb (by omega) (by rw [hvv] at hU; exact hU) (by rw [hvv] at hW; exact hW)
   rw [List.drop_zero] at hW
   refine kQ <| jA <| kX (xY (t := 7) (k := 0) (es := List.map jB u) rfl rfl (xV _ _ (fun _ => rfl)) (xU _ _ vD) (yE _ _ (fun _ => rfl) vD)) ?_
   refine kx [(5, (vl 152 1 jB (ofNat (val (ofNat (val (List.take b.length u))) / (cZ b)))))] [] (zM <| zM <| zE (e_slc (l := 0) (h := b.length) (kl := .i64) (kh := .i64) (es' := List.map jB (List.take b.length u)) (by exact rfl) kV (by exact rfl) (by exact rfl) (by exact rfl) (Nat.zero_le _) (by simp only [List.length_map]; omega) (by rw [List.drop_zero, List.map_take])) <| zE (kC (t_trim (List.take b.length u) (hu.take _) (by rw [List.length_take]; omega))) <| zM <| zE (kC (t_short (ofNat (val (List.take b.length u))) (cZ b) (qA _) (by omega) (by omega) (Nat.le_trans (ofNat_val_len (hu.take _)) (by rw [List.length_take]; omega)))) <| zM <| zE uH <| zE uH <| zM <| zZ) ?_
   refine jA <| kX (xY (t := 4) (k := 1) (es := List.map jB q) rfl rfl (xV _ _ (fun _ => rfl)) (xU _ _ hql) (yE _ _ (fun _ => rfl) hql)) ?_
   refine kx [(4, (vl 152 1 jB (ofNat (val q)))), (5, (vl 152 1 jB (ofNat (val (ofNat (val (List.take b.length u))) / (cZ b)))))] [] (zM <| zE (kC (t_trim q hqd (by omega))) <| zM <| zM <| zM <| zZ) ?_
   refine jG ⟨_, (.tmp (d := (.sl 152 1 (List.map jB (ofNat (val q))))) rfl (.tmp (d := (.sl 152 1 (List.map jB (ofNat (val (ofNat (val (List.take b.length u))) / (cZ b)))))) rfl .nil)), ?_⟩
   rw [← e1, ← e2, kW, val_take_of_lt (Nat.lt_trans hW (by rw [← hvl]; exact xT hvd))]; rfl
end Go.Proofs.YtbecgnplakngdaaGreat
namespace Go.Proofs.YtbecgnplakngdaaGreat
open Go.Fid
set_option maxRecDepth 4000
set_option linter.unusedVariables false
set_option linter.unusedSimpArgs false
theorem cb145 : callB Tryz.prog 145 = true := by kernel_rfl
theorem cb151 : callB Tryz.prog 151 = true := by kernel_rfl
theorem cb186 : callB Tryz.prog 186 = true := by kernel_rfl
theorem t_over (a b : List Nat) (ha : gW a) (hb : gW b) (hb0 : 0 < val b) (hla : a.length ≤ 1099511627776) (hlb : b.length ≤ 1099511627776) : kF Tryz.prog 186 [(.sl 152 1 (List.map jB a)), (.sl 152 1 (List.map jB b))] (.tup [(.sl 152 1 (List.map jB (ofNat (val a / val b)))), (.sl 152 1 (List.map jB (ofNat (val a % val b))))]) := by
 refine jL Tryz.func186 rfl cb186 rfl ?_
 show uK _ _ _ _ ⟨[(0, (vl 152 1 jB a)), (1, (vl 152 1 jB b))], []⟩
 refine jA <| kx [] [] (zE (oNl 152 1) <| zE (oNl 152 1) <| zZ) ?_
 refine jA <| jA <| kx [(15, (vb (decide ((xF ((val a : Nat) : Int) ((val b : Nat) : Int)) < 0))))] [] (zM <| zM <| zE (kC (t_compare a b ha hb (by omega))) <| zE qS <| zZ) ?_
 refine jQ rfl (fun h1 => ?_) (fun h1 => ?_)
 ·replace h1 := of_decide_eq_true h1
  refine jA <| kx [(4, (vl 152 1 jB [])), (5, (vl 152 1 jB a))] [] (zM <| zE (oNl 152 1) <| zM <| zZ) ?_
  refine jG ⟨_, (.tmp (d := (.sl 152 1 (List.map jB []))) rfl (.tmp (d := (.sl 152 1 (List.map jB a))) rfl .nil)), ?_⟩
  have hlt := cmpI_neg h1
  rw [Nat.div_eq_of_lt hlt, Nat.mod_eq_of_lt hlt, vU, ← can_eq ha]; rfl
 ·replace h1 := of_decide_eq_false h1
  refine jD <| jA <| kx [(6, (gQ (gA a))), (7, (vb (mM a)))] [] (zM <| zE (kC (t_word a ha.1)) <| zM <| zE uH <| zE uH <| zM <| zM <| zZ) ?_
  refine jA <| kx [(8, (gQ (gA b))), (9, (vb (mM b)))] [] (zM <| zE (kC (t_word b hb.1)) <| zM <| zE uH <| zE uH <| zM <| zM <| zZ) ?_
  refine jA <| jA <| kx [(30, (vb ((mM a) && (mM b))))] [] ?_ ?_
  ·refine zM <| zE (oV (vb (mM a)) (xD (by kernel_rfl))) <| ?_
   rcases hb2 : (mM a) with _ | _
   ·exact zK <| zE fC <| zZ
   ·exact zM <| zE oPa <| zZ
  refine jQ (b := ((mM a) && (mM b))) rfl (fun h3 => ?_) (fun h3 => ?_)
  ·obtain ⟨w1, w2, w3⟩ := word_both ha.1 h3
   have w4 : gA a / gA b < 18446744073709551616 := Nat.lt_of_le_of_lt (Nat.div_le_self _ _) (by omega)
   have w5 : gA a % gA b < 18446744073709551616 := Nat.lt_of_le_of_lt (Nat.mod_le _ _) (by omega)
   refine jA <| kd [(4, (vl 152 1 jB (ofNat ((gA a) / (gA b))))), (5, (vl 152 1 jB (ofNat ((gA a) % (gA b)))))] [] mo (wM <| wM <| wE (oQu ((gA a) / (gA b))) <| wE (kC (t_split ((gA a) / (gA b)) (by omega))) <| wM <| wM <| wE (aI ((gA a) % (gA b))) <| wE (kC (t_split ((gA a) % (gA b)) (by omega))) <| wM <| wM <| wZ) ?_
   refine jG ⟨_, (.tmp (d := (.sl 152 1 (List.map jB (ofNat ((gA a) / (gA b)))))) rfl (.tmp (d := (.sl 152 1 (List.map jB (ofNat ((gA a) % (gA b)))))) rfl .nil)), ?_⟩
   rw [w1, w2]; rfl
  ·refine jD <| jA <| jA <| kx [(41, (vb (((b.length : Nat) : Int) == 1)))] [] (zM <| zE (nC kV) <| zE aL <| zZ) ?_
   refine jQ (b := (((b.length : Nat) : Int) == 1)) rfl (fun h4 => ?_) (fun h4 => ?_)
   ·replace h4 := eq_of_beq h4
    have hv1 := val_len1 (b := b) (by omega)
    have hg := hb.1.getD 0
    have w5 : val a % b.getD 0 0 < 4294967296 := Nat.lt_trans (Nat.mod_lt _ (by omega)) (by omega)
    refine jA <| kx [(10, (vl 152 1 jB (ofNat (val a / (b.getD 0 0))))), (11, (aG (val a % (b.getD 0 0))))] [] (zM <| zM <| zE (eK kV 0 (0 : Nat)) <| zE (yL uR) <| zE (kC (t_short a (b.getD 0 0) ha.1 (by omega) (by omega) (by omega))) <| zM <| zE uH <| zE uH <| zM <| zM <| zZ) ?_
    refine jA <| kx [(4, (vl 152 1 jB (ofNat (val a / (b.getD 0 0))))), (5, (vl 152 1 jB (ofNat (val a % (b.getD 0 0)))))] [] (zM <| zM <| zE (mW gG gC (val a % (b.getD 0 0))) <| zE (kC (t_split (val a % (b.getD 0 0)) (by omega))) <| zM <| zM <| zZ) ?_
    refine jG ⟨_, (.tmp (d := (.sl 152 1 (List.map jB (ofNat (val a / (b.getD 0 0)))))) rfl (.tmp (d := (.sl 152 1 (List.map jB (ofNat (val a % (b.getD 0 0)))))) rfl .nil)), ?_⟩
    rw [hv1]; rfl
   ·replace h4 := ne_of_beq_false h4
    have hbl := val_pos_len hb0
    refine jD <| jA <| kx [(4, (vl 152 1 jB (ofNat (val a / val b)))), (5, (vl 152 1 jB (ofNat (val a % val b))))] [] (zM <| zM <| zE (kC (t_long a b ha hb (by omega) (cmpI_nn h1) (by omega))) <| zE uH <| zE uH <| zM <| zM <| zZ) ?_
    refine jG ⟨_, (.tmp (d := (.sl 152 1 (List.map jB (ofNat (val a / val b))))) rfl (.tmp (d := (.sl 152 1 (List.map jB (ofNat (val a % val b))))) rfl .nil)), ?_⟩
    rfl
theorem t_divideI (x y : jF) (hx : x.gs.length ≤ 1099511627776) (hy : y.gs.length ≤ 1099511627776) (hy0 : kK y ≠ 0) : kF Tryz.prog 151 [(jH x), (jH y)] (.tup [(jH (jK ((kK x).fdiv (kK y)))), (jH (jK ((kK x).fmod (kK y)))), (.val (.int .i64 (0)))]) := by
 have hgx := uA x
 have hlx := yU x
 have hgy := uA y
 have hly := yU y
 have hn : 0 < val (qD y) := by have := iM y; omega
 have hq := len_quo (qD x) hgx (val (qD y))
 have hr := len_rem (qD x) hgx (val (qD y))
 have hrn := Nat.mod_lt (val (qD x)) hn
 refine jL Tryz.func151 rfl cb151 rfl ?_
 show uK _ _ _ _ ⟨[(0, (.d (jH x))), (1, (.d (jH y)))], []⟩
 refine jA <| kx [(2, (.ref 0 0)), (3, (.ref 1 0)), (4, (.ref 2 0)), (5, (.ref 3 0))] [(0, some (bx (jH x))), (1, some (bx (jH y))), (2, some (bx (jH (jF.mk false [])))), (3, some (bx (jH (jF.mk false []))))] (zN (uX 0) <| zN (uX 1) <| zN (qI 2 uD uE) <| zN (qI 3 uD uE) <| zM <| zZ) ?_
 refine jA <| kd [(7, (vl 152 1 jB (qD x))), (8, (vl 152 1 jB (qD y)))] [] mo (wR (kA jI) <| wE (kC (gR x (by omega))) <| wR (kA jI) <| wE (kC (gR y (by omega))) <| wM <| wM <| wZ) ?_
 refine jA <| jA <| kx [(17, (vb ((((qD y).length : Nat) : Int) == 0)))] [] (zM <| zE (nC kV (L := (qD y))) <| zE aL <| zZ) ?_
 refine jQ (b := ((((qD y).length : Nat) : Int) == 0)) rfl (fun h1 => ?_) (fun h1 => ?_)
 ·replace h1 := eq_of_beq h1
  exact absurd (toZ_nil h1) hy0
 ·replace h1 := ne_of_beq_false h1
  refine jD <| jA <| kx [(9, (vl 152 1 jB (ofNat (val (qD x) / val (qD y))))), (10, (vl 152 1 jB (ofNat (val (qD x) % val (qD y)))))] [] (zM <| zM <| zE (kC (t_over (qD x) (qD y) hgx hgy (by omega) (by omega) (by omega))) <| zM <| zE uH <| zE uH <| zM <| zM <| zZ) ?_
  refine jA <| kx [(10, (vl 152 1 jB (ofNat (val (qD x) % val (qD y)))))] [] (zM <| zE (kC (t_clone (ofNat (val (qD x) % val (qD y))) (by omega))) <| zM <| zZ) ?_
  refine jA <| jA <| kx [(37, (vb (decide (0 < (((ofNat (val (qD x) % val (qD y))).length : Nat) : Int)) && !(x.neg == y.neg))))] [] ?_ ?_
  ·refine zM <| zE (nC kV (L := (ofNat (val (qD x) % val (qD y))))) <| zE bO <| zE (oV (vb (decide (0 < (((ofNat (val (qD x) % val (qD y))).length : Nat) : Int)))) (xD (by kernel_rfl))) <| ?_
   rcases hb2 : (decide (0 < (((ofNat (val (qD x) % val (qD y))).length : Nat) : Int))) with _ | _
   ·replace hb2 := of_decide_eq_false hb2
    exact zK <| zK <| zK <| zK <| zK <| zE fC <| zZ
   ·replace hb2 := of_decide_eq_true hb2
    exact zE (kU uT) <| zR (uM eL) <| zE (kU uT) <| zR (uM eL) <| zE (oNb bo4) <| zE oPa <| zZ
  refine jQ rfl (fun h3 => ?_) (fun h3 => ?_)
  ·have e1 : (ofNat (val (ofNat (val (qD x) / val (qD y))) + val [1])).length ≤ 1099511627777 := vI (by rw [kW, cU]; have := ofNat_lt_pw (val (qD x) / val (qD y)); have h3 : pw (ofNat (val (qD x) / val (qD y))).length ≤ pw 1099511627776 := nE (by omega); have h4 := pw_lt (show 1099511627776 < 1099511627777 by decide); omega)
   have e2 := sub_len (b := ofNat (val (qD x) % val (qD y))) hgy.1
   rw [Bool.and_eq_true, decide_eq_true_eq, Bool.not_eq_true', beq_eq_false_iff_ne] at h3
   obtain ⟨k1, k2⟩ := h3
   have k3 : 0 < val (qD x) % val (qD y) := by have := cC (uC (val (qD x) % val (qD y))) (by omega); rwa [kW] at this
   obtain ⟨d1, d2⟩ := div_other hn k2 k3
   refine kx [(9, (vl 152 1 jB (ofNat (val (ofNat (val (qD x) / val (qD y))) + val [1])))), (10, (vl 152 1 jB (ofNat (val (qD y) - val (ofNat (val (qD x) % val (qD y)))))))] [] (zM <| zE (cX kV xR gI) <| zE (kC (t_plus (ofNat (val (qD x) / val (qD y))) [1] (qA _) (gH.2 ⟨by decide, hO⟩) (by omega) (by decide))) <| zM <| zM <| zE (kC (t_minus (qD y) (ofNat (val (qD x) % val (qD y))) hgy.1 (qA _) (by rw [kW]; omega) (by omega))) <| zM <| zM <| zZ) ?_
   refine jA <| kd [(6, (kE 0))] [(2, some (bx (jH (zI (!(x.neg == y.neg)) (val (ofNat (val (ofNat (val (qD x) / val (qD y))) + val [1]))))))), (3, some (bx (jH (zI y.neg (val (ofNat (val (qD y) - val (ofNat (val (qD x) % val (qD y))))))))))] mo (wE (kU uT) <| wR (uM eL) <| wE (kU uT) <| wR (uM eL) <| wE (oNb bo4) <| wM <| wE (kC (dK (!(x.neg == y.neg)) (ofNat (val (ofNat (val (qD x) / val (qD y))) + val [1])) (qA _) (by omega))) <| wE (kU uT) <| wR (uM eL) <| wM <| wE (kC (dK y.neg (ofNat (val (qD y) - val (ofNat (val (qD x) % val (qD y))))) (qA _) (by omega))) <| wT (kR jI) <| wT (kR jI) <| wM <| wZ) ?_
   refine jG ⟨_, (qB (cs := (bx (jH (zI (!(x.neg == y.neg)) (val (ofNat (val (ofNat (val (qD x) / val (qD y))) + val [1]))))))) (d := (jH (zI (!(x.neg == y.neg)) (val (ofNat (val (ofNat (val (qD x) / val (qD y))) + val [1])))))) rfl rfl jI rfl rfl (qB (cs := (bx (jH (zI y.neg (val (ofNat (val (qD y) - val (ofNat (val (qD x) % val (qD y)))))))))) (d := (jH (zI y.neg (val (ofNat (val (qD y) - val (ofNat (val (qD x) % val (qD y))))))))) rfl rfl jI rfl rfl (.tmp (d := (.val (.int .i64 (0)))) rfl .nil))), ?_⟩
   unfold kK
   rw [d1, d2]
   simp only [kW, cU]
   rfl
  ·obtain ⟨d1, d2⟩ := div_same (b := x.neg) (c := y.neg) (m := val (qD x)) hn (by rw [Bool.and_eq_false_iff, decide_eq_false_iff_not, Bool.not_eq_false', beq_iff_eq] at h3; rcases h3 with k | k; right; have := eA (n := val (qD x) % val (qD y)); omega; exact .inl k)
   refine jD <| jA <| kd [(6, (kE 0))] [(2, some (bx (jH (zI (!(x.neg == y.neg)) (val (ofNat (val (qD x) / val (qD y)))))))), (3, some (bx (jH (zI y.neg (val (ofNat (val (qD x) % val (qD y))))))))] mo (wE (kU uT) <| wR (uM eL) <| wE (kU uT) <| wR (uM eL) <| wE (oNb bo4) <| wM <| wE (kC (dK (!(x.neg == y.neg)) (ofNat (val (qD x) / val (qD y))) (qA _) (by omega))) <| wE (kU uT) <| wR (uM eL) <| wM <| wE (kC (dK y.neg (ofNat (val (qD x) % val (qD y))) (qA _) (by omega))) <| wT (kR jI) <| wT (kR jI) <| wM <| wZ) ?_
   refine jG ⟨_, (qB (cs := (bx (jH (zI (!(x.neg == y.neg)) (val (ofNat (val (qD x) / val (qD y)))))))) (d := (jH (zI (!(x.neg == y.neg)) (val (ofNat (val (qD x) / val (qD y))))))) rfl rfl jI rfl rfl (qB (cs := (bx (jH (zI y.neg (val (ofNat (val (qD x) % val (qD y)))))))) (d := (jH (zI y.neg (val (ofNat (val (qD x) % val (qD y))))))) rfl rfl jI rfl rfl (.tmp (d := (.val (.int .i64 (0)))) rfl .nil))), ?_⟩
   unfold kK
   rw [d1, d2]
   simp only [kW]
   rfl
theorem t_gcdI (x y : jF) (hx : x.gs.length ≤ 1099511627776) (hy : y.gs.length ≤ 1099511627776) : kF Tryz.prog 145 [(jH x), (jH y)] (jH (jK ((Int.gcd (kK x) (kK y) : Nat) : Int))) := by
 have hgx := uA x
 have hlx := yU x
 have hgy := uA y
 have hly := yU y
 refine jL Tryz.func145 rfl cb145 rfl ?_
 show uK _ _ _ _ ⟨[(0, (.d (jH x))), (1, (.d (jH y)))], []⟩
 refine jA <| kx [(2, (.ref 0 0)), (3, (.ref 1 0)), (4, (.ref 2 0))] [(0, some (bx (jH x))), (1, some (bx (jH y))), (2, some (bx (jH (jF.mk false []))))] (zN (uX 0) <| zN (uX 1) <| zN (qI 2 uD uE) <| zZ) ?_
 refine jA <| kd [(5, (vl 152 1 jB (qD x))), (6, (vl 152 1 jB (qD y)))] [] mo (wR (kA jI) <| wE (kC (gR x (by omega))) <| wR (kA jI) <| wE (kC (gR y (by omega))) <| wM <| wM <| wZ) ?_
 refine jA <| jE <| uB (α := List Nat × List Nat) (fun (a, b) => ⟨[(4, (.ref 2 0)), (5, (vl 152 1 jB a)), (6, (vl 152 1 jB b))], [(2, some (bx (jH (jF.mk false []))))]⟩) (fun (a, b) => gW a ∧ gW b ∧ a.length ≤ 1099511627776 ∧ b.length ≤ 1099511627776 ∧ Nat.gcd (val a) (val b) = Int.gcd (kK x) (kK y)) (fun (a, b) => val b) (qD x, qD y) wk ⟨hgx, hgy, by omega, by omega, gcd_toZ x y⟩ ?_
 rintro ⟨a, b⟩ ⟨ha, hb, hla, hlb, hg⟩
 refine jA <| jA <| kx [(19, (vb (decide (0 < ((b.length : Nat) : Int)))))] [] (zM <| zE (nC kV) <| zE bO <| zZ) ?_
 refine jQ (b := decide (0 < ((b.length : Nat) : Int))) rfl (fun h1 => ?_) (fun h1 => ?_)
 ·replace h1 := of_decide_eq_true h1
  have hb0 := cC hb (by omega)
  refine jD <| jE <| jA <| kx [(7, (gQ (gA a))), (8, (vb (mM a)))] [] (zM <| zE (kC (t_word a ha.1)) <| zM <| zE uH <| zE uH <| zM <| zM <| zZ) ?_
  refine jA <| kx [(9, (gQ (gA b))), (10, (vb (mM b)))] [] (zM <| zE (kC (t_word b hb.1)) <| zM <| zE uH <| zE uH <| zM <| zM <| zZ) ?_
  refine jA <| jA <| kx [(33, (vb ((mM a) && (mM b))))] [] ?_ ?_
  ·refine zM <| zE (oV (vb (mM a)) (xD (by kernel_rfl))) <| ?_
   rcases hb2 : (mM a) with _ | _
   ·exact zK <| zE fC <| zZ
   ·exact zM <| zE oPa <| zZ
  refine jQ (b := ((mM a) && (mM b))) rfl (fun h3 => ?_) (fun h3 => ?_)
  ·obtain ⟨w1, w2, w3⟩ := word_both ha.1 h3
   have w4 : val b < 1000000000000000000 := by rw [Bool.and_eq_true] at h3; exact val_len2 hb.1 (of_decide_eq_true h3.2)
   refine jA <| jE <| uB (α := Nat × Nat) (fun (m, n) => ⟨[(4, (.ref 2 0)), (7, (gQ m)), (9, (gQ n))], [(2, some (bx (jH (jF.mk false []))))]⟩) (fun (m, n) => m < 1000000000000000000 ∧ n < 1000000000000000000 ∧ Nat.gcd m n = Int.gcd (kK x) (kK y)) (fun (m, n) => n) (gA a, gA b) wk ⟨by omega, by omega, by rw [w1, w2]; exact hg⟩ ?_
   rintro ⟨m, n⟩ ⟨hm, hn, hg2⟩
   refine jA <| jA <| kx [(35, (vb (decide (0 < ((n : Nat) : Int)))))] [] (zM <| zE bO <| zZ) ?_
   refine jQ (b := decide (0 < ((n : Nat) : Int))) rfl (fun h4 => ?_) (fun h4 => ?_)
   ·replace h4 := of_decide_eq_true h4
    refine jD <| jE <| kd [(7, (gQ n)), (9, (gQ (m % n)))] [] mo (wM <| wM <| wM <| wE (aI (m % n)) <| wM <| wM <| wZ) ?_
    exact ⟨(n, m % n), wk, ⟨hn, Nat.lt_of_le_of_lt (Nat.mod_le _ _) hm, by rw [← hg2, Nat.gcd_comm, ← Nat.gcd_rec, Nat.gcd_comm]⟩, (by dsimp only; exact Nat.mod_lt _ (by omega))⟩
   ·replace h4 := of_decide_eq_false h4
    obtain rfl : n = 0 := by omega
    rw [Nat.gcd_zero_right] at hg2
    refine kQ <| jA <| kx [] [(2, some (bx (jH (zI false (val (ofNat m))))))] (zM <| zE (kC (t_split m (by omega))) <| zE (kC (dK false (ofNat m) (qA _) (Nat.le_trans (aB (by omega)) (by decide)))) <| zT (kR jI) <| zZ) ?_
    refine jG ⟨_, (qB (cs := (bx (jH (zI false (val (ofNat m)))))) (d := (jH (zI false (val (ofNat m))))) rfl rfl jI rfl rfl .nil), ?_⟩
    rw [← hg2, kW, mkI_false]; rfl
  ·refine jD <| jA <| kx [(12, (vl 152 1 jB (ofNat (val a % val b))))] [] (zM <| zM <| zE (kC (t_over a b ha hb hb0 (by omega) (by omega))) <| zM <| zE uH <| zE uH <| zM <| zM <| zZ) ?_
   refine kx [(5, (vl 152 1 jB b)), (6, (vl 152 1 jB (ofNat (val a % val b))))] [] (zM <| zM <| zM <| zM <| zZ) ?_
   exact ⟨(b, ofNat (val a % val b)), wk, ⟨hb, uC _, hlb, Nat.le_trans (len_rem a ha _) hla, by rw [kW, ← hg, Nat.gcd_comm, ← Nat.gcd_rec, Nat.gcd_comm]⟩, (by dsimp only; rw [kW]; exact Nat.mod_lt _ hb0)⟩
 ·replace h1 := of_decide_eq_false h1
  have hb1 : b = [] := List.eq_nil_of_length_eq_zero (by omega)
  rw [hb1, val_nil, Nat.gcd_zero_right] at hg
  refine kQ <| jA <| kx [] [(2, some (bx (jH (zI false (val a)))))] (zM <| zE (kC (t_clone a (by omega))) <| zE (kC (dK false a ha.1 (by omega))) <| zT (kR jI) <| zZ) ?_
  refine jG ⟨_, (qB (cs := (bx (jH (zI false (val a))))) (d := (jH (zI false (val a)))) rfl rfl jI rfl rfl .nil), ?_⟩
  rw [← hg, mkI_false]; rfl
end Go.Proofs.YtbecgnplakngdaaGreat
