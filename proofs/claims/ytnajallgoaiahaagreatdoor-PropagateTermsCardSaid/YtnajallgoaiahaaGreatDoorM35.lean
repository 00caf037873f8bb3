/- Part 35 of a proof: rules, plain facts, and functions walked. -/
import Derived.Test.YtnajallgoaiahaaGreatDoorM34
import Derived.Test.YtnajallgoaiahaaGreatDoorM20
import Derived.Test.YtnajallgoaiahaaGreatDoorM23
import Derived.Test.YtnajallgoaiahaaGreatDoorM11
import Derived.Test.YtnajallgoaiahaaGreatDoorM28
import Derived.Test.YtnajallgoaiahaaGreatDoorM19
import Derived.Test.YtnajallgoaiahaaGreatDoorM30
namespace Go.Proofs.YtnajallgoaiahaaGreatDoor
open Go.Fid
set_option maxRecDepth 4000
set_option linter.unusedVariables false
set_option linter.unusedSimpArgs false
theorem cb256 : callB Tryz.prog 256 = true := by kernel_rfl
theorem cb265 : callB Tryz.prog 265 = true := by kernel_rfl
theorem cb268 : callB Tryz.prog 268 = true := by kernel_rfl
theorem cb271 : callB Tryz.prog 271 = true := by kernel_rfl
theorem cb272 : callB Tryz.prog 272 = true := by kernel_rfl
theorem cb273 : callB Tryz.prog 273 = true := by kernel_rfl
theorem in3 : intB Tryz.prog 3 = some .i64 := by kernel_rfl
theorem st9 : strB Tryz.prog 9 = true := by kernel_rfl
theorem d_small  : jT Tryz.prog 273 [(.val (.int .i64 (((2 : Nat) : Int))))] (.val (.string (ByteArray.mk #[50]))) := by
 refine jJ Tryz.func273 rfl cb273 rfl ?_
 show qR _ _ _ _ ⟨[(0, (jN 2))], []⟩
 refine jB<|kx [] [] (zM<|zZ) ?_
 refine jB<|jB<|kx [(4, (vb true))] [] (zM<|zE (xL true vZ)<|zZ) ?_
 refine xD ?_
 refine jB<|kx [(2, (.d (.val (.string (ByteArray.mk #[50])))))] [] (zM<|zM<|zE (vG 3 (hr := by decide))<|zE (oSstr (l := 2) (h := 3) (r := ByteArray.mk #[50]) st9)<|zM<|zZ) ?_
 refine jE ⟨_, (.tmp (d := (.val (.string (ByteArray.mk #[50])))) rfl .nil), ?_⟩
 rfl
theorem d_fmt  : jT Tryz.prog 272 [(.val (.int .i64 (((2 : Nat) : Int)))), (.val (.int .i64 (((10 : Nat) : Int))))] (.val (.string (ByteArray.mk #[50]))) := by
 refine jJ Tryz.func272 rfl cb272 rfl ?_
 show qR _ _ _ _ ⟨[(0, (jN 2)), (1, (jN 10))], []⟩
 refine jB<|kx [] [] (zM<|zZ) ?_
 refine jB<|jB<|kx [(11, (vb true))] [] (zM<|zE (xL true gA)<|zZ) ?_
 refine xD ?_
 refine jB<|jB<|kx [(17, (vb true))] [] (zM<|zE (xL true oLe)<|zM<|zM<|zE (xL true vZ)<|zE hZ<|zZ) ?_
 refine xD ?_
 refine jB<|kx [(4, (.d (.val (.string (ByteArray.mk #[50])))))] [] (zM<|zE (jZ d_small)<|zM<|zZ) ?_
 refine jE ⟨_, (.tmp (d := (.val (.string (ByteArray.mk #[50])))) rfl .nil), ?_⟩
 rfl
theorem d_itoaI  : jT Tryz.prog 271 [(.val (.int .i64 (((2 : Nat) : Int))))] (.val (.string (ByteArray.mk #[50]))) := by
 refine jJ Tryz.func271 rfl cb271 rfl ?_
 show qR _ _ _ _ ⟨[(0, (jN 2))], []⟩
 refine jB<|kx [] [] (zM<|zZ) ?_
 refine jB<|kx [(2, (.d (.val (.string (ByteArray.mk #[50])))))] [] (zM<|zE (jZ d_fmt)<|zM<|zZ) ?_
 refine jE ⟨_, (.tmp (d := (.val (.string (ByteArray.mk #[50])))) rfl .nil), ?_⟩
 rfl
theorem d_itoa  : jT Tryz.prog 268 [(.val (.int .i64 (((2 : Nat) : Int))))] (.val (.string (ByteArray.mk #[50]))) := by
 refine jJ Tryz.func268 rfl cb268 rfl ?_
 show qR _ _ _ _ ⟨[(0, (jN 2))], []⟩
 refine jB<|kx [] [] (zM<|zZ) ?_
 refine jB<|kx [(2, (.d (.val (.string (ByteArray.mk #[50])))))] [] (zM<|zE (jZ d_itoaI)<|zM<|zZ) ?_
 refine jE ⟨_, (.tmp (d := (.val (.string (ByteArray.mk #[50])))) rfl .nil), ?_⟩
 rfl
theorem d_digits  : jT Tryz.prog 265 [(.sl 140 1 (List.map jC [2]))] (.val (.int .i64 (((1 : Nat) : Int)))) := by
 refine jJ Tryz.func265 rfl cb265 rfl ?_
 show qR _ _ _ _ ⟨[(0, (vl 140 1 jC [2]))], []⟩
 refine jB<|kx [] [] (zM<|zZ) ?_
 refine jB<|jB<|kx [(5, (vb false))] [] (zM<|zE (oLn kM 1)<|zE (xL false gA)<|zZ) ?_
 refine kZ ?_
 refine jD<|jB<|kx [(2, (jN 1))] [] (zM<|zE (oLn kM 1)<|zE (oSb 0 (hr := by decide))<|zE (oMl 0 (hr := by decide))<|zM<|zM<|zE (oLn kM 1)<|zE (oSb 0 (hr := by decide))<|zE (oXs kM 0)<|zE (xI qU)<|zE (nY yD in3 2)<|zE (jZ d_itoa)<|zE (oLstr st9 1)<|zE (vG 1 (hr := by decide))<|zM<|zZ) ?_
 refine jE ⟨_, (.tmp (d := (.val (.int .i64 (((1 : Nat) : Int))))) rfl .nil), ?_⟩
 rfl
theorem d_pow (n : Nat) (hn : n ≤ 1024) : jT Tryz.prog 256 [(jK (kJ 2)), (.val (.int .i64 (((n : Nat) : Int))))] (.tup [(jK (kJ ((2 ^ n : Nat) : Int))), (.val (.int .i64 (0)))]) := by
 have hg2 := g2len
 refine jJ Tryz.func256 rfl cb256 rfl ?_
 show qR _ _ _ _ ⟨[(0, (.d (jK (kJ 2)))), (1, (jN n))], []⟩
 refine jB<|kx [(2, (.ref 0 0)), (4, (.ref 1 0))] [(0, some (bx (jK (kJ 2)))), (1, some (bx (jK (kS.mk false []))))] (zN (xA 0)<|zN (uU 1 zL zP)<|zM<|zZ) ?_
 refine jB<|kx [(6, (vl 140 1 jC [2]))] [] (zR (kP jV)<|zE (oQd (.sl 140 1 (List.map jC (kO (kJ 2)))) (.sl 140 1 (List.map jC [2])) (jZ (yZ (kJ 2) (by omega))) (by exact (congrArg (fun l => kA.sl 140 1 (List.map jC l)) g2)))<|zM<|zZ) ?_
 refine jB<|jG<|jB<|kx [(11, (vb false))] [] (zM<|zE (xL false vZ (by exact decide_eq_false (show ¬ ((n : Nat) : Int) < 0 by omega)))<|zM<|zM<|zE (xL false mO (by exact decide_eq_false (show ¬ 4096 < ((n : Nat) : Int) by omega)))<|zE yM<|zM<|zZ) ?_
 refine kZ ?_
 refine jB<|kx [(19, (vb false))] [] (zM<|zM<|zE (jZ d_digits)<|zE (oMl (n * 1))<|zE (xL false mO (by exact decide_eq_false (show ¬ 20000 < (((n * 1) : Nat) : Int) by omega)))<|zM<|zZ) ?_
 refine kZ ?_
 refine jD<|jB<|kx [(7, (vl 140 1 jC [1]))] [] (zE (gN kM vL xZ)<|zM<|zZ) ?_
 refine jB<|jB<|kx [(8, (jN 4096))] [] (zM<|zZ) ?_
 refine jG<|kI (α := Nat × Nat × List Nat) (fun (i, b, out) => ⟨[(1, (jN n)), (2, (.ref 0 0)), (4, (.ref 1 0)), (6, (vl 140 1 jC [2])), (7, (vl 140 1 jC out)), (8, (jN b))], [(0, some (bx (jK (kJ 2)))), (1, some (bx (jK (kS.mk false []))))]⟩) (fun (i, b, out) => i ≤ 13 ∧ b = 4096 / 2 ^ i ∧ out = ofNat (pwS n i)) (fun (i, b, out) => 13 - i) (0, 4096, [1]) wk ⟨Nat.zero_le _, rfl, pwS_0 (by omega)⟩ ?_
 rintro ⟨i, b, out⟩ ⟨hi, hbi, ho⟩
 have hdo : Dig out := ho ▸ kL _
 have hlo : out.length ≤ 4097 := ho ▸ len_pwS (by omega) i
 have hdt : Dig [2] := by intro d hd; rw [List.mem_singleton.1 hd]; decide
 have hvo : val out = pwS n i := by rw [ho, kB]
 have hbl : b ≤ 4096 := hbi ▸ Nat.div_le_self _ _
 have hdq : Dig (ofNat (val out * val out)) := kL _
 have hl2 : [2].length ≤ 1 := Nat.le_refl _
 refine jB<|jB<|kx [(28, (vb (decide (0 < ((b : Nat) : Int)))))] [] (zM<|zE mO<|zZ) ?_
 refine jF (b := decide (0 < ((b : Nat) : Int))) rfl (fun h1 => ?_) (fun h1 => ?_)
 ·replace h1 := uH h1
  have hi2 := bit_pos hi (hbi ▸ h1)
  have hlq := len_sq hvo (show n ≤ 4096 by omega) hi2
  refine jD<|jB<|jG<|jB<|kx [(7, (vl 140 1 jC (ofNat (val out * val out))))] [] (zM<|zM<|zE (jZ (t_times out out (by assumption) (by assumption) (by omega) (by omega)))<|zM<|zZ) ?_
  refine jB<|kx [(37, (vb ((((n &&& b) : Nat) : Int) != 0)))] [] (zM<|zM<|zE (oAb (n &&& b))<|zE nR<|zZ) ?_
  refine jF (b := ((((n &&& b) : Nat) : Int) != 0)) rfl (fun h2 => ?_) (fun h2 => ?_)
  ·replace h2 := bne_iff_ne.1 h2
   refine kx [(7, (vl 140 1 jC (ofNat (val (ofNat (val out * val out)) * val [2]))))] [] (zM<|zM<|zE (jZ (t_times (ofNat (val out * val out)) [2] (by assumption) (by assumption) (by omega) (by omega)))<|zM<|zZ) ?_
   refine kx [(8, (jN (b / 2)))] [] (zM<|zE (e_shr (n := 1) (((b / 2) : Nat) : Int) (hr := shr1 _))<|zM<|zZ) ?_
   exact ⟨(i + 1, b / 2, ofNat (val (ofNat (val out * val out)) * val [2])), wk, ⟨by omega, by rw [hbi]; exact bit_half i, by rw [kB, hvo, ← pwS_odd hi2 (by rw [← hbi]; omega)]; rfl⟩, (by first|omega|(dsimp only;omega))⟩
  ·replace h2 := bne_eq_false_iff_eq.1 h2
   refine jD<|kx [(8, (jN (b / 2)))] [] (zM<|zE (e_shr (n := 1) (((b / 2) : Nat) : Int) (hr := shr1 _))<|zM<|zZ) ?_
   exact ⟨(i + 1, b / 2, ofNat (val out * val out)), wk, ⟨by omega, by rw [hbi]; exact bit_half i, by rw [hvo, pwS_even hi2 (by rw [← hbi]; omega)]⟩, (by first|omega|(dsimp only;omega))⟩
 ·replace h1 := vB h1
  have hi13 := bit_end hi (hbi ▸ h1)
  refine kC<|jB<|kx [(5, (jN 0))] [(1, some (bx (jK (vW ((kJ 2).neg && ((((n % 2) : Nat) : Int) == 1)) (val out)))))] ?_ ?_
  ·refine zE (qD vJ)<|zR (uL sh4)<|zE (oV (vb ((kJ 2).neg)) (qH (by kernel_rfl)))<|?_
   rcases hb3 : ((kJ 2).neg) with _ | _
   ·exact zK<|zK<|zK<|zE yM<|zM<|zE (jZ (nU false out (by assumption) (by omega)))<|zT (qM jV)<|zM<|zZ
   ·exact zM<|zE (oRe (n % 2))<|zE gA<|zE aJ<|zM<|zE (jZ (nU (true && ((((n % 2) : Nat) : Int) == 1)) out (by assumption) (by omega)))<|zT (qM jV)<|zM<|zZ
  refine jE ⟨_, (kU (cs := (bx (jK (vW ((kJ 2).neg && ((((n % 2) : Nat) : Int) == 1)) (val out))))) (d := (jK (vW ((kJ 2).neg && ((((n % 2) : Nat) : Int) == 1)) (val out)))) rfl rfl jV rfl rfl (.tmp (d := (.val (.int .i64 (0)))) rfl .nil)), ?_⟩
  rw [ho, hi13, neg2, Bool.false_and, mk_two]; rfl
theorem cb231 : callB Tryz.prog 231 = true := by kernel_rfl
theorem d_root (z : Int) (hz : yP (kJ z) z 200) (hz0 : 0 ≤ z) : jT Tryz.prog 231 [(jK (kJ z))] (.tup [(jK (kJ (qC z))), (.val (.int .i64 (0)))]) := by
 have hzl : (ofNat z.natAbs).length ≤ 200 := hz.ln
 have hzg := hz.l
 refine jJ Tryz.func231 rfl cb231 rfl ?_
 show qR _ _ _ _ ⟨[(0, (.d (jK (kJ z))))], []⟩
 refine jB<|kx [(1, (.ref 0 0)), (2, (.ref 1 0))] [(0, some (bx (jK (kJ z)))), (1, some (bx (jK (kS.mk false []))))] (zN (xA 0)<|zN (uU 1 zL zP)<|zM<|zZ) ?_
 refine jB<|kx [(4, (vl 140 1 jC (ofNat (Int.natAbs z))))] [] (zR (kP jV)<|zE (oQd (.sl 140 1 (List.map jC (kO (kJ z)))) (.sl 140 1 (List.map jC (ofNat (Int.natAbs z)))) (jZ (yZ (kJ z) (by omega))) (by exact (congrArg (fun l => kA.sl 140 1 (List.map jC l)) (grpI_ofZ z))))<|zM<|zZ) ?_
 refine jB<|jB<|kx [(14, (vb ((((ofNat (Int.natAbs z)).length : Nat) : Int) == 0)))] [] (zM<|zE (vX kM (L := (ofNat (Int.natAbs z))))<|zE gA<|zZ) ?_
 refine jF rfl (fun h1 => ?_) (fun h1 => ?_)
 ·replace h1 := eq_of_beq h1
  refine jB<|kx [(3, (jN 0))] [(1, some (bx (jK (kS.mk false []))))] (zE (bS pl43 zL zP)<|zT (qM jV)<|zM<|zZ) ?_
  refine jE ⟨_, (kU (cs := (bx (jK (kS.mk false [])))) (d := (jK (kS.mk false []))) rfl rfl jV rfl rfl (.tmp (d := (.val (.int .i64 (0)))) rfl .nil)), ?_⟩
  rw [root_nil h1]; rfl
 ·replace h1 := ne_of_beq_false h1
  refine jD<|jB<|jB<|kx [(17, (vb ((kJ z).neg)))] [] (zE (qD vJ)<|zR (uL sh4)<|zZ) ?_
  refine jF (b := (kJ z).neg) rfl (fun h2 => ?_) (fun h2 => ?_)
  ·exact (neg_abs hz0 h2).elim
  ·have hX : 0 < z.natAbs := by rcases Nat.eq_zero_or_pos z.natAbs with e | e; exact absurd (by rw [e, uF]; rfl) h1; exact e
   refine jD<|jB<|kf [(5, (.own 2 140 1 (((List.replicate (((ofNat (Int.natAbs z)).length + 1) / 2) 0) ++ [1]).length)))] [(2, some (bm jC ((List.replicate (((ofNat (Int.natAbs z)).length + 1) / 2) 0) ++ [1])))] (zM<|zE (vX kM (L := (ofNat (Int.natAbs z))))<|zE (vG ((ofNat (Int.natAbs z)).length + 1))<|zE (oQu (((ofNat (Int.natAbs z)).length + 1) / 2))<|zN (oMk 2 jC (0 : Nat) (((ofNat (Int.natAbs z)).length + 1) / 2) (((ofNat (Int.natAbs z)).length + 1) / 2) kM vL xZ gW)<|zE (gN kM vL xZ)<|zA jC (List.replicate (((ofNat (Int.natAbs z)).length + 1) / 2) 0) [1] (by rw [List.length_replicate]) kM vL gW<|zM<|zF) ?_
   refine jG<|kH (vK (t := 5) (k := 2) (es := List.map jC ((List.replicate (((ofNat (Int.natAbs z)).length + 1) / 2) 0) ++ [1])) rfl rfl (uI _ _ (fun _ => rfl)) (uG _ _ rfl) (vE _ _ (fun _ => rfl) rfl)) ?_
   refine kI (α := List Nat) (fun r => ⟨[(2, (.ref 1 0)), (4, (vl 140 1 jC (ofNat (Int.natAbs z)))), (5, (vl 140 1 jC r))], [(1, some (bx (jK (kS.mk false []))))]⟩) (fun r => (xX r ∧ 0 < val r ∧ z.natAbs < (val r + 1) * (val r + 1)) ∧ r.length ≤ 400) (fun r => val r) (List.replicate (((ofNat z.natAbs).length + 1) / 2) 0 ++ [1]) wk ⟨⟨nw_cano _, by rw [nw_start]; exact pw_pos _, nw_top⟩, by simp; omega⟩ ?_
   rintro r ⟨⟨hcr, hr0, hru⟩, hrl⟩
   have hcg : xX (ofNat z.natAbs) := kY _
   have hdr := hcr.1
   obtain ⟨q1, q2, q3⟩ := nw_lens (X := z.natAbs) (by omega) hrl hcr
   have hdq : Dig (ofNat (val (ofNat z.natAbs) / val r)) := kL _
   have hds : Dig (ofNat (val r + val (ofNat (val (ofNat z.natAbs) / val r)))) := kL _
   have hcn : xX (ofNat (val (ofNat (val r + val (ofNat (val (ofNat (Int.natAbs z)) / val r)))) / 2)) := kY _
   refine jG<|jB<|kx [(6, (vl 140 1 jC (ofNat (val (ofNat (Int.natAbs z)) / val r))))] [] (zM<|zM<|zE (jZ (t_over (ofNat (Int.natAbs z)) r (by assumption) (by assumption) (by omega) (by omega) (by omega)))<|zM<|zE vP<|zE vP<|zM<|zM<|zZ) ?_
   refine jB<|kx [(8, (vl 140 1 jC (ofNat (val (ofNat (val r + val (ofNat (val (ofNat (Int.natAbs z)) / val r)))) / 2))))] [] (zM<|zM<|zE (jZ (t_plus r (ofNat (val (ofNat (Int.natAbs z)) / val r)) (by assumption) (by assumption) (by omega) (by omega)))<|zE (jZ (t_short (ofNat (val r + val (ofNat (val (ofNat (Int.natAbs z)) / val r)))) 2 (by assumption) (by omega) (by omega) (by omega)))<|zM<|zE vP<|zE vP<|zM<|zM<|zZ) ?_
   refine jB<|jB<|kx [(42, (vb (decide (0 ≤ (uX ((val (ofNat (val (ofNat (val r + val (ofNat (val (ofNat (Int.natAbs z)) / val r)))) / 2)) : Nat) : Int) ((val r : Nat) : Int))))))] [] (zM<|zM<|zE (jZ (t_compare (ofNat (val (ofNat (val r + val (ofNat (val (ofNat (Int.natAbs z)) / val r)))) / 2)) r (by assumption) (by assumption) (by omega)))<|zE oGe<|zZ) ?_
   refine jF rfl (fun h3 => ?_) (fun h3 => ?_)
   ·replace h3 := uH h3
    refine jB<|kx [(3, (jN 0))] [(1, some (bx (jK (vW false (val r)))))] (zM<|zE (jZ (nU false r (by assumption) (by omega)))<|zT (qM jV)<|zM<|zZ) ?_
    refine jE ⟨_, (kU (cs := (bx (jK (vW false (val r))))) (d := (jK (vW false (val r)))) rfl rfl jV rfl rfl (.tmp (d := (.val (.int .i64 (0)))) rfl .nil)), ?_⟩
    rw [nw_end hz0 hr0 hru (nw_stop h3)]; rfl
   ·replace h3 := vB h3
    refine jD<|kx [(5, (vl 140 1 jC (ofNat (val (ofNat (val r + val (ofNat (val (ofNat (Int.natAbs z)) / val r)))) / 2))))] [] (zM<|zM<|zZ) ?_
    exact ⟨(ofNat (val (ofNat (val r + val (ofNat (val (ofNat (Int.natAbs z)) / val r)))) / 2)), wk, (by obtain ⟨n1, n2, n3, n4⟩ := nw_ok z.natAbs hr0 hX h3; exact ⟨⟨n1, n2, n3⟩, Nat.le_trans (can_len n1 hcr (Nat.le_of_lt n4)) hrl⟩), (by obtain ⟨n1, n2, n3, n4⟩ := nw_ok z.natAbs hr0 hX h3; exact n4)⟩
theorem cb230 : callB Tryz.prog 230 = true := by kernel_rfl
theorem cb232 : callB Tryz.prog 232 = true := by kernel_rfl
theorem d_floor (x : Rat) (hx : QL x 200) : jT Tryz.prog 232 [(jH (jM x))] (jK (kJ (gO x))) := by
 refine jJ Tryz.func232 rfl cb232 rfl ?_
 show qR _ _ _ _ ⟨[(0, (.d (jH (jM x))))], []⟩
 refine jB<|kx [(1, (.ref 0 0)), (2, (.ref 1 0))] [(0, some (bx (jH (jM x)))), (1, some (bx (jK (kS.mk false []))))] (zN (xA 0)<|zN (uU 1 zL zP)<|zZ) ?_
 refine jB<|kx [] [(0, some (bx (jH (jM x))))] (zR (kP jO)<|zE (jZ (eF (jM x) x (jP (jX hx) (by decide))))<|zT (qM jO)<|zZ) ?_
 refine jB ?_
 have bn1 : yP (kJ (x.num.fdiv (x.den : Int))) (x.num.fdiv (x.den : Int)) 201 := (iok_fdiv (k := 201) (uO hx) (uE hx) (by decide))
 refine kx [(3, (.ref 2 0))] [(2, some (bx (jK (kJ (x.num.fdiv (x.den : Int)))))), (3, none)] (zE (qD yA)<|zR (kP jV)<|zE (qD xE)<|zR (kP jV)<|zE (jZ (s_divide (uO hx) (uE hx) (by decide) (by decide) (by have := x.den_nz; omega)))<|zM<|zE vP<|zE vP<|zE vP<|zN (uU 2 zL zP)<|zN (uU 3 zL zP)<|zT (qM jV)<|zT (qM jV)<|zM<|zZ) ?_
 refine jB<|kx [] [(1, some (bx (jK (kJ (x.num.fdiv (x.den : Int))))))] (zR (kP jV)<|zT (qM jV)<|zZ) ?_
 refine jE ⟨_, (kU (cs := (bx (jK (kJ (x.num.fdiv (x.den : Int)))))) (d := (jK (kJ (x.num.fdiv (x.den : Int))))) rfl rfl jV rfl rfl .nil), ?_⟩
 rfl
theorem d_scaled (x : Rat) (hx : QL x 100) (k : Nat) (hk : k ≤ 512) : jT Tryz.prog 230 [(jH (jM x)), (.val (.int .i64 (((k : Nat) : Int))))] (.tup [(jH (jM (x * (vD k)))), (jK (kJ ((2 ^ k : Nat) : Int))), (.val (.int .i64 (0)))]) := by
 refine jJ Tryz.func230 rfl cb230 rfl ?_
 show qR _ _ _ _ ⟨[(0, (.d (jH (jM x)))), (1, (jN k))], []⟩
 refine jB<|kx [(2, (.ref 0 0)), (4, (.ref 1 0)), (5, (.ref 2 0))] [(0, some (bx (jH (jM x)))), (1, some (bx (jH kW))), (2, some (bx (jK (kS.mk false []))))] (zN (xA 0)<|zN (uU 1 qA qO)<|zN (uU 2 zL zP)<|zM<|zZ) ?_
 refine jB<|jB<|kx [(14, (vb false))] [] (zM<|zE (xL false vZ (by exact decide_eq_false (show ¬ ((k : Nat) : Int) < 0 by omega)))<|zM<|zM<|zE (xL false mO (by exact decide_eq_false (show ¬ 512 < ((k : Nat) : Int) by omega)))<|zE yM<|zZ) ?_
 refine kZ ?_
 refine jD<|jB<|kx [(7, (.ref 3 0))] [(3, some (bx (jK (kJ ((2 ^ k : Nat) : Int)))))] (zE (jZ (t_of 2 (by decide) (by decide)))<|zM<|zE (jZ (d_pow k (by omega)))<|zM<|zE vP<|zE vP<|zN (uU 3 zL zP)<|zT (qM jV)<|zM<|zZ) ?_
 refine jB ?_
 have bn1 : QL (x * (vD k)) 120 := (qF (k := 120) hx (dQ (k := k) (by omega)) (by decide))
 refine kd [(6, (jN 0))] [(1, some (bx (jH (jM (x * (vD k)))))), (2, some (bx (jK (kJ ((2 ^ k : Nat) : Int)))))] mo (wR (kP jO)<|wR (kP jV)<|wE (jZ (t_of 1 (by decide) (by decide)))<|wE (oQd (jH (kD.mk (kJ ((2 ^ k : Nat) : Int)) (kJ 1))) (jH (jM (vD k))) (bS pl45 qA qO) (by exact rfl))<|wE (jZ (fV (jM x) (jM (vD k)) x (vD k) (jP (jX hx) (by decide)) (jP (jX (dQ (k := k) (by omega))) (by decide))))<|wR (kP jV)<|wT (qM jO)<|wT (qM jV)<|wM<|wZ) ?_
 refine jE ⟨_, (kU (cs := (bx (jH (jM (x * (vD k)))))) (d := (jH (jM (x * (vD k))))) rfl rfl jO rfl rfl (kU (cs := (bx (jK (kJ ((2 ^ k : Nat) : Int))))) (d := (jK (kJ ((2 ^ k : Nat) : Int)))) rfl rfl jV rfl rfl (.tmp (d := (.val (.int .i64 (((0 : Nat) : Int))))) rfl .nil))), ?_⟩
 rfl
end Go.Proofs.YtnajallgoaiahaaGreatDoor
namespace Go.Fid
def stnP (x y z u v f : Int) : Prop := (-1048576 ≤ x ∧ x ≤ 1048576) ∧ (-1048576 ≤ y ∧ y ≤ 1048576) ∧ (-1048576 ≤ z ∧ z ≤ 1048576) ∧ (-1048576 ≤ u ∧ u ≤ 1048576) ∧ (-1048576 ≤ v ∧ v ≤ 1048576) ∧ (1 ≤ f ∧ f ≤ 1048576)
instance {x y z u v f : Int} : Decidable (stnP x y z u v f) := by unfold stnP; infer_instance
set_option linter.unusedVariables false
set_option linter.unusedSimpArgs false
def nq (a b c d : Int) : Int := (((a * a) + (b * b)) + (c * c)) + (d * d)
def N4 (a b c d : Int) : Rat := ((nq a b c d : Int) : Rat)
def r02 (a b c d : Int) : Int := 2 * ((b * d) + (a * c))
def R02 (a b c d : Int) : Rat := ((r02 a b c d : Int) : Rat)
def r12 (a b c d : Int) : Int := 2 * ((c * d) - (a * b))
def R12 (a b c d : Int) : Rat := ((r12 a b c d : Int) : Rat)
def r22 (a b c d : Int) : Int := (((a * a) - (b * b)) - (c * c)) + (d * d)
def R22 (a b c d : Int) : Rat := ((r22 a b c d : Int) : Rat)
theorem ql_eqz {x y : Rat} {n : Nat} (h : x = y) (hy : QL y n) : QL x n := h ▸ hy
def gcd3 (a b c : Rat) : Int := ((Int.gcd a.num ((Int.gcd b.num c.num : Nat) : Int) : Nat) : Int)
def redK (a b c : Rat) : Rat := Rat.divInt 1 (gcd3 a b c)
def dq0 (a b c d p q r s : Int) : Rat := (R02 a b c d * N4 p q r s) + (R02 p q r s * N4 a b c d)
def dq1 (a b c d p q r s : Int) : Rat := (R12 a b c d * N4 p q r s) + (R12 p q r s * N4 a b c d)
def dq2 (a b c d p q r s : Int) : Rat := (R22 a b c d * N4 p q r s) + (R22 p q r s * N4 a b c d)
def RFr (lx ly lz la lb lc ld rx ry rz ra rb rc rd : Int) (b0 b1 b2 e00 e01 e02 e10 e11 e12 e20 e21 e22 : Rat) : Prop :=
  (((rx - lx) : Int) : Rat) = b0 ∧
  (((ry - ly) : Int) : Rat) = b1 ∧
  (((rz - lz) : Int) : Rat) = b2 ∧
  b0 * redK b0 b1 b2 = e00 ∧
  b1 * redK b0 b1 b2 = e01 ∧
  b2 * redK b0 b1 b2 = e02 ∧
  (((dq1 la lb lc ld ra rb rc rd) * e02) - ((dq2 la lb lc ld ra rb rc rd) * e01)) * redK (((dq1 la lb lc ld ra rb rc rd) * e02) - ((dq2 la lb lc ld ra rb rc rd) * e01)) (((dq2 la lb lc ld ra rb rc rd) * e00) - ((dq0 la lb lc ld ra rb rc rd) * e02)) (((dq0 la lb lc ld ra rb rc rd) * e01) - ((dq1 la lb lc ld ra rb rc rd) * e00)) = e10 ∧
  (((dq2 la lb lc ld ra rb rc rd) * e00) - ((dq0 la lb lc ld ra rb rc rd) * e02)) * redK (((dq1 la lb lc ld ra rb rc rd) * e02) - ((dq2 la lb lc ld ra rb rc rd) * e01)) (((dq2 la lb lc ld ra rb rc rd) * e00) - ((dq0 la lb lc ld ra rb rc rd) * e02)) (((dq0 la lb lc ld ra rb rc rd) * e01) - ((dq1 la lb lc ld ra rb rc rd) * e00)) = e11 ∧
  (((dq0 la lb lc ld ra rb rc rd) * e01) - ((dq1 la lb lc ld ra rb rc rd) * e00)) * redK (((dq1 la lb lc ld ra rb rc rd) * e02) - ((dq2 la lb lc ld ra rb rc rd) * e01)) (((dq2 la lb lc ld ra rb rc rd) * e00) - ((dq0 la lb lc ld ra rb rc rd) * e02)) (((dq0 la lb lc ld ra rb rc rd) * e01) - ((dq1 la lb lc ld ra rb rc rd) * e00)) = e12 ∧
  ((e01 * e12) - (e02 * e11)) * redK ((e01 * e12) - (e02 * e11)) ((e02 * e10) - (e00 * e12)) ((e00 * e11) - (e01 * e10)) = e20 ∧
  ((e02 * e10) - (e00 * e12)) * redK ((e01 * e12) - (e02 * e11)) ((e02 * e10) - (e00 * e12)) ((e00 * e11) - (e01 * e10)) = e21 ∧
  ((e00 * e11) - (e01 * e10)) * redK ((e01 * e12) - (e02 * e11)) ((e02 * e10) - (e00 * e12)) ((e00 * e11) - (e01 * e10)) = e22
instance {lx ly lz la lb lc ld rx ry rz ra rb rc rd : Int} {b0 b1 b2 e00 e01 e02 e10 e11 e12 e20 e21 e22 : Rat} : Decidable (RFr lx ly lz la lb lc ld rx ry rz ra rb rc rd b0 b1 b2 e00 e01 e02 e10 e11 e12 e20 e21 e22) := by unfold RFr; infer_instance
section
variable {lx ly lz la lb lc ld rx ry rz ra rb rc rd : Int} {b0 b1 b2 e00 e01 e02 e10 e11 e12 e20 e21 e22 : Rat}
end
end Go.Fid
namespace Go.Proofs.YtnajallgoaiahaaGreatDoor
open Go.Fid
set_option maxRecDepth 4000
set_option linter.unusedVariables false
set_option linter.unusedSimpArgs false
theorem cb151 : callB Tryz.prog 151 = true := by kernel_rfl
theorem d_froot (x : Rat) (hx : QL x 100) (k : Nat) (hk : k ≤ 512) (hx0 : 0 ≤ x) : jT Tryz.prog 151 [(jH (jM x)), (.val (.int .i64 (((k : Nat) : Int))))] (.tup [(jH (jM (Rat.divInt (qC (gO (x * ((vD k) * (vD k))))) ((2 ^ k : Nat) : Int)))), (jH (jM (Rat.divInt (upI (x * ((vD k) * (vD k)))) ((2 ^ k : Nat) : Int)))), (.val (.int .i64 (0)))]) := by
 have hp0 : ((2 ^ k : Nat) : Int) ≠ 0 := Int.ne_of_gt (two_pos k)
 let y3 := (kJ (qC (gO (x * ((vD k) * (vD k))))))
 let y2 := (bx (jH (jM (Rat.divInt (qC (gO (x * ((vD k) * (vD k))))) ((2 ^ k : Nat) : Int)))))
 let y1 := (jM (((qC (gO (x * ((vD k) * (vD k))))) * (qC (gO (x * ((vD k) * (vD k))))) : Int) : Rat))
 refine jJ Tryz.func151 rfl cb151 rfl ?_
 show qR _ _ _ _ ⟨[(0, (.d (jH (jM x)))), (1, (jN k))], []⟩
 refine jB<|kx [(2, (.ref 0 0)), (4, (.ref 1 0)), (5, (.ref 2 0))] [(0, some (bx (jH (jM x)))), (1, some (bx (jH kW))), (2, some (bx (jH kW)))] (zN (xA 0)<|zN (uU 1 qA qO)<|zN (uU 2 qA qO)<|zM<|zZ) ?_
 refine jB ?_
 have bn1 : QL (x * (vD k)) 120 := (qF (k := 120) hx (dQ (k := k) (by omega)) (by decide))
 refine kx [(6, (vi 0)), (7, (.ref 3 0)), (8, (.ref 4 0))] [(3, some (bx (jH (jM (x * (vD k)))))), (4, some (bx (jK (kJ ((2 ^ k : Nat) : Int)))))] (zR (kP jO)<|zM<|zE (jZ (d_scaled x hx k (by omega)))<|zM<|zE vP<|zE vP<|zE vP<|zN (uU 3 qA qO)<|zN (uU 4 zL zP)<|zT (qM jO)<|zT (qM jV)<|zM<|zZ) ?_
 refine jB<|jB<|kx [(25, (vb false))] [] (zM<|zE (xL false nR)<|zM<|zR (kP jO)<|zE (jZ (f_sign (jM x) x (jP (jX hx) (by decide))))<|zE (xL false vZ (by exact decide_eq_false (sgn_nn hx0)))<|zE yM<|zZ) ?_
 refine kZ ?_
 refine jD<|jB ?_
 have bn2 : QL (x * ((vD k) * (vD k))) 140 := (ql_eqz (Eq.symm (Rat.mul_assoc _ _ _)) (qF (k := 140) bn1 (dQ (k := k) (by omega)) (by decide)))
 refine kd [] [(3, some (bx (jH (jM (x * ((vD k) * (vD k)))))))] mo (wR (kP jO)<|wR (kP jV)<|wE (jZ (t_of 1 (by decide) (by decide)))<|wE (oQd (jH (kD.mk (kJ ((2 ^ k : Nat) : Int)) (kJ 1))) (jH (jM (vD k))) (bS pl45 qA qO) (by exact rfl))<|wE (jZ (by have h := fV (jM (x * (vD k))) (jM (vD k)) (x * (vD k)) (vD k) (jP (jX bn1) (by decide)) (jP (jX (dQ (k := k) (by omega))) (by decide)); rw [(Rat.mul_assoc _ _ _)] at h; exact h))<|wT (qM jO)<|wZ) ?_
 refine jB ?_
 have bn3 : yP (kJ (qC (gO (x * ((vD k) * (vD k)))))) (qC (gO (x * ((vD k) * (vD k))))) 141 := (iok_root (fl_nn (aH hx0)) (aD (k := 141) bn2 (by decide)))
 refine kx [(9, (.ref 5 0))] [(5, some (bx (jK y3)))] (zR (kP jO)<|zE (jZ (d_floor (x * ((vD k) * (vD k))) (qu bn2)))<|zE (jZ (d_root (gO (x * ((vD k) * (vD k)))) (gU (aD (k := 141) bn2 (by decide)) (by decide)) (fl_nn (aH hx0))))<|zM<|zE vP<|zE vP<|zN (uU 5 zL zP)<|zT (qM jV)<|zM<|zZ) ?_
 refine jB<|kx [(11, (.ref 6 0))] [(6, some (bx (jK y3)))] (zR (kP jV)<|zN (uU 6 zL zP)<|zT (qM jV)<|zZ) ?_
 refine jB<|jB<|kd [(47, (vb (decide ((yJ (((qC (gO (x * ((vD k) * (vD k))))) * (qC (gO (x * ((vD k) * (vD k))))) : Int) : Rat) (x * ((vD k) * (vD k)))) < ((0 : Nat) : Int)))))] [] mo (wR (kP jV)<|wR (kP jV)<|wE (jZ (s_mul bn3 bn3 (by decide) (by decide)))<|wE (jZ (t_of 1 (by decide) (by decide)))<|wE (oQd (jH (kD.mk (kJ ((qC (gO (x * ((vD k) * (vD k))))) * (qC (gO (x * ((vD k) * (vD k))))))) (kJ 1))) (jH y1) (bS pl45 qA qO) (by exact rfl))<|wR (kP jO)<|wE (jZ (mM y1 (jM (x * ((vD k) * (vD k)))) (((qC (gO (x * ((vD k) * (vD k))))) * (qC (gO (x * ((vD k) * (vD k))))) : Int) : Rat) (x * ((vD k) * (vD k))) (jP (jX (gD (z := ((qC (gO (x * ((vD k) * (vD k))))) * (qC (gO (x * ((vD k) * (vD k))))))) (n := 282) (yP.ln (zW (k := 282) bn3 bn3 (by decide))) (by decide))) (by decide)) (jP (jX bn2) (by decide))))<|wE vZ<|wZ) ?_
 refine jF rfl (fun h1 => ?_) (fun h1 => ?_)
 ·replace h1 := uH h1
  have hup := upI_t h1
  have bn4 : yP (kJ ((qC (gO (x * ((vD k) * (vD k))))) + 1)) ((qC (gO (x * ((vD k) * (vD k))))) + 1) 142 := (iok_add (k := 142) bn3 (aS (z := 1) (by decide)) (by decide))
  refine kd [] [(6, some (bx (jK (kJ ((qC (gO (x * ((vD k) * (vD k))))) + 1)))))] mo (wR (kP jV)<|wE (jZ (t_of 1 (by decide) (by decide)))<|wE (jZ (s_add bn3 (aS (z := 1) (by decide)) (by decide) (by decide)))<|wT (qM jV)<|wZ) ?_
  refine jB ?_
  have bn5 : QL (Rat.divInt (qC (gO (x * ((vD k) * (vD k))))) ((2 ^ k : Nat) : Int)) 141 := (zB (n := 141) (Nat.le_trans (yP.ln bn3) (by decide)) (Nat.le_trans (yP.ln (mQ (k := k) (by omega))) (by decide)) (by decide))
  have bn6 : QL (Rat.divInt ((qC (gO (x * ((vD k) * (vD k))))) + 1) ((2 ^ k : Nat) : Int)) 142 := (zB (n := 142) (Nat.le_trans (yP.ln bn4) (by decide)) (Nat.le_trans (yP.ln (mQ (k := k) (by omega))) (by decide)) (by decide))
  refine kd [(6, (jN 0))] [(1, some y2), (2, some (bx (jH (jM (Rat.divInt ((qC (gO (x * ((vD k) * (vD k))))) + 1) ((2 ^ k : Nat) : Int))))))] mo (wR (kP jV)<|wR (kP jV)<|wE (jZ (cP y3 (kJ ((2 ^ k : Nat) : Int)) (qC (gO (x * ((vD k) * (vD k))))) ((2 ^ k : Nat) : Int) (iu bn3) (gU (mQ (k := k) (by omega)) (by decide)) (by assumption)))<|wR (kP jV)<|wR (kP jV)<|wE (jZ (cP (kJ ((qC (gO (x * ((vD k) * (vD k))))) + 1)) (kJ ((2 ^ k : Nat) : Int)) ((qC (gO (x * ((vD k) * (vD k))))) + 1) ((2 ^ k : Nat) : Int) (iu bn4) (gU (mQ (k := k) (by omega)) (by decide)) (by assumption)))<|wT (qM jO)<|wT (qM jO)<|wM<|wZ) ?_
  refine jE ⟨_, (kU (cs := (bx (jH (jM (Rat.divInt (qC (gO (x * ((vD k) * (vD k))))) ((2 ^ k : Nat) : Int)))))) (d := (jH (jM (Rat.divInt (qC (gO (x * ((vD k) * (vD k))))) ((2 ^ k : Nat) : Int))))) rfl rfl jO rfl rfl (kU (cs := (bx (jH (jM (Rat.divInt ((qC (gO (x * ((vD k) * (vD k))))) + 1) ((2 ^ k : Nat) : Int)))))) (d := (jH (jM (Rat.divInt ((qC (gO (x * ((vD k) * (vD k))))) + 1) ((2 ^ k : Nat) : Int))))) rfl rfl jO rfl rfl (.tmp (d := (.val (.int .i64 (((0 : Nat) : Int))))) rfl .nil))), ?_⟩
  rw [hup]; rfl
 ·replace h1 := vB h1
  have hup := upI_f h1
  refine jD<|jB ?_
  have bn7 : QL (Rat.divInt (qC (gO (x * ((vD k) * (vD k))))) ((2 ^ k : Nat) : Int)) 141 := (zB (n := 141) (Nat.le_trans (yP.ln bn3) (by decide)) (Nat.le_trans (yP.ln (mQ (k := k) (by omega))) (by decide)) (by decide))
  refine kd [(6, (jN 0))] [(1, some y2), (2, some y2)] mo (wR (kP jV)<|wR (kP jV)<|wE (jZ (cP y3 (kJ ((2 ^ k : Nat) : Int)) (qC (gO (x * ((vD k) * (vD k))))) ((2 ^ k : Nat) : Int) (iu bn3) (gU (mQ (k := k) (by omega)) (by decide)) (by assumption)))<|wR (kP jV)<|wR (kP jV)<|wE (jZ (cP y3 (kJ ((2 ^ k : Nat) : Int)) (qC (gO (x * ((vD k) * (vD k))))) ((2 ^ k : Nat) : Int) (iu bn3) (gU (mQ (k := k) (by omega)) (by decide)) (by assumption)))<|wT (qM jO)<|wT (qM jO)<|wM<|wZ) ?_
  refine jE ⟨_, (kU (cs := (bx (jH (jM (Rat.divInt (qC (gO (x * ((vD k) * (vD k))))) ((2 ^ k : Nat) : Int)))))) (d := (jH (jM (Rat.divInt (qC (gO (x * ((vD k) * (vD k))))) ((2 ^ k : Nat) : Int))))) rfl rfl jO rfl rfl (kU (cs := (bx (jH (jM (Rat.divInt (qC (gO (x * ((vD k) * (vD k))))) ((2 ^ k : Nat) : Int)))))) (d := (jH (jM (Rat.divInt (qC (gO (x * ((vD k) * (vD k))))) ((2 ^ k : Nat) : Int))))) rfl rfl jO rfl rfl (.tmp (d := (.val (.int .i64 (((0 : Nat) : Int))))) rfl .nil))), ?_⟩
  rw [hup]; rfl
theorem cb91 : callB Tryz.prog 91 = true := by kernel_rfl
theorem di_root (p : Rat) (q : Rat) (hp : QL p 100) (hq : QL q 100) (hpq : p ≤ q) (k : Nat) (hk : k ≤ 512) (hp0_ : 0 ≤ p) : jT Tryz.prog 91 [(jQ (kR.mk (jM p) (jM q))), (.val (.int .i64 (((k : Nat) : Int))))] (.tup [(jQ (kR.mk (jM (Rat.divInt (qC (gO (p * ((vD k) * (vD k))))) ((2 ^ k : Nat) : Int))) (jM (Rat.divInt (upI (q * ((vD k) * (vD k)))) ((2 ^ k : Nat) : Int))))), (.val (.int .i64 (0)))]) := by
 refine jJ Tryz.func91 rfl cb91 rfl ?_
 show qR _ _ _ _ ⟨[(0, (.d (jQ (kR.mk (jM p) (jM q))))), (1, (jN k))], []⟩
 refine jB<|kx [(2, (.ref 0 0)), (4, (.ref 1 0))] [(0, some (bx (jQ (kR.mk (jM p) (jM q))))), (1, some (bx (jQ (kR.mk kW kW))))] (zN (xA 0)<|zN (uU 1 xY yC)<|zM<|zZ) ?_
 refine jB<|jB<|kx [(14, (vb false))] [] (zR (kP uA)<|zE (jZ (by have h := i_valid (kR.mk (jM p) (jM q)) (cW (⟨uW (jP (jX hp) (by decide : 100 ≤ 100)), uW (jP (jX hq) (by decide : 100 ≤ 100))⟩) (by decide)); rw [show xR (kR.mk (jM p) (jM q)) = true from nO hpq] at h; exact h))<|zE fC<|zZ) ?_
 refine kZ ?_
 refine jD<|jB<|jB<|kx [(27, (vb false))] [] (zM<|zE (xL false vZ (by exact decide_eq_false (show ¬ ((k : Nat) : Int) < 0 by omega)))<|zM<|zM<|zE (xL false mO (by exact decide_eq_false (show ¬ 512 < ((k : Nat) : Int) by omega)))<|zE yM<|zM<|zE (qD gS)<|zR (kP jO)<|zE (jZ (f_sign (jM p) p (jP (jX hp) (by decide))))<|zE (xL false vZ (by exact decide_eq_false (sgn_nn hp0_)))<|zE yM<|zZ) ?_
 refine kZ ?_
 refine jD<|jB ?_
 have bn1 : QL (Rat.divInt (qC (gO (p * ((vD k) * (vD k))))) ((2 ^ k : Nat) : Int)) 141 := (zB (n := 141) (Nat.le_trans (yP.ln (iok_root (fl_nn (aH hp0_)) (aD (k := 141) (qF (k := 140) hp (qF (k := 40) (dQ (k := k) (by omega)) (dQ (k := k) (by omega)) (by decide)) (by decide)) (by decide)))) (by decide)) (Nat.le_trans (yP.ln (mQ (k := k) (by omega))) (by decide)) (by decide))
 have bn2 : QL (Rat.divInt (upI (p * ((vD k) * (vD k)))) ((2 ^ k : Nat) : Int)) 142 := (zB (n := 142) (Nat.le_trans (yP.ln (iok_upI (k := 142) (fl_nn (aH hp0_)) (aD (k := 141) (qF (k := 140) hp (qF (k := 40) (dQ (k := k) (by omega)) (dQ (k := k) (by omega)) (by decide)) (by decide)) (by decide)) (by decide) (by decide))) (by decide)) (Nat.le_trans (yP.ln (mQ (k := k) (by omega))) (by decide)) (by decide))
 refine kx [(6, (.ref 2 0))] [(2, some (bx (jH (jM (Rat.divInt (qC (gO (p * ((vD k) * (vD k))))) ((2 ^ k : Nat) : Int)))))), (3, none)] (zE (qD gS)<|zR (kP jO)<|zM<|zE (jZ (d_froot p hp k (by omega) hp0_))<|zM<|zE vP<|zE vP<|zE vP<|zN (uU 2 qA qO)<|zN (uU 3 qA qO)<|zT (qM jO)<|zT (qM jO)<|zM<|zZ) ?_
 refine jB ?_
 have bn3 : QL (Rat.divInt (qC (gO (q * ((vD k) * (vD k))))) ((2 ^ k : Nat) : Int)) 141 := (zB (n := 141) (Nat.le_trans (yP.ln (iok_root (fl_nn (aH (Rat.le_trans hp0_ hpq))) (aD (k := 141) (qF (k := 140) hq (qF (k := 40) (dQ (k := k) (by omega)) (dQ (k := k) (by omega)) (by decide)) (by decide)) (by decide)))) (by decide)) (Nat.le_trans (yP.ln (mQ (k := k) (by omega))) (by decide)) (by decide))
 have bn4 : QL (Rat.divInt (upI (q * ((vD k) * (vD k)))) ((2 ^ k : Nat) : Int)) 142 := (zB (n := 142) (Nat.le_trans (yP.ln (iok_upI (k := 142) (fl_nn (aH (Rat.le_trans hp0_ hpq))) (aD (k := 141) (qF (k := 140) hq (qF (k := 40) (dQ (k := k) (by omega)) (dQ (k := k) (by omega)) (by decide)) (by decide)) (by decide)) (by decide) (by decide))) (by decide)) (Nat.le_trans (yP.ln (mQ (k := k) (by omega))) (by decide)) (by decide))
 refine kx [(10, (.ref 5 0))] [(5, some (bx (jH (jM (Rat.divInt (upI (q * ((vD k) * (vD k)))) ((2 ^ k : Nat) : Int)))))), (4, none)] (zE (qD gR)<|zR (kP jO)<|zM<|zE (jZ (d_froot q hq k (by omega) (Rat.le_trans hp0_ hpq)))<|zM<|zE vP<|zE vP<|zE vP<|zN (uU 4 qA qO)<|zN (uU 5 qA qO)<|zT (qM jO)<|zT (qM jO)<|zM<|zZ) ?_
 refine jB<|kx [(5, (jN 0))] [(1, some (bx (jQ (kR.mk (jM (Rat.divInt (qC (gO (p * ((vD k) * (vD k))))) ((2 ^ k : Nat) : Int))) (jM (Rat.divInt (upI (q * ((vD k) * (vD k)))) ((2 ^ k : Nat) : Int)))))))] (zR (kP jO)<|zR (kP jO)<|zE (bS pl61 xY yC)<|zT (qM uA)<|zM<|zZ) ?_
 refine jE ⟨_, (kU (cs := (bx (jQ (kR.mk (jM (Rat.divInt (qC (gO (p * ((vD k) * (vD k))))) ((2 ^ k : Nat) : Int))) (jM (Rat.divInt (upI (q * ((vD k) * (vD k)))) ((2 ^ k : Nat) : Int))))))) (d := (jQ (kR.mk (jM (Rat.divInt (qC (gO (p * ((vD k) * (vD k))))) ((2 ^ k : Nat) : Int))) (jM (Rat.divInt (upI (q * ((vD k) * (vD k)))) ((2 ^ k : Nat) : Int)))))) rfl rfl uA rfl rfl (.tmp (d := (.val (.int .i64 (((0 : Nat) : Int))))) rfl .nil)), ?_⟩
 rfl
theorem cb14 : callB Tryz.prog 14 = true := by kernel_rfl
theorem cb27 : callB Tryz.prog 27 = true := by kernel_rfl
theorem m_vlist (l : List kD) (hl : yR 1048576 l) : jT Tryz.prog 14 [(.sl 45 4 (List.map jH l))] (.val (.bool ((bO l)))) := by
 have hb := hl.2
 refine jJ Tryz.func14 rfl cb14 rfl ?_
 show qR _ _ _ _ ⟨[(0, (vl 45 4 jH l))], []⟩
 refine jB<|kx [] [] (zM<|zZ) ?_
 refine jB<|jB<|kx [(3, (jN 0))] [] (zM<|zZ) ?_
 refine jG<|kI (α := Nat) (fun i => ⟨[(0, (vl 45 4 jH l)), (3, (jN i))], []⟩) (fun i => i ≤ l.length ∧ (l.take i).all kN = true) (fun i => l.length - i) 0 wk ⟨Nat.zero_le _, by simp⟩ ?_
 rintro i ⟨hi, hal⟩
 refine jB<|jB<|kx [(7, (vb (decide (((i : Nat) : Int) < ((l.length : Nat) : Int)))))] [] (zM<|zM<|zE (vX qN)<|zE vZ<|zZ) ?_
 refine jF rfl (fun h1 => ?_) (fun h1 => ?_)
 ·replace h1 := uH h1
  refine jD<|jB<|jG<|jB<|kx [(15, (vb (!(kN (l.getD i kW)))))] [] (zM<|zM<|zE (zU qN i kW)<|zE (dM jO)<|zE (jZ (iC (l.getD i kW) (qB (l.getD i kW)) (jP (xS hl.1 (show i < l.length by omega)) (by decide))))<|zE fC<|zZ) ?_
  refine jF rfl (fun h2 => ?_) (fun h2 => ?_)
  ·refine jB<|kx [(2, (vb false))] [] (zM<|zZ) ?_
   refine jE ⟨_, (.tmp (d := (.val (.bool (false)))) rfl .nil), ?_⟩
   rw [show bO l = false from all_not (f := kN) (l := l) (i := i) (d := kW) (by omega) (by simpa using h2)]; rfl
  ·refine jD<|kx [(3, (jN (i + 1)))] [] (zM<|zE (vG (i + 1))<|zM<|zZ) ?_
   exact ⟨(i + 1), wk, ⟨by omega, all_take (d := kW) (by omega) hal (by simpa using h2)⟩, (by first|omega|(dsimp only;omega))⟩
 ·replace h1 := vB h1
  have hie : i = l.length := by omega
  rw [hie, List.take_length] at hal
  refine kC<|jB<|kx [(2, (vb true))] [] (zM<|zZ) ?_
  refine jE ⟨_, (.tmp (d := (.val (.bool (true)))) rfl .nil), ?_⟩
  rw [show bO l = true from hal]; rfl
theorem p_cov (x : kD) (p : Rat) (hx : mF x p 200) (a : kD) (q : Rat) (ha : mF a q 200) (b : kD) (r : Rat) (hb : mF b r 200) (y : kD) (s : Rat) (hy : mF y s 200) (gx : kN x = true) (ga : kN a = true) (gb : kN b = true) (gy : kN y = true) (hq : ¬ (dZ q) < 0) (hr : ¬ (dZ r) < 0) : jT Tryz.prog 27 [(jH x), (jH a), (jH b), (jH y)] (.tup [(.val (.bool ((decide ((yJ ((s - p) * (s - p)) (q * r)) ≤ 0))))), (.val (.int .i64 (((0 : Nat) : Int))))]) := by
 refine jJ Tryz.func27 rfl cb27 rfl ?_
 show qR _ _ _ _ ⟨[(0, (.d (jH x))), (1, (.d (jH a))), (2, (.d (jH b))), (3, (.d (jH y)))], []⟩
 refine jB<|kx [(4, (.ref 0 0)), (5, (.ref 1 0)), (6, (.ref 2 0)), (7, (.ref 3 0))] [(0, some (bx (jH x))), (1, some (bx (jH a))), (2, some (bx (jH b))), (3, some (bx (jH y)))] (zN (xA 0)<|zN (xA 1)<|zN (xA 2)<|zN (xA 3)<|zM<|zM<|zZ) ?_
 refine jB<|jB<|kx [(17, (vl 45 4 jH [x, a, b, y])), (18, (jN 4)), (19, (jN 0))] [] (zR (kP jO)<|zR (kP jO)<|zR (kP jO)<|zR (kP jO)<|zE (gN qN qA qO)<|zE (oLn qN 4)<|zM<|zZ) ?_
 refine jG<|pwp_rounds 5 ?_
 refine pwp_round<|jB<|kx [(20, (vb true))] [] (zE (xL true vZ)<|zZ) ?_
 refine jB<|xD ?_
 refine jD<|jB<|jG<|jB<|kx [(11, (.ref 4 0))] [(4, some (bx (jH x)))] (zE (oXs qN 0)<|zE (dM jO)<|zN (uU 4 qA qO)<|zT (qM jO)<|zZ) ?_
 refine jB<|kx [(25, (vb false))] [] (zR (kP jO)<|zE (xL true (jZ (mB x p (jP hx (by decide)))) (by exact gx))<|zE fC<|zZ) ?_
 refine kZ ?_
 refine jD<|kx [(19, (jN 1))] [] (zE (vG 1 (hr := by decide))<|zM<|zZ) ?_
 refine yI (uK.refl _) ?_
 refine jB<|kx [(20, (vb true))] [] (zE (xL true vZ)<|zZ) ?_
 refine jB<|xD ?_
 refine jD<|jB<|jG<|jB<|kx [(11, (.ref 5 0))] [(5, some (bx (jH a)))] (zE (oXs qN 1)<|zE (dM jO)<|zN (uU 5 qA qO)<|zT (qM jO)<|zZ) ?_
 refine jB<|kx [(25, (vb false))] [] (zR (kP jO)<|zE (xL true (jZ (mB a q (jP ha (by decide)))) (by exact ga))<|zE fC<|zZ) ?_
 refine kZ ?_
 refine jD<|kx [(19, (jN 2))] [] (zE (vG 2 (hr := by decide))<|zM<|zZ) ?_
 refine yI (uK.refl _) ?_
 refine jB<|kx [(20, (vb true))] [] (zE (xL true vZ)<|zZ) ?_
 refine jB<|xD ?_
 refine jD<|jB<|jG<|jB<|kx [(11, (.ref 6 0))] [(6, some (bx (jH b)))] (zE (oXs qN 2)<|zE (dM jO)<|zN (uU 6 qA qO)<|zT (qM jO)<|zZ) ?_
 refine jB<|kx [(25, (vb false))] [] (zR (kP jO)<|zE (xL true (jZ (mB b r (jP hb (by decide)))) (by exact gb))<|zE fC<|zZ) ?_
 refine kZ ?_
 refine jD<|kx [(19, (jN 3))] [] (zE (vG 3 (hr := by decide))<|zM<|zZ) ?_
 refine yI (uK.refl _) ?_
 refine jB<|kH (wk (l := [(4, (.ref 0 0)), (5, (.ref 1 0)), (6, (.ref 2 0)), (7, (.ref 3 0)), (17, (vl 45 4 jH [x, a, b, y])), (18, (jN 4)), (19, (jN 3))]) (b := [(0, some (bx (jH x))), (1, some (bx (jH a))), (2, some (bx (jH b))), (3, some (bx (jH y)))])) ?_
 refine kx [(20, (vb true))] [] (zE (xL true vZ)<|zZ) ?_
 refine jB<|xD ?_
 refine jD<|jB<|jG<|jB<|kx [(11, (.ref 7 0))] [(7, some (bx (jH y)))] (zE (oXs qN 3)<|zE (dM jO)<|zN (uU 7 qA qO)<|zT (qM jO)<|zZ) ?_
 refine jB<|kx [(25, (vb false))] [] (zR (kP jO)<|zE (xL true (jZ (mB y s (jP hy (by decide)))) (by exact gy))<|zE fC<|zZ) ?_
 refine kZ ?_
 refine jD<|kx [(19, (jN 4))] [] (zE (vG 4 (hr := by decide))<|zM<|zZ) ?_
 refine yI (uK.refl _) ?_
 refine jB<|kx [(20, (vb false))] [] (zE (xL false vZ)<|zZ) ?_
 refine jB<|kZ ?_
 refine kC<|jB<|jB<|kx [(34, (vb false))] [] (zR (kP jO)<|zE (jZ (f_sign a q (jP ha (by decide))))<|zE (xL false vZ (by exact decide_eq_false hq))<|zM<|zR (kP jO)<|zE (jZ (f_sign b r (jP hb (by decide))))<|zE (xL false vZ (by exact decide_eq_false hr))<|zE yM<|zZ) ?_
 refine kZ ?_
 refine jD<|jB<|kx [(12, (.ref 8 0))] [(8, some (bx (jH (jM (s - p)))))] (zR (kP jO)<|zR (kP jO)<|zE (jZ (f_sub y x s p (jP hy (by decide)) (jP hx (by decide))))<|zN (uU 8 qA qO)<|zT (qM jO)<|zZ) ?_
 refine jB<|kd [(8, (vb (decide ((yJ ((s - p) * (s - p)) (r * q)) ≤ ((0 : Nat) : Int))))), (9, (jN 0))] [] mo (wR (kP jO)<|wR (kP jO)<|wE (jZ (fV (jM (s - p)) (jM (s - p)) (s - p) (s - p) (jP (jX (dS (k := 401) hy.ql hx.ql (by decide))) (by decide)) (jP (jX (dS (k := 401) hy.ql hx.ql (by decide))) (by decide))))<|wR (kP jO)<|wR (kP jO)<|wE (jZ (fV b a r q (jP hb (by decide)) (jP ha (by decide))))<|wE (jZ (mM (jM ((s - p) * (s - p))) (jM (r * q)) ((s - p) * (s - p)) (r * q) (jP (jX (qF (k := 802) (dS (k := 401) hy.ql hx.ql (by decide)) (dS (k := 401) hy.ql hx.ql (by decide)) (by decide))) (by decide)) (jP (jX (qF (k := 400) hb.ql ha.ql (by decide))) (by decide))))<|wE oLe<|wM<|wM<|wZ) ?_
 refine jE ⟨_, (.tmp (d := (.val (.bool (decide ((yJ ((s - p) * (s - p)) (r * q)) ≤ ((0 : Nat) : Int)))))) rfl (.tmp (d := (.val (.int .i64 (((0 : Nat) : Int))))) rfl .nil)), ?_⟩
 rw [Rat.mul_comm q r]; rfl
end Go.Proofs.YtnajallgoaiahaaGreatDoor
namespace Go.Fid
set_option linter.unusedVariables false
set_option linter.unusedSimpArgs false
theorem den_pos (u : Rat) : ((u.den : Nat) : Int) ≠ 0 := by have := u.den_pos; omega
end Go.Fid
namespace Go.Proofs.YtnajallgoaiahaaGreatDoor
open Go.Fid
set_option maxRecDepth 4000
set_option linter.unusedVariables false
set_option linter.unusedSimpArgs false
theorem cb148 : callB Tryz.prog 148 = true := by kernel_rfl
theorem cb228 : callB Tryz.prog 228 = true := by kernel_rfl
theorem f_counted (x : kS) (a : Int) (hx : yP x a 68719476736) : jT Tryz.prog 228 [(jK x)] (jK (kJ a)) := by
 refine jJ Tryz.func228 rfl cb228 rfl ?_
 show qR _ _ _ _ ⟨[(0, (.d (jK x)))], []⟩
 refine jB<|kx [(1, (.ref 0 0)), (2, (.ref 1 0))] [(0, some (bx (jK x))), (1, some (bx (jK (kS.mk false []))))] (zN (xA 0)<|zN (uU 1 zL zP)<|zZ) ?_
 refine jB<|jB<|kx [(4, (vb (uM x)))] [] (zR (kP jV)<|zE (jZ (t_valid x (Nat.le_trans hx.l (by decide))))<|zZ) ?_
 refine jF (b := (uM x)) rfl (fun h1 => ?_) (fun h1 => ?_)
 ·refine jB<|kx [] [(1, some (bx (jK x)))] (zR (kP jV)<|zT (qM jV)<|zZ) ?_
  refine jE ⟨_, (kU (cs := (bx (jK x))) (d := (jK x)) rfl rfl jV rfl rfl .nil), ?_⟩
  rw [← hx.v, ofZ_toZ h1]; rfl
 ·refine jD<|jB<|kx [] [(1, some (bx (jK (kJ 0))))] (zE (jZ (t_of 0 (by decide) (by decide)))<|zT (qM jV)<|zZ) ?_
  refine jE ⟨_, (kU (cs := (bx (jK (kJ 0)))) (d := (jK (kJ 0))) rfl rfl jV rfl rfl .nil), ?_⟩
  rw [← hx.v, toZ_bad h1, ofZ_zero]; rfl
theorem f_newO (num : kS) (a : Int) (fD : yP num a 68719476736) (den : kS) (b : Int) (cZ : yP den b 68719476736) (hb : b ≠ 0) : jT Tryz.prog 148 [(jK num), (jK den)] (.tup [(jH (jM (Rat.divInt a b))), (.val (.int .i64 (0)))]) := by
 refine jJ Tryz.func148 rfl cb148 rfl ?_
 show qR _ _ _ _ ⟨[(0, (.d (jK num))), (1, (.d (jK den)))], []⟩
 refine jB<|kx [(2, (.ref 0 0)), (3, (.ref 1 0)), (4, (.ref 2 0))] [(0, some (bx (jK num))), (1, some (bx (jK den))), (2, some (bx (jH kW)))] (zN (xA 0)<|zN (xA 1)<|zN (uU 2 qA qO)<|zM<|zZ) ?_
 refine jB<|kd [] [(0, some (bx (jK (kJ a)))), (1, some (bx (jK (kJ b))))] mo (wR (kP jV)<|wE (jZ (f_counted num a fD))<|wR (kP jV)<|wE (jZ (f_counted den b cZ))<|wT (qM jV)<|wT (qM jV)<|wZ) ?_
 refine jB<|jB<|kx [(12, (vb false))] [] (zR (kP jV)<|zE (jZ (s_sign (nT (yP.ln cZ)) (by decide)))<|zE (xL false gA (by exact beq_eq_false_iff_ne.2 (signI_ne hb)))<|zZ) ?_
 refine kZ ?_
 refine jD<|jB<|kx [(5, (jN 0))] [(2, some (bx (jH (jM (Rat.divInt a b)))))] (zR (kP jV)<|zR (kP jV)<|zE (jZ (cP (kJ a) (kJ b) a b (nT (yP.ln fD)) (nT (yP.ln cZ)) (by assumption)))<|zT (qM jO)<|zM<|zZ) ?_
 refine jE ⟨_, (kU (cs := (bx (jH (jM (Rat.divInt a b))))) (d := (jH (jM (Rat.divInt a b)))) rfl rfl jO rfl rfl (.tmp (d := (.val (.int .i64 (0)))) rfl .nil)), ?_⟩
 rfl
end Go.Proofs.YtnajallgoaiahaaGreatDoor
