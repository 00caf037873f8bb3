/- Part 30 of a proof: rules, plain facts, and functions walked. -/
import Derived.Test.YtnajallgoaiahaaGreatDoorM29
import Derived.Test.YtnajallgoaiahaaGreatDoorM21
import Derived.Test.YtnajallgoaiahaaGreatDoorM24
import Derived.Test.YtnajallgoaiahaaGreatDoorM11
namespace Go.Proofs.YtnajallgoaiahaaGreatDoor
open Go.Fid
set_option maxRecDepth 4000
set_option linter.unusedVariables false
set_option linter.unusedSimpArgs false
theorem cb234 : callB Tryz.prog 234 = true := by kernel_rfl
theorem cb235 : callB Tryz.prog 235 = true := by kernel_rfl
theorem cb256 : callB Tryz.prog 256 = true := by kernel_rfl
theorem cb257 : callB Tryz.prog 257 = true := by kernel_rfl
theorem cb265 : callB Tryz.prog 265 = true := by kernel_rfl
theorem cb268 : callB Tryz.prog 268 = true := by kernel_rfl
theorem cb271 : callB Tryz.prog 271 = true := by kernel_rfl
theorem cb272 : callB Tryz.prog 272 = true := by kernel_rfl
theorem cb273 : callB Tryz.prog 273 = true := by kernel_rfl
theorem in3 : intB Tryz.prog 3 = some .i64 := by kernel_rfl
theorem st9 : strB Tryz.prog 9 = true := by kernel_rfl
theorem d_small  : jV Tryz.prog 273 [(.val (.int .i64 (((2 : Nat) : Int))))] (.val (.string (ByteArray.mk #[50]))) := by
 refine jJ Tryz.func273 rfl cb273 rfl ?_
 show qI _ _ _ _ ⟨[(0, (jW 2))], []⟩
 refine jB <| kx [] [] (zM <| zZ) ?_
 refine jB <| jB <| kx [(4, (vb true))] [] (zM <| zE (xI true xK) <| zZ) ?_
 refine gB ?_
 refine jB <| kx [(2, (.d (.val (.string (ByteArray.mk #[50])))))] [] (zM <| zM <| zE (vU 3 (hr := by decide)) <| zE (oSstr (l := 2) (h := 3) (r := ByteArray.mk #[50]) st9) <| zM <| zZ) ?_
 refine jG ⟨_, (.tmp (d := (.val (.string (ByteArray.mk #[50])))) rfl .nil), ?_⟩
 rfl
theorem d_fmt  : jV Tryz.prog 272 [(.val (.int .i64 (((2 : Nat) : Int)))), (.val (.int .i64 (((10 : Nat) : Int))))] (.val (.string (ByteArray.mk #[50]))) := by
 refine jJ Tryz.func272 rfl cb272 rfl ?_
 show qI _ _ _ _ ⟨[(0, (jW 2)), (1, (jW 10))], []⟩
 refine jB <| kx [] [] (zM <| zZ) ?_
 refine jB <| jB <| kx [(11, (vb true))] [] (zM <| zE (xI true nF) <| zZ) ?_
 refine gB ?_
 refine jB <| jB <| kx [(17, (vb true))] [] (zM <| zE (xI true oLe) <| zM <| zM <| zE (xI true xK) <| zE vY <| zZ) ?_
 refine gB ?_
 refine jB <| kx [(4, (.d (.val (.string (ByteArray.mk #[50])))))] [] (zM <| zE (jX d_small) <| zM <| zZ) ?_
 refine jG ⟨_, (.tmp (d := (.val (.string (ByteArray.mk #[50])))) rfl .nil), ?_⟩
 rfl
theorem d_itoaI  : jV Tryz.prog 271 [(.val (.int .i64 (((2 : Nat) : Int))))] (.val (.string (ByteArray.mk #[50]))) := by
 refine jJ Tryz.func271 rfl cb271 rfl ?_
 show qI _ _ _ _ ⟨[(0, (jW 2))], []⟩
 refine jB <| kx [] [] (zM <| zZ) ?_
 refine jB <| kx [(2, (.d (.val (.string (ByteArray.mk #[50])))))] [] (zM <| zE (jX d_fmt) <| zM <| zZ) ?_
 refine jG ⟨_, (.tmp (d := (.val (.string (ByteArray.mk #[50])))) rfl .nil), ?_⟩
 rfl
theorem d_itoa  : jV Tryz.prog 268 [(.val (.int .i64 (((2 : Nat) : Int))))] (.val (.string (ByteArray.mk #[50]))) := by
 refine jJ Tryz.func268 rfl cb268 rfl ?_
 show qI _ _ _ _ ⟨[(0, (jW 2))], []⟩
 refine jB <| kx [] [] (zM <| zZ) ?_
 refine jB <| kx [(2, (.d (.val (.string (ByteArray.mk #[50])))))] [] (zM <| zE (jX d_itoaI) <| zM <| zZ) ?_
 refine jG ⟨_, (.tmp (d := (.val (.string (ByteArray.mk #[50])))) rfl .nil), ?_⟩
 rfl
theorem d_digits  : jV Tryz.prog 265 [(.sl 140 1 (List.map jC [2]))] (.val (.int .i64 (((1 : Nat) : Int)))) := by
 refine jJ Tryz.func265 rfl cb265 rfl ?_
 show qI _ _ _ _ ⟨[(0, (vl 140 1 jC [2]))], []⟩
 refine jB <| kx [] [] (zM <| zZ) ?_
 refine jB <| jB <| kx [(5, (vb false))] [] (zM <| zE (oLn kJ 1) <| zE (xI false nF) <| zZ) ?_
 refine qA ?_
 refine jF <| jB <| kx [(2, (jW 1))] [] (zM <| zE (oLn kJ 1) <| zE (oSb 0 (hr := by decide)) <| zE (oMl 0 (hr := by decide)) <| zM <| zM <| zE (oLn kJ 1) <| zE (oSb 0 (hr := by decide)) <| zE (oXs kJ 0) <| zE (xZ qK) <| zE (nO yC in3 2) <| zE (jX d_itoa) <| zE (oLstr st9 1) <| zE (vU 1 (hr := by decide)) <| zM <| zZ) ?_
 refine jG ⟨_, (.tmp (d := (.val (.int .i64 (((1 : Nat) : Int))))) rfl .nil), ?_⟩
 rfl
theorem d_rdig  : jV Tryz.prog 257 [(jM (jZ 2))] (.val (.int .i64 (((1 : Nat) : Int)))) := by
 have hg2 := g2len
 refine jJ Tryz.func257 rfl cb257 rfl ?_
 show qI _ _ _ _ ⟨[(0, (.d (jM (jZ 2))))], []⟩
 refine jB <| kx [(1, (.ref 0 0))] [(0, some (bx (jM (jZ 2))))] (zN (vL 0) <| zM <| zZ) ?_
 refine jB <| kx [] [(0, some (bx (jM (jZ (jY (jZ 2))))))] (zR (kR jS) <| zE (jX (hZ (jZ 2) (by omega))) <| zT (qC jS) <| zZ) ?_
 refine jB <| kx [(3, (jW 1))] [] (zE (qH uR) <| zR (oQr (.sl 140 1 (List.map jC (ofNat (Int.natAbs (jY (jZ 2)))))) (.sl 140 1 (List.map jC [2])) (qP xG) (by exact (congrArg (fun l => kD.sl 140 1 (List.map jC l)) g2z))) <| zE (oLn kJ 1) <| zM <| zZ) ?_
 refine jB <| jB <| kx [(12, (vb false))] [] (zM <| zE (xI false nF) <| zZ) ?_
 refine qA ?_
 refine jF <| jB <| kx [(4, (jW 0))] [] (zM <| zE (oSb 0 (hr := by decide)) <| zE (oMl 0 (hr := by decide)) <| zM <| zZ) ?_
 refine jB <| jB <| kx [(5, (dL 2))] [] (zE (qH uR) <| zR (oQr (.sl 140 1 (List.map jC (ofNat (Int.natAbs (jY (jZ 2)))))) (.sl 140 1 (List.map jC [2])) (qP xG) (by exact (congrArg (fun l => kD.sl 140 1 (List.map jC l)) g2z))) <| zM <| zE (oSb 0 (hr := by decide)) <| zE (oXs kJ 0) <| zE (xZ qK) <| zM <| zZ) ?_
 refine jI <| pwp_rounds 20 ?_
 refine pwp_round <| jB <| jB <| kx [(23, (vb true))] [] (zM <| zE (xI true hC) <| zZ) ?_
 refine gB ?_
 refine jF <| jB <| jI <| kx [(4, (jW 1))] [] (zM <| zE (vU 1 (hr := by decide)) <| zM <| zZ) ?_
 refine kx [(5, (dL 0))] [] (zM <| zE (oQu 0 (hr := by decide)) <| zM <| zZ) ?_
 refine fN (uP.refl _) ?_
 refine jB <| jB <| kx [(23, (vb false))] [] (zM <| zE (xI false hC) <| zZ) ?_
 refine qA ?_
 refine kL <| jB <| kx [(2, (jW 1))] [] (zM <| zM <| zZ) ?_
 refine jG ⟨_, (.tmp (d := (.val (.int .i64 (((1 : Nat) : Int))))) rfl .nil), ?_⟩
 rfl
theorem d_pow (n : Nat) (hn : n ≤ 1024) : jV Tryz.prog 256 [(jM (jZ 2)), (.val (.int .i64 (((n : Nat) : Int))))] (.tup [(jM (jZ ((2 ^ n : Nat) : Int))), (.val (.int .i64 (0)))]) := by
 have hg2 := g2len
 refine jJ Tryz.func256 rfl cb256 rfl ?_
 show qI _ _ _ _ ⟨[(0, (.d (jM (jZ 2)))), (1, (jW n))], []⟩
 refine jB <| kx [(2, (.ref 0 0)), (4, (.ref 1 0))] [(0, some (bx (jM (jZ 2)))), (1, some (bx (jM (jD.mk false []))))] (zN (vL 0) <| zN (qS 1 vP vQ) <| zM <| zZ) ?_
 refine jB <| kx [(6, (vl 140 1 jC [2]))] [] (zR (kR jS) <| zE (oQd (.sl 140 1 (List.map jC (kS (jZ 2)))) (.sl 140 1 (List.map jC [2])) (jX (yN (jZ 2) (by omega))) (by exact (congrArg (fun l => kD.sl 140 1 (List.map jC l)) g2))) <| zM <| zZ) ?_
 refine jB <| jI <| jB <| kx [(11, (vb false))] [] (zM <| zE (xI false xK (by exact decide_eq_false (show ¬ ((n : Nat) : Int) < 0 by omega))) <| zM <| zM <| zE (xI false hC (by exact decide_eq_false (show ¬ 4096 < ((n : Nat) : Int) by omega))) <| zE yI <| zM <| zZ) ?_
 refine qA ?_
 refine jB <| kx [(19, (vb false))] [] (zM <| zM <| zE (jX d_digits) <| zE (oMl (n * 1)) <| zE (xI false hC (by exact decide_eq_false (show ¬ 20000 < (((n * 1) : Nat) : Int) by omega))) <| zM <| zZ) ?_
 refine qA ?_
 refine jF <| jB <| kx [(7, (vl 140 1 jC [1]))] [] (zE (eI kJ vB xV) <| zM <| zZ) ?_
 refine jB <| jB <| kx [(8, (jW 4096))] [] (zM <| zZ) ?_
 refine jI <| kN (α := Nat × Nat × List Nat) (fun (i, b, out) => ⟨[(1, (jW n)), (2, (.ref 0 0)), (4, (.ref 1 0)), (6, (vl 140 1 jC [2])), (7, (vl 140 1 jC out)), (8, (jW b))], [(0, some (bx (jM (jZ 2)))), (1, some (bx (jM (jD.mk false []))))]⟩) (fun (i, b, out) => i ≤ 13 ∧ b = 4096 / 2 ^ i ∧ out = ofNat (pwS n i)) (fun (i, b, out) => 13 - i) (0, 4096, [1]) wk ⟨Nat.zero_le _, rfl, pwS_0 (by omega)⟩ ?_
 rintro ⟨i, b, out⟩ ⟨hi, hbi, ho⟩
 have hdo : Dig out := ho ▸ kF _
 have hlo : out.length ≤ 4097 := ho ▸ len_pwS (by omega) i
 have hdt : Dig [2] := by intro d hd; rw [List.mem_singleton.1 hd]; decide
 have hvo : val out = pwS n i := by rw [ho, kB]
 have hbl : b ≤ 4096 := hbi ▸ Nat.div_le_self _ _
 have hdq : Dig (ofNat (val out * val out)) := kF _
 have hl2 : [2].length ≤ 1 := Nat.le_refl _
 refine jB <| jB <| kx [(28, (vb (decide (0 < ((b : Nat) : Int)))))] [] (zM <| zE hC <| zZ) ?_
 refine jH (b := decide (0 < ((b : Nat) : Int))) rfl (fun h1 => ?_) (fun h1 => ?_)
 ·replace h1 := of_decide_eq_true h1
  have hi2 := bit_pos hi (hbi ▸ h1)
  have hlq := len_sq hvo (show n ≤ 4096 by omega) hi2
  refine jF <| jB <| jI <| jB <| kx [(7, (vl 140 1 jC (ofNat (val out * val out))))] [] (zM <| zM <| zE (jX (t_times out out (by assumption) (by assumption) (by omega) (by omega))) <| zM <| zZ) ?_
  refine jB <| kx [(37, (vb ((((n &&& b) : Nat) : Int) != 0)))] [] (zM <| zM <| zE (oAb (n &&& b)) <| zE cS <| zZ) ?_
  refine jH (b := ((((n &&& b) : Nat) : Int) != 0)) rfl (fun h2 => ?_) (fun h2 => ?_)
  ·replace h2 := bne_iff_ne.1 h2
   refine kx [(7, (vl 140 1 jC (ofNat (val (ofNat (val out * val out)) * val [2]))))] [] (zM <| zM <| zE (jX (t_times (ofNat (val out * val out)) [2] (by assumption) (by assumption) (by omega) (by omega))) <| zM <| zZ) ?_
   refine kx [(8, (jW (b / 2)))] [] (zM <| zE (e_shr (n := 1) (((b / 2) : Nat) : Int) (hr := shr1 _)) <| zM <| zZ) ?_
   exact ⟨(i + 1, b / 2, ofNat (val (ofNat (val out * val out)) * val [2])), wk, ⟨by omega, by rw [hbi]; exact bit_half i, by rw [kB, hvo, ← pwS_odd hi2 (by rw [← hbi]; omega)]; rfl⟩, (by first | omega | (dsimp only; omega))⟩
  ·replace h2 := bne_eq_false_iff_eq.1 h2
   refine jF <| kx [(8, (jW (b / 2)))] [] (zM <| zE (e_shr (n := 1) (((b / 2) : Nat) : Int) (hr := shr1 _)) <| zM <| zZ) ?_
   exact ⟨(i + 1, b / 2, ofNat (val out * val out)), wk, ⟨by omega, by rw [hbi]; exact bit_half i, by rw [hvo, pwS_even hi2 (by rw [← hbi]; omega)]⟩, (by first | omega | (dsimp only; omega))⟩
 ·replace h1 := of_decide_eq_false h1
  have hi13 := bit_end hi (hbi ▸ h1)
  refine kL <| jB <| kx [(5, (jW 0))] [(1, some (bx (jM (vS ((jZ 2).neg && ((((n % 2) : Nat) : Int) == 1)) (val out)))))] ?_ ?_
  ·refine zE (qH uQ) <| zR (qP aG) <| zE (oV (vb ((jZ 2).neg)) (kY (by kernel_rfl))) <| ?_
   rcases hb3 : ((jZ 2).neg) with _ | _
   ·exact zK <| zK <| zK <| zE yI <| zM <| zE (jX (nK false out (by assumption) (by omega))) <| zT (qC jS) <| zM <| zZ
   ·exact zM <| zE (oRe (n % 2)) <| zE nF <| zE eV <| zM <| zE (jX (nK (true && ((((n % 2) : Nat) : Int) == 1)) out (by assumption) (by omega))) <| zT (qC jS) <| zM <| zZ
  refine jG ⟨_, (kU (cs := (bx (jM (vS ((jZ 2).neg && ((((n % 2) : Nat) : Int) == 1)) (val out))))) (d := (jM (vS ((jZ 2).neg && ((((n % 2) : Nat) : Int) == 1)) (val out)))) rfl rfl jS rfl rfl (.tmp (d := (.val (.int .i64 (0)))) rfl .nil)), ?_⟩
  rw [ho, hi13, neg2, Bool.false_and, mk_two]; rfl
theorem d_rpow (n : Nat) (hn : n ≤ 4096) : jV Tryz.prog 234 [(jM (jZ 2)), (.val (.int .i64 (((n : Nat) : Int))))] (.tup [(jM (jZ ((2 ^ n : Nat) : Int))), (.val (.int .i64 (0)))]) := by
 refine jJ Tryz.func234 rfl cb234 rfl ?_
 show qI _ _ _ _ ⟨[(0, (.d (jM (jZ 2)))), (1, (jW n))], []⟩
 refine jB <| kx [(2, (.ref 0 0)), (4, (.ref 1 0))] [(0, some (bx (jM (jZ 2)))), (1, some (bx (jM (jD.mk false []))))] (zN (vL 0) <| zN (qS 1 vP vQ) <| zM <| zZ) ?_
 refine jB <| jB <| kx [(13, (vb false))] [] (zM <| zE (xI false xK (by exact decide_eq_false (show ¬ ((n : Nat) : Int) < 0 by omega))) <| zM <| zM <| zE (xI false hC (by exact decide_eq_false (show ¬ 4096 < ((n : Nat) : Int) by omega))) <| zE yI <| zZ) ?_
 refine qA ?_
 refine jF <| jB <| jB <| kx [(19, (vb false))] [] (zM <| zR (kR jS) <| zE (jX d_rdig) <| zE (oMl (n * 1)) <| zE (xI false hC (by exact decide_eq_false (show ¬ 20000 < (((n * 1) : Nat) : Int) by omega))) <| zZ) ?_
 refine qA ?_
 refine jF <| jB <| kx [(6, (.ref 2 0))] [(2, some (bx (jM (jZ 1))))] (zE (jX (r_of 1 (by decide) (by decide))) <| zN (qS 2 vP vQ) <| zT (qC jS) <| zZ) ?_
 refine jB <| jB <| kx [(7, (jW 0))] [] (zM <| zZ) ?_
 refine jI <| kN (α := Nat × Int) (fun (i, m) => ⟨[(1, (jW n)), (2, (.ref 0 0)), (4, (.ref 1 0)), (6, (.ref 2 0)), (7, (jW i))], [(0, some (bx (jM (jZ 2)))), (1, some (bx (jM (jD.mk false [])))), (2, some (bx (jM (jZ m))))]⟩) (fun (i, m) => i ≤ n ∧ m = ((2 ^ i : Nat) : Int)) (fun (i, m) => n - i) (0, 1) wk ⟨Nat.zero_le _, rfl⟩ ?_
 rintro ⟨i, m⟩ ⟨hi, hm⟩
 have hio := iok_m hm (by omega)
 refine jB <| jB <| kx [(24, (vb (decide (((i : Nat) : Int) < ((n : Nat) : Int)))))] [] (zM <| zM <| zE xK <| zZ) ?_
 refine jH rfl (fun h1 => ?_) (fun h1 => ?_)
 ·replace h1 := of_decide_eq_true h1
  refine jF <| jB <| jI <| kx [] [(2, some (bx (jM (jZ (m * 2)))))] (zR (kR jS) <| zR (kR jS) <| zE (jX (rs_mul hio (uU (z := 2) (by decide)) (by decide) (by decide))) <| zT (qC jS) <| zZ) ?_
  refine kx [(7, (jW (i + 1)))] [] (zM <| zE (vU (i + 1)) <| zM <| zZ) ?_
  exact ⟨(i + 1, m * 2), wk, ⟨by omega, two_step hm⟩, (by first | omega | (dsimp only; omega))⟩
 ·replace h1 := of_decide_eq_false h1
  refine kL <| jB <| kx [(5, (jW 0))] [(1, some (bx (jM (jZ m))))] (zR (kR jS) <| zT (qC jS) <| zM <| zZ) ?_
  refine jG ⟨_, (kU (cs := (bx (jM (jZ m)))) (d := (jM (jZ m))) rfl rfl jS rfl rfl (.tmp (d := (.val (.int .i64 (0)))) rfl .nil)), ?_⟩
  rw [hm, show i = n by omega]; rfl
theorem d_log (z : Int) (hz : vO (jZ z) z 1000000) : jV Tryz.prog 235 [(jM (jZ z))] (.val (.int .i64 ((logI z)))) := by
 have hzl := hz.ln
 have hzg := hz.l
 refine jJ Tryz.func235 rfl cb235 rfl ?_
 show qI _ _ _ _ ⟨[(0, (.d (jM (jZ z))))], []⟩
 refine jB <| kx [(1, (.ref 0 0))] [(0, some (bx (jM (jZ z))))] (zN (vL 0) <| zM <| zZ) ?_
 refine jB <| kx [(3, (vl 140 1 jC (ofNat (Int.natAbs z))))] [] (zR (kR jS) <| zE (jX (hZ (jZ z) (by omega))) <| zE (oQd (.sl 140 1 (List.map jC (ofNat (Int.natAbs (jY (jZ z)))))) (.sl 140 1 (List.map jC (ofNat (Int.natAbs z)))) (oF1 dY xG) (by exact (by rw [gV]))) <| zE (oQd (.sl 140 1 (List.map jC (ofNat (Int.natAbs z)))) (.sl 140 1 (List.map jC (ofNat (Int.natAbs z)))) (oV (vl 140 1 jC (ofNat (Int.natAbs z))) (kY (by kernel_rfl))) (by exact rfl)) <| zZ) ?_
 refine jB <| kx [(4, (vi (-1)))] [] (zM <| zZ) ?_
 refine jB <| jI <| kN (α := Nat × Int) (fun (v, k) => ⟨[(3, (vl 140 1 jC (ofNat v))), (4, (vi k))], []⟩) (fun (v, k) => (v ≤ z.natAbs ∧ -1 ≤ k ∧ k + (v.log2 : Int) ≤ (z.natAbs.log2 : Int)) ∧ logI z = k + 1 + logN v) (fun (v, k) => v) (z.natAbs, -1) wk ⟨⟨Nat.le_refl _, by decide, by omega⟩, by rw [logI_N]; omega⟩ ?_
 rintro ⟨v, k⟩ ⟨⟨hv, hk1, hk2⟩, hl⟩
 have hdv := kF v
 have hlv : (ofNat v).length ≤ 1000000 := Nat.le_trans (uI hv) hzl
 have hzb := log_cap hzl
 refine jB <| jB <| kx [(11, (vb (decide (1 < (((ofNat v).length : Nat) : Int)))))] [] (zM <| zE (vG kJ (L := (ofNat v))) <| zE hC <| zZ) ?_
 refine jH rfl (fun h1 => ?_) (fun h1 => ?_)
 ·replace h1 := of_decide_eq_true h1
  refine jF <| jI <| jB <| kx [(3, (vl 140 1 jC (ofNat (val (ofNat v) / 536870912))))] [] (zM <| zE (jX (r_short (ofNat v) 536870912 (by first | assumption | exact kF _ | exact (kW _).1 | exact (qD _).1) (by omega) (by omega) (by omega))) <| zM <| zE uZ <| zE uZ <| zE (oQd (.sl 140 1 (List.map jC (ofNat (val (ofNat v) / 536870912)))) (.sl 140 1 (List.map jC (ofNat (val (ofNat v) / 536870912)))) (oV (vl 140 1 jC (ofNat (val (ofNat v) / 536870912))) (kY (by kernel_rfl))) (by exact rfl)) <| zZ) ?_
  refine kx [(4, (vi (k + 29)))] [] (zM <| zE (zAd (k + 29)) <| zM <| zZ) ?_
  exact ⟨(val (ofNat v) / 536870912, k + 29), wk, (by rw [kB]; have h9 := len_gt1 h1; have e := log_29 h9; have e2 := log2_step (x := v) (by omega); exact ⟨⟨by omega, by omega, by omega⟩, by omega⟩), (by dsimp only; rw [kB]; have h9 := len_gt1 h1; omega)⟩
 ·replace h1 := of_decide_eq_false h1
  have hu1 := len_le1 h1
  refine kL <| jB <| jB <| kx [(5, (yG ((ofNat v).getD 0 0)))] [] (zM <| zE (jX (dJ (ofNat v) 0 (by first | assumption | exact kF _ | exact (kW _).1 | exact (qD _).1))) <| zM <| zZ) ?_
  refine jI <| kN (α := Nat × Int) (fun (u, k) => ⟨[(4, (vi k)), (5, (yG u))], []⟩) (fun (u, k) => (u < 1000000000 ∧ -1 ≤ k ∧ k ≤ 2305843009213693951 - u) ∧ logI z = k + 1 + logN u) (fun (u, k) => u) ((ofNat v).getD 0 0, k) wk (by rw [hu1.1]; exact ⟨⟨hu1.2, hk1, by have := hu1.2; omega⟩, hl⟩) ?_
  rintro ⟨u, k⟩ ⟨⟨hu, hk3, hk4⟩, hl2⟩
  refine jB <| jB <| kx [(22, (vb (decide (0 < ((u : Nat) : Int)))))] [] (zM <| zE hC <| zZ) ?_
  refine jH (b := decide (0 < ((u : Nat) : Int))) rfl (fun h2 => ?_) (fun h2 => ?_)
  ·replace h2 := of_decide_eq_true h2
   refine jF <| jB <| jI <| kx [(4, (vi (k + 1)))] [] (zM <| zE (zAd (k + 1)) <| zM <| zZ) ?_
   refine kx [(5, (yG (u / 2)))] [] (zM <| zE (oQu (u / 2)) <| zM <| zZ) ?_
   exact ⟨(u / 2, k + 1), wk, (by have e := log_1 (v := u) (by omega); exact ⟨⟨by omega, by omega, by omega⟩, by omega⟩), (by first | omega | (dsimp only; omega))⟩
  ·replace h2 := of_decide_eq_false h2
   refine kL <| jB <| kx [(2, (vi k))] [] (zM <| zM <| zZ) ?_
   refine jG ⟨_, (.tmp (d := (.val (.int .i64 (k)))) rfl .nil), ?_⟩
   rw [hl2, show u = 0 by omega, show k + 1 + logN 0 = k by show k + 1 + -1 = k; omega]; rfl
end Go.Proofs.YtnajallgoaiahaaGreatDoor
namespace Go.Proofs.YtnajallgoaiahaaGreatDoor
open Go.Fid
set_option maxRecDepth 4000
set_option linter.unusedVariables false
set_option linter.unusedSimpArgs false
theorem cb159 : callB Tryz.prog 159 = true := by kernel_rfl
theorem cb231 : callB Tryz.prog 231 = true := by kernel_rfl
theorem d_rroot (z : Int) (hz : vO (jZ z) z 200) (hz0 : 0 ≤ z) : jV Tryz.prog 159 [(jM (jZ z))] (.tup [(jM (jZ (kH z))), (.val (.int .i64 (0)))]) := by
 have hzl := hz.ln
 have hzg := hz.l
 have hzb := log_cap hzl
 refine jJ Tryz.func159 rfl cb159 rfl ?_
 show qI _ _ _ _ ⟨[(0, (.d (jM (jZ z))))], []⟩
 refine jB <| kx [(1, (.ref 0 0)), (2, (.ref 1 0))] [(0, some (bx (jM (jZ z)))), (1, some (bx (jM (jD.mk false []))))] (zN (vL 0) <| zN (qS 1 vP vQ) <| zM <| zZ) ?_
 refine jB <| kx [] [(0, some (bx (jM (jZ z))))] (zR (kR jS) <| zE (oQd (jM (jZ (jY (jZ z)))) (jM (jZ z)) (jX (hZ (jZ z) (by omega))) (by exact (congrArg jM (by rw [gV])))) <| zT (qC jS) <| zZ) ?_
 refine jB <| jB <| kx [(14, (vb ((jZ z).neg)))] [] (zE (qH uQ) <| zR (qP aG) <| zZ) ?_
 refine jH (b := (jZ z).neg) rfl (fun h1 => ?_) (fun h1 => ?_)
 ·exact (neg_abs hz0 h1).elim
 ·refine jF <| jB <| kd [(4, (.ref 2 0)), (5, (.ref 3 0))] [(2, some (bx (jM (jZ 0)))), (3, some (bx (jM (jZ (z + 1)))))] mo (wE (jX (r_of 0 (by decide) (by decide))) <| wR (kR jS) <| wE (jX (r_of 1 (by decide) (by decide))) <| wE (jX (rs_add hz (uU (z := 1) (by decide)) (by decide) (by decide))) <| wN (qS 2 vP vQ) <| wN (qS 3 vP vQ) <| wT (qC jS) <| wT (qC jS) <| wZ) ?_
  refine jB <| jB <| kx [(22, (vb (decide (0 < (logI z)))))] [] (zR (kR jS) <| zE (jX (d_log z (iu hz))) <| zE hC <| zZ) ?_
  refine jH (b := decide (0 < (logI z))) rfl (fun h2 => ?_) (fun h2 => ?_)
  ·replace h2 := of_decide_eq_true h2
   obtain ⟨hz1, hlg⟩ := lg_gt hz0 h2
   refine jB <| kd [(6, (.ref 4 0))] [(4, some (bx (jM (jZ ((2 ^ (z.natAbs.log2 / 2 + 1) : Nat) : Int)))))] mo (wE (jX (r_of 2 (by decide) (by decide))) <| wR (kR jS) <| wE (jX (d_log z (iu hz))) <| wE (oQu (z.natAbs.log2 / 2) (hr := by exact (by rw [hlg]; exact quo_i64 _ 2 (by omega)))) <| wE (vU (z.natAbs.log2 / 2 + 1)) <| wE (jX (d_rpow (z.natAbs.log2 / 2 + 1) (by omega))) <| wM <| wE uZ <| wE uZ <| wN (qS 4 vP vQ) <| wT (qC jS) <| wM <| wZ) ?_
   refine kx [] [(3, some (bx (jM (jZ ((2 ^ (z.natAbs.log2 / 2 + 1) : Nat) : Int)))))] (zR (kR jS) <| zT (qC jS) <| zZ) ?_
   refine jB <| jI <| kN (α := Int × Int) (fun (l, h) => ⟨[(1, (.ref 0 0)), (2, (.ref 1 0)), (4, (.ref 2 0)), (5, (.ref 3 0))], [(0, some (bx (jM (jZ z)))), (1, some (bx (jM (jD.mk false [])))), (2, some (bx (jM (jZ l)))), (3, some (bx (jM (jZ h))))]⟩) (fun (l, h) => (0 ≤ l ∧ l < h ∧ l * l ≤ z ∧ z < h * h) ∧ gN h ≤ 4100) (fun (l, h) => (h - l).toNat) (0, ((2 ^ (z.natAbs.log2 / 2 + 1) : Nat) : Int)) wk ⟨⟨Int.le_refl 0, two_pos _, hz0, root_pow hz1⟩, two_cap (by omega)⟩ ?_
   rintro ⟨l, h⟩ ⟨⟨hl0, hlh, hl2, hh2⟩, hhn⟩
   have hih : vO (jZ h) h 4100 := yJ hhn
   have hil : vO (jZ l) l 4100 := yJ (Nat.le_trans (gY (by omega)) hhn)
   refine jB <| jB <| kx [(38, (vb (decide (0 < (uC (h - l) 1)))))] [] (zR (kR jS) <| zR (kR jS) <| zE (jX (rs_sub hih hil (by decide) (by decide))) <| zE (jX (r_of 1 (by decide) (by decide))) <| zE (jX (dR (iok_sub (k := 4101) hih hil (by decide)) (uU (z := 1) (by decide)) (by decide) (by decide))) <| zE hC <| zZ) ?_
   refine jH (b := decide (0 < (uC (h - l) 1))) rfl (fun h3 => ?_) (fun h3 => ?_)
   ·replace h3 := of_decide_eq_true h3
    have hmd := half_bd hl0 (cmpI_gt0.1 h3)
    refine jF <| jI <| jB <| kx [(8, (.ref 5 0))] [(5, some (bx (jM (jZ ((l + h).fdiv 2))))), (6, none)] (zR (kR jS) <| zR (kR jS) <| zE (jX (rs_add hil hih (by decide) (by decide))) <| zE (jX (r_of 2 (by decide) (by decide))) <| zE (jX (cA (gU (k := 4101) hil hih (by decide)) (uU (z := 2) (by decide)) (by decide) (by decide) (by omega))) <| zM <| zE uZ <| zE uZ <| zE uZ <| zN (qS 5 vP vQ) <| zN (qS 6 vP vQ) <| zT (qC jS) <| zT (qC jS) <| zM <| zZ) ?_
    refine jB <| kd [(53, (vb (decide ((uC (((l + h).fdiv 2) * ((l + h).fdiv 2)) z) ≤ 0))))] [] mo (wR (kR jS) <| wR (kR jS) <| wE (jX (rs_mul (nP (k := 4102) (gU (k := 4101) hil hih (by decide)) (uU (z := 2) (by decide)) (by decide)) (nP (k := 4102) (gU (k := 4101) hil hih (by decide)) (uU (z := 2) (by decide)) (by decide)) (by decide) (by decide))) <| wR (kR jS) <| wE (jX (dR (zV (k := 8204) (nP (k := 4102) (gU (k := 4101) hil hih (by decide)) (uU (z := 2) (by decide)) (by decide)) (nP (k := 4102) (gU (k := 4101) hil hih (by decide)) (uU (z := 2) (by decide)) (by decide)) (by decide)) hz (by decide) (by decide))) <| wE oLe <| wZ) ?_
    refine jH rfl (fun h4 => ?_) (fun h4 => ?_)
    ·replace h4 := of_decide_eq_true h4
     refine kx [] [(2, some (bx (jM (jZ ((l + h).fdiv 2)))))] (zR (kR jS) <| zT (qC jS) <| zZ) ?_
     exact ⟨((l + h).fdiv 2, h), wk, ⟨⟨by omega, by omega, cmpI_le0.1 h4, hh2⟩, hhn⟩, (by first | omega | (dsimp only; omega))⟩
    ·replace h4 := of_decide_eq_false h4
     refine kx [] [(3, some (bx (jM (jZ ((l + h).fdiv 2)))))] (zR (kR jS) <| zT (qC jS) <| zZ) ?_
     exact ⟨(l, (l + h).fdiv 2), wk, ⟨⟨hl0, by omega, hl2, sq_gt h4⟩, lenZ_mid hl0 (by omega) (by omega) hhn⟩, (by first | omega | (dsimp only; omega))⟩
   ·replace h3 := of_decide_eq_false h3
    refine kL <| jB <| kx [(3, (jW 0))] [(1, some (bx (jM (jZ l))))] (zR (kR jS) <| zT (qC jS) <| zM <| zZ) ?_
    refine jG ⟨_, (kU (cs := (bx (jM (jZ l)))) (d := (jM (jZ l))) rfl rfl jS rfl rfl (.tmp (d := (.val (.int .i64 (0)))) rfl .nil)), ?_⟩
    rw [← root_end hz0 hl0 hl2 hh2 (by have := h3; rw [cmpI_gt0] at this; omega) hlh]; rfl
  ·replace h2 := of_decide_eq_false h2
   refine jF <| jB <| jI <| kN (α := Int × Int) (fun (l, h) => ⟨[(1, (.ref 0 0)), (2, (.ref 1 0)), (4, (.ref 2 0)), (5, (.ref 3 0))], [(0, some (bx (jM (jZ z)))), (1, some (bx (jM (jD.mk false [])))), (2, some (bx (jM (jZ l)))), (3, some (bx (jM (jZ h))))]⟩) (fun (l, h) => (0 ≤ l ∧ l < h ∧ l * l ≤ z ∧ z < h * h) ∧ gN h ≤ 4100) (fun (l, h) => (h - l).toNat) (0, (z + 1)) wk ⟨⟨Int.le_refl 0, by omega, hz0, root_top hz0⟩, Nat.le_trans (fM (k := 201) hz.ln (zB (z := 1) (by decide)) (by decide)) (by decide)⟩ ?_
   rintro ⟨l, h⟩ ⟨⟨hl0, hlh, hl2, hh2⟩, hhn⟩
   have hih : vO (jZ h) h 4100 := yJ hhn
   have hil : vO (jZ l) l 4100 := yJ (Nat.le_trans (gY (by omega)) hhn)
   refine jB <| jB <| kx [(38, (vb (decide (0 < (uC (h - l) 1)))))] [] (zR (kR jS) <| zR (kR jS) <| zE (jX (rs_sub hih hil (by decide) (by decide))) <| zE (jX (r_of 1 (by decide) (by decide))) <| zE (jX (dR (iok_sub (k := 4101) hih hil (by decide)) (uU (z := 1) (by decide)) (by decide) (by decide))) <| zE hC <| zZ) ?_
   refine jH (b := decide (0 < (uC (h - l) 1))) rfl (fun h5 => ?_) (fun h5 => ?_)
   ·replace h5 := of_decide_eq_true h5
    have hmd := half_bd hl0 (cmpI_gt0.1 h5)
    refine jF <| jI <| jB <| kx [(8, (.ref 7 0))] [(7, some (bx (jM (jZ ((l + h).fdiv 2))))), (8, none)] (zR (kR jS) <| zR (kR jS) <| zE (jX (rs_add hil hih (by decide) (by decide))) <| zE (jX (r_of 2 (by decide) (by decide))) <| zE (jX (cA (gU (k := 4101) hil hih (by decide)) (uU (z := 2) (by decide)) (by decide) (by decide) (by omega))) <| zM <| zE uZ <| zE uZ <| zE uZ <| zN (qS 7 vP vQ) <| zN (qS 8 vP vQ) <| zT (qC jS) <| zT (qC jS) <| zM <| zZ) ?_
    refine jB <| kd [(53, (vb (decide ((uC (((l + h).fdiv 2) * ((l + h).fdiv 2)) z) ≤ 0))))] [] mo (wR (kR jS) <| wR (kR jS) <| wE (jX (rs_mul (nP (k := 4102) (gU (k := 4101) hil hih (by decide)) (uU (z := 2) (by decide)) (by decide)) (nP (k := 4102) (gU (k := 4101) hil hih (by decide)) (uU (z := 2) (by decide)) (by decide)) (by decide) (by decide))) <| wR (kR jS) <| wE (jX (dR (zV (k := 8204) (nP (k := 4102) (gU (k := 4101) hil hih (by decide)) (uU (z := 2) (by decide)) (by decide)) (nP (k := 4102) (gU (k := 4101) hil hih (by decide)) (uU (z := 2) (by decide)) (by decide)) (by decide)) hz (by decide) (by decide))) <| wE oLe <| wZ) ?_
    refine jH rfl (fun h6 => ?_) (fun h6 => ?_)
    ·replace h6 := of_decide_eq_true h6
     refine kx [] [(2, some (bx (jM (jZ ((l + h).fdiv 2)))))] (zR (kR jS) <| zT (qC jS) <| zZ) ?_
     exact ⟨((l + h).fdiv 2, h), wk, ⟨⟨by omega, by omega, cmpI_le0.1 h6, hh2⟩, hhn⟩, (by first | omega | (dsimp only; omega))⟩
    ·replace h6 := of_decide_eq_false h6
     refine kx [] [(3, some (bx (jM (jZ ((l + h).fdiv 2)))))] (zR (kR jS) <| zT (qC jS) <| zZ) ?_
     exact ⟨(l, (l + h).fdiv 2), wk, ⟨⟨hl0, by omega, hl2, sq_gt h6⟩, lenZ_mid hl0 (by omega) (by omega) hhn⟩, (by first | omega | (dsimp only; omega))⟩
   ·replace h5 := of_decide_eq_false h5
    refine kL <| jB <| kx [(3, (jW 0))] [(1, some (bx (jM (jZ l))))] (zR (kR jS) <| zT (qC jS) <| zM <| zZ) ?_
    refine jG ⟨_, (kU (cs := (bx (jM (jZ l)))) (d := (jM (jZ l))) rfl rfl jS rfl rfl (.tmp (d := (.val (.int .i64 (0)))) rfl .nil)), ?_⟩
    rw [← root_end hz0 hl0 hl2 hh2 (by have := h5; rw [cmpI_gt0] at this; omega) hlh]; rfl
theorem d_root (z : Int) (hz : vO (jZ z) z 200) (hz0 : 0 ≤ z) : jV Tryz.prog 231 [(jM (jZ z))] (.tup [(jM (jZ (kH z))), (.val (.int .i64 (0)))]) := by
 have hzl : (ofNat z.natAbs).length ≤ 200 := hz.ln
 have hzg := hz.l
 refine jJ Tryz.func231 rfl cb231 rfl ?_
 show qI _ _ _ _ ⟨[(0, (.d (jM (jZ z))))], []⟩
 refine jB <| kx [(1, (.ref 0 0)), (2, (.ref 1 0))] [(0, some (bx (jM (jZ z)))), (1, some (bx (jM (jD.mk false []))))] (zN (vL 0) <| zN (qS 1 vP vQ) <| zM <| zZ) ?_
 refine jB <| kx [(4, (vl 140 1 jC (ofNat (Int.natAbs z))))] [] (zR (kR jS) <| zE (oQd (.sl 140 1 (List.map jC (kS (jZ z)))) (.sl 140 1 (List.map jC (ofNat (Int.natAbs z)))) (jX (yN (jZ z) (by omega))) (by exact (congrArg (fun l => kD.sl 140 1 (List.map jC l)) (grpI_ofZ z)))) <| zM <| zZ) ?_
 refine jB <| jB <| kx [(14, (vb ((((ofNat (Int.natAbs z)).length : Nat) : Int) == 0)))] [] (zM <| zE (vG kJ (L := (ofNat (Int.natAbs z)))) <| zE nF <| zZ) ?_
 refine jH rfl (fun h1 => ?_) (fun h1 => ?_)
 ·replace h1 := eq_of_beq h1
  refine jB <| kx [(3, (jW 0))] [(1, some (bx (jM (jD.mk false []))))] (zE (eJ pl43 vP vQ) <| zT (qC jS) <| zM <| zZ) ?_
  refine jG ⟨_, (kU (cs := (bx (jM (jD.mk false [])))) (d := (jM (jD.mk false []))) rfl rfl jS rfl rfl (.tmp (d := (.val (.int .i64 (0)))) rfl .nil)), ?_⟩
  rw [root_nil h1]; rfl
 ·replace h1 := ne_of_beq_false h1
  refine jF <| jB <| jB <| kx [(17, (vb ((jZ z).neg)))] [] (zE (qH uQ) <| zR (qP aG) <| zZ) ?_
  refine jH (b := (jZ z).neg) rfl (fun h2 => ?_) (fun h2 => ?_)
  ·exact (neg_abs hz0 h2).elim
  ·have hX : 0 < z.natAbs := by rcases Nat.eq_zero_or_pos z.natAbs with e | e; exact absurd (by rw [e, qU]; rfl) h1; exact e
   refine jF <| jB <| kf [(5, (.own 2 140 1 (((List.replicate (((ofNat (Int.natAbs z)).length + 1) / 2) 0) ++ [1]).length)))] [(2, some (bm jC ((List.replicate (((ofNat (Int.natAbs z)).length + 1) / 2) 0) ++ [1])))] (zM <| zE (vG kJ (L := (ofNat (Int.natAbs z)))) <| zE (vU ((ofNat (Int.natAbs z)).length + 1)) <| zE (oQu (((ofNat (Int.natAbs z)).length + 1) / 2)) <| zN (oMk 2 jC (0 : Nat) (((ofNat (Int.natAbs z)).length + 1) / 2) (((ofNat (Int.natAbs z)).length + 1) / 2) kJ vB xV gL) <| zE (eI kJ vB xV) <| zA jC (List.replicate (((ofNat (Int.natAbs z)).length + 1) / 2) 0) [1] (by rw [List.length_replicate]) kJ vB gL <| zM <| zF) ?_
   refine jI <| qE (vZ (t := 5) (k := 2) (es := List.map jC ((List.replicate (((ofNat (Int.natAbs z)).length + 1) / 2) 0) ++ [1])) rfl rfl (uM _ _ (fun _ => rfl)) (vC _ _ rfl) (vM _ _ (fun _ => rfl) rfl)) ?_
   refine kN (α := List Nat) (fun r => ⟨[(2, (.ref 1 0)), (4, (vl 140 1 jC (ofNat (Int.natAbs z)))), (5, (vl 140 1 jC r))], [(1, some (bx (jM (jD.mk false []))))]⟩) (fun r => (xU r ∧ 0 < val r ∧ z.natAbs < (val r + 1) * (val r + 1)) ∧ r.length ≤ 400) (fun r => val r) (List.replicate (((ofNat z.natAbs).length + 1) / 2) 0 ++ [1]) wk ⟨⟨nw_cano _, by rw [nw_start]; exact pw_pos _, nw_top⟩, by simp; omega⟩ ?_
   rintro r ⟨⟨hcr, hr0, hru⟩, hrl⟩
   have hcg : xU (ofNat z.natAbs) := kW _
   have hdr := hcr.1
   obtain ⟨q1, q2, q3⟩ := nw_lens (X := z.natAbs) (by omega) hrl hcr
   have hdq : Dig (ofNat (val (ofNat z.natAbs) / val r)) := kF _
   have hds : Dig (ofNat (val r + val (ofNat (val (ofNat z.natAbs) / val r)))) := kF _
   have hcn : xU (ofNat (val (ofNat (val r + val (ofNat (val (ofNat (Int.natAbs z)) / val r)))) / 2)) := kW _
   refine jI <| jB <| kx [(6, (vl 140 1 jC (ofNat (val (ofNat (Int.natAbs z)) / val r))))] [] (zM <| zM <| zE (jX (t_over (ofNat (Int.natAbs z)) r (by assumption) (by assumption) (by omega) (by omega) (by omega))) <| zM <| zE uZ <| zE uZ <| zM <| zM <| zZ) ?_
   refine jB <| kx [(8, (vl 140 1 jC (ofNat (val (ofNat (val r + val (ofNat (val (ofNat (Int.natAbs z)) / val r)))) / 2))))] [] (zM <| zM <| zE (jX (t_plus r (ofNat (val (ofNat (Int.natAbs z)) / val r)) (by assumption) (by assumption) (by omega) (by omega))) <| zE (jX (t_short (ofNat (val r + val (ofNat (val (ofNat (Int.natAbs z)) / val r)))) 2 (by assumption) (by omega) (by omega) (by omega))) <| zM <| zE uZ <| zE uZ <| zM <| zM <| zZ) ?_
   refine jB <| jB <| kx [(42, (vb (decide (0 ≤ (uC ((val (ofNat (val (ofNat (val r + val (ofNat (val (ofNat (Int.natAbs z)) / val r)))) / 2)) : Nat) : Int) ((val r : Nat) : Int))))))] [] (zM <| zM <| zE (jX (t_compare (ofNat (val (ofNat (val r + val (ofNat (val (ofNat (Int.natAbs z)) / val r)))) / 2)) r (by assumption) (by assumption) (by omega))) <| zE oGe <| zZ) ?_
   refine jH rfl (fun h3 => ?_) (fun h3 => ?_)
   ·replace h3 := of_decide_eq_true h3
    refine jB <| kx [(3, (jW 0))] [(1, some (bx (jM (vS false (val r)))))] (zM <| zE (jX (nK false r (by assumption) (by omega))) <| zT (qC jS) <| zM <| zZ) ?_
    refine jG ⟨_, (kU (cs := (bx (jM (vS false (val r))))) (d := (jM (vS false (val r)))) rfl rfl jS rfl rfl (.tmp (d := (.val (.int .i64 (0)))) rfl .nil)), ?_⟩
    rw [nw_end hz0 hr0 hru (nw_stop h3)]; rfl
   ·replace h3 := of_decide_eq_false h3
    refine jF <| kx [(5, (vl 140 1 jC (ofNat (val (ofNat (val r + val (ofNat (val (ofNat (Int.natAbs z)) / val r)))) / 2))))] [] (zM <| zM <| zZ) ?_
    exact ⟨(ofNat (val (ofNat (val r + val (ofNat (val (ofNat (Int.natAbs z)) / val r)))) / 2)), wk, (by obtain ⟨n1, n2, n3, n4⟩ := nw_ok z.natAbs hr0 hX h3; exact ⟨⟨n1, n2, n3⟩, Nat.le_trans (can_len n1 hcr (Nat.le_of_lt n4)) hrl⟩), (by obtain ⟨n1, n2, n3, n4⟩ := nw_ok z.natAbs hr0 hX h3; exact n4)⟩
end Go.Proofs.YtnajallgoaiahaaGreatDoor
namespace Go.Proofs.YtnajallgoaiahaaGreatDoor
open Go.Fid
set_option maxRecDepth 4000
set_option linter.unusedVariables false
set_option linter.unusedSimpArgs false
theorem cb160 : callB Tryz.prog 160 = true := by kernel_rfl
theorem cb230 : callB Tryz.prog 230 = true := by kernel_rfl
theorem cb232 : callB Tryz.prog 232 = true := by kernel_rfl
theorem d_floor (x : Rat) (hx : QL x 200) : jV Tryz.prog 232 [(jK (jT x))] (jM (jZ (vF x))) := by
 refine jJ Tryz.func232 rfl cb232 rfl ?_
 show qI _ _ _ _ ⟨[(0, (.d (jK (jT x))))], []⟩
 refine jB <| kx [(1, (.ref 0 0)), (2, (.ref 1 0))] [(0, some (bx (jK (jT x)))), (1, some (bx (jM (jD.mk false []))))] (zN (vL 0) <| zN (qS 1 vP vQ) <| zZ) ?_
 refine jB <| kx [] [(0, some (bx (jK (jT x))))] (zR (kR jR) <| zE (jX (dE (jT x) x (jP (kA hx) (by decide)))) <| zT (qC jR) <| zZ) ?_
 refine jB ?_
 have bn1 : vO (jZ (x.num.fdiv (x.den : Int))) (x.num.fdiv (x.den : Int)) 201 := (nP (k := 201) (uK hx) (uB hx) (by decide))
 refine kx [(3, (.ref 2 0))] [(2, some (bx (jM (jZ (x.num.fdiv (x.den : Int)))))), (3, none)] (zE (qH xY) <| zR (kR jS) <| zE (qH vV) <| zR (kR jS) <| zE (jX (s_divide (uK hx) (uB hx) (by decide) (by decide) (by have := x.den_nz; omega))) <| zM <| zE uZ <| zE uZ <| zE uZ <| zN (qS 2 vP vQ) <| zN (qS 3 vP vQ) <| zT (qC jS) <| zT (qC jS) <| zM <| zZ) ?_
 refine jB <| kx [] [(1, some (bx (jM (jZ (x.num.fdiv (x.den : Int))))))] (zR (kR jS) <| zT (qC jS) <| zZ) ?_
 refine jG ⟨_, (kU (cs := (bx (jM (jZ (x.num.fdiv (x.den : Int)))))) (d := (jM (jZ (x.num.fdiv (x.den : Int))))) rfl rfl jS rfl rfl .nil), ?_⟩
 rfl
theorem dr_floor (x : Rat) (hx : QL x 200) : jV Tryz.prog 160 [(jK (jT x))] (jM (jZ (vF x))) := by
 refine jJ Tryz.func160 rfl cb160 rfl ?_
 show qI _ _ _ _ ⟨[(0, (.d (jK (jT x))))], []⟩
 refine jB <| kx [(1, (.ref 0 0)), (2, (.ref 1 0))] [(0, some (bx (jK (jT x)))), (1, some (bx (jM (jD.mk false []))))] (zN (vL 0) <| zN (qS 1 vP vQ) <| zZ) ?_
 refine jB <| kx [(3, (.ref 2 0))] [(2, some (bx (jK (jT x))))] (zR (kR jR) <| zE (jX (fZ (jT x) x (jP (kA hx) (by decide)))) <| zN (qS 2 qX uA) <| zT (qC jR) <| zZ) ?_
 refine jB ?_
 have bn1 : vO (jZ (x.num.fdiv (x.den : Int))) (x.num.fdiv (x.den : Int)) 201 := (nP (k := 201) (uK hx) (uB hx) (by decide))
 refine kx [(4, (.ref 3 0))] [(3, some (bx (jM (jZ (x.num.fdiv (x.den : Int)))))), (4, none)] (zE (qH xY) <| zR (kR jS) <| zE (qH vV) <| zR (kR jS) <| zE (jX (cA (uK hx) (uB hx) (by decide) (by decide) (by have := x.den_nz; omega))) <| zM <| zE uZ <| zE uZ <| zE uZ <| zN (qS 3 vP vQ) <| zN (qS 4 vP vQ) <| zT (qC jS) <| zT (qC jS) <| zM <| zZ) ?_
 refine jB <| kx [] [(1, some (bx (jM (jZ (x.num.fdiv (x.den : Int))))))] (zR (kR jS) <| zT (qC jS) <| zZ) ?_
 refine jG ⟨_, (kU (cs := (bx (jM (jZ (x.num.fdiv (x.den : Int)))))) (d := (jM (jZ (x.num.fdiv (x.den : Int))))) rfl rfl jS rfl rfl .nil), ?_⟩
 rfl
theorem d_scaled (x : Rat) (hx : QL x 100) (k : Nat) (hk : k ≤ 512) : jV Tryz.prog 230 [(jK (jT x)), (.val (.int .i64 (((k : Nat) : Int))))] (.tup [(jK (jT (x * ((((2 ^ k : Nat) : Int) : Int) : Rat)))), (jM (jZ ((2 ^ k : Nat) : Int))), (.val (.int .i64 (0)))]) := by
 refine jJ Tryz.func230 rfl cb230 rfl ?_
 show qI _ _ _ _ ⟨[(0, (.d (jK (jT x)))), (1, (jW k))], []⟩
 refine jB <| kx [(2, (.ref 0 0)), (4, (.ref 1 0)), (5, (.ref 2 0))] [(0, some (bx (jK (jT x)))), (1, some (bx (jK (jE.mk (jD.mk false []) (jD.mk false []))))), (2, some (bx (jM (jD.mk false []))))] (zN (vL 0) <| zN (qS 1 qX uA) <| zN (qS 2 vP vQ) <| zM <| zZ) ?_
 refine jB <| jB <| kx [(14, (vb false))] [] (zM <| zE (xI false xK (by exact decide_eq_false (show ¬ ((k : Nat) : Int) < 0 by omega))) <| zM <| zM <| zE (xI false hC (by exact decide_eq_false (show ¬ 512 < ((k : Nat) : Int) by omega))) <| zE yI <| zZ) ?_
 refine qA ?_
 refine jF <| jB <| kx [(7, (.ref 3 0))] [(3, some (bx (jM (jZ ((2 ^ k : Nat) : Int)))))] (zE (jX (t_of 2 (by decide) (by decide))) <| zM <| zE (jX (d_pow k (by omega))) <| zM <| zE uZ <| zE uZ <| zN (qS 3 vP vQ) <| zT (qC jS) <| zM <| zZ) ?_
 refine jB ?_
 have bn1 : QL (x * ((((2 ^ k : Nat) : Int) : Int) : Rat)) 120 := (kM (k := 120) hx (vX (k := k) (by omega)) (by decide))
 refine kd [(6, (jW 0))] [(1, some (bx (jK (jT (x * ((((2 ^ k : Nat) : Int) : Int) : Rat)))))), (2, some (bx (jM (jZ ((2 ^ k : Nat) : Int)))))] mo (wR (kR jR) <| wR (kR jS) <| wE (jX (t_of 1 (by decide) (by decide))) <| wE (oQd (jK (jE.mk (jZ ((2 ^ k : Nat) : Int)) (jZ 1))) (jK (jT ((((2 ^ k : Nat) : Int) : Int) : Rat))) (eJ pl45 qX uA) (by exact rfl)) <| wE (jX (eC (jT x) (jT ((((2 ^ k : Nat) : Int) : Int) : Rat)) x ((((2 ^ k : Nat) : Int) : Int) : Rat) (jP (kA hx) (by decide)) (jP (kA (vX (k := k) (by omega))) (by decide)))) <| wR (kR jS) <| wT (qC jR) <| wT (qC jS) <| wM <| wZ) ?_
 refine jG ⟨_, (kU (cs := (bx (jK (jT (x * ((((2 ^ k : Nat) : Int) : Int) : Rat)))))) (d := (jK (jT (x * ((((2 ^ k : Nat) : Int) : Int) : Rat))))) rfl rfl jR rfl rfl (kU (cs := (bx (jM (jZ ((2 ^ k : Nat) : Int))))) (d := (jM (jZ ((2 ^ k : Nat) : Int)))) rfl rfl jS rfl rfl (.tmp (d := (.val (.int .i64 (((0 : Nat) : Int))))) rfl .nil))), ?_⟩
 rfl
end Go.Proofs.YtnajallgoaiahaaGreatDoor
namespace Go.Fid
def stnP (x y z u v f : Int) : Prop := (-1048576 ≤ x ∧ x ≤ 1048576) ∧ (-1048576 ≤ y ∧ y ≤ 1048576) ∧ (-1048576 ≤ z ∧ z ≤ 1048576) ∧ (-1048576 ≤ u ∧ u ≤ 1048576) ∧ (-1048576 ≤ v ∧ v ≤ 1048576) ∧ (1 ≤ f ∧ f ≤ 1048576)
instance {x y z u v f : Int} : Decidable (stnP x y z u v f) := by unfold stnP; infer_instance
end Go.Fid
set_option linter.unusedVariables false
set_option linter.unusedSimpArgs false
namespace Go.Fid
def nq (a b c d : Int) : Int := (((a * a) + (b * b)) + (c * c)) + (d * d)
def N4 (a b c d : Int) : Rat := ((nq a b c d : Int) : Rat)
def r02 (a b c d : Int) : Int := 2 * ((b * d) + (a * c))
def R02 (a b c d : Int) : Rat := ((r02 a b c d : Int) : Rat)
def r12 (a b c d : Int) : Int := 2 * ((c * d) - (a * b))
def R12 (a b c d : Int) : Rat := ((r12 a b c d : Int) : Rat)
def r22 (a b c d : Int) : Int := (((a * a) - (b * b)) - (c * c)) + (d * d)
def R22 (a b c d : Int) : Rat := ((r22 a b c d : Int) : Rat)
theorem ql_eqz {x y : Rat} {n : Nat} (h : x = y) (hy : QL y n) : QL x n := h ▸ hy
def gcd3 (a b c : Rat) : Int := ((Int.gcd a.num ((Int.gcd b.num c.num : Nat) : Int) : Nat) : Int)
def redK (a b c : Rat) : Rat := Rat.divInt 1 (gcd3 a b c)
def dq0 (a b c d p q r s : Int) : Rat := (R02 a b c d * N4 p q r s) + (R02 p q r s * N4 a b c d)
def dq1 (a b c d p q r s : Int) : Rat := (R12 a b c d * N4 p q r s) + (R12 p q r s * N4 a b c d)
def dq2 (a b c d p q r s : Int) : Rat := (R22 a b c d * N4 p q r s) + (R22 p q r s * N4 a b c d)
def RFr (lx ly lz la lb lc ld rx ry rz ra rb rc rd : Int) (b0 b1 b2 e00 e01 e02 e10 e11 e12 e20 e21 e22 : Rat) : Prop :=
  (((rx - lx) : Int) : Rat) = b0 ∧
  (((ry - ly) : Int) : Rat) = b1 ∧
  (((rz - lz) : Int) : Rat) = b2 ∧
  b0 * redK b0 b1 b2 = e00 ∧
  b1 * redK b0 b1 b2 = e01 ∧
  b2 * redK b0 b1 b2 = e02 ∧
  (((dq1 la lb lc ld ra rb rc rd) * e02) - ((dq2 la lb lc ld ra rb rc rd) * e01)) * redK (((dq1 la lb lc ld ra rb rc rd) * e02) - ((dq2 la lb lc ld ra rb rc rd) * e01)) (((dq2 la lb lc ld ra rb rc rd) * e00) - ((dq0 la lb lc ld ra rb rc rd) * e02)) (((dq0 la lb lc ld ra rb rc rd) * e01) - ((dq1 la lb lc ld ra rb rc rd) * e00)) = e10 ∧
  (((dq2 la lb lc ld ra rb rc rd) * e00) - ((dq0 la lb lc ld ra rb rc rd) * e02)) * redK (((dq1 la lb lc ld ra rb rc rd) * e02) - ((dq2 la lb lc ld ra rb rc rd) * e01)) (((dq2 la lb lc ld ra rb rc rd) * e00) - ((dq0 la lb lc ld ra rb rc rd) * e02)) (((dq0 la lb lc ld ra rb rc rd) * e01) - ((dq1 la lb lc ld ra rb rc rd) * e00)) = e11 ∧
  (((dq0 la lb lc ld ra rb rc rd) * e01) - ((dq1 la lb lc ld ra rb rc rd) * e00)) * redK (((dq1 la lb lc ld ra rb rc rd) * e02) - ((dq2 la lb lc ld ra rb rc rd) * e01)) (((dq2 la lb lc ld ra rb rc rd) * e00) - ((dq0 la lb lc ld ra rb rc rd) * e02)) (((dq0 la lb lc ld ra rb rc rd) * e01) - ((dq1 la lb lc ld ra rb rc rd) * e00)) = e12 ∧
  ((e01 * e12) - (e02 * e11)) * redK ((e01 * e12) - (e02 * e11)) ((e02 * e10) - (e00 * e12)) ((e00 * e11) - (e01 * e10)) = e20 ∧
  ((e02 * e10) - (e00 * e12)) * redK ((e01 * e12) - (e02 * e11)) ((e02 * e10) - (e00 * e12)) ((e00 * e11) - (e01 * e10)) = e21 ∧
  ((e00 * e11) - (e01 * e10)) * redK ((e01 * e12) - (e02 * e11)) ((e02 * e10) - (e00 * e12)) ((e00 * e11) - (e01 * e10)) = e22
instance {lx ly lz la lb lc ld rx ry rz ra rb rc rd : Int} {b0 b1 b2 e00 e01 e02 e10 e11 e12 e20 e21 e22 : Rat} : Decidable (RFr lx ly lz la lb lc ld rx ry rz ra rb rc rd b0 b1 b2 e00 e01 e02 e10 e11 e12 e20 e21 e22) := by unfold RFr; infer_instance
section
variable {lx ly lz la lb lc ld rx ry rz ra rb rc rd : Int} {b0 b1 b2 e00 e01 e02 e10 e11 e12 e20 e21 e22 : Rat}
end
end Go.Fid
