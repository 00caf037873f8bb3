/- Part 23 of a proof: rules, plain facts, and functions walked. -/
import Derived.Test.YtbecgnplakngdaaGreatM22
import Derived.Test.YtbecgnplakngdaaGreatM9
namespace Go.Proofs.YtbecgnplakngdaaGreat
open Go.Fid
set_option maxRecDepth 4000
set_option linter.unusedVariables false
set_option linter.unusedSimpArgs false
theorem ar228 : dA Tryz.prog 228 = some (4, 3, 1) := by kernel_rfl
theorem cb131 : callB Tryz.prog 131 = true := by kernel_rfl
theorem cb168 : callB Tryz.prog 168 = true := by kernel_rfl
theorem cb171 : callB Tryz.prog 171 = true := by kernel_rfl
theorem cb205 : callB Tryz.prog 205 = true := by kernel_rfl
theorem nB : vX Tryz.prog 74 = some (3, 1) := by kernel_rfl
theorem eqs25 : eqsB Tryz.prog 25 = some 4 := by kernel_rfl
theorem dG : xJ Tryz.prog 25 0 = some 0 := by kernel_rfl
theorem dJ : xJ Tryz.prog 25 1 = some 1 := by kernel_rfl
theorem dK : xJ Tryz.prog 25 2 = some 2 := by kernel_rfl
theorem dF : xJ Tryz.prog 25 3 = some 3 := by kernel_rfl
theorem pl25 : mV Tryz.prog 25 = some [(0, 1), (1, 1), (2, 1), (3, 1)] := by kernel_rfl
theorem yO : uF Tryz.prog 25 = some (true, 4) := by kernel_rfl
theorem sh228 : uF Tryz.prog 228 = some (true, 4) := by kernel_rfl
theorem ze25 : xH Tryz.prog 25 = some [.int .i64 0, .int .i64 0, .int .i64 0, .int .i64 0] := by kernel_rfl
theorem ze228 : xH Tryz.prog 228 = some [.int .i64 0, .int .i64 0, .int .i64 0, .int .i64 0] := by kernel_rfl
theorem zo25 : mP [.int .i64 0, .int .i64 0, .int .i64 0, .int .i64 0] [.val (.int .i64 0), .val (.int .i64 0), .val (.int .i64 0), .val (.int .i64 0)] := by simp [mP, Value.oneCell']
theorem zo228 : mP [.int .i64 0, .int .i64 0, .int .i64 0, .int .i64 0] [.val (.int .i64 0), .val (.int .i64 0), .val (.int .i64 0), .val (.int .i64 0)] := by simp [mP, Value.oneCell']
theorem q_parts (a b c d : Int) : kF Tryz.prog 205 [(uI (jN.mk a b c d))] (aL (A4.mk a b c d)) := by
 refine jL Tryz.func205 rfl cb205 rfl ?_
 show uK _ _ _ _ ⟨[(0, (.d (uI (jN.mk a b c d))))], []⟩
 refine jA <| kx [(1, (.ref 0 0)), (2, (.ref 1 0))] [(0, some (bx (uI (jN.mk a b c d)))), (1, some (bx (aL (A4.mk 0 0 0 0))))] (zN (uX 0) <| zN (qH 1 ze228 zo228) <| zZ) ?_
 refine jA <| kx [] [(1, some (bx (aL (A4.mk a b c d))))] (zE (kU dG) <| zR (uM vW) <| zE (kU dJ) <| zR (uM vW) <| zE (kU dK) <| zR (uM vW) <| zE (kU dF) <| zR (uM vW) <| zE (oBf ar228 ze228 zo228) <| zT (kR sh228) <| zZ) ?_
 refine jG ⟨_, (qB (cs := (bx (aL (A4.mk a b c d)))) (d := (aL (A4.mk a b c d))) rfl rfl sh228 rfl rfl .nil), ?_⟩
 rfl
theorem qs_list (a b c d : Int) : kF Tryz.prog 171 [(uI (jN.mk a b c d))] (.sl 3 1 (List.map mW [a, b, c, d])) := by
 refine jL Tryz.func171 rfl cb171 rfl ?_
 show uK _ _ _ _ ⟨[(0, (.d (uI (jN.mk a b c d))))], []⟩
 refine jA <| kx [(1, (.ref 0 0))] [(0, some (bx (uI (jN.mk a b c d))))] (zN (uX 0) <| zE (oNl 3 1) <| zZ) ?_
 refine jA <| kx [(2, (vl 3 1 mW [a, b, c, d]))] [] (zE (kU dG) <| zR (uM vW) <| zE (kU dJ) <| zR (uM vW) <| zE (kU dK) <| zR (uM vW) <| zE (kU dF) <| zR (uM vW) <| zE (cP nB ze3 zo3) <| zM <| zZ) ?_
 refine jG ⟨_, (.tmp (d := (.sl 3 1 (List.map mW [a, b, c, d]))) rfl .nil), ?_⟩
 rfl
theorem q_chk (a b c d : Int) : kF Tryz.prog 168 [(uI (jN.mk a b c d))] (.val (.int .i64 ((((gU a b c d) : Nat) : Int)))) := by
 refine jL Tryz.func168 rfl cb168 rfl ?_
 show uK _ _ _ _ ⟨[(0, (.d (uI (jN.mk a b c d))))], []⟩
 refine jA <| kx [(1, (.ref 0 0))] [(0, some (bx (uI (jN.mk a b c d))))] (zN (uX 0) <| zM <| zZ) ?_
 refine jA <| jA <| kx [(7, (vb (decide ([a, b, c, d] = [0, 0, 0, 0]))))] [] (zR (kA yO) <| zE (oBd pl25 ze25 zo25) <| zE (oEs eqs25 .i64 [a, b, c, d] [0, 0, 0, 0]) <| zZ) ?_
 refine jQ (b := (decide ([a, b, c, d] = [0, 0, 0, 0]))) rfl (fun h1 => ?_) (fun h1 => ?_)
 ·replace h1 := of_decide_eq_true h1
  refine jA <| kx [(2, (kE 1))] [] (zM <| zZ) ?_
  refine jG ⟨_, (.tmp (d := (.val (.int .i64 (((1 : Nat) : Int))))) rfl .nil), ?_⟩
  rw [rotC_z (by simp_all)]; rfl
 ·replace h1 := of_decide_eq_false h1
  refine jD <| jA <| jA <| kx [(9, (.d (aL (A4.mk a b c d)))), (10, (kE 0))] [] (zR (kA yO) <| zE (kC (q_parts a b c d)) <| zM <| zZ) ?_
  refine jE <| qE 20 ?_
  refine qK <| jA <| kx [(11, (vb true))] [] (zE (qY true qS) <| zZ) ?_
  refine jA <| kD ?_
  refine jD <| jA <| jE <| jA <| kx [(4, (vi a))] [] (zE (iF ar228 vW (fun _ => rfl) 0) <| zM <| zZ) ?_
  refine jA <| kx [(18, (vb (decide (a < -1048576) || decide (((1048576 : Nat) : Int) < a))))] [] ?_ ?_
  ·refine zM <| zE qS <| zE (oV (vb (decide (a < -1048576))) (xD (by kernel_rfl))) <| ?_
   rcases hb2 : (decide (a < -1048576)) with _ | _
   ·replace hb2 := of_decide_eq_false hb2
    exact zM <| zE bO <| zE oPo <| zZ
   ·replace hb2 := of_decide_eq_true hb2
    exact zK <| zK <| zE bG <| zZ
  refine jQ rfl (fun h3 => ?_) (fun h3 => ?_)
  ·refine jA <| kx [(2, (kE 3))] [] (zM <| zZ) ?_
   refine jG ⟨_, (.tmp (d := (.val (.int .i64 (((3 : Nat) : Int))))) rfl .nil), ?_⟩
   first | (rw [bF (by simp_all) (by first | (simp_all; done) | (simp_all; omega))]; rfl) | (rw [bL (by simp_all) (by first | (simp_all; done) | (simp_all; omega))]; rfl)
  ·refine jD <| kx [(10, (kE 1))] [] (zE (qQ 1 (hr := by decide)) <| zM <| zZ) ?_
   refine jJ (jZ.refl _) ?_
   refine jA <| kx [(11, (vb true))] [] (zE (qY true qS) <| zZ) ?_
   refine jA <| kD ?_
   refine jD <| jA <| jE <| jA <| kx [(4, (vi b))] [] (zE (iF ar228 vW (fun _ => rfl) 1) <| zM <| zZ) ?_
   refine jA <| kx [(18, (vb (decide (b < -1048576) || decide (((1048576 : Nat) : Int) < b))))] [] ?_ ?_
   ·refine zM <| zE qS <| zE (oV (vb (decide (b < -1048576))) (xD (by kernel_rfl))) <| ?_
    rcases hb4 : (decide (b < -1048576)) with _ | _
    ·replace hb4 := of_decide_eq_false hb4
     exact zM <| zE bO <| zE oPo <| zZ
    ·replace hb4 := of_decide_eq_true hb4
     exact zK <| zK <| zE bG <| zZ
   refine jQ rfl (fun h5 => ?_) (fun h5 => ?_)
   ·refine jA <| kx [(2, (kE 3))] [] (zM <| zZ) ?_
    refine jG ⟨_, (.tmp (d := (.val (.int .i64 (((3 : Nat) : Int))))) rfl .nil), ?_⟩
    first | (rw [bF (by simp_all) (by first | (simp_all; done) | (simp_all; omega))]; rfl) | (rw [bL (by simp_all) (by first | (simp_all; done) | (simp_all; omega))]; rfl)
   ·refine jD <| kx [(10, (kE 2))] [] (zE (qQ 2 (hr := by decide)) <| zM <| zZ) ?_
    refine jJ (jZ.refl _) ?_
    refine jA <| kx [(11, (vb true))] [] (zE (qY true qS) <| zZ) ?_
    refine jA <| kD ?_
    refine jD <| jA <| jE <| jA <| kx [(4, (vi c))] [] (zE (iF ar228 vW (fun _ => rfl) 2) <| zM <| zZ) ?_
    refine jA <| kx [(18, (vb (decide (c < -1048576) || decide (((1048576 : Nat) : Int) < c))))] [] ?_ ?_
    ·refine zM <| zE qS <| zE (oV (vb (decide (c < -1048576))) (xD (by kernel_rfl))) <| ?_
     rcases hb6 : (decide (c < -1048576)) with _ | _
     ·replace hb6 := of_decide_eq_false hb6
      exact zM <| zE bO <| zE oPo <| zZ
     ·replace hb6 := of_decide_eq_true hb6
      exact zK <| zK <| zE bG <| zZ
    refine jQ rfl (fun h7 => ?_) (fun h7 => ?_)
    ·refine jA <| kX (wk (l := [(9, (.d (aL (A4.mk a b c d)))), (10, (kE 2)), (18, (vb (decide (c < -1048576) || decide (((1048576 : Nat) : Int) < c))))]) (b := [])) ?_
     refine kx [(2, (kE 3))] [] (zM <| zZ) ?_
     refine jG ⟨_, (.tmp (d := (.val (.int .i64 (((3 : Nat) : Int))))) rfl .nil), ?_⟩
     first | (rw [bF (by simp_all) (by first | (simp_all; done) | (simp_all; omega))]; rfl) | (rw [bL (by simp_all) (by first | (simp_all; done) | (simp_all; omega))]; rfl)
    ·refine jD <| kX (wk (l := [(9, (.d (aL (A4.mk a b c d)))), (10, (kE 2)), (18, (vb (decide (c < -1048576) || decide (((1048576 : Nat) : Int) < c))))]) (b := [])) ?_
     refine kx [(10, (kE 3))] [] (zE (qQ 3 (hr := by decide)) <| zM <| zZ) ?_
     refine jJ (jZ.refl _) ?_
     refine jA <| kx [(11, (vb true))] [] (zE (qY true qS) <| zZ) ?_
     refine jA <| kD ?_
     refine jD <| jA <| jE <| jA <| kx [(4, (vi d))] [] (zE (iF ar228 vW (fun _ => rfl) 3) <| zM <| zZ) ?_
     refine jA <| kx [(18, (vb (decide (d < -1048576) || decide (((1048576 : Nat) : Int) < d))))] [] ?_ ?_
     ·refine zM <| zE qS <| zE (oV (vb (decide (d < -1048576))) (xD (by kernel_rfl))) <| ?_
      rcases hb8 : (decide (d < -1048576)) with _ | _
      ·replace hb8 := of_decide_eq_false hb8
       exact zM <| zE bO <| zE oPo <| zZ
      ·replace hb8 := of_decide_eq_true hb8
       exact zK <| zK <| zE bG <| zZ
     refine jQ rfl (fun h9 => ?_) (fun h9 => ?_)
     ·refine jA <| kx [(2, (kE 3))] [] (zM <| zZ) ?_
      refine jG ⟨_, (.tmp (d := (.val (.int .i64 (((3 : Nat) : Int))))) rfl .nil), ?_⟩
      first | (rw [bF (by simp_all) (by first | (simp_all; done) | (simp_all; omega))]; rfl) | (rw [bL (by simp_all) (by first | (simp_all; done) | (simp_all; omega))]; rfl)
     ·refine jD <| kx [(10, (kE 4))] [] (zE (qQ 4 (hr := by decide)) <| zM <| zZ) ?_
      refine jJ (jZ.refl _) ?_
      refine jA <| kx [(11, (vb false))] [] (zE (qY false qS) <| zZ) ?_
      refine jA <| kO ?_
      refine kQ <| jA <| kx [(2, (kE 0))] [] (zM <| zZ) ?_
      refine jG ⟨_, (.tmp (d := (.val (.int .i64 (((0 : Nat) : Int))))) rfl .nil), ?_⟩
      first | (rw [bF (by simp_all) (by first | (simp_all; done) | (simp_all; omega))]; rfl) | (rw [bL (by simp_all) (by first | (simp_all; done) | (simp_all; omega))]; rfl)
theorem qs_chk (a b c d : Int) : kF Tryz.prog 131 [(uI (jN.mk a b c d))] (.val (.int .i64 ((((gU a b c d) : Nat) : Int)))) := by
 refine jL Tryz.func131 rfl cb131 rfl ?_
 show uK _ _ _ _ ⟨[(0, (.d (uI (jN.mk a b c d))))], []⟩
 refine jA <| kx [(1, (.ref 0 0))] [(0, some (bx (uI (jN.mk a b c d))))] (zN (uX 0) <| zM <| zZ) ?_
 refine jA <| jA <| kx [(22, (vb ((((a == ((0 : Nat) : Int)) && (b == ((0 : Nat) : Int))) && (c == ((0 : Nat) : Int))) && (d == ((0 : Nat) : Int)))))] [] ?_ ?_
 ·refine zE (kU dG) <| zR (uM vW) <| zE aO <| zE (oV (vb (a == ((0 : Nat) : Int))) (xD (by kernel_rfl))) <| ?_
  rcases hb1 : (a == ((0 : Nat) : Int)) with _ | _
  ·replace hb1 := ne_of_beq_false hb1
   exact zK <| zK <| zK <| zE fC <| zM <| zK <| zK <| zK <| zE fC <| zM <| zK <| zK <| zK <| zE fC <| zZ
  ·replace hb1 := eq_of_beq hb1
   refine zE (kU dJ) <| zR (uM vW) <| zE aO <| zE oPa <| zE (oV (vb (true && (b == ((0 : Nat) : Int)))) (xD (by kernel_rfl))) <| ?_
   rcases hb2 : (true && (b == ((0 : Nat) : Int))) with _ | _
   ·exact zK <| zK <| zK <| zE fC <| zM <| zK <| zK <| zK <| zE fC <| zZ
   ·refine zE (kU dK) <| zR (uM vW) <| zE aO <| zE oPa <| zE (oV (vb (true && (c == ((0 : Nat) : Int)))) (xD (by kernel_rfl))) <| ?_
    rcases hb3 : (true && (c == ((0 : Nat) : Int))) with _ | _
    ·exact zK <| zK <| zK <| zE fC <| zZ
    ·exact zE (kU dF) <| zR (uM vW) <| zE aO <| zE oPa <| zZ
 refine jQ rfl (fun h4 => ?_) (fun h4 => ?_)
 ·refine jA <| kx [(2, (kE 1))] [] (zM <| zZ) ?_
  refine jG ⟨_, (.tmp (d := (.val (.int .i64 (((1 : Nat) : Int))))) rfl .nil), ?_⟩
  rw [rotC_z (by simp_all)]; rfl
 ·refine jD <| jA <| kx [(3, (vl 3 1 mW [a, b, c, d]))] [] (zR (kA yO) <| zE (kC (qs_list a b c d)) <| zM <| zZ) ?_
  refine jA <| jA <| kx [(4, (kE 0))] [] (zM <| zZ) ?_
  refine jE <| qE 20 ?_
  refine qK <| jA <| jA <| kx [(26, (vb true))] [] (zM <| zE (qY true qS) <| zZ) ?_
  refine kD ?_
  refine jD <| jA <| jE <| jA <| kx [(40, (vb (decide (((1048576 : Nat) : Int) < a) || decide (a < -1048576))))] [] ?_ ?_
  ·refine zM <| zM <| zE (zD nB 0) <| zE (yN vW) <| zE bO <| zE (oV (vb (decide (((1048576 : Nat) : Int) < a))) (xD (by kernel_rfl))) <| ?_
   rcases hb5 : (decide (((1048576 : Nat) : Int) < a)) with _ | _
   ·replace hb5 := of_decide_eq_false hb5
    exact zM <| zM <| zE (zD nB 0) <| zE (yN vW) <| zE qS <| zE oPo <| zZ
   ·replace hb5 := of_decide_eq_true hb5
    exact zK <| zK <| zK <| zK <| zK <| zE bG <| zZ
  refine jQ rfl (fun h6 => ?_) (fun h6 => ?_)
  ·refine jA <| kx [(2, (kE 3))] [] (zM <| zZ) ?_
   refine jG ⟨_, (.tmp (d := (.val (.int .i64 (((3 : Nat) : Int))))) rfl .nil), ?_⟩
   first | (rw [bF (by simp_all) (by first | (simp_all; done) | (simp_all; omega))]; rfl) | (rw [bL (by simp_all) (by first | (simp_all; done) | (simp_all; omega))]; rfl)
  ·refine jD <| kx [(4, (kE 1))] [] (zM <| zE (qQ 1 (hr := by decide)) <| zM <| zZ) ?_
   refine jJ (jZ.refl _) ?_
   refine jA <| jA <| kx [(26, (vb true))] [] (zM <| zE (qY true qS) <| zZ) ?_
   refine kD ?_
   refine jD <| jA <| jE <| jA <| kx [(40, (vb (decide (((1048576 : Nat) : Int) < b) || decide (b < -1048576))))] [] ?_ ?_
   ·refine zM <| zM <| zE (zD nB 1) <| zE (yN vW) <| zE bO <| zE (oV (vb (decide (((1048576 : Nat) : Int) < b))) (xD (by kernel_rfl))) <| ?_
    rcases hb7 : (decide (((1048576 : Nat) : Int) < b)) with _ | _
    ·replace hb7 := of_decide_eq_false hb7
     exact zM <| zM <| zE (zD nB 1) <| zE (yN vW) <| zE qS <| zE oPo <| zZ
    ·replace hb7 := of_decide_eq_true hb7
     exact zK <| zK <| zK <| zK <| zK <| zE bG <| zZ
   refine jQ rfl (fun h8 => ?_) (fun h8 => ?_)
   ·refine jA <| kx [(2, (kE 3))] [] (zM <| zZ) ?_
    refine jG ⟨_, (.tmp (d := (.val (.int .i64 (((3 : Nat) : Int))))) rfl .nil), ?_⟩
    first | (rw [bF (by simp_all) (by first | (simp_all; done) | (simp_all; omega))]; rfl) | (rw [bL (by simp_all) (by first | (simp_all; done) | (simp_all; omega))]; rfl)
   ·refine jD <| kx [(4, (kE 2))] [] (zM <| zE (qQ 2 (hr := by decide)) <| zM <| zZ) ?_
    refine jJ (jZ.refl _) ?_
    refine jA <| jA <| kx [(26, (vb true))] [] (zM <| zE (qY true qS) <| zZ) ?_
    refine kD ?_
    refine jD <| jA <| jE <| jA <| kx [(40, (vb (decide (((1048576 : Nat) : Int) < c) || decide (c < -1048576))))] [] ?_ ?_
    ·refine zM <| zM <| zE (zD nB 2) <| zE (yN vW) <| zE bO <| zE (oV (vb (decide (((1048576 : Nat) : Int) < c))) (xD (by kernel_rfl))) <| ?_
     rcases hb9 : (decide (((1048576 : Nat) : Int) < c)) with _ | _
     ·replace hb9 := of_decide_eq_false hb9
      exact zM <| zM <| zE (zD nB 2) <| zE (yN vW) <| zE qS <| zE oPo <| zZ
     ·replace hb9 := of_decide_eq_true hb9
      exact zK <| zK <| zK <| zK <| zK <| zE bG <| zZ
    refine jQ rfl (fun h10 => ?_) (fun h10 => ?_)
    ·refine jA <| kx [(2, (kE 3))] [] (zM <| zZ) ?_
     refine jG ⟨_, (.tmp (d := (.val (.int .i64 (((3 : Nat) : Int))))) rfl .nil), ?_⟩
     first | (rw [bF (by simp_all) (by first | (simp_all; done) | (simp_all; omega))]; rfl) | (rw [bL (by simp_all) (by first | (simp_all; done) | (simp_all; omega))]; rfl)
    ·refine jD <| kx [(4, (kE 3))] [] (zM <| zE (qQ 3 (hr := by decide)) <| zM <| zZ) ?_
     refine jJ (jZ.refl _) ?_
     refine jA <| jA <| kx [(26, (vb true))] [] (zM <| zE (qY true qS) <| zZ) ?_
     refine kD ?_
     refine jD <| jA <| jE <| jA <| kX (wk (l := [(3, (vl 3 1 mW [a, b, c, d])), (4, (kE 3)), (26, (vb true))]) (b := [])) ?_
     refine kx [(40, (vb (decide (((1048576 : Nat) : Int) < d) || decide (d < -1048576))))] [] ?_ ?_
     ·refine zM <| zM <| zE (zD nB 3) <| zE (yN vW) <| zE bO <| zE (oV (vb (decide (((1048576 : Nat) : Int) < d))) (xD (by kernel_rfl))) <| ?_
      rcases hb11 : (decide (((1048576 : Nat) : Int) < d)) with _ | _
      ·replace hb11 := of_decide_eq_false hb11
       exact zM <| zM <| zE (zD nB 3) <| zE (yN vW) <| zE qS <| zE oPo <| zZ
      ·replace hb11 := of_decide_eq_true hb11
       exact zK <| zK <| zK <| zK <| zK <| zE bG <| zZ
     refine jQ rfl (fun h12 => ?_) (fun h12 => ?_)
     ·refine jA <| kx [(2, (kE 3))] [] (zM <| zZ) ?_
      refine jG ⟨_, (.tmp (d := (.val (.int .i64 (((3 : Nat) : Int))))) rfl .nil), ?_⟩
      first | (rw [bF (by simp_all) (by first | (simp_all; done) | (simp_all; omega))]; rfl) | (rw [bL (by simp_all) (by first | (simp_all; done) | (simp_all; omega))]; rfl)
     ·refine jD <| kx [(4, (kE 4))] [] (zM <| zE (qQ 4 (hr := by decide)) <| zM <| zZ) ?_
      refine jJ (jZ.refl _) ?_
      refine jA <| jA <| kx [(26, (vb false))] [] (zM <| zE (qY false qS) <| zZ) ?_
      refine kO ?_
      refine kQ <| jA <| kx [(2, (kE 0))] [] (zM <| zZ) ?_
      refine jG ⟨_, (.tmp (d := (.val (.int .i64 (((0 : Nat) : Int))))) rfl .nil), ?_⟩
      first | (rw [bF (by simp_all) (by first | (simp_all; done) | (simp_all; omega))]; rfl) | (rw [bL (by simp_all) (by first | (simp_all; done) | (simp_all; omega))]; rfl)
end Go.Proofs.YtbecgnplakngdaaGreat
set_option linter.unusedVariables false
set_option linter.unusedSimpArgs false
namespace Go.Fid
inductive LOk (n : Nat) : List jF → List Int → Prop
  | nil : LOk n [] []
  | cons {x : jF} {z : Int} {l : List jF} {zs : List Int} (h : kZ x z n) (t : LOk n l zs) : LOk n (x :: l) (z :: zs)
theorem iok_nilN (n : Nat) : kZ ⟨false, []⟩ 0 n := ⟨by decide, Nat.zero_le _⟩
theorem LOk.len {n : Nat} {l : List jF} {zs : List Int} (h : LOk n l zs) : l.length = zs.length := by
  induction h with
  | nil => rfl
  | cons h t ih => simp [ih]
theorem LOk.get {n : Nat} {l : List jF} {zs : List Int} (h : LOk n l zs) (i : Nat) : kZ (l.getD i ⟨false, []⟩) (zs.getD i 0) n := by
  induction h generalizing i with
  | nil => exact iok_nilN n
  | cons h t ih =>
    rcases i with _ | i
    · exact h
    · exact ih i
theorem LOk.all {n : Nat} {l : List jF} {zs : List Int} (h : LOk n l zs) : ∀ z ∈ zs, yL z ≤ n := by
  induction h with
  | nil => simp
  | cons h t ih =>
    intro z hz
    rcases List.mem_cons.1 hz with rfl | hz
    · exact h.ln
    · exact ih z hz
theorem LOk.up {m n : Nat} {l : List jF} {zs : List Int} (h : LOk m l zs) (hm : m ≤ n) : LOk n l zs := by
  induction h with
  | nil => exact .nil
  | cons h t ih => exact .cons (qJ h hm) ih
def gcdL (zs : List Int) : Nat := zs.foldl (fun d z => Int.gcd d z) 0
def vK : List Int → Int
  | [] => 0
  | z :: r => if z = 0 then vK r else qX z
def nF (zs : List Int) : Int := if vK zs < 0 then -((gcdL zs : Nat) : Int) else ((gcdL zs : Nat) : Int)
def xB (zs : List Int) : List Int := zs.map fun z => z.fdiv (nF zs)
theorem takeZ {l : List Int} {i : Nat} (h : i < l.length) : l.take (i + 1) = l.take i ++ [l.getD i 0] := by
  rw [List.take_succ_eq_append_getElem h]; simp [List.getD, List.getElem?_eq_getElem h]
theorem fY {zs : List Int} {i : Nat} (h : i < zs.length) : gcdL (zs.take (i + 1)) = Int.gcd ((gcdL (zs.take i) : Nat) : Int) (zs.getD i 0) := by
  unfold gcdL; rw [takeZ h, List.foldl_append]; rfl
theorem eK {z : Int} (h : z ≠ 0) : qX z ≠ 0 := by
  unfold qX; split <;> (try split) <;> omega
theorem sgnL_app0 {a b : List Int} (h : vK a = 0) : vK (a ++ b) = vK b := by
  induction a with
  | nil => rfl
  | cons z a ih =>
    simp only [vK] at h
    by_cases hz : z = 0
    · rw [if_pos hz] at h; simp only [List.cons_append, vK, if_pos hz]; exact ih h
    · rw [if_neg hz] at h; exact absurd h (eK hz)
theorem sgnL_app1 {a b : List Int} (h : vK a ≠ 0) : vK (a ++ b) = vK a := by
  induction a with
  | nil => exact absurd rfl h
  | cons z a ih =>
    simp only [vK] at h
    by_cases hz : z = 0
    · rw [if_pos hz] at h; simp only [List.cons_append, vK, if_pos hz]; exact ih h
    · simp only [List.cons_append, vK, if_neg hz]
theorem sgnL_one (z : Int) : vK [z] = qX z := by
  simp only [vK]; split
  · rename_i h; rw [h]; rfl
  · rfl
theorem sgnL_step0 {zs : List Int} {i : Nat} {s : Int} (h : i < zs.length) (hs : s = vK (zs.take i)) (h0 : s = 0) : qX (zs.getD i 0) = vK (zs.take (i + 1)) := by
  rw [takeZ h, sgnL_app0 (hs ▸ h0), sgnL_one]
theorem sgnL_step1 {zs : List Int} {i : Nat} {s : Int} (h : i < zs.length) (hs : s = vK (zs.take i)) (h0 : s ≠ 0) : s = vK (zs.take (i + 1)) := by
  rw [takeZ h, sgnL_app1 (hs ▸ h0)]; exact hs
theorem lenZ_gcd2 {a b : Int} {n : Nat} (ha : yL a ≤ n) (hb : yL b ≤ n) : yL ((Int.gcd a b : Nat) : Int) ≤ n := by
  by_cases h : b = 0
  · subst h; rw [Int.gcd_zero_right]
    exact Nat.le_trans (cA (by simp)) ha
  · exact lenZ_gcd h hb
theorem gcdL_len {n : Nat} (zs : List Int) (h : ∀ z ∈ zs, yL z ≤ n) : yL ((gcdL zs : Nat) : Int) ≤ n := by
  have key : ∀ (zs : List Int) (d : Nat), yL (d : Int) ≤ n → (∀ z ∈ zs, yL z ≤ n) → yL ((zs.foldl (fun d z => Int.gcd d z) d : Nat) : Int) ≤ n := by
    intro zs
    induction zs with
    | nil => intro d hd _; exact hd
    | cons z zs ih => intro d hd hz; exact ih _ (lenZ_gcd2 hd (hz z (by simp))) (fun y hy => hz y (by simp [hy]))
  exact key zs 0 (mH.2 (by rw [show ((0 : Nat) : Int).natAbs = 0 from rfl]; exact iO n)) h
theorem iU {n : Nat} {zs : List Int} (h : ∀ z ∈ zs, yL z ≤ n) (i : Nat) : kZ (jK ((gcdL (zs.take i) : Nat) : Int)) ((gcdL (zs.take i) : Nat) : Int) n :=
  nL (gcdL_len _ fun z hz => h z (List.mem_of_mem_take hz))
theorem dvL_len {n : Nat} {zs : List Int} (h : ∀ z ∈ zs, yL z ≤ n) : yL (nF zs) ≤ n := by
  unfold nF; split
  · rw [iD]; exact gcdL_len zs h
  · exact gcdL_len zs h
theorem gcdL_dvd (zs : List Int) : ∀ z ∈ zs, ((gcdL zs : Nat) : Int) ∣ z := by
  have key : ∀ (zs : List Int) (d : Nat), ((zs.foldl (fun d z => Int.gcd d z) d : Nat) : Int) ∣ (d : Int) ∧ ∀ z ∈ zs, ((zs.foldl (fun d z => Int.gcd d z) d : Nat) : Int) ∣ z := by
    intro zs
    induction zs with
    | nil => intro d; exact ⟨Int.dvd_refl _, by simp⟩
    | cons z zs ih =>
      intro d
      obtain ⟨h1, h2⟩ := ih (Int.gcd d z)
      refine ⟨Int.dvd_trans h1 (Int.gcd_dvd_left ..), fun y hy => ?_⟩
      rcases List.mem_cons.1 hy with rfl | hy
      · exact Int.dvd_trans h1 (Int.gcd_dvd_right ..)
      · exact h2 y hy
  exact (key zs 0).2
theorem sgnL_ne {zs : List Int} (h : vK zs ≠ 0) : ∃ z ∈ zs, z ≠ 0 := by
  induction zs with
  | nil => exact absurd rfl h
  | cons z zs ih =>
    by_cases hz : z = 0
    · simp only [vK, if_pos hz] at h
      obtain ⟨y, hy, h2⟩ := ih h
      exact ⟨y, by simp [hy], h2⟩
    · exact ⟨z, by simp, hz⟩
theorem sgnL_of {zs : List Int} {z : Int} (hz : z ∈ zs) (h : z ≠ 0) : vK zs ≠ 0 := by
  induction zs with
  | nil => cases hz
  | cons y zs ih =>
    by_cases hy : y = 0
    · simp only [vK, if_pos hy]
      rcases List.mem_cons.1 hz with e | hz
      · subst e; exact absurd hy h
      · exact ih hz
    · simp only [vK, if_neg hy]; exact eK hy
theorem gcdL_ne {zs : List Int} (h : vK zs ≠ 0) : gcdL zs ≠ 0 := fun e => by
  obtain ⟨z, hz, h0⟩ := sgnL_ne h
  have := gcdL_dvd zs z hz
  rw [e] at this
  exact h0 (Int.zero_dvd.1 this)
theorem iR {zs : List Int} (h : vK zs ≠ 0) : nF zs ≠ 0 := by
  have := gcdL_ne h
  unfold nF; split <;> omega
theorem dvL_dvd {zs : List Int} : ∀ z ∈ zs, nF zs ∣ z := fun z hz => by
  unfold nF; split
  · exact Int.neg_dvd.2 (gcdL_dvd zs z hz)
  · exact gcdL_dvd zs z hz
theorem fdiv_mulZ {d z : Int} (hd : d ≠ 0) (h : d ∣ z) : z.fdiv d * d = z := by
  obtain ⟨c, rfl⟩ := h
  rw [Int.mul_fdiv_cancel_left _ hd]; exact Int.mul_comm _ _
theorem red_dv {zs : List Int} (h : vK zs ≠ 0) {z : Int} (hz : z ∈ zs) : z.fdiv (nF zs) * nF zs = z := fdiv_mulZ (iR h) (dvL_dvd z hz)
theorem gcdL_scale (k : Int) (zs : List Int) : gcdL (zs.map (k * ·)) = k.natAbs * gcdL zs := by
  have key : ∀ (zs : List Int) (d : Nat), (zs.map (k * ·)).foldl (fun d z => Int.gcd d z) (k.natAbs * d) = k.natAbs * zs.foldl (fun d z => Int.gcd d z) d := by
    intro zs
    induction zs with
    | nil => intro d; rfl
    | cons z zs ih =>
      intro d
      rw [List.map_cons, List.foldl_cons, List.foldl_cons, ← ih (Int.gcd d z)]
      congr 1
      simp only [Int.gcd, Int.natAbs_mul, Int.natAbs_natCast]
      exact Nat.gcd_mul_left ..
  exact key zs 0
theorem signI_mul {k z : Int} (hk : k ≠ 0) : (qX (k * z) < 0 ↔ (k < 0 ∧ 0 < z) ∨ (0 < k ∧ z < 0)) := by
  have h1 : ∀ y : Int, qX y < 0 ↔ y < 0 := fun y => by unfold qX; split <;> (try split) <;> omega
  rw [h1]
  constructor
  · intro h
    rcases Int.lt_or_gt_of_ne hk with hk' | hk'
    · exact .inl ⟨hk', by rcases Int.lt_trichotomy z 0 with h' | h' | h'; · have := Int.mul_pos_of_neg_of_neg hk' h'; omega
                          · subst h'; simp at h
                          · exact h'⟩
    · exact .inr ⟨hk', by rcases Int.lt_trichotomy z 0 with h' | h' | h'; · exact h'
                          · subst h'; simp at h
                          · have := Int.mul_pos hk' h'; omega⟩
  · rintro (⟨a, b⟩ | ⟨a, b⟩)
    · exact Int.mul_neg_of_neg_of_pos a b
    · exact Int.mul_neg_of_pos_of_neg a b
theorem sgnL_scale {k : Int} (hk : k ≠ 0) (zs : List Int) : (vK (zs.map (k * ·)) = 0 ↔ vK zs = 0) ∧ (vK zs ≠ 0 → (vK (zs.map (k * ·)) < 0 ↔ (k < 0 ∧ ¬ vK zs < 0) ∨ (0 < k ∧ vK zs < 0))) := by
  induction zs with
  | nil => exact ⟨Iff.rfl, fun h => absurd rfl h⟩
  | cons z zs ih =>
    by_cases hz : z = 0
    · subst hz
      simpa [vK] using ih
    · have hkz : k * z ≠ 0 := Int.mul_ne_zero hk hz
      simp only [List.map_cons, vK, if_neg hz, if_neg hkz]
      refine ⟨⟨fun h => absurd h (eK hkz), fun h => absurd h (eK hz)⟩, fun _ => ?_⟩
      rw [signI_mul hk]
      have h1 : qX z < 0 ↔ z < 0 := by unfold qX; split <;> (try split) <;> omega
      rw [h1]; omega
theorem dvL_scale {k : Int} (hk : k ≠ 0) {zs : List Int} (h : vK zs ≠ 0) : nF (zs.map (k * ·)) = k * nF zs := by
  have h2 := (sgnL_scale hk zs).2 h
  unfold nF
  rw [gcdL_scale, Int.natCast_mul]
  rcases Int.lt_or_gt_of_ne hk with hk' | hk'
  · have e : ((k.natAbs : Nat) : Int) = -k := by omega
    rw [e]
    by_cases hs : vK zs < 0
    · rw [if_neg (by rw [h2]; omega), if_pos hs, Int.neg_mul, Int.mul_neg]
    · rw [if_pos (by rw [h2]; omega), if_neg hs, Int.neg_mul, Int.neg_neg]
  · have e : ((k.natAbs : Nat) : Int) = k := by omega
    rw [e]
    by_cases hs : vK zs < 0
    · rw [if_pos (by rw [h2]; omega), if_pos hs, Int.mul_neg]
    · rw [if_neg (by rw [h2]; omega), if_neg hs]
theorem redL_back {zs : List Int} (h : vK zs ≠ 0) : (xB zs).map (nF zs * ·) = zs := by
  unfold xB
  rw [List.map_map]
  conv => rhs; rw [← List.map_id zs]
  apply List.map_congr_left
  intro z hz
  show nF zs * z.fdiv (nF zs) = z
  rw [Int.mul_comm]; exact red_dv h hz
theorem redL_ne {zs : List Int} (h : vK zs ≠ 0) : vK (xB zs) ≠ 0 := fun e => by
  have := ((sgnL_scale (iR h) (xB zs)).1).2 e
  rw [redL_back h] at this
  exact h this
theorem dvL_red {zs : List Int} (h : vK zs ≠ 0) : nF (xB zs) = 1 := by
  have h1 := dvL_scale (iR h) (redL_ne h)
  rw [redL_back h] at h1
  have h2 : nF zs * 1 = nF zs * nF (xB zs) := by rw [Int.mul_one]; exact h1
  exact (Int.eq_of_mul_eq_mul_left (iR h) h2).symm
theorem redL_one {zs : List Int} (h : nF zs = 1) : xB zs = zs := by
  unfold xB
  rw [h]
  conv => rhs; rw [← List.map_id zs]
  apply List.map_congr_left
  intro z _
  exact Int.fdiv_one z
theorem redL_same {zs : List Int} (h : vK zs ≠ 0) (e : xB zs = zs) : nF zs = 1 := by rw [← e]; exact dvL_red h
def bZ (l : List jF) : Bool := l.all uG && (decide (vK (l.map kK) ≠ 0) && decide (nF (l.map kK) = 1))
theorem LOk.map {n : Nat} {l : List jF} {zs : List Int} (h : LOk n l zs) : l.map kK = zs := by
  induction h with
  | nil => rfl
  | cons h t ih => rw [List.map_cons, ih, h.v]
theorem all_getD {l : List jF} {i : Nat} (h : List.all l uG = true) (hi : i < l.length) : uG (l.getD i (jF.mk false [])) = true := by
  rw [List.getD, List.getElem?_eq_getElem hi]
  exact List.all_eq_true.1 h _ (List.getElem_mem hi)
theorem dv_neg {zs : List Int} {s : Int} {g : Nat} (hs : s = vK zs) (hg : g = gcdL zs) (h : s < 0) : nF zs = -((g : Nat) : Int) := by
  unfold nF; rw [← hs, if_pos h, ← hg]
theorem dv_pos {zs : List Int} {s : Int} {g : Nat} (hs : s = vK zs) (hg : g = gcdL zs) (h : ¬ s < 0) : nF zs = ((g : Nat) : Int) := by
  unfold nF; rw [← hs, if_neg h, ← hg]
theorem cmpI_eq0 (a b : Int) : (xC a b == 0) = decide (a = b) := by
  unfold xC
  by_cases h : a < b
  · rw [if_pos h, decide_eq_false (by omega)]; rfl
  · rw [if_neg h]
    by_cases h2 : b < a
    · rw [if_pos h2, decide_eq_false (by omega)]; rfl
    · rw [if_neg h2, decide_eq_true (by omega)]; rfl
theorem redB_eq {n : Nat} {l : List jF} {zs : List Int} (hl : LOk n l zs) (hv : List.all l uG = true) : bZ l = ((vK zs != 0) && (xC (nF zs) 1 == 0)) := by
  unfold bZ
  rw [hv, hl.map, cmpI_eq0, Bool.true_and]
  congr 1
  simp [bne, BEq.beq]
def sumL (zs : List Int) : Int := zs.foldl (· + ·) 0
theorem sumL_step {zs : List Int} {i : Nat} (h : i < zs.length) : sumL (zs.take (i + 1)) = sumL (zs.take i) + zs.getD i 0 := by
  unfold sumL; rw [takeZ h, List.foldl_append]; rfl
theorem sumL3 (a b c : Int) : sumL [a, b, c] = a + b + c := by simp [sumL]
theorem sumL_len {zs : List Int} {i n : Nat} (h : ∀ z ∈ zs, yL z ≤ n) (hi : i ≤ 1000) : yL (sumL (zs.take i)) ≤ n + 1000 := by
  have key : ∀ i, yL (sumL (zs.take i)) ≤ n + i := by
    intro i
    induction i with
    | zero => exact mH.2 (by simpa [sumL] using iO _)
    | succ i ih =>
      rcases Nat.lt_or_ge i zs.length with hlt | hge
      · rw [sumL_step hlt]
        refine lenZ_add ih (h (zs.getD i 0) ?_) (by omega)
        rw [List.getD, List.getElem?_eq_getElem hlt]; exact List.getElem_mem hlt
      · rw [List.take_of_length_le (by omega), ← List.take_of_length_le hge]; omega
  exact Nat.le_trans (key i) (by omega)
theorem redL_all {n : Nat} {zs : List Int} (h : ∀ z ∈ zs, yL z ≤ n) : ∀ z ∈ xB zs, yL z ≤ n := fun z hz => by
  unfold xB at hz
  obtain ⟨y, hy, rfl⟩ := List.mem_map.1 hz
  exact Nat.le_trans (lenZ_fdiv_dvd (dvL_dvd y hy)) (h y hy)
theorem mZ {n : Nat} {l : List jF} {zs cs : List Int} (hl : LOk n l zs) (hc : xB zs = cs) : ∀ c ∈ cs, kZ (jK c) c n := fun c hm => nL (redL_all hl.all c (by rw [hc]; exact hm))
def gN (a b c d e f g h i : Int) : Int := a * (e * i - f * h) + b * (f * g - d * i) + c * (d * h - e * g)
theorem det3_cr (a b c d e f g h i : Int) : gN a b c d e f g h i = (b * f - c * e) * g + (c * d - a * f) * h + (a * e - b * d) * i := by unfold gN; grind
theorem kT {x y : Int} {n : Nat} (h : x = y) (k : kZ (jK y) y n) : kZ (jK x) x n := h ▸ k
theorem iok_det3 {x0 x1 x2 x3 x4 x5 x6 x7 x8 : jF} {a b c d e f g h i : Int} {n k : Nat} (h0 : kZ x0 a n) (h1 : kZ x1 b n) (h2 : kZ x2 c n) (h3 : kZ x3 d n) (h4 : kZ x4 e n) (h5 : kZ x5 f n) (h6 : kZ x6 g n) (h7 : kZ x7 h n) (h8 : kZ x8 i n) (hk : 3 * n + 3 ≤ k) : kZ (jK (gN a b c d e f g h i)) (gN a b c d e f g h i) k := by
  have m2 : ∀ {x y : jF} {u v : Int}, kZ x u n → kZ y v n → kZ (jK (u * v)) (u * v) (2 * n) := fun p q => jP p q (by omega)
  have s2 : ∀ {x y z w : jF} {u v s t : Int}, kZ x u n → kZ y v n → kZ z s n → kZ w t n → kZ (jK (u * v - s * t)) (u * v - s * t) (2 * n + 1) := fun p q r s => lE (m2 p q) (m2 r s) (by omega)
  have m3 : ∀ {x y z w v : jF} {u v' s t r : Int}, kZ x u n → kZ y v' n → kZ z s n → kZ w t n → kZ v r n → kZ (jK ((u * v' - s * t) * r)) ((u * v' - s * t) * r) (3 * n + 1) := fun p q r s t => jP (s2 p q r s) t (by omega)
  refine kT (det3_cr a b c d e f g h i) (qJ (xO (k := 3 * n + 3) (xO (k := 3 * n + 2) (m3 h1 h5 h2 h4 h6) (m3 h2 h3 h0 h5 h7) (by omega)) (m3 h0 h4 h1 h3 h8) (by omega)) hk)
def valH (l : List jF) (d : Int) : Bool := bZ l && (qX d != 0)
def sameI (x y : jF) : Bool := (x.neg == y.neg) && (x.gs == y.gs)
theorem sameI_self (x : jF) : sameI x x = true := by simp [sameI]
theorem sameI_iff {x y : jF} : sameI x y = true ↔ x = y := by
  cases x; cases y; simp [sameI]
theorem take_same {a b : List Nat} {i : Nat} (h : i < a.length) (h2 : i < b.length) (hv : a.take i = b.take i) (e : ((a.getD i 0 : Nat) : Int) = ((b.getD i 0 : Nat) : Int)) : a.take (i + 1) = b.take (i + 1) := by
  rw [List.take_succ_eq_append_getElem h, List.take_succ_eq_append_getElem h2, hv]
  congr 2
  have := Int.ofNat.inj e
  simpa [List.getD, List.getElem?_eq_getElem h, List.getElem?_eq_getElem h2] using this
theorem same_head {x y : jF} (h : (!(x.neg == y.neg) || (((x.gs.length : Nat) : Int) != ((y.gs.length : Nat) : Int))) = false) : x.neg = y.neg ∧ x.gs.length = y.gs.length := by
  simp at h
  exact ⟨h.1, by omega⟩
theorem same_no1 {x y : jF} (h : (!(x.neg == y.neg) || (((x.gs.length : Nat) : Int) != ((y.gs.length : Nat) : Int))) = true) : sameI x y = false := by
  rw [← Bool.not_eq_true, sameI_iff]
  rintro rfl
  simp at h
theorem same_no2 {x y : jF} {i : Nat} (hi : i < x.gs.length) (h : ((x.gs.getD i 0 : Nat) : Int) ≠ ((y.gs.getD i 0 : Nat) : Int)) : sameI x y = false := by
  rw [← Bool.not_eq_true, sameI_iff]
  rintro rfl
  exact h rfl
theorem same_yes {x y : jF} (h : x.neg = y.neg) (hv : x.gs = y.gs) : sameI x y = true := by simp [sameI, h, hv]
theorem gW (zs : List Int) : (xB zs).length = zs.length := by simp [xB]
theorem redL_push {zs : List Int} {j : Nat} {o : List jF} {d : Int} (hj : j < zs.length) (h : o = List.map jK ((xB zs).take j)) (hd : nF zs = d) : o ++ [jK ((zs.getD j 0).fdiv d)] = List.map jK ((xB zs).take (j + 1)) := by
  rw [h, takeZ (by rw [gW]; exact hj), List.map_append]
  congr 1
  simp [xB, hd, List.getD, List.getElem?_eq_getElem hj]
theorem redL_iok {n : Nat} {l : List jF} {zs : List Int} (hl : LOk n l zs) (j : Nat) : kZ ((List.map jK (xB zs)).getD j (jF.mk false [])) ((xB zs).getD j 0) n := by
  rcases Nat.lt_or_ge j (xB zs).length with h | h
  · have e1 : (List.map jK (xB zs)).getD j (jF.mk false []) = jK ((xB zs).getD j 0) := by
      simp [List.getD, List.getElem?_eq_getElem h]
    rw [e1]
    refine nL (redL_all hl.all _ ?_)
    rw [List.getD, List.getElem?_eq_getElem h]; exact List.getElem_mem h
  · rw [List.getD, List.getElem?_eq_none (by simpa using h), List.getD, List.getElem?_eq_none h]; exact iok_nilN n
theorem sgnL_pos {zs : List Int} (h : vK zs ≠ 0) : 0 < zs.length := by
  rcases zs with _ | ⟨z, zs⟩
  · exact absurd rfl h
  · simp
theorem valid_back {n : Nat} {l : List jF} {zs : List Int} (hl : LOk n l zs) (hv : List.all l uG = true) : l = zs.map jK := by
  induction hl with
  | nil => rfl
  | cons h t ih =>
    rw [List.all_cons, Bool.and_eq_true] at hv
    rw [List.map_cons, ← ih hv.2, ← h.v, iZ hv.1]
theorem plain_same {n : Nat} {l : List jF} {zs : List Int} (hl : LOk n l zs) (hv : List.all l uG = true) (hd : nF zs = 1) {i : Nat} (hi : i < l.length) : sameI (l.getD i (jF.mk false [])) ((List.map jK (xB zs)).getD i (jF.mk false [])) = true := by
  rw [redL_one hd, ← valid_back hl hv]; exact sameI_self _
theorem plain_step {a b : List jF} {i : Nat} (h : i < a.length) (h2 : i < b.length) (hv : a.take i = b.take i) (e : sameI (a.getD i (jF.mk false [])) (b.getD i (jF.mk false [])) = true) : a.take (i + 1) = b.take (i + 1) := by
  rw [List.take_succ_eq_append_getElem h, List.take_succ_eq_append_getElem h2, hv]
  congr 2
  have := sameI_iff.1 e
  simpa [List.getD, List.getElem?_eq_getElem h, List.getElem?_eq_getElem h2] using this
theorem plain_end {n : Nat} {l : List jF} {zs : List Int} (hl : LOk n l zs) (hnz : vK zs ≠ 0) (h : l.take l.length = (List.map jK (xB zs)).take l.length) : nF zs = 1 := by
  rw [List.take_length, hl.len, ← gW zs, ← List.length_map (f := jK), List.take_length] at h
  have h2 := hl.map
  rw [h, List.map_map] at h2
  have h3 : xB zs = zs := by
    conv => rhs; rw [← h2]
    conv => lhs; rw [← List.map_id (xB zs)]
    apply List.map_congr_left
    intro z _
    exact (mG z).symm
  exact redL_same hnz h3
theorem redB_yes {n : Nat} {l : List jF} {zs : List Int} (hl : LOk n l zs) (hv : List.all l uG = true) (hz : vK zs ≠ 0) (hd : nF zs = 1) : bZ l = true := by
  unfold bZ; rw [hv, hl.map, decide_eq_true hz, decide_eq_true hd]; rfl
theorem redB_no {n : Nat} {l : List jF} {zs : List Int} (hl : LOk n l zs) (hd : nF zs ≠ 1) : bZ l = false := by
  unfold bZ; rw [hl.map, decide_eq_false hd, Bool.and_false, Bool.and_false]
theorem all_nil {l : List jF} (h : ∀ x ∈ l, x = jF.mk false []) (i : Nat) : l.getD i (jF.mk false []) = jF.mk false [] := by
  rw [List.getD]
  cases hj : l[i]? with
  | none => rfl
  | some q => exact h q (List.mem_of_getElem? hj)
theorem all_ofZ (zs : List Int) : List.all (List.map jK zs) uG = true := by
  rw [List.all_eq_true]
  intro x hx
  obtain ⟨z, _, rfl⟩ := List.mem_map.1 hx
  exact iJ z
theorem map_toZ_ofZ (zs : List Int) : (List.map jK zs).map kK = zs := by
  rw [List.map_map]
  conv => rhs; rw [← List.map_id zs]
  apply List.map_congr_left
  intro z _
  exact mG z
theorem redB_ofZ (zs : List Int) : bZ (List.map jK zs) = (decide (vK zs ≠ 0) && decide (nF zs = 1)) := by
  unfold bZ; rw [all_ofZ, map_toZ_ofZ, Bool.true_and]
theorem redB_closed (zs : List Int) (h : vK zs ≠ 0 ∧ nF zs = 1) : bZ (List.map jK zs) = true := by
  rw [redB_ofZ, decide_eq_true h.1, decide_eq_true h.2]; rfl
theorem valH_closed (zs : List Int) (d : Int) (h : (vK zs ≠ 0 ∧ nF zs = 1) ∧ qX d ≠ 0) : valH (List.map jK zs) d = true := by
  unfold valH; rw [redB_closed zs h.1, bne_iff_ne.2 h.2]; rfl
end Go.Fid
