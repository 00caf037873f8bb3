/- Part 23 of a proof: rules, plain facts, and functions walked. -/
import Derived.Test.YtapjldagikfcmaaGreatM22
import Derived.Test.YtapjldagikfcmaaGreatM10
import Derived.Test.YtapjldagikfcmaaGreatM20
namespace Go.Proofs.YtapjldagikfcmaaGreat
open Go.Fid
set_option maxRecDepth 4000
set_option linter.unusedVariables false
set_option linter.unusedSimpArgs false
theorem ar245 : eP Tryz.prog 245 = some (4, 3, 1) := by kernel_rfl
theorem cb54 : callB Tryz.prog 54 = true := by kernel_rfl
theorem cb91 : callB Tryz.prog 91 = true := by kernel_rfl
theorem cb145 : callB Tryz.prog 145 = true := by kernel_rfl
theorem cb180 : callB Tryz.prog 180 = true := by kernel_rfl
theorem uB : zJ Tryz.prog 22 = some (3, 1) := by kernel_rfl
theorem eqs50 : eqsB Tryz.prog 50 = some 4 := by kernel_rfl
theorem dV : vN Tryz.prog 50 0 = some 0 := by kernel_rfl
theorem dZ : vN Tryz.prog 50 1 = some 1 := by kernel_rfl
theorem dW : vN Tryz.prog 50 2 = some 2 := by kernel_rfl
theorem dT : vN Tryz.prog 50 3 = some 3 := by kernel_rfl
theorem pl50 : cJ Tryz.prog 50 = some [(0, 1), (1, 1), (2, 1), (3, 1)] := by kernel_rfl
theorem yP : uJ Tryz.prog 50 = some (true, 4) := by kernel_rfl
theorem sh245 : uJ Tryz.prog 245 = some (true, 4) := by kernel_rfl
theorem ze50 : xL Tryz.prog 50 = some [.int .i64 0, .int .i64 0, .int .i64 0, .int .i64 0] := by kernel_rfl
theorem ze245 : xL Tryz.prog 245 = some [.int .i64 0, .int .i64 0, .int .i64 0, .int .i64 0] := by kernel_rfl
theorem zo50 : cD [.int .i64 0, .int .i64 0, .int .i64 0, .int .i64 0] [.val (.int .i64 0), .val (.int .i64 0), .val (.int .i64 0), .val (.int .i64 0)] := by simp [cD, Value.oneCell']
theorem zo245 : cD [.int .i64 0, .int .i64 0, .int .i64 0, .int .i64 0] [.val (.int .i64 0), .val (.int .i64 0), .val (.int .i64 0), .val (.int .i64 0)] := by simp [cD, Value.oneCell']
theorem q_parts (a b c d : Int) : kH Tryz.prog 180 [(uR (jL.mk a b c d))] (aE (A4.mk a b c d)) := by
 refine jM Tryz.func180 rfl cb180 rfl ?_
 show uY _ _ _ _ ⟨[(0, (.d (uR (jL.mk a b c d))))], []⟩
 refine jA <| kx [(1, (.ref 0 0)), (2, (.ref 1 0))] [(0, some (bx (uR (jL.mk a b c d)))), (1, some (bx (aE (A4.mk 0 0 0 0))))] (zN (vD 0) <| zN (uK 1 ze245 zo245) <| zZ) ?_
 refine jA <| kx [] [(1, some (bx (aE (A4.mk a b c d))))] (zE (kE dV) <| zR (qR qP) <| zE (kE dZ) <| zR (qR qP) <| zE (kE dW) <| zR (qR qP) <| zE (kE dT) <| zR (qR qP) <| zE (oBf ar245 ze245 zo245) <| zT (qG sh245) <| zZ) ?_
 refine jF ⟨_, (qS (cs := (bx (aE (A4.mk a b c d)))) (d := (aE (A4.mk a b c d))) rfl rfl sh245 rfl rfl .nil), ?_⟩
 rfl
theorem qs_list (a b c d : Int) : kH Tryz.prog 145 [(uR (jL.mk a b c d))] (.sl 3 1 (List.map qL [a, b, c, d])) := by
 refine jM Tryz.func145 rfl cb145 rfl ?_
 show uY _ _ _ _ ⟨[(0, (.d (uR (jL.mk a b c d))))], []⟩
 refine jA <| kx [(1, (.ref 0 0))] [(0, some (bx (uR (jL.mk a b c d))))] (zN (vD 0) <| zE (aX 3 1) <| zZ) ?_
 refine jA <| kx [(2, (vl 3 1 qL [a, b, c, d]))] [] (zE (kE dV) <| zR (qR qP) <| zE (kE dZ) <| zR (qR qP) <| zE (kE dW) <| zR (qR qP) <| zE (kE dT) <| zR (qR qP) <| zE (mC uB ze3 zo3) <| zM <| zZ) ?_
 refine jF ⟨_, (.tmp (d := (.sl 3 1 (List.map qL [a, b, c, d]))) rfl .nil), ?_⟩
 rfl
theorem q_chk (a b c d : Int) : kH Tryz.prog 91 [(uR (jL.mk a b c d))] (.val (.int .i64 ((((nF a b c d) : Nat) : Int)))) := by
 refine jM Tryz.func91 rfl cb91 rfl ?_
 show uY _ _ _ _ ⟨[(0, (.d (uR (jL.mk a b c d))))], []⟩
 refine jA <| kx [(1, (.ref 0 0))] [(0, some (bx (uR (jL.mk a b c d))))] (zN (vD 0) <| zM <| zZ) ?_
 refine jA <| jA <| kx [(7, (vb (decide ([a, b, c, d] = [0, 0, 0, 0]))))] [] (zR (kC yP) <| zE (oBd pl50 ze50 zo50) <| zE (oEs eqs50 .i64 [a, b, c, d] [0, 0, 0, 0]) <| zZ) ?_
 refine jO (b := (decide ([a, b, c, d] = [0, 0, 0, 0]))) rfl (fun h1 => ?_) (fun h1 => ?_)
 ·replace h1 := of_decide_eq_true h1
  refine jA <| kx [(2, (kD 1))] [] (zM <| zZ) ?_
  refine jF ⟨_, (.tmp (d := (.val (.int .i64 (((1 : Nat) : Int))))) rfl .nil), ?_⟩
  rw [rotC_z (by simp_all)]; rfl
 ·replace h1 := of_decide_eq_false h1
  refine jB <| jA <| jA <| kx [(9, (.d (aE (A4.mk a b c d)))), (10, (kD 0))] [] (zR (kC yP) <| zE (kB (q_parts a b c d)) <| zM <| zZ) ?_
  refine jE <| qF 20 ?_
  refine qU <| jA <| kx [(11, (vb true))] [] (zE (kR true qY) <| zZ) ?_
  refine jA <| jX ?_
  refine jB <| jA <| jE <| jA <| kx [(4, (vi a))] [] (zE (oXa ar245 qP (fun _ => rfl) 0) <| zM <| zZ) ?_
  refine jA <| kx [(18, (vb (decide (a < -1048576) || decide (((1048576 : Nat) : Int) < a))))] [] ?_ ?_
  ·refine zM <| zE qY <| zE (oV (vb (decide (a < -1048576))) (uS (by kernel_rfl))) <| ?_
   rcases hb2 : (decide (a < -1048576)) with _ | _
   ·replace hb2 := of_decide_eq_false hb2
    exact zM <| zE yZ <| zE eT <| zZ
   ·replace hb2 := of_decide_eq_true hb2
    exact zK <| zK <| zE yH <| zZ
  refine jO rfl (fun h3 => ?_) (fun h3 => ?_)
  ·refine jA <| kx [(2, (kD 3))] [] (zM <| zZ) ?_
   refine jF ⟨_, (.tmp (d := (.val (.int .i64 (((3 : Nat) : Int))))) rfl .nil), ?_⟩
   first | (rw [aO (by simp_all) (by first | (simp_all; done) | (simp_all; omega))]; rfl) | (rw [aS (by simp_all) (by first | (simp_all; done) | (simp_all; omega))]; rfl)
  ·refine jB <| kx [(10, (kD 1))] [] (zE (uE 1 (hr := by decide)) <| zM <| zZ) ?_
   refine jJ (jW.refl _) ?_
   refine jA <| kx [(11, (vb true))] [] (zE (kR true qY) <| zZ) ?_
   refine jA <| jX ?_
   refine jB <| jA <| jE <| jA <| kx [(4, (vi b))] [] (zE (oXa ar245 qP (fun _ => rfl) 1) <| zM <| zZ) ?_
   refine jA <| kx [(18, (vb (decide (b < -1048576) || decide (((1048576 : Nat) : Int) < b))))] [] ?_ ?_
   ·refine zM <| zE qY <| zE (oV (vb (decide (b < -1048576))) (uS (by kernel_rfl))) <| ?_
    rcases hb4 : (decide (b < -1048576)) with _ | _
    ·replace hb4 := of_decide_eq_false hb4
     exact zM <| zE yZ <| zE eT <| zZ
    ·replace hb4 := of_decide_eq_true hb4
     exact zK <| zK <| zE yH <| zZ
   refine jO rfl (fun h5 => ?_) (fun h5 => ?_)
   ·refine jA <| kx [(2, (kD 3))] [] (zM <| zZ) ?_
    refine jF ⟨_, (.tmp (d := (.val (.int .i64 (((3 : Nat) : Int))))) rfl .nil), ?_⟩
    first | (rw [aO (by simp_all) (by first | (simp_all; done) | (simp_all; omega))]; rfl) | (rw [aS (by simp_all) (by first | (simp_all; done) | (simp_all; omega))]; rfl)
   ·refine jB <| kx [(10, (kD 2))] [] (zE (uE 2 (hr := by decide)) <| zM <| zZ) ?_
    refine jJ (jW.refl _) ?_
    refine jA <| kx [(11, (vb true))] [] (zE (kR true qY) <| zZ) ?_
    refine jA <| jX ?_
    refine jB <| jA <| jE <| jA <| kx [(4, (vi c))] [] (zE (oXa ar245 qP (fun _ => rfl) 2) <| zM <| zZ) ?_
    refine jA <| kx [(18, (vb (decide (c < -1048576) || decide (((1048576 : Nat) : Int) < c))))] [] ?_ ?_
    ·refine zM <| zE qY <| zE (oV (vb (decide (c < -1048576))) (uS (by kernel_rfl))) <| ?_
     rcases hb6 : (decide (c < -1048576)) with _ | _
     ·replace hb6 := of_decide_eq_false hb6
      exact zM <| zE yZ <| zE eT <| zZ
     ·replace hb6 := of_decide_eq_true hb6
      exact zK <| zK <| zE yH <| zZ
    refine jO rfl (fun h7 => ?_) (fun h7 => ?_)
    ·refine jA <| kP (wk (l := [(9, (.d (aE (A4.mk a b c d)))), (10, (kD 2)), (18, (vb (decide (c < -1048576) || decide (((1048576 : Nat) : Int) < c))))]) (b := [])) ?_
     refine kx [(2, (kD 3))] [] (zM <| zZ) ?_
     refine jF ⟨_, (.tmp (d := (.val (.int .i64 (((3 : Nat) : Int))))) rfl .nil), ?_⟩
     first | (rw [aO (by simp_all) (by first | (simp_all; done) | (simp_all; omega))]; rfl) | (rw [aS (by simp_all) (by first | (simp_all; done) | (simp_all; omega))]; rfl)
    ·refine jB <| kP (wk (l := [(9, (.d (aE (A4.mk a b c d)))), (10, (kD 2)), (18, (vb (decide (c < -1048576) || decide (((1048576 : Nat) : Int) < c))))]) (b := [])) ?_
     refine kx [(10, (kD 3))] [] (zE (uE 3 (hr := by decide)) <| zM <| zZ) ?_
     refine jJ (jW.refl _) ?_
     refine jA <| kx [(11, (vb true))] [] (zE (kR true qY) <| zZ) ?_
     refine jA <| jX ?_
     refine jB <| jA <| jE <| jA <| kx [(4, (vi d))] [] (zE (oXa ar245 qP (fun _ => rfl) 3) <| zM <| zZ) ?_
     refine jA <| kx [(18, (vb (decide (d < -1048576) || decide (((1048576 : Nat) : Int) < d))))] [] ?_ ?_
     ·refine zM <| zE qY <| zE (oV (vb (decide (d < -1048576))) (uS (by kernel_rfl))) <| ?_
      rcases hb8 : (decide (d < -1048576)) with _ | _
      ·replace hb8 := of_decide_eq_false hb8
       exact zM <| zE yZ <| zE eT <| zZ
      ·replace hb8 := of_decide_eq_true hb8
       exact zK <| zK <| zE yH <| zZ
     refine jO rfl (fun h9 => ?_) (fun h9 => ?_)
     ·refine jA <| kx [(2, (kD 3))] [] (zM <| zZ) ?_
      refine jF ⟨_, (.tmp (d := (.val (.int .i64 (((3 : Nat) : Int))))) rfl .nil), ?_⟩
      first | (rw [aO (by simp_all) (by first | (simp_all; done) | (simp_all; omega))]; rfl) | (rw [aS (by simp_all) (by first | (simp_all; done) | (simp_all; omega))]; rfl)
     ·refine jB <| kx [(10, (kD 4))] [] (zE (uE 4 (hr := by decide)) <| zM <| zZ) ?_
      refine jJ (jW.refl _) ?_
      refine jA <| kx [(11, (vb false))] [] (zE (kR false qY) <| zZ) ?_
      refine jA <| jT ?_
      refine kJ <| jA <| kx [(2, (kD 0))] [] (zM <| zZ) ?_
      refine jF ⟨_, (.tmp (d := (.val (.int .i64 (((0 : Nat) : Int))))) rfl .nil), ?_⟩
      first | (rw [aO (by simp_all) (by first | (simp_all; done) | (simp_all; omega))]; rfl) | (rw [aS (by simp_all) (by first | (simp_all; done) | (simp_all; omega))]; rfl)
theorem qs_chk (a b c d : Int) : kH Tryz.prog 54 [(uR (jL.mk a b c d))] (.val (.int .i64 ((((nF a b c d) : Nat) : Int)))) := by
 refine jM Tryz.func54 rfl cb54 rfl ?_
 show uY _ _ _ _ ⟨[(0, (.d (uR (jL.mk a b c d))))], []⟩
 refine jA <| kx [(1, (.ref 0 0))] [(0, some (bx (uR (jL.mk a b c d))))] (zN (vD 0) <| zM <| zZ) ?_
 refine jA <| jA <| kx [(22, (vb ((((a == ((0 : Nat) : Int)) && (b == ((0 : Nat) : Int))) && (c == ((0 : Nat) : Int))) && (d == ((0 : Nat) : Int)))))] [] ?_ ?_
 ·refine zE (kE dV) <| zR (qR qP) <| zE xK <| zE (oV (vb (a == ((0 : Nat) : Int))) (uS (by kernel_rfl))) <| ?_
  rcases hb1 : (a == ((0 : Nat) : Int)) with _ | _
  ·replace hb1 := ne_of_beq_false hb1
   exact zK <| zK <| zK <| zE zU <| zM <| zK <| zK <| zK <| zE zU <| zM <| zK <| zK <| zK <| zE zU <| zZ
  ·replace hb1 := eq_of_beq hb1
   refine zE (kE dZ) <| zR (qR qP) <| zE xK <| zE oPa <| zE (oV (vb (true && (b == ((0 : Nat) : Int)))) (uS (by kernel_rfl))) <| ?_
   rcases hb2 : (true && (b == ((0 : Nat) : Int))) with _ | _
   ·exact zK <| zK <| zK <| zE zU <| zM <| zK <| zK <| zK <| zE zU <| zZ
   ·refine zE (kE dW) <| zR (qR qP) <| zE xK <| zE oPa <| zE (oV (vb (true && (c == ((0 : Nat) : Int)))) (uS (by kernel_rfl))) <| ?_
    rcases hb3 : (true && (c == ((0 : Nat) : Int))) with _ | _
    ·exact zK <| zK <| zK <| zE zU <| zZ
    ·exact zE (kE dT) <| zR (qR qP) <| zE xK <| zE oPa <| zZ
 refine jO rfl (fun h4 => ?_) (fun h4 => ?_)
 ·refine jA <| kx [(2, (kD 1))] [] (zM <| zZ) ?_
  refine jF ⟨_, (.tmp (d := (.val (.int .i64 (((1 : Nat) : Int))))) rfl .nil), ?_⟩
  rw [rotC_z (by simp_all)]; rfl
 ·refine jB <| jA <| kx [(3, (vl 3 1 qL [a, b, c, d]))] [] (zR (kC yP) <| zE (kB (qs_list a b c d)) <| zM <| zZ) ?_
  refine jA <| jA <| kx [(4, (kD 0))] [] (zM <| zZ) ?_
  refine jE <| qF 20 ?_
  refine qU <| jA <| jA <| kx [(26, (vb true))] [] (zM <| zE (kR true qY) <| zZ) ?_
  refine jX ?_
  refine jB <| jA <| jE <| jA <| kx [(40, (vb (decide (((1048576 : Nat) : Int) < a) || decide (a < -1048576))))] [] ?_ ?_
  ·refine zM <| zM <| zE (zS uB 0) <| zE (xN qP) <| zE yZ <| zE (oV (vb (decide (((1048576 : Nat) : Int) < a))) (uS (by kernel_rfl))) <| ?_
   rcases hb5 : (decide (((1048576 : Nat) : Int) < a)) with _ | _
   ·replace hb5 := of_decide_eq_false hb5
    exact zM <| zM <| zE (zS uB 0) <| zE (xN qP) <| zE qY <| zE eT <| zZ
   ·replace hb5 := of_decide_eq_true hb5
    exact zK <| zK <| zK <| zK <| zK <| zE yH <| zZ
  refine jO rfl (fun h6 => ?_) (fun h6 => ?_)
  ·refine jA <| kx [(2, (kD 3))] [] (zM <| zZ) ?_
   refine jF ⟨_, (.tmp (d := (.val (.int .i64 (((3 : Nat) : Int))))) rfl .nil), ?_⟩
   first | (rw [aO (by simp_all) (by first | (simp_all; done) | (simp_all; omega))]; rfl) | (rw [aS (by simp_all) (by first | (simp_all; done) | (simp_all; omega))]; rfl)
  ·refine jB <| kx [(4, (kD 1))] [] (zM <| zE (uE 1 (hr := by decide)) <| zM <| zZ) ?_
   refine jJ (jW.refl _) ?_
   refine jA <| jA <| kx [(26, (vb true))] [] (zM <| zE (kR true qY) <| zZ) ?_
   refine jX ?_
   refine jB <| jA <| jE <| jA <| kx [(40, (vb (decide (((1048576 : Nat) : Int) < b) || decide (b < -1048576))))] [] ?_ ?_
   ·refine zM <| zM <| zE (zS uB 1) <| zE (xN qP) <| zE yZ <| zE (oV (vb (decide (((1048576 : Nat) : Int) < b))) (uS (by kernel_rfl))) <| ?_
    rcases hb7 : (decide (((1048576 : Nat) : Int) < b)) with _ | _
    ·replace hb7 := of_decide_eq_false hb7
     exact zM <| zM <| zE (zS uB 1) <| zE (xN qP) <| zE qY <| zE eT <| zZ
    ·replace hb7 := of_decide_eq_true hb7
     exact zK <| zK <| zK <| zK <| zK <| zE yH <| zZ
   refine jO rfl (fun h8 => ?_) (fun h8 => ?_)
   ·refine jA <| kx [(2, (kD 3))] [] (zM <| zZ) ?_
    refine jF ⟨_, (.tmp (d := (.val (.int .i64 (((3 : Nat) : Int))))) rfl .nil), ?_⟩
    first | (rw [aO (by simp_all) (by first | (simp_all; done) | (simp_all; omega))]; rfl) | (rw [aS (by simp_all) (by first | (simp_all; done) | (simp_all; omega))]; rfl)
   ·refine jB <| kx [(4, (kD 2))] [] (zM <| zE (uE 2 (hr := by decide)) <| zM <| zZ) ?_
    refine jJ (jW.refl _) ?_
    refine jA <| jA <| kx [(26, (vb true))] [] (zM <| zE (kR true qY) <| zZ) ?_
    refine jX ?_
    refine jB <| jA <| jE <| jA <| kx [(40, (vb (decide (((1048576 : Nat) : Int) < c) || decide (c < -1048576))))] [] ?_ ?_
    ·refine zM <| zM <| zE (zS uB 2) <| zE (xN qP) <| zE yZ <| zE (oV (vb (decide (((1048576 : Nat) : Int) < c))) (uS (by kernel_rfl))) <| ?_
     rcases hb9 : (decide (((1048576 : Nat) : Int) < c)) with _ | _
     ·replace hb9 := of_decide_eq_false hb9
      exact zM <| zM <| zE (zS uB 2) <| zE (xN qP) <| zE qY <| zE eT <| zZ
     ·replace hb9 := of_decide_eq_true hb9
      exact zK <| zK <| zK <| zK <| zK <| zE yH <| zZ
    refine jO rfl (fun h10 => ?_) (fun h10 => ?_)
    ·refine jA <| kx [(2, (kD 3))] [] (zM <| zZ) ?_
     refine jF ⟨_, (.tmp (d := (.val (.int .i64 (((3 : Nat) : Int))))) rfl .nil), ?_⟩
     first | (rw [aO (by simp_all) (by first | (simp_all; done) | (simp_all; omega))]; rfl) | (rw [aS (by simp_all) (by first | (simp_all; done) | (simp_all; omega))]; rfl)
    ·refine jB <| kx [(4, (kD 3))] [] (zM <| zE (uE 3 (hr := by decide)) <| zM <| zZ) ?_
     refine jJ (jW.refl _) ?_
     refine jA <| jA <| kx [(26, (vb true))] [] (zM <| zE (kR true qY) <| zZ) ?_
     refine jX ?_
     refine jB <| jA <| jE <| jA <| kP (wk (l := [(3, (vl 3 1 qL [a, b, c, d])), (4, (kD 3)), (26, (vb true))]) (b := [])) ?_
     refine kx [(40, (vb (decide (((1048576 : Nat) : Int) < d) || decide (d < -1048576))))] [] ?_ ?_
     ·refine zM <| zM <| zE (zS uB 3) <| zE (xN qP) <| zE yZ <| zE (oV (vb (decide (((1048576 : Nat) : Int) < d))) (uS (by kernel_rfl))) <| ?_
      rcases hb11 : (decide (((1048576 : Nat) : Int) < d)) with _ | _
      ·replace hb11 := of_decide_eq_false hb11
       exact zM <| zM <| zE (zS uB 3) <| zE (xN qP) <| zE qY <| zE eT <| zZ
      ·replace hb11 := of_decide_eq_true hb11
       exact zK <| zK <| zK <| zK <| zK <| zE yH <| zZ
     refine jO rfl (fun h12 => ?_) (fun h12 => ?_)
     ·refine jA <| kx [(2, (kD 3))] [] (zM <| zZ) ?_
      refine jF ⟨_, (.tmp (d := (.val (.int .i64 (((3 : Nat) : Int))))) rfl .nil), ?_⟩
      first | (rw [aO (by simp_all) (by first | (simp_all; done) | (simp_all; omega))]; rfl) | (rw [aS (by simp_all) (by first | (simp_all; done) | (simp_all; omega))]; rfl)
     ·refine jB <| kx [(4, (kD 4))] [] (zM <| zE (uE 4 (hr := by decide)) <| zM <| zZ) ?_
      refine jJ (jW.refl _) ?_
      refine jA <| jA <| kx [(26, (vb false))] [] (zM <| zE (kR false qY) <| zZ) ?_
      refine jT ?_
      refine kJ <| jA <| kx [(2, (kD 0))] [] (zM <| zZ) ?_
      refine jF ⟨_, (.tmp (d := (.val (.int .i64 (((0 : Nat) : Int))))) rfl .nil), ?_⟩
      first | (rw [aO (by simp_all) (by first | (simp_all; done) | (simp_all; omega))]; rfl) | (rw [aS (by simp_all) (by first | (simp_all; done) | (simp_all; omega))]; rfl)
end Go.Proofs.YtapjldagikfcmaaGreat
set_option linter.unusedVariables false
set_option linter.unusedSimpArgs false
namespace Go.Fid
inductive LOk (n : Nat) : List jI → List Int → Prop
  | nil : LOk n [] []
  | cons {x : jI} {z : Int} {l : List jI} {zs : List Int} (h : nO x z n) (t : LOk n l zs) : LOk n (x :: l) (z :: zs)
theorem iok_nilN (n : Nat) : nO ⟨false, []⟩ 0 n := ⟨by decide, Nat.zero_le _⟩
theorem LOk.len {n : Nat} {l : List jI} {zs : List Int} (h : LOk n l zs) : l.length = zs.length := by
  induction h with
  | nil => rfl
  | cons h t ih => simp [ih]
theorem LOk.get {n : Nat} {l : List jI} {zs : List Int} (h : LOk n l zs) (i : Nat) : nO (l.getD i ⟨false, []⟩) (zs.getD i 0) n := by
  induction h generalizing i with
  | nil => exact iok_nilN n
  | cons h t ih =>
    rcases i with _ | i
    · exact h
    · exact ih i
theorem LOk.all {n : Nat} {l : List jI} {zs : List Int} (h : LOk n l zs) : ∀ z ∈ zs, mD z ≤ n := by
  induction h with
  | nil => simp
  | cons h t ih =>
    intro z hz
    rcases List.mem_cons.1 hz with rfl | hz
    · exact h.ln
    · exact ih z hz
theorem LOk.up {m n : Nat} {l : List jI} {zs : List Int} (h : LOk m l zs) (hm : m ≤ n) : LOk n l zs := by
  induction h with
  | nil => exact .nil
  | cons h t ih => exact .cons (nL h hm) ih
theorem signI_ne {z : Int} (h : z ≠ 0) : vC z ≠ 0 := by
  unfold vC; split <;> (try split) <;> omega
theorem LOk.map {n : Nat} {l : List jI} {zs : List Int} (h : LOk n l zs) : l.map kI = zs := by
  induction h with
  | nil => rfl
  | cons h t ih => rw [List.map_cons, ih, h.v]
theorem iok_eqz {x y : Int} {n : Nat} (h : x = y) (k : nO (kN y) y n) : nO (kN x) x n := h ▸ k
theorem all_nil {l : List jI} (h : ∀ x ∈ l, x = jI.mk false []) (i : Nat) : l.getD i (jI.mk false []) = jI.mk false [] := by
  rw [List.getD]
  cases hj : l[i]? with
  | none => rfl
  | some q => exact h q (List.mem_of_getElem? hj)
end Go.Fid
set_option linter.unusedVariables false
set_option linter.unusedSimpArgs false
namespace Go.Fid
def nq (a b c d : Int) : Int := (((a * a) + (b * b)) + (c * c)) + (d * d)
def N4 (a b c d : Int) : Rat := ((nq a b c d : Int) : Rat)
def r00 (a b c d : Int) : Int := (((a * a) + (b * b)) - (c * c)) - (d * d)
def yX (a b c d : Int) : Rat := ((r00 a b c d : Int) : Rat)
def Q00 (a b c d : Int) : Rat := Rat.divInt (r00 a b c d) (nq a b c d)
def r01 (a b c d : Int) : Int := 2 * ((b * c) - (a * d))
def yW (a b c d : Int) : Rat := ((r01 a b c d : Int) : Rat)
def Q01 (a b c d : Int) : Rat := Rat.divInt (r01 a b c d) (nq a b c d)
def r02 (a b c d : Int) : Int := 2 * ((b * d) + (a * c))
def vX (a b c d : Int) : Rat := ((r02 a b c d : Int) : Rat)
def Q02 (a b c d : Int) : Rat := Rat.divInt (r02 a b c d) (nq a b c d)
def r10 (a b c d : Int) : Int := 2 * ((b * c) + (a * d))
def gC (a b c d : Int) : Rat := ((r10 a b c d : Int) : Rat)
def Q10 (a b c d : Int) : Rat := Rat.divInt (r10 a b c d) (nq a b c d)
def r11 (a b c d : Int) : Int := (((a * a) - (b * b)) + (c * c)) - (d * d)
def gD (a b c d : Int) : Rat := ((r11 a b c d : Int) : Rat)
def Q11 (a b c d : Int) : Rat := Rat.divInt (r11 a b c d) (nq a b c d)
def r12 (a b c d : Int) : Int := 2 * ((c * d) - (a * b))
def xD (a b c d : Int) : Rat := ((r12 a b c d : Int) : Rat)
def Q12 (a b c d : Int) : Rat := Rat.divInt (r12 a b c d) (nq a b c d)
def r20 (a b c d : Int) : Int := 2 * ((b * d) - (a * c))
def gI (a b c d : Int) : Rat := ((r20 a b c d : Int) : Rat)
def Q20 (a b c d : Int) : Rat := Rat.divInt (r20 a b c d) (nq a b c d)
def r21 (a b c d : Int) : Int := 2 * ((c * d) + (a * b))
def gJ (a b c d : Int) : Rat := ((r21 a b c d : Int) : Rat)
def Q21 (a b c d : Int) : Rat := Rat.divInt (r21 a b c d) (nq a b c d)
def r22 (a b c d : Int) : Int := (((a * a) - (b * b)) - (c * c)) + (d * d)
def xF (a b c d : Int) : Rat := ((r22 a b c d : Int) : Rat)
def Q22 (a b c d : Int) : Rat := Rat.divInt (r22 a b c d) (nq a b c d)
theorem vQ {a b c d : Int} (h : nF a b c d = 0) : (-1048576 ≤ a ∧ a ≤ 1048576) ∧ (-1048576 ≤ b ∧ b ≤ 1048576) ∧ (-1048576 ≤ c ∧ c ≤ 1048576) ∧ (-1048576 ≤ d ∧ d ≤ 1048576) ∧ ¬ (a = 0 ∧ b = 0 ∧ c = 0 ∧ d = 0) := by
  unfold nF at h
  split at h
  · cases h
  · rename_i h0
    split at h
    · rename_i h1; exact ⟨h1.1, h1.2.1, h1.2.2.1, h1.2.2.2, h0⟩
    · cases h
theorem vU {x y z u v f a b c d : Int} (h : uQ x y z u v f a b c d = 0) : (-1048576 ≤ x ∧ x ≤ 1048576) ∧ (-1048576 ≤ y ∧ y ≤ 1048576) ∧ (-1048576 ≤ z ∧ z ≤ 1048576) ∧ (-1048576 ≤ u ∧ u ≤ 1048576) ∧ (-1048576 ≤ v ∧ v ≤ 1048576) ∧ (1 ≤ f ∧ f ≤ 1048576) ∧ nF a b c d = 0 := by
  unfold uQ at h
  split at h
  · rename_i hp; exact ⟨hp.1, hp.2.1, hp.2.2.1, hp.2.2.2.1, hp.2.2.2.2.1, hp.2.2.2.2.2, h⟩
  · cases h
theorem sq_nn (a : Int) : 0 ≤ a * a := by
  rcases Int.le_total 0 a with h | h
  · exact Int.mul_nonneg h h
  · exact Int.mul_nonneg_of_nonpos_of_nonpos h h
theorem sq_pos {a : Int} (h : a ≠ 0) : 0 < a * a := by
  rcases Int.lt_or_gt_of_ne h with h | h
  · exact Int.mul_pos_of_neg_of_neg h h
  · exact Int.mul_pos h h
theorem nq_pos {a b c d : Int} (h : nF a b c d = 0) : 0 < nq a b c d := by
  have h0 := (vQ h).2.2.2.2
  have ha := sq_nn a; have hb := sq_nn b; have hc := sq_nn c; have hd := sq_nn d
  unfold nq
  by_cases e1 : a = 0
  · by_cases e2 : b = 0
    · by_cases e3 : c = 0
      · by_cases e4 : d = 0
        · exact absurd ⟨e1, e2, e3, e4⟩ h0
        · have := sq_pos e4; omega
      · have := sq_pos e3; omega
    · have := sq_pos e2; omega
  · have := sq_pos e1; omega
theorem nq_ne {a b c d : Int} (h : nF a b c d = 0) : nq a b c d ≠ 0 := by have := nq_pos h; omega
theorem gX {a b c d : Int} (ha : (-1048576 ≤ a ∧ a ≤ 1048576)) (hb : (-1048576 ≤ b ∧ b ≤ 1048576)) (hc : (-1048576 ≤ c ∧ c ≤ 1048576)) (hd : (-1048576 ≤ d ∧ d ≤ 1048576)) : -9223372036854775808 ≤ nq a b c d ∧ nq a b c d ≤ 9223372036854775807 := by
  have h1 := vM ha ha; have h2 := vM hb hb; have h3 := vM hc hc; have h4 := vM hd hd
  unfold nq; omega
theorem ql_N4 {a b c d : Int} (ha : (-1048576 ≤ a ∧ a ≤ 1048576)) (hb : (-1048576 ≤ b ∧ b ≤ 1048576)) (hc : (-1048576 ≤ c ∧ c ≤ 1048576)) (hd : (-1048576 ≤ d ∧ d ≤ 1048576)) : QL (N4 a b c d) 3 := by
  have h := gX ha hb hc hd
  exact kL (jN h.1 h.2) (by decide)
theorem yL {z n : Int} (hn : n ≠ 0) : Rat.divInt z n * (n : Rat) = (z : Rat) := by
  rw [Rat.divInt_eq_div]
  exact Rat.div_mul_cancel (fun h => hn (Rat.intCast_eq_zero_iff.1 h))
theorem r00_b {a b c d : Int} (ha : (-1048576 ≤ a ∧ a ≤ 1048576)) (hb : (-1048576 ≤ b ∧ b ≤ 1048576)) (hc : (-1048576 ≤ c ∧ c ≤ 1048576)) (hd : (-1048576 ≤ d ∧ d ≤ 1048576)) : -9223372036854775808 ≤ r00 a b c d ∧ r00 a b c d ≤ 9223372036854775807 := by
  have h0 := vM ha ha; have h1 := vM hb hb; have h2 := vM hc hc; have h3 := vM hd hd
  unfold r00; omega
theorem ql_R00 {a b c d : Int} (ha : (-1048576 ≤ a ∧ a ≤ 1048576)) (hb : (-1048576 ≤ b ∧ b ≤ 1048576)) (hc : (-1048576 ≤ c ∧ c ≤ 1048576)) (hd : (-1048576 ≤ d ∧ d ≤ 1048576)) : QL (yX a b c d) 3 := by
  have h := r00_b ha hb hc hd
  exact kL (jN h.1 h.2) (by decide)
theorem ql_Q00 {a b c d : Int} (ha : (-1048576 ≤ a ∧ a ≤ 1048576)) (hb : (-1048576 ≤ b ∧ b ≤ 1048576)) (hc : (-1048576 ≤ c ∧ c ≤ 1048576)) (hd : (-1048576 ≤ d ∧ d ≤ 1048576)) : QL (Q00 a b c d) 3 := by
  have h := r00_b ha hb hc hd; have h2 := gX ha hb hc hd
  exact uC (jN h.1 h.2) (jN h2.1 h2.2) (by decide)
theorem Q00_n {a b c d : Int} (h : nq a b c d ≠ 0) : Q00 a b c d * N4 a b c d = yX a b c d := yL h
theorem r01_b {a b c d : Int} (ha : (-1048576 ≤ a ∧ a ≤ 1048576)) (hb : (-1048576 ≤ b ∧ b ≤ 1048576)) (hc : (-1048576 ≤ c ∧ c ≤ 1048576)) (hd : (-1048576 ≤ d ∧ d ≤ 1048576)) : -9223372036854775808 ≤ r01 a b c d ∧ r01 a b c d ≤ 9223372036854775807 := by
  have h0 := vM hb hc; have h1 := vM ha hd
  unfold r01; omega
theorem ql_R01 {a b c d : Int} (ha : (-1048576 ≤ a ∧ a ≤ 1048576)) (hb : (-1048576 ≤ b ∧ b ≤ 1048576)) (hc : (-1048576 ≤ c ∧ c ≤ 1048576)) (hd : (-1048576 ≤ d ∧ d ≤ 1048576)) : QL (yW a b c d) 3 := by
  have h := r01_b ha hb hc hd
  exact kL (jN h.1 h.2) (by decide)
theorem ql_Q01 {a b c d : Int} (ha : (-1048576 ≤ a ∧ a ≤ 1048576)) (hb : (-1048576 ≤ b ∧ b ≤ 1048576)) (hc : (-1048576 ≤ c ∧ c ≤ 1048576)) (hd : (-1048576 ≤ d ∧ d ≤ 1048576)) : QL (Q01 a b c d) 3 := by
  have h := r01_b ha hb hc hd; have h2 := gX ha hb hc hd
  exact uC (jN h.1 h.2) (jN h2.1 h2.2) (by decide)
theorem Q01_n {a b c d : Int} (h : nq a b c d ≠ 0) : Q01 a b c d * N4 a b c d = yW a b c d := yL h
theorem r02_b {a b c d : Int} (ha : (-1048576 ≤ a ∧ a ≤ 1048576)) (hb : (-1048576 ≤ b ∧ b ≤ 1048576)) (hc : (-1048576 ≤ c ∧ c ≤ 1048576)) (hd : (-1048576 ≤ d ∧ d ≤ 1048576)) : -9223372036854775808 ≤ r02 a b c d ∧ r02 a b c d ≤ 9223372036854775807 := by
  have h0 := vM hb hd; have h1 := vM ha hc
  unfold r02; omega
theorem ql_R02 {a b c d : Int} (ha : (-1048576 ≤ a ∧ a ≤ 1048576)) (hb : (-1048576 ≤ b ∧ b ≤ 1048576)) (hc : (-1048576 ≤ c ∧ c ≤ 1048576)) (hd : (-1048576 ≤ d ∧ d ≤ 1048576)) : QL (vX a b c d) 3 := by
  have h := r02_b ha hb hc hd
  exact kL (jN h.1 h.2) (by decide)
theorem ql_Q02 {a b c d : Int} (ha : (-1048576 ≤ a ∧ a ≤ 1048576)) (hb : (-1048576 ≤ b ∧ b ≤ 1048576)) (hc : (-1048576 ≤ c ∧ c ≤ 1048576)) (hd : (-1048576 ≤ d ∧ d ≤ 1048576)) : QL (Q02 a b c d) 3 := by
  have h := r02_b ha hb hc hd; have h2 := gX ha hb hc hd
  exact uC (jN h.1 h.2) (jN h2.1 h2.2) (by decide)
theorem Q02_n {a b c d : Int} (h : nq a b c d ≠ 0) : Q02 a b c d * N4 a b c d = vX a b c d := yL h
theorem r10_b {a b c d : Int} (ha : (-1048576 ≤ a ∧ a ≤ 1048576)) (hb : (-1048576 ≤ b ∧ b ≤ 1048576)) (hc : (-1048576 ≤ c ∧ c ≤ 1048576)) (hd : (-1048576 ≤ d ∧ d ≤ 1048576)) : -9223372036854775808 ≤ r10 a b c d ∧ r10 a b c d ≤ 9223372036854775807 := by
  have h0 := vM hb hc; have h1 := vM ha hd
  unfold r10; omega
theorem ql_R10 {a b c d : Int} (ha : (-1048576 ≤ a ∧ a ≤ 1048576)) (hb : (-1048576 ≤ b ∧ b ≤ 1048576)) (hc : (-1048576 ≤ c ∧ c ≤ 1048576)) (hd : (-1048576 ≤ d ∧ d ≤ 1048576)) : QL (gC a b c d) 3 := by
  have h := r10_b ha hb hc hd
  exact kL (jN h.1 h.2) (by decide)
theorem ql_Q10 {a b c d : Int} (ha : (-1048576 ≤ a ∧ a ≤ 1048576)) (hb : (-1048576 ≤ b ∧ b ≤ 1048576)) (hc : (-1048576 ≤ c ∧ c ≤ 1048576)) (hd : (-1048576 ≤ d ∧ d ≤ 1048576)) : QL (Q10 a b c d) 3 := by
  have h := r10_b ha hb hc hd; have h2 := gX ha hb hc hd
  exact uC (jN h.1 h.2) (jN h2.1 h2.2) (by decide)
theorem Q10_n {a b c d : Int} (h : nq a b c d ≠ 0) : Q10 a b c d * N4 a b c d = gC a b c d := yL h
theorem r11_b {a b c d : Int} (ha : (-1048576 ≤ a ∧ a ≤ 1048576)) (hb : (-1048576 ≤ b ∧ b ≤ 1048576)) (hc : (-1048576 ≤ c ∧ c ≤ 1048576)) (hd : (-1048576 ≤ d ∧ d ≤ 1048576)) : -9223372036854775808 ≤ r11 a b c d ∧ r11 a b c d ≤ 9223372036854775807 := by
  have h0 := vM ha ha; have h1 := vM hb hb; have h2 := vM hc hc; have h3 := vM hd hd
  unfold r11; omega
theorem ql_R11 {a b c d : Int} (ha : (-1048576 ≤ a ∧ a ≤ 1048576)) (hb : (-1048576 ≤ b ∧ b ≤ 1048576)) (hc : (-1048576 ≤ c ∧ c ≤ 1048576)) (hd : (-1048576 ≤ d ∧ d ≤ 1048576)) : QL (gD a b c d) 3 := by
  have h := r11_b ha hb hc hd
  exact kL (jN h.1 h.2) (by decide)
theorem ql_Q11 {a b c d : Int} (ha : (-1048576 ≤ a ∧ a ≤ 1048576)) (hb : (-1048576 ≤ b ∧ b ≤ 1048576)) (hc : (-1048576 ≤ c ∧ c ≤ 1048576)) (hd : (-1048576 ≤ d ∧ d ≤ 1048576)) : QL (Q11 a b c d) 3 := by
  have h := r11_b ha hb hc hd; have h2 := gX ha hb hc hd
  exact uC (jN h.1 h.2) (jN h2.1 h2.2) (by decide)
theorem Q11_n {a b c d : Int} (h : nq a b c d ≠ 0) : Q11 a b c d * N4 a b c d = gD a b c d := yL h
theorem r12_b {a b c d : Int} (ha : (-1048576 ≤ a ∧ a ≤ 1048576)) (hb : (-1048576 ≤ b ∧ b ≤ 1048576)) (hc : (-1048576 ≤ c ∧ c ≤ 1048576)) (hd : (-1048576 ≤ d ∧ d ≤ 1048576)) : -9223372036854775808 ≤ r12 a b c d ∧ r12 a b c d ≤ 9223372036854775807 := by
  have h0 := vM hc hd; have h1 := vM ha hb
  unfold r12; omega
theorem ql_R12 {a b c d : Int} (ha : (-1048576 ≤ a ∧ a ≤ 1048576)) (hb : (-1048576 ≤ b ∧ b ≤ 1048576)) (hc : (-1048576 ≤ c ∧ c ≤ 1048576)) (hd : (-1048576 ≤ d ∧ d ≤ 1048576)) : QL (xD a b c d) 3 := by
  have h := r12_b ha hb hc hd
  exact kL (jN h.1 h.2) (by decide)
theorem ql_Q12 {a b c d : Int} (ha : (-1048576 ≤ a ∧ a ≤ 1048576)) (hb : (-1048576 ≤ b ∧ b ≤ 1048576)) (hc : (-1048576 ≤ c ∧ c ≤ 1048576)) (hd : (-1048576 ≤ d ∧ d ≤ 1048576)) : QL (Q12 a b c d) 3 := by
  have h := r12_b ha hb hc hd; have h2 := gX ha hb hc hd
  exact uC (jN h.1 h.2) (jN h2.1 h2.2) (by decide)
theorem Q12_n {a b c d : Int} (h : nq a b c d ≠ 0) : Q12 a b c d * N4 a b c d = xD a b c d := yL h
theorem r20_b {a b c d : Int} (ha : (-1048576 ≤ a ∧ a ≤ 1048576)) (hb : (-1048576 ≤ b ∧ b ≤ 1048576)) (hc : (-1048576 ≤ c ∧ c ≤ 1048576)) (hd : (-1048576 ≤ d ∧ d ≤ 1048576)) : -9223372036854775808 ≤ r20 a b c d ∧ r20 a b c d ≤ 9223372036854775807 := by
  have h0 := vM hb hd; have h1 := vM ha hc
  unfold r20; omega
theorem ql_R20 {a b c d : Int} (ha : (-1048576 ≤ a ∧ a ≤ 1048576)) (hb : (-1048576 ≤ b ∧ b ≤ 1048576)) (hc : (-1048576 ≤ c ∧ c ≤ 1048576)) (hd : (-1048576 ≤ d ∧ d ≤ 1048576)) : QL (gI a b c d) 3 := by
  have h := r20_b ha hb hc hd
  exact kL (jN h.1 h.2) (by decide)
theorem ql_Q20 {a b c d : Int} (ha : (-1048576 ≤ a ∧ a ≤ 1048576)) (hb : (-1048576 ≤ b ∧ b ≤ 1048576)) (hc : (-1048576 ≤ c ∧ c ≤ 1048576)) (hd : (-1048576 ≤ d ∧ d ≤ 1048576)) : QL (Q20 a b c d) 3 := by
  have h := r20_b ha hb hc hd; have h2 := gX ha hb hc hd
  exact uC (jN h.1 h.2) (jN h2.1 h2.2) (by decide)
theorem Q20_n {a b c d : Int} (h : nq a b c d ≠ 0) : Q20 a b c d * N4 a b c d = gI a b c d := yL h
theorem r21_b {a b c d : Int} (ha : (-1048576 ≤ a ∧ a ≤ 1048576)) (hb : (-1048576 ≤ b ∧ b ≤ 1048576)) (hc : (-1048576 ≤ c ∧ c ≤ 1048576)) (hd : (-1048576 ≤ d ∧ d ≤ 1048576)) : -9223372036854775808 ≤ r21 a b c d ∧ r21 a b c d ≤ 9223372036854775807 := by
  have h0 := vM hc hd; have h1 := vM ha hb
  unfold r21; omega
theorem ql_R21 {a b c d : Int} (ha : (-1048576 ≤ a ∧ a ≤ 1048576)) (hb : (-1048576 ≤ b ∧ b ≤ 1048576)) (hc : (-1048576 ≤ c ∧ c ≤ 1048576)) (hd : (-1048576 ≤ d ∧ d ≤ 1048576)) : QL (gJ a b c d) 3 := by
  have h := r21_b ha hb hc hd
  exact kL (jN h.1 h.2) (by decide)
theorem ql_Q21 {a b c d : Int} (ha : (-1048576 ≤ a ∧ a ≤ 1048576)) (hb : (-1048576 ≤ b ∧ b ≤ 1048576)) (hc : (-1048576 ≤ c ∧ c ≤ 1048576)) (hd : (-1048576 ≤ d ∧ d ≤ 1048576)) : QL (Q21 a b c d) 3 := by
  have h := r21_b ha hb hc hd; have h2 := gX ha hb hc hd
  exact uC (jN h.1 h.2) (jN h2.1 h2.2) (by decide)
theorem Q21_n {a b c d : Int} (h : nq a b c d ≠ 0) : Q21 a b c d * N4 a b c d = gJ a b c d := yL h
theorem r22_b {a b c d : Int} (ha : (-1048576 ≤ a ∧ a ≤ 1048576)) (hb : (-1048576 ≤ b ∧ b ≤ 1048576)) (hc : (-1048576 ≤ c ∧ c ≤ 1048576)) (hd : (-1048576 ≤ d ∧ d ≤ 1048576)) : -9223372036854775808 ≤ r22 a b c d ∧ r22 a b c d ≤ 9223372036854775807 := by
  have h0 := vM ha ha; have h1 := vM hb hb; have h2 := vM hc hc; have h3 := vM hd hd
  unfold r22; omega
theorem ql_R22 {a b c d : Int} (ha : (-1048576 ≤ a ∧ a ≤ 1048576)) (hb : (-1048576 ≤ b ∧ b ≤ 1048576)) (hc : (-1048576 ≤ c ∧ c ≤ 1048576)) (hd : (-1048576 ≤ d ∧ d ≤ 1048576)) : QL (xF a b c d) 3 := by
  have h := r22_b ha hb hc hd
  exact kL (jN h.1 h.2) (by decide)
theorem ql_Q22 {a b c d : Int} (ha : (-1048576 ≤ a ∧ a ≤ 1048576)) (hb : (-1048576 ≤ b ∧ b ≤ 1048576)) (hc : (-1048576 ≤ c ∧ c ≤ 1048576)) (hd : (-1048576 ≤ d ∧ d ≤ 1048576)) : QL (Q22 a b c d) 3 := by
  have h := r22_b ha hb hc hd; have h2 := gX ha hb hc hd
  exact uC (jN h.1 h.2) (jN h2.1 h2.2) (by decide)
theorem Q22_n {a b c d : Int} (h : nq a b c d ≠ 0) : Q22 a b c d * N4 a b c d = xF a b c d := yL h
theorem kF {x y : Rat} {n : Nat} (h : x = y) (hy : QL y n) : QL x n := h ▸ hy
def xO (a b c : Rat) : Bool := decide (a = 0) && (decide (b = 0) && decide (c = 0))
theorem bF {a b c : Rat} (h : xO a b c = false) : ¬ (a = 0 ∧ b = 0 ∧ c = 0) := by
  rintro ⟨rfl, rfl, rfl⟩; simp [xO] at h
theorem zeroV_yes {a b c : Rat} (h : xO a b c = true) : a = 0 ∧ b = 0 ∧ c = 0 := by
  simp [xO] at h; exact h
theorem zeroV_of {a b c : Rat} (h : a = 0 ∧ b = 0 ∧ c = 0) : xO a b c = true := by
  simp [xO, h]
theorem zeroV_not {a b c : Rat} (h : ¬ (a = 0 ∧ b = 0 ∧ c = 0)) : xO a b c = false := by
  rcases e : xO a b c with _ | _
  · rfl
  · exact absurd (zeroV_yes e) h
theorem rsq_nn (a : Rat) : 0 ≤ a * a := by
  rcases Rat.le_total (a := 0) (b := a) with h | h
  · exact Rat.mul_nonneg h h
  · have : 0 ≤ (-a) * (-a) := Rat.mul_nonneg (by grind) (by grind)
    grind
theorem rsq_zero {a : Rat} (h : a * a = 0) : a = 0 := by
  rcases Rat.mul_eq_zero.1 h with h | h <;> exact h
theorem fJ {a b c : Rat} : jH a b c a b c = 0 ↔ (a = 0 ∧ b = 0 ∧ c = 0) := by
  unfold jH
  refine ⟨fun h => ?_, fun ⟨h1, h2, h3⟩ => by rw [h1, h2, h3]; grind⟩
  have ha := rsq_nn a; have hb := rsq_nn b; have hc := rsq_nn c
  exact ⟨rsq_zero (by grind), rsq_zero (by grind), rsq_zero (by grind)⟩
theorem zeroV_dot (a b c : Rat) : (xV (jH a b c a b c) == 0) = xO a b c := by
  rcases e : xO a b c with _ | _
  · exact beq_eq_false_iff_ne.2 (fun h => bF e (fJ.1 (cL.1 h)))
  · exact beq_iff_eq.2 (cL.2 (fJ.2 (zeroV_yes e)))
theorem zeroV_sgn (a b c : Rat) : xO a b c = (((xV a == 0) && (xV b == 0)) && (xV c == 0)) := by
  have h : ∀ x : Rat, (xV x == 0) = decide (x = 0) := fun x => by
    by_cases e : x = 0
    · rw [decide_eq_true e]; exact beq_iff_eq.2 (cL.2 e)
    · rw [decide_eq_false e]; exact beq_eq_false_iff_ne.2 (fun q => e (cL.1 q))
  rw [h, h, h, Bool.and_assoc]; rfl
def fH (a b c : Rat) : Int := ((Int.gcd a.num ((Int.gcd b.num c.num : Nat) : Int) : Nat) : Int)
theorem gcd3_ref (a b c : Rat) : ((Int.gcd (((Int.gcd (((Int.gcd 0 a.num : Nat)) : Int) b.num : Nat)) : Int) c.num : Nat) : Int) = fH a b c := by
  unfold fH
  rw [Int.gcd_zero_left]
  have h1 : ∀ (x : Int) (y : Int), Int.gcd ((x.natAbs : Nat) : Int) y = Int.gcd x y := fun x y => by
    unfold Int.gcd; rw [Int.natAbs_natCast]
  rw [h1, Int.gcd_assoc]
theorem gcd3_ne {a b c : Rat} (h : xO a b c = false) : fH a b c ≠ 0 := fun e => by
  unfold fH at e
  have e0 : Int.gcd a.num ((Int.gcd b.num c.num : Nat) : Int) = 0 := by omega
  obtain ⟨e1, e2⟩ := Int.gcd_eq_zero_iff.1 e0
  obtain ⟨e3, e4⟩ := Int.gcd_eq_zero_iff.1 (show Int.gcd b.num c.num = 0 by omega)
  exact bF h ⟨Rat.num_eq_zero.1 e1, Rat.num_eq_zero.1 e3, Rat.num_eq_zero.1 e4⟩
def yQ (a b c : Rat) : Rat := Rat.divInt 1 (fH a b c)
theorem lenZ_gcd0 {a b : Int} {n : Nat} (ha : mD a ≤ n) (hb : mD b ≤ n) : mD ((Int.gcd a b : Nat) : Int) ≤ n := by
  by_cases h : b = 0
  · rw [h, Int.gcd_zero_right]; exact Nat.le_trans (fS (by omega)) ha
  · exact lenZ_gcd h hb
theorem yA {a b c : Rat} {n k : Nat} (ha : QL a n) (hb : QL b n) (hc : QL c n) (h : n ≤ k) (h1 : 1 ≤ n) : QL (yQ a b c) k :=
  qV (uC (Nat.le_trans (vR (by decide)) h1) (lenZ_gcd0 ha.1 (lenZ_gcd0 hb.1 hc.1)) h1) h
theorem redK_ne {a b c : Rat} (h : xO a b c = false) : yQ a b c ≠ 0 := by
  have h1 := gcd3_ne h
  unfold yQ
  rw [Rat.divInt_eq_div]
  intro e
  have h2 : ((fH a b c : Int) : Rat) ≠ 0 := fun q => h1 (Rat.intCast_eq_zero_iff.1 q)
  have h3 := Rat.div_mul_cancel (a := ((1 : Int) : Rat)) h2
  rw [e, Rat.zero_mul] at h3
  exact absurd h3 (by decide)
theorem xM (a b c : Rat) : jH a b c ((0 : Int) : Rat) ((0 : Int) : Rat) ((1 : Int) : Rat) = c := by
  unfold jH
  rw [Rat.intCast_zero, Rat.intCast_one, Rat.mul_zero, Rat.mul_zero, Rat.mul_one, Rat.zero_add, Rat.zero_add]
def cQ (a b c d p q r s : Int) : Rat := (vX a b c d * N4 p q r s) + (vX p q r s * N4 a b c d)
theorem dq0_eq (a b c d p q r s : Int) : (vX a b c d * N4 p q r s) + (vX p q r s * N4 a b c d) = cQ a b c d p q r s := rfl
def cT (a b c d p q r s : Int) : Rat := (xD a b c d * N4 p q r s) + (xD p q r s * N4 a b c d)
theorem dq1_eq (a b c d p q r s : Int) : (xD a b c d * N4 p q r s) + (xD p q r s * N4 a b c d) = cT a b c d p q r s := rfl
def cS (a b c d p q r s : Int) : Rat := (xF a b c d * N4 p q r s) + (xF p q r s * N4 a b c d)
theorem dq2_eq (a b c d p q r s : Int) : (xF a b c d * N4 p q r s) + (xF p q r s * N4 a b c d) = cS a b c d p q r s := rfl
def RFr (lx ly lz la lb lc ld rx ry rz ra rb rc rd : Int) (b0 b1 b2 e00 e01 e02 e10 e11 e12 e20 e21 e22 : Rat) : Prop :=
  (((rx - lx) : Int) : Rat) = b0 ∧
  (((ry - ly) : Int) : Rat) = b1 ∧
  (((rz - lz) : Int) : Rat) = b2 ∧
  b0 * yQ b0 b1 b2 = e00 ∧
  b1 * yQ b0 b1 b2 = e01 ∧
  b2 * yQ b0 b1 b2 = e02 ∧
  (((cT la lb lc ld ra rb rc rd) * e02) - ((cS la lb lc ld ra rb rc rd) * e01)) * yQ (((cT la lb lc ld ra rb rc rd) * e02) - ((cS la lb lc ld ra rb rc rd) * e01)) (((cS la lb lc ld ra rb rc rd) * e00) - ((cQ la lb lc ld ra rb rc rd) * e02)) (((cQ la lb lc ld ra rb rc rd) * e01) - ((cT la lb lc ld ra rb rc rd) * e00)) = e10 ∧
  (((cS la lb lc ld ra rb rc rd) * e00) - ((cQ la lb lc ld ra rb rc rd) * e02)) * yQ (((cT la lb lc ld ra rb rc rd) * e02) - ((cS la lb lc ld ra rb rc rd) * e01)) (((cS la lb lc ld ra rb rc rd) * e00) - ((cQ la lb lc ld ra rb rc rd) * e02)) (((cQ la lb lc ld ra rb rc rd) * e01) - ((cT la lb lc ld ra rb rc rd) * e00)) = e11 ∧
  (((cQ la lb lc ld ra rb rc rd) * e01) - ((cT la lb lc ld ra rb rc rd) * e00)) * yQ (((cT la lb lc ld ra rb rc rd) * e02) - ((cS la lb lc ld ra rb rc rd) * e01)) (((cS la lb lc ld ra rb rc rd) * e00) - ((cQ la lb lc ld ra rb rc rd) * e02)) (((cQ la lb lc ld ra rb rc rd) * e01) - ((cT la lb lc ld ra rb rc rd) * e00)) = e12 ∧
  ((e01 * e12) - (e02 * e11)) * yQ ((e01 * e12) - (e02 * e11)) ((e02 * e10) - (e00 * e12)) ((e00 * e11) - (e01 * e10)) = e20 ∧
  ((e02 * e10) - (e00 * e12)) * yQ ((e01 * e12) - (e02 * e11)) ((e02 * e10) - (e00 * e12)) ((e00 * e11) - (e01 * e10)) = e21 ∧
  ((e00 * e11) - (e01 * e10)) * yQ ((e01 * e12) - (e02 * e11)) ((e02 * e10) - (e00 * e12)) ((e00 * e11) - (e01 * e10)) = e22
instance {lx ly lz la lb lc ld rx ry rz ra rb rc rd : Int} {b0 b1 b2 e00 e01 e02 e10 e11 e12 e20 e21 e22 : Rat} : Decidable (RFr lx ly lz la lb lc ld rx ry rz ra rb rc rd b0 b1 b2 e00 e01 e02 e10 e11 e12 e20 e21 e22) := by unfold RFr; infer_instance
def upV (la lb lc ld ra rb rc rd : Int) (b0 b1 b2 : Rat) : Bool := xO (((cT la lb lc ld ra rb rc rd) * b2) - ((cS la lb lc ld ra rb rc rd) * b1)) (((cS la lb lc ld ra rb rc rd) * b0) - ((cQ la lb lc ld ra rb rc rd) * b2)) (((cQ la lb lc ld ra rb rc rd) * b1) - ((cT la lb lc ld ra rb rc rd) * b0))
def stn2 (m n : Nat) : Nat := if m = 0 then n else m
theorem stn2_l {m n c : Nat} (h : ((m : Nat) : Int) ≠ ((0 : Nat) : Int)) (hc : stn2 m n = c) : m = c := by
  unfold stn2 at hc; rw [if_neg (by omega)] at hc; exact hc
theorem stn2_r {m n c : Nat} (h : ((m : Nat) : Int) = ((0 : Nat) : Int)) (hc : stn2 m n = c) : n = c := by
  unfold stn2 at hc; rw [if_pos (by omega)] at hc; exact hc
theorem stn2_0 {m n c : Nat} (h : ((m : Nat) : Int) = ((0 : Nat) : Int)) (h2 : ((n : Nat) : Int) = ((0 : Nat) : Int)) (hc : stn2 m n = c) : c = 0 := by
  rw [← stn2_r h hc]; omega
theorem cross_k (d0 d1 d2 a b c k : Rat) : (d1 * (c * k)) - (d2 * (b * k)) = (d1 * c - d2 * b) * k ∧ (d2 * (a * k)) - (d0 * (c * k)) = (d2 * a - d0 * c) * k ∧ (d0 * (b * k)) - (d1 * (a * k)) = (d0 * b - d1 * a) * k := by
  refine ⟨?_, ?_, ?_⟩ <;> grind
theorem zeroV_k {a b c k : Rat} (hk : k ≠ 0) : xO (a * k) (b * k) (c * k) = xO a b c := by
  have h : ∀ x : Rat, x * k = 0 ↔ x = 0 := fun x => ⟨fun e => (Rat.mul_eq_zero.1 e).resolve_right hk, fun e => by rw [e, Rat.zero_mul]⟩
  unfold xO
  simp only [h]
theorem upV_base {la lb lc ld ra rb rc rd : Int} {b0 b1 b2 : Rat} (h : upV la lb lc ld ra rb rc rd b0 b1 b2 = false) : xO b0 b1 b2 = false := by
  refine zeroV_not (fun ⟨h1, h2, h3⟩ => ?_)
  subst h1; subst h2; subst h3
  have h9 := bF h
  exact h9 ⟨by grind, by grind, by grind⟩
theorem up_zs {la lb lc ld ra rb rc rd : Int} {b0 b1 b2 : Rat} {v : Bool} (hz : xO b0 b1 b2 = false) (h : upV la lb lc ld ra rb rc rd b0 b1 b2 = v) : xO (((cT la lb lc ld ra rb rc rd) * (b2 * (yQ b0 b1 b2))) - ((cS la lb lc ld ra rb rc rd) * (b1 * (yQ b0 b1 b2)))) (((cS la lb lc ld ra rb rc rd) * (b0 * (yQ b0 b1 b2))) - ((cQ la lb lc ld ra rb rc rd) * (b2 * (yQ b0 b1 b2)))) (((cQ la lb lc ld ra rb rc rd) * (b1 * (yQ b0 b1 b2))) - ((cT la lb lc ld ra rb rc rd) * (b0 * (yQ b0 b1 b2)))) = v := by
  have hc := cross_k (cQ la lb lc ld ra rb rc rd) (cT la lb lc ld ra rb rc rd) (cS la lb lc ld ra rb rc rd) b0 b1 b2 (yQ b0 b1 b2)
  rw [hc.1, hc.2.1, hc.2.2, zeroV_k (redK_ne hz)]
  exact h
section
variable {lx ly lz la lb lc ld rx ry rz ra rb rc rd : Int} {b0 b1 b2 e00 e01 e02 e10 e11 e12 e20 e21 e22 : Rat}
theorem fr_zb (hF : RFr lx ly lz la lb lc ld rx ry rz ra rb rc rd b0 b1 b2 e00 e01 e02 e10 e11 e12 e20 e21 e22) (hup : upV la lb lc ld ra rb rc rd b0 b1 b2 = false) : xO b0 b1 b2 = false := upV_base hup
theorem fr_zs (hF : RFr lx ly lz la lb lc ld rx ry rz ra rb rc rd b0 b1 b2 e00 e01 e02 e10 e11 e12 e20 e21 e22) (hup : upV la lb lc ld ra rb rc rd b0 b1 b2 = false) : xO (((cT la lb lc ld ra rb rc rd) * e02) - ((cS la lb lc ld ra rb rc rd) * e01)) (((cS la lb lc ld ra rb rc rd) * e00) - ((cQ la lb lc ld ra rb rc rd) * e02)) (((cQ la lb lc ld ra rb rc rd) * e01) - ((cT la lb lc ld ra rb rc rd) * e00)) = false := by
  have h := up_zs (upV_base hup) hup
  obtain ⟨-, -, -, he0, he1, he2, -⟩ := hF
  rw [he0, he1, he2] at h
  exact h
theorem orth_cross (a b c d0 d1 d2 : Rat) : jH a b c ((d1 * c) - (d2 * b)) ((d2 * a) - (d0 * c)) ((d0 * b) - (d1 * a)) = 0 := by unfold jH; grind
theorem dot3_k (a b c x y z k : Rat) : jH a b c (x * k) (y * k) (z * k) = jH a b c x y z * k := by unfold jH; grind
theorem fr_01 (hF : RFr lx ly lz la lb lc ld rx ry rz ra rb rc rd b0 b1 b2 e00 e01 e02 e10 e11 e12 e20 e21 e22) : jH e00 e01 e02 e10 e11 e12 = 0 := by
  obtain ⟨-, -, -, -, -, -, he0, he1, he2, -⟩ := hF
  rw [← he0, ← he1, ← he2, dot3_k, orth_cross, Rat.zero_mul]
theorem lagr (a b c x y z : Rat) : jH (b * z - c * y) (c * x - a * z) (a * y - b * x) (b * z - c * y) (c * x - a * z) (a * y - b * x) = jH a b c a b c * jH x y z x y z - jH a b c x y z * jH a b c x y z := by
  unfold jH; grind
theorem fr_z0 (hF : RFr lx ly lz la lb lc ld rx ry rz ra rb rc rd b0 b1 b2 e00 e01 e02 e10 e11 e12 e20 e21 e22) (hup : upV la lb lc ld ra rb rc rd b0 b1 b2 = false) : xO e00 e01 e02 = false := by
  have h := upV_base hup
  obtain ⟨-, -, -, he0, he1, he2, -⟩ := hF
  rw [← zeroV_k (redK_ne h), he0, he1, he2] at h
  exact h
theorem fr_z1 (hF : RFr lx ly lz la lb lc ld rx ry rz ra rb rc rd b0 b1 b2 e00 e01 e02 e10 e11 e12 e20 e21 e22) (hup : upV la lb lc ld ra rb rc rd b0 b1 b2 = false) : xO e10 e11 e12 = false := by
  have h := fr_zs hF hup
  obtain ⟨-, -, -, -, -, -, he0, he1, he2, -⟩ := hF
  rw [← zeroV_k (redK_ne h), he0, he1, he2] at h
  exact h
theorem fr_zt (hF : RFr lx ly lz la lb lc ld rx ry rz ra rb rc rd b0 b1 b2 e00 e01 e02 e10 e11 e12 e20 e21 e22) (hup : upV la lb lc ld ra rb rc rd b0 b1 b2 = false) : xO ((e01 * e12) - (e02 * e11)) ((e02 * e10) - (e00 * e12)) ((e00 * e11) - (e01 * e10)) = false := by
  refine zeroV_not (fun hz => ?_)
  have h1 := fJ.2 hz
  rw [lagr, fr_01 hF, Rat.zero_mul, Rat.sub_eq_add_neg, Rat.neg_zero, Rat.add_zero] at h1
  rcases Rat.mul_eq_zero.1 h1 with h2 | h2
  · exact bF (fr_z0 hF hup) (fJ.1 h2)
  · exact bF (fr_z1 hF hup) (fJ.1 h2)
theorem fr_z2 (hF : RFr lx ly lz la lb lc ld rx ry rz ra rb rc rd b0 b1 b2 e00 e01 e02 e10 e11 e12 e20 e21 e22) (hup : upV la lb lc ld ra rb rc rd b0 b1 b2 = false) : xO e20 e21 e22 = false := by
  have h := fr_zt hF hup
  obtain ⟨-, -, -, -, -, -, -, -, -, he0, he1, he2⟩ := hF
  rw [← zeroV_k (redK_ne h), he0, he1, he2] at h
  exact h
end
theorem zb_ne {lx ly lz rx ry rz : Int} {b0 b1 b2 : Rat} (h0 : ((rx - lx : Int) : Rat) = b0) (h1 : ((ry - ly : Int) : Rat) = b1) (h2 : ((rz - lz : Int) : Rat) = b2) (h : ¬ ([lx, ly, lz] = [rx, ry, rz])) : xO b0 b1 b2 = false := by
  refine zeroV_not (fun ⟨q0, q1, q2⟩ => h ?_)
  rw [← h0] at q0; rw [← h1] at q1; rw [← h2] at q2
  have q0 := Rat.intCast_eq_zero_iff.1 q0; have q1 := Rat.intCast_eq_zero_iff.1 q1; have q2 := Rat.intCast_eq_zero_iff.1 q2
  rw [show lx = rx by omega, show ly = ry by omega, show lz = rz by omega]
theorem zb_eq {lx ly lz rx ry rz : Int} {b0 b1 b2 : Rat} (h0 : ((rx - lx : Int) : Rat) = b0) (h1 : ((ry - ly : Int) : Rat) = b1) (h2 : ((rz - lz : Int) : Rat) = b2) (h : [lx, ly, lz] = [rx, ry, rz]) : xO b0 b1 b2 = true := by
  simp only [List.cons.injEq, and_true] at h
  refine zeroV_of ⟨?_, ?_, ?_⟩
  · rw [← h0]; exact Rat.intCast_eq_zero_iff.2 (by omega)
  · rw [← h1]; exact Rat.intCast_eq_zero_iff.2 (by omega)
  · rw [← h2]; exact Rat.intCast_eq_zero_iff.2 (by omega)
section
variable {a b c d : Int} (ha : -1048576 ≤ a ∧ a ≤ 1048576 := by first | assumption | omega) (hb : -1048576 ≤ b ∧ b ≤ 1048576 := by first | assumption | omega) (hc : -1048576 ≤ c ∧ c ≤ 1048576 := by first | assumption | omega) (hd : -1048576 ≤ d ∧ d ≤ 1048576 := by first | assumption | omega)
include ha hb hc hd
theorem kR00 : QL (yX a b c d) 3 := ql_R00 ha hb hc hd
theorem kR01 : QL (yW a b c d) 3 := ql_R01 ha hb hc hd
theorem kR02 : QL (vX a b c d) 3 := ql_R02 ha hb hc hd
theorem kR10 : QL (gC a b c d) 3 := ql_R10 ha hb hc hd
theorem kR11 : QL (gD a b c d) 3 := ql_R11 ha hb hc hd
theorem kR12 : QL (xD a b c d) 3 := ql_R12 ha hb hc hd
theorem kR20 : QL (gI a b c d) 3 := ql_R20 ha hb hc hd
theorem kR21 : QL (gJ a b c d) 3 := ql_R21 ha hb hc hd
theorem kR22 : QL (xF a b c d) 3 := ql_R22 ha hb hc hd
theorem kQ00 : QL (Q00 a b c d) 3 := ql_Q00 ha hb hc hd
theorem kQ01 : QL (Q01 a b c d) 3 := ql_Q01 ha hb hc hd
theorem kQ02 : QL (Q02 a b c d) 3 := ql_Q02 ha hb hc hd
theorem kQ10 : QL (Q10 a b c d) 3 := ql_Q10 ha hb hc hd
theorem kQ11 : QL (Q11 a b c d) 3 := ql_Q11 ha hb hc hd
theorem kQ12 : QL (Q12 a b c d) 3 := ql_Q12 ha hb hc hd
theorem kQ20 : QL (Q20 a b c d) 3 := ql_Q20 ha hb hc hd
theorem kQ21 : QL (Q21 a b c d) 3 := ql_Q21 ha hb hc hd
theorem kQ22 : QL (Q22 a b c d) 3 := ql_Q22 ha hb hc hd
theorem kN4 : QL (N4 a b c d) 3 := ql_N4 ha hb hc hd
end
end Go.Fid
