/- Part 22 of a proof: rules, plain facts, and functions walked. -/
import Derived.Test.YtciingpdmjepgaaGreatM19
import Derived.Test.YtciingpdmjepgaaGreatM11
import Derived.Test.YtciingpdmjepgaaGreatM12
import Derived.Test.YtciingpdmjepgaaGreatM20
import Derived.Test.YtciingpdmjepgaaGreatM18
import Derived.Test.YtciingpdmjepgaaGreatM21
set_option linter.all false
set_option maxRecDepth 4000
namespace Go.Proofs.YtciingpdmjepgaaGreat
open Go.Fid
theorem ar119:arrB Tryz.prog 119=some (4,49,2):=by kernel_rfl
theorem in3:intB Tryz.prog 3=some .i64:=by kernel_rfl
theorem sh119:kQ Tryz.prog 119=some (true,8):=by kernel_rfl
theorem ze4:uO Tryz.prog 4=some [.bool false]:=by kernel_rfl
theorem zo4:nH [.bool false] [.val (.bool false)]:=by simp [nH,Value.oneCell']
theorem aI(z:Int)(hz:xI (kG z) z 10000001):jU Tryz.prog 63 [(jL (kG z))] (.tup [(.val (.int .i64 ((jO z)))),(.val (.bool ((kO z))))]):=by
 have hzl:=hz.l
 refine vD Tryz.func63 ?_
 refine jA<|kx [(1,(.ref 0 0)),(2,(.ref 1 0)),(3,(.ref 2 0))] [(0,some (bx (jL (kG z)))),(1,some (bx (.val (.int .i64 (0))))),(2,some (bx (.val (.bool (false)))))] (zN (yB 0)<|zN (vL 1 ze3 zo3)<|zN (vL 2 ze4 zo4)<|zZ) ?_
 refine jA<|kx [(4,(vl 135 1 jC (jQ (kG z))))] [] (zR (qE jP)<|zE (kD (yJ (kG z) (by omega)))<|zM<|zZ) ?_
 refine jA<|jA<|kx [(12,(vb (decide (3<(((jQ (kG z)).length:Nat):Int)))))] [] (zM<|zE (vV kE (L:=(jQ (kG z))))<|zE cC<|zZ) ?_
 refine jF rfl (fun h1=>?_) (fun h1=>?_)
 ·replace h1:=uY h1
  refine jA<|kx [] [(1,some (bx (.val (.int .i64 (0))))),(2,some (bx (.val (.bool (false)))))] (zT (qO kK)<|zT (qO aH)<|zZ) ?_
  refine jG ⟨_,(fC (cs:=(bx (.val (.int .i64 (0))))) (d:=(.val (.int .i64 (0)))) rfl rfl kK rfl rfl (fC (cs:=(bx (.val (.bool (false))))) (d:=(.val (.bool (false)))) rfl rfl aH rfl rfl .nil)),?_⟩
  have hz0:=gz_long (z:=z) (by omega)
  rw[smallI_f (fits64_f hz0),fits64_f hz0];rfl
 ·replace h1:=uZ h1
  have h3:(jQ (kG z)).length<=3:=by omega
  refine jD<|jA<|kx [(5,(.ref 3 0))] [(3,some (bx (.val (.int .u64 (0)))))] (zN (vL 3 ze122 zo122)<|zT (qO eE)<|zZ) ?_
  refine jA<|pwp_backL backs cb84 rfl 7 jC (jQ (kG z)) 0 (fun n=>⟨[(1,(.ref 0 0)),(2,(.ref 1 0)),(3,(.ref 2 0)),(4,(vl 135 1 jC (jQ (kG z)))),(5,(.ref 3 0))],[(0,some (bx (jL (kG z)))),(1,some (bx (.val (.int .i64 (0))))),(2,some (bx (.val (.bool (false))))),(3,some (bx (.val (.int .u64 (((n:Nat):Int))))))]⟩) (fun (j:Nat) n=>n=val ((jQ (kG z)).drop ((jQ (kG z)).length-j))/\n<=9223372036854775808) 0 rfl rfl rfl rfl rfl rfl rfl rfl rfl rfl rfl rfl (fun _=>rfl) (fun _=>rfl) wk ⟨by simp [val],by decide⟩ (by omega) ?_ ?_
  ·rintro rl j n hj ⟨hn,hb⟩
   have hd:=(gz_dig z).getD ((jQ (kG z)).length-1-j)
   have hrm:=gz_room (z:=z) (j:=j) (n:=n)
   refine kx [(7,(fU ((jQ (kG z)).getD ((jQ (kG z)).length-1-j) 0)))] [] (zM<|zZ) ?_
   refine jH<|jA<|jA<|kx [(22,(vb (decide ((((9223372036854775808-((jQ (kG z)).getD ((jQ (kG z)).length-1-j) 0)) / 1000000000:Nat):Int)<((n:Nat):Int)))))] [] (zR (jZ eE)<|zM<|zE (nR xW xM ((jQ (kG z)).getD ((jQ (kG z)).length-1-j) 0))<|zE (oSb (9223372036854775808-((jQ (kG z)).getD ((jQ (kG z)).length-1-j) 0)) (hr:=by exact (wu64 (by omega) (by omega) (by omega))))<|zE (oQu ((9223372036854775808-((jQ (kG z)).getD ((jQ (kG z)).length-1-j) 0)) / 1000000000) (hr:=by exact (quo_u64 (9223372036854775808-((jQ (kG z)).getD ((jQ (kG z)).length-1-j) 0)) 1000000000 (by omega))))<|zE cC<|zZ) ?_
   refine jF rfl (fun h2=>?_) (fun h2=>?_)
   ·replace h2:=uY h2
    refine jA<|kx [] [(1,some (bx (.val (.int .i64 (0))))),(2,some (bx (.val (.bool (false)))))] (zT (qO kK)<|zT (qO aH)<|zZ) ?_
    refine jG ⟨⟨[(2,(.ref 1 0)),(3,(.ref 2 0))],[(1,some (bx (.val (.int .i64 (0))))),(2,some (bx (.val (.bool (false)))))]⟩,wk,keys_of rfl,⟨_,(fC (cs:=(bx (.val (.int .i64 (0))))) (d:=(.val (.int .i64 (0)))) rfl rfl kK rfl rfl (fC (cs:=(bx (.val (.bool (false))))) (d:=(.val (.bool (false)))) rfl rfl aH rfl rfl .nil)),?_⟩⟩
    have hz0:=gz_over hj hn (by omega)
    rw[smallI_f (fits64_f hz0),fits64_f hz0];rfl
   ·replace h2:=uZ h2
    refine jD<|kx [] [(3,some (bx (.val (.int .u64 (((((n*1000000000)+((jQ (kG z)).getD ((jQ (kG z)).length-1-j) 0)):Nat):Int))))))] (zR (jZ eE)<|zE (oMl (n*1000000000))<|zM<|zE (nR xW xM ((jQ (kG z)).getD ((jQ (kG z)).length-1-j) 0))<|zE (uL ((n*1000000000)+((jQ (kG z)).getD ((jQ (kG z)).length-1-j) 0)))<|zT (qO eE)<|zZ) ?_
    exact ⟨n*1000000000+((jQ (kG z)).getD ((jQ (kG z)).length-1-j) 0),wk,⟨gz_step hj hn,hrm (by omega)⟩⟩
  ·rintro n ⟨hn,hb⟩
   have hz1:=gz_end hn
   refine jA<|jH<|jA<|kx [(28,(vb (decide (0<(((jQ (kG z)).length:Nat):Int))&&(kG z).neg)))] [] ?_ ?_
   ·refine zM<|zE (vV kE (L:=(jQ (kG z))))<|zE cC<|zE (oV (vb (decide (0<(((jQ (kG z)).length:Nat):Int)))) (kA (by kernel_rfl)))<|?_
    rcases hb3:(decide (0<(((jQ (kG z)).length:Nat):Int))) with _ | _
    ·replace hb3:=uZ hb3
     exact zK<|zK<|zE mJ<|zM<|zZ
    ·replace hb3:=uY hb3
     exact zE (jY vT)<|zR (jZ aH)<|zE aC<|zM<|zZ
   refine jF rfl (fun h4=>?_) (fun h4=>?_)
   ·refine jA<|kx [] [(1,some (bx (.val (.int .i64 ((-((n:Nat):Int))))))),(2,some (bx (.val (.bool (true)))))] (zR (jZ eE)<|zE (oNg (((18446744073709551616-n) % 18446744073709551616:Nat):Int) (hr:=by exact (negu64 hb)))<|zE (zCv yS in3 (-((n:Nat):Int)) (hr:=by exact (negi64 hb)))<|zT (qO kK)<|zT (qO aH)<|zZ) ?_
    refine jG ⟨_,(fC (cs:=(bx (.val (.int .i64 ((-((n:Nat):Int))))))) (d:=(.val (.int .i64 ((-((n:Nat):Int)))))) rfl rfl kK rfl rfl (fC (cs:=(bx (.val (.bool (true))))) (d:=(.val (.bool (true)))) rfl rfl aH rfl rfl .nil)),?_⟩
    obtain ⟨q1,q2⟩:=sm_n hz1 hb (sm_neg h4)
    rw[q1,q2];rfl
   ·refine jA<|kx [(39,(vb (((n:Nat):Int) == 9223372036854775808)))] [] (zR (jZ eE)<|zE zW<|zM<|zZ) ?_
    refine jF rfl (fun h5=>?_) (fun h5=>?_)
    ·replace h5:=eq_of_beq h5
     refine jA<|kx [] [(1,some (bx (.val (.int .i64 (0))))),(2,some (bx (.val (.bool (false)))))] (zT (qO kK)<|zT (qO aH)<|zZ) ?_
     refine jG ⟨_,(fC (cs:=(bx (.val (.int .i64 (0))))) (d:=(.val (.int .i64 (0)))) rfl rfl kK rfl rfl (fC (cs:=(bx (.val (.bool (false))))) (d:=(.val (.bool (false)))) rfl rfl aH rfl rfl .nil)),?_⟩
     obtain ⟨q1,q2⟩:=sm_x (z:=z) (by have:=sm_pos h4;omega)
     rw[q1,q2];rfl
    ·replace h5:=ne_of_beq_false h5
     refine jD<|jA<|kx [] [(1,some (bx (.val (.int .i64 (((n:Nat):Int)))))),(2,some (bx (.val (.bool (true)))))] (zR (jZ eE)<|zE (nR yS in3 n)<|zT (qO kK)<|zT (qO aH)<|zZ) ?_
     refine jG ⟨_,(fC (cs:=(bx (.val (.int .i64 (((n:Nat):Int)))))) (d:=(.val (.int .i64 (((n:Nat):Int))))) rfl rfl kK rfl rfl (fC (cs:=(bx (.val (.bool (true))))) (d:=(.val (.bool (true)))) rfl rfl aH rfl rfl .nil)),?_⟩
     obtain ⟨q1,q2⟩:=sm_p hz1 (by omega) (sm_pos h4)
     rw[q1,q2];rfl
theorem l_prim(z0 z1 z2 z3:Int)(hz0:xI (kG z0) z0 4)(hz1:xI (kG z1) z1 4)(hz2:xI (kG z2) z2 4)(hz3:xI (kG z3) z3 4)(hnz:cU (jB.mk z0 z1 z2 z3)):jU Tryz.prog 64 [(encA119 (A4.mk (kG z0) (kG z1) (kG z2) (kG z3)))] (.tup [(jI (qV (jB.mk z0 z1 z2 z3))),(.val (.int .i64 ((((qC (jB.mk z0 z1 z2 z3)):Nat):Int))))]):=by
 have hln:=q4_len hz0 hz1 hz2 hz3
 have hgI:=gcd_iok hln
 have hgn:=gcd_n hnz
 let y3:=(encA119 (A4.mk (kG z0) (kG z1) (kG z2) (kG z3)))
 let y2:=(bx y3)
 let y1:=(bx (jL (kG ((Int.gcd (((Int.gcd (((Int.gcd (((Int.gcd 0 z0:Nat):Int)) z1:Nat):Int)) z2:Nat):Int)) z3:Nat):Int))))
 refine vD Tryz.func64 ?_
 refine jA<|kx [(1,(.ref 0 0)),(2,(.ref 1 0))] [(0,some y2),(1,some (bx (jI (jB.mk 0 0 0 0))))] (zN (yB 0)<|zN (vL 1 gK gS)<|zM<|zZ) ?_
 refine jA<|kx [(4,(.ref 2 0)),(5,(.ref 3 0))] [(2,some (bx (jL (kR.mk false [])))),(3,some (bx (jL (kR.mk false []))))] (zN (vL 2 vY vZ)<|zN (vL 3 vY vZ)<|zZ) ?_
 refine pwp_meet (α:=Int × Int) (fun (g,f)=>⟨[(1,(.ref 0 0)),(2,(.ref 1 0)),(4,(.ref 2 0)),(5,(.ref 3 0))],[(0,some y2),(1,some (bx (jI (jB.mk 0 0 0 0)))),(2,some (bx (jL (kG g)))),(3,some (bx (jL (kG f))))]⟩) (fun (g,f)=>g=((gcdL (qL (jB.mk z0 z1 z2 z3)):Nat):Int)/\f=dF (qL (jB.mk z0 z1 z2 z3))) ?_ ?_
 ·refine jA<|kx [(16,(.d y3)),(17,(jN 0))] [] (zR (qE sh119)<|zM<|zZ) ?_
  refine jH<|yY 20 ?_
  refine hC<|jA<|kx [(18,(vb true))] [] (zE (gI true uT)<|zZ) ?_
  refine jA<|qZ ?_
  refine jD<|jA<|jH<|jA<|kx [(7,(.ref 4 0))] [(4,some (bx (jL (kG z0))))] (zE (oXa ar119 jP (fun h=>by cases h) 0)<|zN (vL 4 vY vZ)<|zT (qO jP)<|zZ) ?_
  refine jA<|kx [] [(2,some (bx (jL (kG ((Int.gcd 0 z0:Nat):Int)))))] (zR (qE jP)<|zR (qE jP)<|zE (kD (s_gcd cN hz0))<|zT (qO jP)<|zZ) ?_
  refine jA<|kx [(25,(vb true))] [] (zR (qE jP)<|zE (kD (dY cN))<|zE (gI true zW (by exact beq_iff_eq.2 rfl))<|zZ) ?_
  refine qZ ?_
  refine kx [] [(3,some (bx (jL (kG z0))))] (zR (qE jP)<|zT (qO jP)<|zZ) ?_
  refine kx [(17,(jN 1))] [] (zE (uL 1 (hr:=by decide))<|zM<|zZ) ?_
  refine kS (kP.refl _) ?_
  refine jA<|kx [(18,(vb true))] [] (zE (gI true uT)<|zZ) ?_
  refine jA<|qZ ?_
  refine jD<|jA<|jH<|jA<|kx [(7,(.ref 5 0))] [(5,some (bx (jL (kG z1))))] (zE (oXa ar119 jP (fun h=>by cases h) 1)<|zN (vL 5 vY vZ)<|zT (qO jP)<|zZ) ?_
  refine jA<|kx [] [(2,some (bx (jL (kG ((Int.gcd (((Int.gcd 0 z0:Nat):Int)) z1:Nat):Int)))))] (zR (qE jP)<|zR (qE jP)<|zE (kD (s_gcd (vX (k:=4) cN hz0) hz1))<|zT (qO jP)<|zZ) ?_
  refine jA<|kx [(25,(vb ((kW z0) == ((0:Nat):Int))))] [] (zR (qE jP)<|zE (kD (dY hz0))<|zE zW<|zZ) ?_
  refine jF (b:=((kW z0) == ((0:Nat):Int))) rfl (fun h1=>?_) (fun h1=>?_)
  ·replace h1:=eq_of_beq h1
   refine kx [] [(3,some (bx (jL (kG z1))))] (zR (qE jP)<|zT (qO jP)<|zZ) ?_
   refine kU (wk (l:=[(1,(.ref 0 0)),(2,(.ref 1 0)),(4,(.ref 2 0)),(5,(.ref 3 0)),(16,(.d y3)),(17,(jN 1))]) (b:=[(0,some y2),(1,some (bx (jI (jB.mk 0 0 0 0)))),(2,some (bx (jL (kG ((Int.gcd (((Int.gcd 0 z0:Nat):Int)) z1:Nat):Int))))),(3,some (bx (jL (kG z1))))])) ?_
   refine kx [(17,(jN 2))] [] (zE (uL 2 (hr:=by decide))<|zM<|zZ) ?_
   refine kS (kP.refl _) ?_
   refine jA<|kx [(18,(vb true))] [] (zE (gI true uT)<|zZ) ?_
   refine jA<|qZ ?_
   refine jD<|jA<|jH<|jA<|kx [(7,(.ref 6 0))] [(6,some (bx (jL (kG z2))))] (zE (oXa ar119 jP (fun h=>by cases h) 2)<|zN (vL 6 vY vZ)<|zT (qO jP)<|zZ) ?_
   refine jA<|kx [] [(2,some (bx (jL (kG ((Int.gcd (((Int.gcd (((Int.gcd 0 z0:Nat):Int)) z1:Nat):Int)) z2:Nat):Int)))))] (zR (qE jP)<|zR (qE jP)<|zE (kD (s_gcd (vX (k:=4) (vX (k:=4) cN hz0) hz1) hz2))<|zT (qO jP)<|zZ) ?_
   refine jA<|kx [(25,(vb ((kW z1) == ((0:Nat):Int))))] [] (zR (qE jP)<|zE (kD (dY hz1))<|zE zW<|zZ) ?_
   refine jF (b:=((kW z1) == ((0:Nat):Int))) rfl (fun h2=>?_) (fun h2=>?_)
   ·replace h2:=eq_of_beq h2
    refine kx [] [(3,some (bx (jL (kG z2))))] (zR (qE jP)<|zT (qO jP)<|zZ) ?_
    refine kx [(17,(jN 3))] [] (zE (uL 3 (hr:=by decide))<|zM<|zZ) ?_
    refine kS (kP.refl _) ?_
    refine jA<|kx [(18,(vb true))] [] (zE (gI true uT)<|zZ) ?_
    refine jA<|qZ ?_
    refine jD<|jA<|jH<|jA<|kx [(7,(.ref 7 0))] [(7,some (bx (jL (kG z3))))] (zE (oXa ar119 jP (fun h=>by cases h) 3)<|zN (vL 7 vY vZ)<|zT (qO jP)<|zZ) ?_
    refine jA<|kx [] [(2,some y1)] (zR (qE jP)<|zR (qE jP)<|zE (kD (s_gcd (vX (k:=4) (vX (k:=4) (vX (k:=4) cN hz0) hz1) hz2) hz3))<|zT (qO jP)<|zZ) ?_
    refine jA<|kx [(25,(vb ((kW z2) == ((0:Nat):Int))))] [] (zR (qE jP)<|zE (kD (dY hz2))<|zE zW<|zZ) ?_
    refine jF (b:=((kW z2) == ((0:Nat):Int))) rfl (fun h3=>?_) (fun h3=>?_)
    ·replace h3:=eq_of_beq h3
     refine kx [] [(3,some (bx (jL (kG z3))))] (zR (qE jP)<|zT (qO jP)<|zZ) ?_
     refine kx [(17,(jN 4))] [] (zE (uL 4 (hr:=by decide))<|zM<|zZ) ?_
     refine kS (kP.refl _) ?_
     refine jA<|kx [(18,(vb false))] [] (zE (gI false uT)<|zZ) ?_
     refine jA<|uU ?_
     refine jS ?_
     exact met (((Int.gcd ((Int.gcd ((Int.gcd ((Int.gcd 0 z0:Nat):Int) z1:Nat):Int) z2:Nat):Int) z3:Nat):Int),z3) wk (⟨rfl,fst_3 h1 h2 h3⟩)
    ·replace h3:=ne_of_beq_false h3
     refine jD<|kx [(17,(jN 4))] [] (zE (uL 4 (hr:=by decide))<|zM<|zZ) ?_
     refine kS (kP.refl _) ?_
     refine jA<|kx [(18,(vb false))] [] (zE (gI false uT)<|zZ) ?_
     refine jA<|uU ?_
     refine jS ?_
     exact met (((Int.gcd ((Int.gcd ((Int.gcd ((Int.gcd 0 z0:Nat):Int) z1:Nat):Int) z2:Nat):Int) z3:Nat):Int),z2) wk (⟨rfl,fst_2 h1 h2 h3⟩)
   ·replace h2:=ne_of_beq_false h2
    refine jD<|kx [(17,(jN 3))] [] (zE (uL 3 (hr:=by decide))<|zM<|zZ) ?_
    refine kS (kP.refl _) ?_
    refine jA<|kx [(18,(vb true))] [] (zE (gI true uT)<|zZ) ?_
    refine jA<|qZ ?_
    refine jD<|jA<|jH<|jA<|kx [(7,(.ref 8 0))] [(8,some (bx (jL (kG z3))))] (zE (oXa ar119 jP (fun h=>by cases h) 3)<|zN (vL 8 vY vZ)<|zT (qO jP)<|zZ) ?_
    refine jA<|kx [] [(2,some y1)] (zR (qE jP)<|zR (qE jP)<|zE (kD (s_gcd (vX (k:=4) (vX (k:=4) (vX (k:=4) cN hz0) hz1) hz2) hz3))<|zT (qO jP)<|zZ) ?_
    refine jA<|kx [(25,(vb false))] [] (zR (qE jP)<|zE (kD (dY hz1))<|zE (gI false zW (by exact beq_eq_false_iff_ne.2 h2))<|zZ) ?_
    refine uU ?_
    refine jD<|kx [(17,(jN 4))] [] (zE (uL 4 (hr:=by decide))<|zM<|zZ) ?_
    refine kS (kP.refl _) ?_
    refine jA<|kx [(18,(vb false))] [] (zE (gI false uT)<|zZ) ?_
    refine jA<|uU ?_
    refine jS ?_
    exact met (((Int.gcd ((Int.gcd ((Int.gcd ((Int.gcd 0 z0:Nat):Int) z1:Nat):Int) z2:Nat):Int) z3:Nat):Int),z1) wk (⟨rfl,fst_1 h1 h2⟩)
  ·replace h1:=ne_of_beq_false h1
   refine jD<|kx [(17,(jN 2))] [] (zE (uL 2 (hr:=by decide))<|zM<|zZ) ?_
   refine kS (kP.refl _) ?_
   refine jA<|kU (wk (l:=[(1,(.ref 0 0)),(2,(.ref 1 0)),(4,(.ref 2 0)),(5,(.ref 3 0)),(16,(.d y3)),(17,(jN 2))]) (b:=[(0,some y2),(1,some (bx (jI (jB.mk 0 0 0 0)))),(2,some (bx (jL (kG ((Int.gcd (((Int.gcd 0 z0:Nat):Int)) z1:Nat):Int))))),(3,some (bx (jL (kG z0))))])) ?_
   refine kx [(18,(vb true))] [] (zE (gI true uT)<|zZ) ?_
   refine jA<|qZ ?_
   refine jD<|jA<|jH<|jA<|kx [(7,(.ref 9 0))] [(9,some (bx (jL (kG z2))))] (zE (oXa ar119 jP (fun h=>by cases h) 2)<|zN (vL 9 vY vZ)<|zT (qO jP)<|zZ) ?_
   refine jA<|kx [] [(2,some (bx (jL (kG ((Int.gcd (((Int.gcd (((Int.gcd 0 z0:Nat):Int)) z1:Nat):Int)) z2:Nat):Int)))))] (zR (qE jP)<|zR (qE jP)<|zE (kD (s_gcd (vX (k:=4) (vX (k:=4) cN hz0) hz1) hz2))<|zT (qO jP)<|zZ) ?_
   refine jA<|kx [(25,(vb false))] [] (zR (qE jP)<|zE (kD (dY hz0))<|zE (gI false zW (by exact beq_eq_false_iff_ne.2 h1))<|zZ) ?_
   refine uU ?_
   refine jD<|kx [(17,(jN 3))] [] (zE (uL 3 (hr:=by decide))<|zM<|zZ) ?_
   refine kS (kP.refl _) ?_
   refine jA<|kx [(18,(vb true))] [] (zE (gI true uT)<|zZ) ?_
   refine jA<|qZ ?_
   refine jD<|jA<|jH<|jA<|kx [(7,(.ref 10 0))] [(10,some (bx (jL (kG z3))))] (zE (oXa ar119 jP (fun h=>by cases h) 3)<|zN (vL 10 vY vZ)<|zT (qO jP)<|zZ) ?_
   refine jA<|kx [] [(2,some y1)] (zR (qE jP)<|zR (qE jP)<|zE (kD (s_gcd (vX (k:=4) (vX (k:=4) (vX (k:=4) cN hz0) hz1) hz2) hz3))<|zT (qO jP)<|zZ) ?_
   refine jA<|kx [(25,(vb false))] [] (zR (qE jP)<|zE (kD (dY hz0))<|zE (gI false zW (by exact beq_eq_false_iff_ne.2 h1))<|zZ) ?_
   refine uU ?_
   refine jD<|kx [(17,(jN 4))] [] (zE (uL 4 (hr:=by decide))<|zM<|zZ) ?_
   refine kS (kP.refl _) ?_
   refine jA<|kx [(18,(vb false))] [] (zE (gI false uT)<|zZ) ?_
   refine jA<|uU ?_
   refine jS ?_
   exact met (((Int.gcd ((Int.gcd ((Int.gcd ((Int.gcd 0 z0:Nat):Int) z1:Nat):Int) z2:Nat):Int) z3:Nat):Int),z0) wk (⟨rfl,fst_0 h1⟩)
 ·rintro ⟨g,f⟩ ⟨hg,hf⟩
  have hfI:=fst_iok hf hln
  rw[<- hg] at hgI hgn
  refine pwp_meet (α:=Int) (fun d=>⟨[(1,(.ref 0 0)),(2,(.ref 1 0)),(4,(.ref 2 0))],[(0,some y2),(1,some (bx (jI (jB.mk 0 0 0 0)))),(2,some (bx (jL (kG d))))]⟩) (fun d=>dvL (qL (jB.mk z0 z1 z2 z3))=d) ?_ ?_
  ·refine jA<|kx [(30,(vb (decide ((kW f)<((0:Nat):Int)))))] [] (zR (qE jP)<|zE (kD (dY hfI))<|zE uT<|zZ) ?_
   refine jF (b:=decide ((kW f)<((0:Nat):Int))) rfl (fun h4=>?_) (fun h4=>?_)
   ·replace h4:=uY h4
    refine kx [] [(2,some (bx (jL (kG (-g)))))] (zR (qE jP)<|zE (kD (s_neg hgI))<|zT (qO jP)<|zZ) ?_
    exact met (-g) wk (by rw[hg];exact dv_n hf h4)
   ·replace h4:=uZ h4
    refine jD ?_
    exact met g wk (by rw[hg];exact dv_p hf h4)
  ·rintro d hd
   have hdI:xI (kG d) d 4:=by rw[<- hd];exact nO (dvL_len hln)
   have hdn:d≠0:=by rw[<- hd];exact dvL_ne hnz
   refine jA<|kx [(8,(.ref 11 0))] [(11,some (bx (gW (A4.mk 0 0 0 0))))] (zN (vL 11 ze95 zo95)<|zZ) ?_
   refine jA<|jA<|kx [(33,(.d y3)),(34,(jN 0))] [] (zR (qE sh119)<|zM<|zZ) ?_
   refine jH<|yY 20 ?_
   refine hC<|jA<|kx [(35,(vb true))] [] (zE (gI true uT)<|zZ) ?_
   refine jA<|qZ ?_
   refine jD<|jA<|jH<|jA<|kx [(9,(jN 0)),(10,(.ref 12 0))] [(12,some (bx (jL (kG z0))))] (zM<|zE (oXa ar119 jP (fun h=>by cases h) 0)<|zN (vL 12 vY vZ)<|zM<|zT (qO jP)<|zZ) ?_
   refine jA<|kx [(11,(.ref 13 0))] [(13,some (bx (jL (kG (z0.fdiv d))))),(14,none)] (zR (qE jP)<|zR (qE jP)<|zE (kD (cJ hz0 hdI (by decide) (by decide) hdn))<|zM<|zE vF<|zE vF<|zE vF<|zN (vL 13 vY vZ)<|zN (vL 14 vY vZ)<|zT (qO jP)<|zT (qO jP)<|zM<|zZ) ?_
   refine jA<|kx [(14,(vi (jO (z0.fdiv d)))),(15,(vb (kO (z0.fdiv d))))] [] (zR (qE jP)<|zE (kD (aI (z0.fdiv d) (mA (iok_fdiv (k:=5) hz0 hdI))))<|zM<|zE vF<|zE vF<|zM<|zM<|zZ) ?_
   refine jA<|jA<|kx [(59,(vb ((!(kO (z0.fdiv d))||decide ((jO (z0.fdiv d)) < -1048576))||decide (((1048576:Nat):Int)<(jO (z0.fdiv d))))))] [] ?_ ?_
   ·refine zM<|zE eU<|zE (oV (vb (!(kO (z0.fdiv d)))) (kA (by kernel_rfl)))<|?_
    rcases hb5:(!(kO (z0.fdiv d))) with _ | _
    ·refine zM<|zE uT<|zE zG<|zE (oV (vb (false||decide ((jO (z0.fdiv d)) < -1048576))) (kA (by kernel_rfl)))<|?_
     rcases hb6:(false||decide ((jO (z0.fdiv d)) < -1048576)) with _ | _
     ·replace hb6:=uZ (p:=((jO (z0.fdiv d)) < -1048576)) hb6
      exact zM<|zE cC<|zE zG<|zZ
     ·replace hb6:=uY (p:=((jO (z0.fdiv d)) < -1048576)) hb6
      exact zK<|zK<|zE uP<|zZ
    ·exact zK<|zK<|zE uP<|zM<|zK<|zK<|zE uP<|zZ
   refine jF rfl (fun h7=>?_) (fun h7=>?_)
   ·refine jA<|kx [(3,(jN 3))] [(1,some (bx (jI (jB.mk 0 0 0 0))))] (zE (oBd pl28 gK gS)<|zT (qO qQ)<|zM<|zZ) ?_
    refine jG ⟨_,(qK (cs:=(bx (jI (jB.mk 0 0 0 0)))) (d:=(jI (jB.mk 0 0 0 0))) rfl rfl qQ rfl rfl (.tmp (d:=(.val (.int .i64 (((3:Nat):Int))))) rfl .nil)),?_⟩
    obtain ⟨q1,q2⟩:=prim_n (q:=(jB.mk z0 z1 z2 z3)) hd (x:=z0) (.inl rfl) h7
    rw[q1,q2];rfl
   ·refine jD<|kx [] [(11,some (bx (gW (A4.mk (jO (z0.fdiv d)) 0 0 0))))] (zM<|zM<|zE (aB ar95 0)<|zT (qO kK)<|zZ) ?_
    refine kx [(34,(jN 1))] [] (zE (uL 1 (hr:=by decide))<|zM<|zZ) ?_
    refine kS (kP.refl _) ?_
    refine jA<|kx [(35,(vb true))] [] (zE (gI true uT)<|zZ) ?_
    refine jA<|qZ ?_
    refine jD<|jA<|jH<|jA<|kx [(9,(jN 1)),(10,(.ref 15 0))] [(15,some (bx (jL (kG z1))))] (zM<|zE (oXa ar119 jP (fun h=>by cases h) 1)<|zN (vL 15 vY vZ)<|zM<|zT (qO jP)<|zZ) ?_
    refine jA<|kx [(11,(.ref 16 0))] [(16,some (bx (jL (kG (z1.fdiv d))))),(17,none)] (zR (qE jP)<|zR (qE jP)<|zE (kD (cJ hz1 hdI (by decide) (by decide) hdn))<|zM<|zE vF<|zE vF<|zE vF<|zN (vL 16 vY vZ)<|zN (vL 17 vY vZ)<|zT (qO jP)<|zT (qO jP)<|zM<|zZ) ?_
    refine jA<|kx [(14,(vi (jO (z1.fdiv d)))),(15,(vb (kO (z1.fdiv d))))] [] (zR (qE jP)<|zE (kD (aI (z1.fdiv d) (mA (iok_fdiv (k:=5) hz1 hdI))))<|zM<|zE vF<|zE vF<|zM<|zM<|zZ) ?_
    refine jA<|jA<|kx [(59,(vb ((!(kO (z1.fdiv d))||decide ((jO (z1.fdiv d)) < -1048576))||decide (((1048576:Nat):Int)<(jO (z1.fdiv d))))))] [] ?_ ?_
    ·refine zM<|zE eU<|zE (oV (vb (!(kO (z1.fdiv d)))) (kA (by kernel_rfl)))<|?_
     rcases hb8:(!(kO (z1.fdiv d))) with _ | _
     ·refine zM<|zE uT<|zE zG<|zE (oV (vb (false||decide ((jO (z1.fdiv d)) < -1048576))) (kA (by kernel_rfl)))<|?_
      rcases hb9:(false||decide ((jO (z1.fdiv d)) < -1048576)) with _ | _
      ·replace hb9:=uZ (p:=((jO (z1.fdiv d)) < -1048576)) hb9
       exact zM<|zE cC<|zE zG<|zZ
      ·replace hb9:=uY (p:=((jO (z1.fdiv d)) < -1048576)) hb9
       exact zK<|zK<|zE uP<|zZ
     ·exact zK<|zK<|zE uP<|zM<|zK<|zK<|zE uP<|zZ
    refine jF rfl (fun h10=>?_) (fun h10=>?_)
    ·refine jA<|kU (wk (l:=[(2,(.ref 1 0)),(4,(.ref 2 0)),(8,(.ref 11 0)),(9,(jN 1)),(14,(vi (jO (z1.fdiv d)))),(33,(.d y3)),(34,(jN 1)),(59,(vb ((!(kO (z1.fdiv d))||decide ((jO (z1.fdiv d)) < -1048576))||decide (((1048576:Nat):Int)<(jO (z1.fdiv d))))))]) (b:=[(1,some (bx (jI (jB.mk 0 0 0 0)))),(11,some (bx (gW (A4.mk (jO (z0.fdiv d)) 0 0 0)))),(2,some (bx (jL (kG d))))])) ?_
     refine kx [(3,(jN 3))] [(1,some (bx (jI (jB.mk 0 0 0 0))))] (zE (oBd pl28 gK gS)<|zT (qO qQ)<|zM<|zZ) ?_
     refine jG ⟨_,(qK (cs:=(bx (jI (jB.mk 0 0 0 0)))) (d:=(jI (jB.mk 0 0 0 0))) rfl rfl qQ rfl rfl (.tmp (d:=(.val (.int .i64 (((3:Nat):Int))))) rfl .nil)),?_⟩
     obtain ⟨q1,q2⟩:=prim_n (q:=(jB.mk z0 z1 z2 z3)) hd (x:=z1) (.inr (.inl rfl)) h10
     rw[q1,q2];rfl
    ·refine jD<|kU (wk (l:=[(2,(.ref 1 0)),(4,(.ref 2 0)),(8,(.ref 11 0)),(9,(jN 1)),(14,(vi (jO (z1.fdiv d)))),(33,(.d y3)),(34,(jN 1)),(59,(vb ((!(kO (z1.fdiv d))||decide ((jO (z1.fdiv d)) < -1048576))||decide (((1048576:Nat):Int)<(jO (z1.fdiv d))))))]) (b:=[(1,some (bx (jI (jB.mk 0 0 0 0)))),(11,some (bx (gW (A4.mk (jO (z0.fdiv d)) 0 0 0)))),(2,some (bx (jL (kG d))))])) ?_
     refine kx [] [(11,some (bx (gW (A4.mk (jO (z0.fdiv d)) (jO (z1.fdiv d)) 0 0))))] (zM<|zM<|zE (aB ar95 1)<|zT (qO kK)<|zZ) ?_
     refine kx [(34,(jN 2))] [] (zE (uL 2 (hr:=by decide))<|zM<|zZ) ?_
     refine kS (kP.refl _) ?_
     refine jA<|kx [(35,(vb true))] [] (zE (gI true uT)<|zZ) ?_
     refine jA<|qZ ?_
     refine jD<|jA<|jH<|jA<|kx [(9,(jN 2)),(10,(.ref 18 0))] [(18,some (bx (jL (kG z2))))] (zM<|zE (oXa ar119 jP (fun h=>by cases h) 2)<|zN (vL 18 vY vZ)<|zM<|zT (qO jP)<|zZ) ?_
     refine jA<|kx [(11,(.ref 19 0))] [(19,some (bx (jL (kG (z2.fdiv d))))),(20,none)] (zR (qE jP)<|zR (qE jP)<|zE (kD (cJ hz2 hdI (by decide) (by decide) hdn))<|zM<|zE vF<|zE vF<|zE vF<|zN (vL 19 vY vZ)<|zN (vL 20 vY vZ)<|zT (qO jP)<|zT (qO jP)<|zM<|zZ) ?_
     refine jA<|kx [(14,(vi (jO (z2.fdiv d)))),(15,(vb (kO (z2.fdiv d))))] [] (zR (qE jP)<|zE (kD (aI (z2.fdiv d) (mA (iok_fdiv (k:=5) hz2 hdI))))<|zM<|zE vF<|zE vF<|zM<|zM<|zZ) ?_
     refine jA<|jA<|kx [(59,(vb ((!(kO (z2.fdiv d))||decide ((jO (z2.fdiv d)) < -1048576))||decide (((1048576:Nat):Int)<(jO (z2.fdiv d))))))] [] ?_ ?_
     ·refine zM<|zE eU<|zE (oV (vb (!(kO (z2.fdiv d)))) (kA (by kernel_rfl)))<|?_
      rcases hb11:(!(kO (z2.fdiv d))) with _ | _
      ·refine zM<|zE uT<|zE zG<|zE (oV (vb (false||decide ((jO (z2.fdiv d)) < -1048576))) (kA (by kernel_rfl)))<|?_
       rcases hb12:(false||decide ((jO (z2.fdiv d)) < -1048576)) with _ | _
       ·replace hb12:=uZ (p:=((jO (z2.fdiv d)) < -1048576)) hb12
        exact zM<|zE cC<|zE zG<|zZ
       ·replace hb12:=uY (p:=((jO (z2.fdiv d)) < -1048576)) hb12
        exact zK<|zK<|zE uP<|zZ
      ·exact zK<|zK<|zE uP<|zM<|zK<|zK<|zE uP<|zZ
     refine jF rfl (fun h13=>?_) (fun h13=>?_)
     ·refine jA<|kx [(3,(jN 3))] [(1,some (bx (jI (jB.mk 0 0 0 0))))] (zE (oBd pl28 gK gS)<|zT (qO qQ)<|zM<|zZ) ?_
      refine jG ⟨_,(qK (cs:=(bx (jI (jB.mk 0 0 0 0)))) (d:=(jI (jB.mk 0 0 0 0))) rfl rfl qQ rfl rfl (.tmp (d:=(.val (.int .i64 (((3:Nat):Int))))) rfl .nil)),?_⟩
      obtain ⟨q1,q2⟩:=prim_n (q:=(jB.mk z0 z1 z2 z3)) hd (x:=z2) (.inr (.inr (.inl rfl))) h13
      rw[q1,q2];rfl
     ·refine jD<|kx [] [(11,some (bx (gW (A4.mk (jO (z0.fdiv d)) (jO (z1.fdiv d)) (jO (z2.fdiv d)) 0))))] (zM<|zM<|zE (aB ar95 2)<|zT (qO kK)<|zZ) ?_
      refine kx [(34,(jN 3))] [] (zE (uL 3 (hr:=by decide))<|zM<|zZ) ?_
      refine kS (kP.refl _) ?_
      refine jA<|kx [(35,(vb true))] [] (zE (gI true uT)<|zZ) ?_
      refine jA<|qZ ?_
      refine jD<|jA<|jH<|jA<|kx [(9,(jN 3)),(10,(.ref 21 0))] [(21,some (bx (jL (kG z3))))] (zM<|zE (oXa ar119 jP (fun h=>by cases h) 3)<|zN (vL 21 vY vZ)<|zM<|zT (qO jP)<|zZ) ?_
      refine jA<|kx [(11,(.ref 22 0))] [(22,some (bx (jL (kG (z3.fdiv d))))),(23,none)] (zR (qE jP)<|zR (qE jP)<|zE (kD (cJ hz3 hdI (by decide) (by decide) hdn))<|zM<|zE vF<|zE vF<|zE vF<|zN (vL 22 vY vZ)<|zN (vL 23 vY vZ)<|zT (qO jP)<|zT (qO jP)<|zM<|zZ) ?_
      refine jA<|kx [(14,(vi (jO (z3.fdiv d)))),(15,(vb (kO (z3.fdiv d))))] [] (zR (qE jP)<|zE (kD (aI (z3.fdiv d) (mA (iok_fdiv (k:=5) hz3 hdI))))<|zM<|zE vF<|zE vF<|zM<|zM<|zZ) ?_
      refine jA<|jA<|kx [(59,(vb ((!(kO (z3.fdiv d))||decide ((jO (z3.fdiv d)) < -1048576))||decide (((1048576:Nat):Int)<(jO (z3.fdiv d))))))] [] ?_ ?_
      ·refine zM<|zE eU<|zE (oV (vb (!(kO (z3.fdiv d)))) (kA (by kernel_rfl)))<|?_
       rcases hb14:(!(kO (z3.fdiv d))) with _ | _
       ·refine zM<|zE uT<|zE zG<|zE (oV (vb (false||decide ((jO (z3.fdiv d)) < -1048576))) (kA (by kernel_rfl)))<|?_
        rcases hb15:(false||decide ((jO (z3.fdiv d)) < -1048576)) with _ | _
        ·replace hb15:=uZ (p:=((jO (z3.fdiv d)) < -1048576)) hb15
         exact zM<|zE cC<|zE zG<|zZ
        ·replace hb15:=uY (p:=((jO (z3.fdiv d)) < -1048576)) hb15
         exact zK<|zK<|zE uP<|zZ
       ·exact zK<|zK<|zE uP<|zM<|zK<|zK<|zE uP<|zZ
      refine jF rfl (fun h16=>?_) (fun h16=>?_)
      ·refine jA<|kU (wk (l:=[(2,(.ref 1 0)),(4,(.ref 2 0)),(8,(.ref 11 0)),(9,(jN 3)),(14,(vi (jO (z3.fdiv d)))),(33,(.d y3)),(34,(jN 3)),(59,(vb ((!(kO (z3.fdiv d))||decide ((jO (z3.fdiv d)) < -1048576))||decide (((1048576:Nat):Int)<(jO (z3.fdiv d))))))]) (b:=[(1,some (bx (jI (jB.mk 0 0 0 0)))),(11,some (bx (gW (A4.mk (jO (z0.fdiv d)) (jO (z1.fdiv d)) (jO (z2.fdiv d)) 0)))),(2,some (bx (jL (kG d))))])) ?_
       refine kx [(3,(jN 3))] [(1,some (bx (jI (jB.mk 0 0 0 0))))] (zE (oBd pl28 gK gS)<|zT (qO qQ)<|zM<|zZ) ?_
       refine jG ⟨_,(qK (cs:=(bx (jI (jB.mk 0 0 0 0)))) (d:=(jI (jB.mk 0 0 0 0))) rfl rfl qQ rfl rfl (.tmp (d:=(.val (.int .i64 (((3:Nat):Int))))) rfl .nil)),?_⟩
       obtain ⟨q1,q2⟩:=prim_n (q:=(jB.mk z0 z1 z2 z3)) hd (x:=z3) (.inr (.inr (.inr rfl))) h16
       rw[q1,q2];rfl
      ·refine jD<|kU (wk (l:=[(2,(.ref 1 0)),(4,(.ref 2 0)),(8,(.ref 11 0)),(9,(jN 3)),(14,(vi (jO (z3.fdiv d)))),(33,(.d y3)),(34,(jN 3)),(59,(vb ((!(kO (z3.fdiv d))||decide ((jO (z3.fdiv d)) < -1048576))||decide (((1048576:Nat):Int)<(jO (z3.fdiv d))))))]) (b:=[(1,some (bx (jI (jB.mk 0 0 0 0)))),(11,some (bx (gW (A4.mk (jO (z0.fdiv d)) (jO (z1.fdiv d)) (jO (z2.fdiv d)) 0)))),(2,some (bx (jL (kG d))))])) ?_
       refine kx [] [(11,some (bx (gW (A4.mk (jO (z0.fdiv d)) (jO (z1.fdiv d)) (jO (z2.fdiv d)) (jO (z3.fdiv d))))))] (zM<|zM<|zE (aB ar95 3)<|zT (qO kK)<|zZ) ?_
       refine kx [(34,(jN 4))] [] (zE (uL 4 (hr:=by decide))<|zM<|zZ) ?_
       refine kS (kP.refl _) ?_
       refine jA<|kx [(35,(vb false))] [] (zE (gI false uT)<|zZ) ?_
       refine jA<|uU ?_
       refine jS<|jA<|kx [(3,(jN 0))] [(1,some (bx (jI (jB.mk (jO (z0.fdiv d)) (jO (z1.fdiv d)) (jO (z2.fdiv d)) (jO (z3.fdiv d))))))] (zE (aB ar95 0)<|zR (jZ kK)<|zE (aB ar95 1)<|zR (jZ kK)<|zE (aB ar95 2)<|zR (jZ kK)<|zE (aB ar95 3)<|zR (jZ kK)<|zE (oBd pl28 gK gS)<|zT (qO qQ)<|zM<|zZ) ?_
       refine jG ⟨_,(qK (cs:=(bx (jI (jB.mk (jO (z0.fdiv d)) (jO (z1.fdiv d)) (jO (z2.fdiv d)) (jO (z3.fdiv d)))))) (d:=(jI (jB.mk (jO (z0.fdiv d)) (jO (z1.fdiv d)) (jO (z2.fdiv d)) (jO (z3.fdiv d))))) rfl rfl qQ rfl rfl (.tmp (d:=(.val (.int .i64 (((0:Nat):Int))))) rfl .nil)),?_⟩
       obtain ⟨q1,q2⟩:=prim_y (q:=(jB.mk z0 z1 z2 z3)) hd h7 h10 h13 h16
       rw[q1,q2];rfl
theorem eN:uJ Tryz.prog 34=some (28,4):=by kernel_rfl
theorem ze119:uO Tryz.prog 119=some [.bool false,.slice none 0 0,.bool false,.slice none 0 0,.bool false,.slice none 0 0,.bool false,.slice none 0 0]:=by kernel_rfl
theorem zo119:nH [.bool false,.slice none 0 0,.bool false,.slice none 0 0,.bool false,.slice none 0 0,.bool false,.slice none 0 0] [.val (.bool false),.sl 135 1 [],.val (.bool false),.sl 135 1 [],.val (.bool false),.sl 135 1 [],.val (.bool false),.sl 135 1 []]:=by simp [nH,Value.oneCell']
theorem l_red(a:Int)(hal:-9223372036854775808<=a)(hah:a<=9223372036854775807)(b:Int)(hbl:-9223372036854775808<=b)(hbh:b<=9223372036854775807)(c:Int)(hcl:-9223372036854775808<=c)(hch:c<=9223372036854775807)(d:Int)(hdl:-9223372036854775808<=d)(hdh:d<=9223372036854775807)(hnz:cU (jB.mk a b c d)):jU Tryz.prog 33 [(.val (.int .i64 (a))),(.val (.int .i64 (b))),(.val (.int .i64 (c))),(.val (.int .i64 (d)))] (.tup [(jI (qV (jB.mk a b c d))),(.val (.int .i64 ((((qC (jB.mk a b c d)):Nat):Int))))]):=by
 refine vD Tryz.func33 ?_
 refine jA<|kx [(8,(.ref 0 0))] [(0,some (bx (jI (jB.mk 0 0 0 0))))] (zN (vL 0 gK gS)<|zM<|zZ) ?_
 refine jA<|kx [(9,(jN (qC (jB.mk a b c d))))] [(0,some (bx (jI (qV (jB.mk a b c d)))))] (zM<|zE (kD (nI a (by omega) (by omega)))<|zM<|zE (kD (nI b (by omega) (by omega)))<|zM<|zE (kD (nI c (by omega) (by omega)))<|zM<|zE (kD (nI d (by omega) (by omega)))<|zE (oBf ar119 ze119 zo119)<|zE (kD (l_prim a b c d (mA (qI (z:=a) (by omega) (by omega))) (mA (qI (z:=b) (by omega) (by omega))) (mA (qI (z:=c) (by omega) (by omega))) (mA (qI (z:=d) (by omega) (by omega))) hnz))<|zE vF<|zE vF<|zT (qO qQ)<|zM<|zZ) ?_
 refine jG ⟨_,(qK (cs:=(bx (jI (qV (jB.mk a b c d))))) (d:=(jI (qV (jB.mk a b c d)))) rfl rfl qQ rfl rfl (.tmp (d:=(.val (.int .i64 ((((qC (jB.mk a b c d)):Nat):Int))))) rfl .nil)),?_⟩
 rfl
theorem l_canon(q:jB)(hq:mK q):jU Tryz.prog 41 [(jI q)] (.tup [(jI (qV q)),(.val (.int .i64 ((((qC q):Nat):Int))))]):=by
 obtain ⟨qa_,qb_,qc_,qd_⟩:=hq.2.bd
 refine vD Tryz.func41 ?_
 refine jA<|kx [(1,(.ref 0 0)),(2,(.ref 1 0))] [(0,some (bx (jI q))),(1,some (bx (jI (jB.mk 0 0 0 0))))] (zN (yB 0)<|zN (vL 1 gK gS)<|zM<|zZ) ?_
 refine jA<|jA<|kx [(4,(jN (yD q.a q.b q.c q.d)))] [] (zR (qE qQ)<|zE (kD (q_chk q.a q.b q.c q.d))<|zM<|zZ) ?_
 refine jA<|kx [(8,(vb false))] [] (zM<|zE (gI false xX (by exact bne_eq_false_iff_eq.2 (by rw[show (yD q.a q.b q.c q.d)=0 from (gF.1 hq)]<;>rfl)))<|zZ) ?_
 refine uU ?_
 refine jD<|jA<|kx [(3,(jN (qC (jB.mk q.a q.b q.c q.d))))] [(1,some (bx (jI (qV (jB.mk q.a q.b q.c q.d)))))] (zE (jY vB)<|zR (jZ kK)<|zE (jY uS)<|zR (jZ kK)<|zE (jY vA)<|zR (jZ kK)<|zE (jY uR)<|zR (jZ kK)<|zE (kD (l_red q.a (by omega) (by omega) q.b (by omega) (by omega) q.c (by omega) (by omega) q.d (by omega) (by omega) hq.1))<|zE vF<|zE vF<|zT (qO qQ)<|zM<|zZ) ?_
 refine jG ⟨_,(qK (cs:=(bx (jI (qV (jB.mk q.a q.b q.c q.d))))) (d:=(jI (qV (jB.mk q.a q.b q.c q.d)))) rfl rfl qQ rfl rfl (.tmp (d:=(.val (.int .i64 ((((qC (jB.mk q.a q.b q.c q.d)):Nat):Int))))) rfl .nil)),?_⟩
 rfl
theorem l_same(p:jB)(q:jB)(hp:mK p)(hq:mK q):jU Tryz.prog 22 [(jI p),(jI q)] (.val (.bool ((sameQ p q)))):=by
 refine vD Tryz.func22 ?_
 refine jA<|kx [(2,(.ref 0 0)),(3,(.ref 1 0))] [(0,some (bx (jI p))),(1,some (bx (jI q)))] (zN (yB 0)<|zN (yB 1)<|zM<|zZ) ?_
 refine jA<|kx [(5,(.ref 2 0)),(6,(jN (qC p)))] [(2,some (bx (jI (qV p))))] (zR (qE qQ)<|zE (kD (l_canon p hp))<|zM<|zE vF<|zE vF<|zN (vL 2 gK gS)<|zT (qO qQ)<|zM<|zZ) ?_
 refine jA<|kx [(7,(.ref 3 0)),(8,(jN (qC q)))] [(3,some (bx (jI (qV q))))] (zR (qE qQ)<|zE (kD (l_canon q hq))<|zM<|zE vF<|zE vF<|zN (vL 3 gK gS)<|zT (qO qQ)<|zM<|zZ) ?_
 refine jA<|kx [(4,(vb (true&&(decide ([(qV p).a,(qV p).b,(qV p).c,(qV p).d]=[(qV q).a,(qV q).b,(qV q).c,(qV q).d])))))] [] (zM<|zE (gI true zW (by exact beq_iff_eq.2 (by rw[show (qC p)=0 from (qC_ok hp)]<;>rfl)))<|zM<|zM<|zE (gI true zW (by exact beq_iff_eq.2 (by rw[show (qC q)=0 from (qC_ok hq)]<;>rfl)))<|zE uP<|zM<|zR (qE qQ)<|zR (qE qQ)<|zE (oEs eqs28 .i64 [(qV p).a,(qV p).b,(qV p).c,(qV p).d] [(qV q).a,(qV q).b,(qV q).c,(qV q).d])<|zE aC<|zM<|zZ) ?_
 refine jG ⟨_,(.tmp (d:=(.val (.bool ((true&&(decide ([(qV p).a,(qV p).b,(qV p).c,(qV p).d]=[(qV q).a,(qV q).b,(qV q).c,(qV q).d]))))))) rfl .nil),?_⟩
 rfl
theorem l_conj(q:jB)(hq:mK q):jU Tryz.prog 18 [(jI q)] (.tup [(jI (qV (uK q))),(.val (.int .i64 ((((qC (uK q)):Nat):Int))))]):=by
 obtain ⟨qa_,qb_,qc_,qd_⟩:=hq.2.bd
 refine vD Tryz.func18 ?_
 refine jA<|kx [(1,(.ref 0 0)),(2,(.ref 1 0))] [(0,some (bx (jI q))),(1,some (bx (jI (jB.mk 0 0 0 0))))] (zN (yB 0)<|zN (vL 1 gK gS)<|zM<|zZ) ?_
 refine jA<|jA<|kx [(4,(jN (yD q.a q.b q.c q.d)))] [] (zR (qE qQ)<|zE (kD (q_chk q.a q.b q.c q.d))<|zM<|zZ) ?_
 refine jA<|kx [(8,(vb false))] [] (zM<|zE (gI false xX (by exact bne_eq_false_iff_eq.2 (by rw[show (yD q.a q.b q.c q.d)=0 from (gF.1 hq)]<;>rfl)))<|zZ) ?_
 refine uU ?_
 refine jD<|jA<|kx [(3,(jN (qC (jB.mk q.a (-q.b) (-q.c) (-q.d)))))] [(1,some (bx (jI (qV (jB.mk q.a (-q.b) (-q.c) (-q.d))))))] (zE (jY vB)<|zR (jZ kK)<|zE (jY uS)<|zR (jZ kK)<|zE (oNg (-q.b) (hr:=by exact (qG (by first | omega | rfl | (dsimp only;omega)) (by simp only[vR];omega) (by simp only[vS];omega))))<|zE (jY vA)<|zR (jZ kK)<|zE (oNg (-q.c) (hr:=by exact (qG (by first | omega | rfl | (dsimp only;omega)) (by simp only[vR];omega) (by simp only[vS];omega))))<|zE (jY uR)<|zR (jZ kK)<|zE (oNg (-q.d) (hr:=by exact (qG (by first | omega | rfl | (dsimp only;omega)) (by simp only[vR];omega) (by simp only[vS];omega))))<|zE (kD (l_red q.a (by omega) (by omega) (-q.b) (by omega) (by omega) (-q.c) (by omega) (by omega) (-q.d) (by omega) (by omega) (yN hq.1)))<|zE vF<|zE vF<|zT (qO qQ)<|zM<|zZ) ?_
 refine jG ⟨_,(qK (cs:=(bx (jI (qV (jB.mk q.a (-q.b) (-q.c) (-q.d)))))) (d:=(jI (qV (jB.mk q.a (-q.b) (-q.c) (-q.d))))) rfl rfl qQ rfl rfl (.tmp (d:=(.val (.int .i64 ((((qC (jB.mk q.a (-q.b) (-q.c) (-q.d))):Nat):Int))))) rfl .nil)),?_⟩
 rfl
theorem l_chkd(p q:jB)(hp:mK p)(hq:mK q):jU Tryz.prog 32 [(.sl 28 4 (List.map jI [p,q]))] (.val (.int .i64 (0))):=by
 refine vD Tryz.func32 ?_
 refine jA<|kx [] [] (zM<|zZ) ?_
 refine jA<|jA<|kx [(6,(vl 28 4 jI [p,q])),(7,(jN 2)),(8,(jN 0))] [] (zM<|zE (oLn eN 2)<|zM<|zZ) ?_
 refine jH<|yY 20 ?_
 refine hC<|jA<|kx [(9,(vb true))] [] (zE (gI true uT)<|zZ) ?_
 refine jA<|qZ ?_
 refine jD<|jA<|jH<|jA<|kx [(4,(.ref 0 0))] [(0,some (bx (jI p)))] (zE (oXs eN 0)<|zE (oCa qQ)<|zN (vL 0 gK gS)<|zT (qO qQ)<|zZ) ?_
 refine jA<|kx [(5,(jN (yD p.a p.b p.c p.d)))] [] (zR (qE qQ)<|zE (kD (q_chk p.a p.b p.c p.d))<|zM<|zZ) ?_
 refine jA<|kx [(15,(vb false))] [] (zM<|zE (gI false xX (by exact bne_eq_false_iff_eq.2 (by rw[show (yD p.a p.b p.c p.d)=0 from (gF.1 hp)]<;>rfl)))<|zZ) ?_
 refine uU ?_
 refine jD<|kx [(8,(jN 1))] [] (zE (uL 1 (hr:=by decide))<|zM<|zZ) ?_
 refine kS (kP.refl _) ?_
 refine jA<|kx [(9,(vb true))] [] (zE (gI true uT)<|zZ) ?_
 refine jA<|qZ ?_
 refine jD<|jA<|jH<|jA<|kx [(4,(.ref 1 0))] [(1,some (bx (jI q)))] (zE (oXs eN 1)<|zE (oCa qQ)<|zN (vL 1 gK gS)<|zT (qO qQ)<|zZ) ?_
 refine jA<|kx [(5,(jN (yD q.a q.b q.c q.d)))] [] (zR (qE qQ)<|zE (kD (q_chk q.a q.b q.c q.d))<|zM<|zZ) ?_
 refine jA<|kx [(15,(vb false))] [] (zM<|zE (gI false xX (by exact bne_eq_false_iff_eq.2 (by rw[show (yD q.a q.b q.c q.d)=0 from (gF.1 hq)]<;>rfl)))<|zZ) ?_
 refine uU ?_
 refine jD<|kx [(8,(jN 2))] [] (zE (uL 2 (hr:=by decide))<|zM<|zZ) ?_
 refine kS (kP.refl _) ?_
 refine jA<|kx [(9,(vb false))] [] (zE (gI false uT)<|zZ) ?_
 refine jA<|uU ?_
 refine jS<|jA<|kx [(2,(jN 0))] [] (zM<|zZ) ?_
 refine jG ⟨_,(.tmp (d:=(.val (.int .i64 (((0:Nat):Int))))) rfl .nil),?_⟩
 rfl
theorem l_mul(p:jB)(q:jB)(hp:mK p)(hq:mK q):jU Tryz.prog 11 [(jI p),(jI q)] (.tup [(jI (qV (jX p q))),(.val (.int .i64 ((((qC (jX p q)):Nat):Int))))]):=by
 obtain ⟨pa_,pb_,pc_,pd_⟩:=hp.2.bd
 obtain ⟨qa_,qb_,qc_,qd_⟩:=hq.2.bd
 have:=zJ pa_ qa_
 have:=zJ pa_ qb_
 have:=zJ pa_ qc_
 have:=zJ pa_ qd_
 have:=zJ pb_ qa_
 have:=zJ pb_ qb_
 have:=zJ pb_ qc_
 have:=zJ pb_ qd_
 have:=zJ pc_ qa_
 have:=zJ pc_ qb_
 have:=zJ pc_ qc_
 have:=zJ pc_ qd_
 have:=zJ pd_ qa_
 have:=zJ pd_ qb_
 have:=zJ pd_ qc_
 have:=zJ pd_ qd_
 refine vD Tryz.func11 ?_
 refine jA<|kx [(2,(.ref 0 0)),(3,(.ref 1 0)),(4,(.ref 2 0))] [(0,some (bx (jI p))),(1,some (bx (jI q))),(2,some (bx (jI (jB.mk 0 0 0 0))))] (zN (yB 0)<|zN (yB 1)<|zN (vL 2 gK gS)<|zM<|zZ) ?_
 refine jA<|jA<|kx [(6,(vi 0))] [] (zR (qE qQ)<|zR (qE qQ)<|zE (eG eN gK gS)<|zE (kD (l_chkd p q hp hq))<|zM<|zZ) ?_
 refine jA<|kx [(12,(vb false))] [] (zM<|zE (gI false xX)<|zZ) ?_
 refine uU ?_
 refine jD<|jA<|kx [(5,(jN (qC (jB.mk ((((p.a*q.a)-(p.b*q.b))-(p.c*q.c))-(p.d*q.d)) ((((p.a*q.b)+(p.b*q.a))+(p.c*q.d))-(p.d*q.c)) ((((p.a*q.c)-(p.b*q.d))+(p.c*q.a))+(p.d*q.b)) ((((p.a*q.d)+(p.b*q.c))-(p.c*q.b))+(p.d*q.a))))))] [(2,some (bx (jI (qV (jB.mk ((((p.a*q.a)-(p.b*q.b))-(p.c*q.c))-(p.d*q.d)) ((((p.a*q.b)+(p.b*q.a))+(p.c*q.d))-(p.d*q.c)) ((((p.a*q.c)-(p.b*q.d))+(p.c*q.a))+(p.d*q.b)) ((((p.a*q.d)+(p.b*q.c))-(p.c*q.b))+(p.d*q.a)))))))] (zE (jY vB)<|zR (jZ kK)<|zE (jY vB)<|zR (jZ kK)<|zE (mZ (p.a*q.a) (hr:=by exact (qG rfl (by simp only[vR];omega) (by simp only[vS];omega))))<|zE (jY uS)<|zR (jZ kK)<|zE (jY uS)<|zR (jZ kK)<|zE (mZ (p.b*q.b) (hr:=by exact (qG rfl (by simp only[vR];omega) (by simp only[vS];omega))))<|zE (zSb ((p.a*q.a)-(p.b*q.b)) (hr:=by exact (qG rfl (by simp only[vR];omega) (by simp only[vS];omega))))<|zE (jY vA)<|zR (jZ kK)<|zE (jY vA)<|zR (jZ kK)<|zE (mZ (p.c*q.c) (hr:=by exact (qG rfl (by simp only[vR];omega) (by simp only[vS];omega))))<|zE (zSb (((p.a*q.a)-(p.b*q.b))-(p.c*q.c)) (hr:=by exact (qG rfl (by simp only[vR];omega) (by simp only[vS];omega))))<|zE (jY uR)<|zR (jZ kK)<|zE (jY uR)<|zR (jZ kK)<|zE (mZ (p.d*q.d) (hr:=by exact (qG rfl (by simp only[vR];omega) (by simp only[vS];omega))))<|zE (zSb ((((p.a*q.a)-(p.b*q.b))-(p.c*q.c))-(p.d*q.d)) (hr:=by exact (qG rfl (by simp only[vR];omega) (by simp only[vS];omega))))<|zE (jY vB)<|zR (jZ kK)<|zE (jY uS)<|zR (jZ kK)<|zE (mZ (p.a*q.b) (hr:=by exact (qG rfl (by simp only[vR];omega) (by simp only[vS];omega))))<|zE (jY uS)<|zR (jZ kK)<|zE (jY vB)<|zR (jZ kK)<|zE (mZ (p.b*q.a) (hr:=by exact (qG rfl (by simp only[vR];omega) (by simp only[vS];omega))))<|zE (zAd ((p.a*q.b)+(p.b*q.a)) (hr:=by exact (qG rfl (by simp only[vR];omega) (by simp only[vS];omega))))<|zE (jY vA)<|zR (jZ kK)<|zE (jY uR)<|zR (jZ kK)<|zE (mZ (p.c*q.d) (hr:=by exact (qG rfl (by simp only[vR];omega) (by simp only[vS];omega))))<|zE (zAd (((p.a*q.b)+(p.b*q.a))+(p.c*q.d)) (hr:=by exact (qG rfl (by simp only[vR];omega) (by simp only[vS];omega))))<|zE (jY uR)<|zR (jZ kK)<|zE (jY vA)<|zR (jZ kK)<|zE (mZ (p.d*q.c) (hr:=by exact (qG rfl (by simp only[vR];omega) (by simp only[vS];omega))))<|zE (zSb ((((p.a*q.b)+(p.b*q.a))+(p.c*q.d))-(p.d*q.c)) (hr:=by exact (qG rfl (by simp only[vR];omega) (by simp only[vS];omega))))<|zE (jY vB)<|zR (jZ kK)<|zE (jY vA)<|zR (jZ kK)<|zE (mZ (p.a*q.c) (hr:=by exact (qG rfl (by simp only[vR];omega) (by simp only[vS];omega))))<|zE (jY uS)<|zR (jZ kK)<|zE (jY uR)<|zR (jZ kK)<|zE (mZ (p.b*q.d) (hr:=by exact (qG rfl (by simp only[vR];omega) (by simp only[vS];omega))))<|zE (zSb ((p.a*q.c)-(p.b*q.d)) (hr:=by exact (qG rfl (by simp only[vR];omega) (by simp only[vS];omega))))<|zE (jY vA)<|zR (jZ kK)<|zE (jY vB)<|zR (jZ kK)<|zE (mZ (p.c*q.a) (hr:=by exact (qG rfl (by simp only[vR];omega) (by simp only[vS];omega))))<|zE (zAd (((p.a*q.c)-(p.b*q.d))+(p.c*q.a)) (hr:=by exact (qG rfl (by simp only[vR];omega) (by simp only[vS];omega))))<|zE (jY uR)<|zR (jZ kK)<|zE (jY uS)<|zR (jZ kK)<|zE (mZ (p.d*q.b) (hr:=by exact (qG rfl (by simp only[vR];omega) (by simp only[vS];omega))))<|zE (zAd ((((p.a*q.c)-(p.b*q.d))+(p.c*q.a))+(p.d*q.b)) (hr:=by exact (qG rfl (by simp only[vR];omega) (by simp only[vS];omega))))<|zE (jY vB)<|zR (jZ kK)<|zE (jY uR)<|zR (jZ kK)<|zE (mZ (p.a*q.d) (hr:=by exact (qG rfl (by simp only[vR];omega) (by simp only[vS];omega))))<|zE (jY uS)<|zR (jZ kK)<|zE (jY vA)<|zR (jZ kK)<|zE (mZ (p.b*q.c) (hr:=by exact (qG rfl (by simp only[vR];omega) (by simp only[vS];omega))))<|zE (zAd ((p.a*q.d)+(p.b*q.c)) (hr:=by exact (qG rfl (by simp only[vR];omega) (by simp only[vS];omega))))<|zE (jY vA)<|zR (jZ kK)<|zE (jY uS)<|zR (jZ kK)<|zE (mZ (p.c*q.b) (hr:=by exact (qG rfl (by simp only[vR];omega) (by simp only[vS];omega))))<|zE (zSb (((p.a*q.d)+(p.b*q.c))-(p.c*q.b)) (hr:=by exact (qG rfl (by simp only[vR];omega) (by simp only[vS];omega))))<|zE (jY uR)<|zR (jZ kK)<|zE (jY vB)<|zR (jZ kK)<|zE (mZ (p.d*q.a) (hr:=by exact (qG rfl (by simp only[vR];omega) (by simp only[vS];omega))))<|zE (zAd ((((p.a*q.d)+(p.b*q.c))-(p.c*q.b))+(p.d*q.a)) (hr:=by exact (qG rfl (by simp only[vR];omega) (by simp only[vS];omega))))<|zE (kD (l_red ((((p.a*q.a)-(p.b*q.b))-(p.c*q.c))-(p.d*q.d)) (by omega) (by omega) ((((p.a*q.b)+(p.b*q.a))+(p.c*q.d))-(p.d*q.c)) (by omega) (by omega) ((((p.a*q.c)-(p.b*q.d))+(p.c*q.a))+(p.d*q.b)) (by omega) (by omega) ((((p.a*q.d)+(p.b*q.c))-(p.c*q.b))+(p.d*q.a)) (by omega) (by omega) (xU hp.1 hq.1)))<|zE vF<|zE vF<|zT (qO qQ)<|zM<|zZ) ?_
 refine jG ⟨_,(qK (cs:=(bx (jI (qV (jB.mk ((((p.a*q.a)-(p.b*q.b))-(p.c*q.c))-(p.d*q.d)) ((((p.a*q.b)+(p.b*q.a))+(p.c*q.d))-(p.d*q.c)) ((((p.a*q.c)-(p.b*q.d))+(p.c*q.a))+(p.d*q.b)) ((((p.a*q.d)+(p.b*q.c))-(p.c*q.b))+(p.d*q.a))))))) (d:=(jI (qV (jB.mk ((((p.a*q.a)-(p.b*q.b))-(p.c*q.c))-(p.d*q.d)) ((((p.a*q.b)+(p.b*q.a))+(p.c*q.d))-(p.d*q.c)) ((((p.a*q.c)-(p.b*q.d))+(p.c*q.a))+(p.d*q.b)) ((((p.a*q.d)+(p.b*q.c))-(p.c*q.b))+(p.d*q.a)))))) rfl rfl qQ rfl rfl (.tmp (d:=(.val (.int .i64 ((((qC (jB.mk ((((p.a*q.a)-(p.b*q.b))-(p.c*q.c))-(p.d*q.d)) ((((p.a*q.b)+(p.b*q.a))+(p.c*q.d))-(p.d*q.c)) ((((p.a*q.c)-(p.b*q.d))+(p.c*q.a))+(p.d*q.b)) ((((p.a*q.d)+(p.b*q.c))-(p.c*q.b))+(p.d*q.a)))):Nat):Int))))) rfl .nil)),?_⟩
 rfl
theorem l_chord(p:jB)(q:jB)(hp:mK p)(hq:mK q):jU Tryz.prog 24 [(jI p),(jI q)] (.tup [(qA (gQ (chQ p q))),(.val (.int .i64 (0)))]):=by
 obtain ⟨pa_,pb_,pc_,pd_⟩:=hp.2.bd
 obtain ⟨qa_,qb_,qc_,qd_⟩:=hq.2.bd
 have:=zJ pa_ qa_
 have:=zJ pb_ qb_
 have:=zJ pc_ qc_
 have:=zJ pd_ qd_
 have hnp:1<=nq p.a p.b p.c p.d/\nq p.a p.b p.c p.d<=9223372036854775807:=qn_bd hp
 have hnq:1<=nq q.a q.b q.c q.d/\nq q.a q.b q.c q.d<=9223372036854775807:=qn_bd hq
 let y1:=(gQ (Rat.divInt (((((p.a*q.a)+(p.b*q.b))+(p.c*q.c))+(p.d*q.d))*((((p.a*q.a)+(p.b*q.b))+(p.c*q.c))+(p.d*q.d))) ((nq p.a p.b p.c p.d)*(nq q.a q.b q.c q.d))))
 refine vD Tryz.func24 ?_
 refine jA<|kx [(2,(.ref 0 0)),(3,(.ref 1 0)),(4,(.ref 2 0))] [(0,some (bx (jI p))),(1,some (bx (jI q))),(2,some (bx (qA oZr)))] (zN (yB 0)<|zN (yB 1)<|zN (vL 2 eM fG)<|zM<|zZ) ?_
 refine jA<|jA<|kx [(6,(vi 0))] [] (zR (qE qQ)<|zR (qE qQ)<|zE (eG eN gK gS)<|zE (kD (l_chkd p q hp hq))<|zM<|zZ) ?_
 refine jA<|kx [(15,(vb false))] [] (zM<|zE (gI false xX)<|zZ) ?_
 refine uU ?_
 refine jD<|jA ?_
 have bn1:xI (kG ((((p.a*q.a)+(p.b*q.b))+(p.c*q.c))+(p.d*q.d))) ((((p.a*q.a)+(p.b*q.b))+(p.c*q.c))+(p.d*q.d)) 3:=(qI (z:=((((p.a*q.a)+(p.b*q.b))+(p.c*q.c))+(p.d*q.d))) (by omega) (by omega))
 refine kx [(7,(.ref 3 0))] [(3,some (bx (jL (kG ((((p.a*q.a)+(p.b*q.b))+(p.c*q.c))+(p.d*q.d))))))] (zE (jY vB)<|zR (jZ kK)<|zE (jY vB)<|zR (jZ kK)<|zE (mZ (p.a*q.a) (hr:=by exact (qG rfl (by simp only[vR];omega) (by simp only[vS];omega))))<|zE (jY uS)<|zR (jZ kK)<|zE (jY uS)<|zR (jZ kK)<|zE (mZ (p.b*q.b) (hr:=by exact (qG rfl (by simp only[vR];omega) (by simp only[vS];omega))))<|zE (zAd ((p.a*q.a)+(p.b*q.b)) (hr:=by exact (qG rfl (by simp only[vR];omega) (by simp only[vS];omega))))<|zE (jY vA)<|zR (jZ kK)<|zE (jY vA)<|zR (jZ kK)<|zE (mZ (p.c*q.c) (hr:=by exact (qG rfl (by simp only[vR];omega) (by simp only[vS];omega))))<|zE (zAd (((p.a*q.a)+(p.b*q.b))+(p.c*q.c)) (hr:=by exact (qG rfl (by simp only[vR];omega) (by simp only[vS];omega))))<|zE (jY uR)<|zR (jZ kK)<|zE (jY uR)<|zR (jZ kK)<|zE (mZ (p.d*q.d) (hr:=by exact (qG rfl (by simp only[vR];omega) (by simp only[vS];omega))))<|zE (zAd ((((p.a*q.a)+(p.b*q.b))+(p.c*q.c))+(p.d*q.d)) (hr:=by exact (qG rfl (by simp only[vR];omega) (by simp only[vS];omega))))<|zE (kD (nI ((((p.a*q.a)+(p.b*q.b))+(p.c*q.c))+(p.d*q.d)) (by omega) (by omega)))<|zN (vL 3 vY vZ)<|zT (qO jP)<|zZ) ?_
 refine jA ?_
 have bn2:xI (kG (nq p.a p.b p.c p.d)) (nq p.a p.b p.c p.d) 3:=(qI (z:=(nq p.a p.b p.c p.d)) (by omega) (by omega))
 have bn3:xI (kG (nq q.a q.b q.c q.d)) (nq q.a q.b q.c q.d) 3:=(qI (z:=(nq q.a q.b q.c q.d)) (by omega) (by omega))
 have bn4:QL (Rat.divInt (((((p.a*q.a)+(p.b*q.b))+(p.c*q.c))+(p.d*q.d))*((((p.a*q.a)+(p.b*q.b))+(p.c*q.c))+(p.d*q.d))) ((nq p.a p.b p.c p.d)*(nq q.a q.b q.c q.d))) 6:=(ql_divInt (n:=6) (Nat.le_trans (xI.ln (xS (k:=6) bn1 bn1)) (by decide)) (Nat.le_trans (xI.ln (xS (k:=6) bn2 bn3)) (by decide)) (by decide))
 refine kd [(8,(.ref 4 0))] [(4,some (bx (qA y1)))] mo (wR (qE jP)<|wR (qE jP)<|wE (kD (fD bn1 bn1))<|wR (qE qQ)<|wE (kD (qr_norm p.a p.b p.c p.d (by omega) (by omega) (by omega) (by omega)))<|wE (kD (nI (nq p.a p.b p.c p.d) (by omega) (by omega)))<|wR (qE qQ)<|wE (kD (qr_norm q.a q.b q.c q.d (by omega) (by omega) (by omega) (by omega)))<|wE (kD (nI (nq q.a q.b q.c q.d) (by omega) (by omega)))<|wE (kD (fD bn2 bn3))<|wE (kD (f_newO (kG (((((p.a*q.a)+(p.b*q.b))+(p.c*q.c))+(p.d*q.d))*((((p.a*q.a)+(p.b*q.b))+(p.c*q.c))+(p.d*q.d)))) (((((p.a*q.a)+(p.b*q.b))+(p.c*q.c))+(p.d*q.d))*((((p.a*q.a)+(p.b*q.b))+(p.c*q.c))+(p.d*q.d))) (mA (xS (k:=6) bn1 bn1)) (kG ((nq p.a p.b p.c p.d)*(nq q.a q.b q.c q.d))) ((nq p.a p.b p.c p.d)*(nq q.a q.b q.c q.d)) (mA (xS (k:=6) bn2 bn3)) (Int.mul_ne_zero (hZ.1 hp.1) (hZ.1 hq.1))))<|wM<|wE vF<|wE vF<|wN (vL 4 eM fG)<|wT (qO xG)<|wM<|wZ) ?_
 refine jA ?_
 have bn5:QL ((1:Int):Rat) 1:=(ql_int (z:=1) (lenZ_one (by decide)) (by decide))
 refine kd [(5,(jN 0))] [(2,some (bx (qA (gQ (((1:Int):Rat)-(Rat.divInt (((((p.a*q.a)+(p.b*q.b))+(p.c*q.c))+(p.d*q.d))*((((p.a*q.a)+(p.b*q.b))+(p.c*q.c))+(p.d*q.d))) ((nq p.a p.b p.c p.d)*(nq q.a q.b q.c q.d))))))))] mo (wE (kD (f_whole 1))<|wR (qE xG)<|wE (kD (f_sub (gQ ((1:Int):Rat)) y1 ((1:Int):Rat) (Rat.divInt (((((p.a*q.a)+(p.b*q.b))+(p.c*q.c))+(p.d*q.d))*((((p.a*q.a)+(p.b*q.b))+(p.c*q.c))+(p.d*q.d))) ((nq p.a p.b p.c p.d)*(nq q.a q.b q.c q.d))) (qok_up (qok_of bn5)) (qok_up (qok_of bn4))))<|wT (qO xG)<|wM<|wZ) ?_
 refine jG ⟨_,(qK (cs:=(bx (qA (gQ (((1:Int):Rat)-(Rat.divInt (((((p.a*q.a)+(p.b*q.b))+(p.c*q.c))+(p.d*q.d))*((((p.a*q.a)+(p.b*q.b))+(p.c*q.c))+(p.d*q.d))) ((nq p.a p.b p.c p.d)*(nq q.a q.b q.c q.d)))))))) (d:=(qA (gQ (((1:Int):Rat)-(Rat.divInt (((((p.a*q.a)+(p.b*q.b))+(p.c*q.c))+(p.d*q.d))*((((p.a*q.a)+(p.b*q.b))+(p.c*q.c))+(p.d*q.d))) ((nq p.a p.b p.c p.d)*(nq q.a q.b q.c q.d))))))) rfl rfl xG rfl rfl (.tmp (d:=(.val (.int .i64 (((0:Nat):Int))))) rfl .nil)),?_⟩
 rw[<- chQ_di p q];rfl
end Go.Proofs.YtciingpdmjepgaaGreat
