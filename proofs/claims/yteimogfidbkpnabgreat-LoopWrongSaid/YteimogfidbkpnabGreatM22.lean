/- Part 22 of a proof: rules, plain facts, and functions walked. -/
import Derived.Test.YteimogfidbkpnabGreatM19
import Derived.Test.YteimogfidbkpnabGreatM11
import Derived.Test.YteimogfidbkpnabGreatM21
set_option linter.all false
set_option maxRecDepth 4000
namespace Go.Proofs.YteimogfidbkpnabGreat
open Go.Fid
theorem ar132:arrB Tryz.prog 132=some (4,42,2):=by kernel_rfl
theorem cb98:callB Tryz.prog 98=true:=by kernel_rfl
theorem cb110:callB Tryz.prog 110=true:=by kernel_rfl
theorem in3:intB Tryz.prog 3=some .i64:=by kernel_rfl
theorem sh132:kS Tryz.prog 132=some (true,8):=by kernel_rfl
theorem ze4:uZ Tryz.prog 4=some [.bool false]:=by kernel_rfl
theorem zo4:mW [.bool false] [.val (.bool false)]:=by simp [mW,Value.oneCell']
theorem l_small(z:Int)(hz:zJ (jQ z) z 10000001):kB Tryz.prog 110 [(jJ (jQ z))] (.tup [(.val (.int .i64 ((jM z)))),(.val (.bool ((kW z))))]):=by
 have hzl:=hz.l
 refine jK Tryz.func110 rfl cb110 rfl ?_
 show qU _ _ _ _ ⟨[(0,(.d (jJ (jQ z))))],[]⟩
 refine jA<|kx [(1,(.ref 0 0)),(2,(.ref 1 0)),(3,(.ref 2 0))] [(0,some (bx (jJ (jQ z)))),(1,some (bx (.val (.int .i64 (0))))),(2,some (bx (.val (.bool (false)))))] (zN (yC 0)<|zN (uQ 1 ze3 zo3)<|zN (uQ 2 ze4 zo4)<|zZ) ?_
 refine jA<|kx [(4,(vl 103 1 jD (jV (jQ z))))] [] (zR (kY jL)<|zE (kE (yA (jQ z) (by omega)))<|zM<|zZ) ?_
 refine jA<|jA<|kx [(12,(vb (decide (3<(((jV (jQ z)).length:Nat):Int)))))] [] (zM<|zE (xD kC (L:=(jV (jQ z))))<|zE cK<|zZ) ?_
 refine jG rfl (fun h1=>?_) (fun h1=>?_)
 ·replace h1:=uW h1
  refine jA<|kx [] [(1,some (bx (.val (.int .i64 (0))))),(2,some (bx (.val (.bool (false)))))] (zT (qA qF)<|zT (qA dJ)<|zZ) ?_
  refine jI ⟨_,(dX (cs:=(bx (.val (.int .i64 (0))))) (d:=(.val (.int .i64 (0)))) rfl rfl qF rfl rfl (dX (cs:=(bx (.val (.bool (false))))) (d:=(.val (.bool (false)))) rfl rfl dJ rfl rfl .nil)),?_⟩
  have hz0:=gz_long (z:=z) (by omega)
  rw[smallI_f (fits64_f hz0),fits64_f hz0];rfl
 ·replace h1:=uY h1
  have h3:(jV (jQ z)).length≤3:=by omega
  refine jE<|jA<|kx [(5,(.ref 3 0))] [(3,some (bx (.val (.int .u64 (0)))))] (zN (uQ 3 ze109 zo109)<|zT (qA cY)<|zZ) ?_
  refine jA<|pwp_backL backs cb92 rfl 7 jD (jV (jQ z)) 0 (fun n=>⟨[(1,(.ref 0 0)),(2,(.ref 1 0)),(3,(.ref 2 0)),(4,(vl 103 1 jD (jV (jQ z)))),(5,(.ref 3 0))],[(0,some (bx (jJ (jQ z)))),(1,some (bx (.val (.int .i64 (0))))),(2,some (bx (.val (.bool (false))))),(3,some (bx (.val (.int .u64 (((n:Nat):Int))))))]⟩) (fun (j:Nat) n=>n=val ((jV (jQ z)).drop ((jV (jQ z)).length-j))∧n≤9223372036854775808) 0 rfl rfl rfl rfl rfl rfl rfl rfl rfl rfl rfl rfl (fun _=>rfl) (fun _=>rfl) wk ⟨by simp [val],by decide⟩ (by omega) ?_ ?_
  ·rintro rl j n hj ⟨hn,hb⟩
   have hd:=(gz_dig z).getD ((jV (jQ z)).length-1-j)
   have hrm:=gz_room (z:=z) (j:=j) (n:=n)
   refine kx [(7,(dD ((jV (jQ z)).getD ((jV (jQ z)).length-1-j) 0)))] [] (zM<|zZ) ?_
   refine jH<|jA<|jA<|kx [(22,(vb (decide ((((9223372036854775808-((jV (jQ z)).getD ((jV (jQ z)).length-1-j) 0)) / 1000000000:Nat):Int)<((n:Nat):Int)))))] [] (zR (kP cY)<|zM<|zE (yR vW vY ((jV (jQ z)).getD ((jV (jQ z)).length-1-j) 0))<|zE (oSb (9223372036854775808-((jV (jQ z)).getD ((jV (jQ z)).length-1-j) 0)) (hr:=by exact (wu64 (by omega) (by omega) (by omega))))<|zE (oQu ((9223372036854775808-((jV (jQ z)).getD ((jV (jQ z)).length-1-j) 0)) / 1000000000) (hr:=by exact (quo_u64 (9223372036854775808-((jV (jQ z)).getD ((jV (jQ z)).length-1-j) 0)) 1000000000 (by omega))))<|zE cK<|zZ) ?_
   refine jG rfl (fun h2=>?_) (fun h2=>?_)
   ·replace h2:=uW h2
    refine jA<|kx [] [(1,some (bx (.val (.int .i64 (0))))),(2,some (bx (.val (.bool (false)))))] (zT (qA qF)<|zT (qA dJ)<|zZ) ?_
    refine jI ⟨⟨[(2,(.ref 1 0)),(3,(.ref 2 0))],[(1,some (bx (.val (.int .i64 (0))))),(2,some (bx (.val (.bool (false)))))]⟩,wk,keys_of rfl,⟨_,(dX (cs:=(bx (.val (.int .i64 (0))))) (d:=(.val (.int .i64 (0)))) rfl rfl qF rfl rfl (dX (cs:=(bx (.val (.bool (false))))) (d:=(.val (.bool (false)))) rfl rfl dJ rfl rfl .nil)),?_⟩⟩
    have hz0:=gz_over hj hn (by omega)
    rw[smallI_f (fits64_f hz0),fits64_f hz0];rfl
   ·replace h2:=uY h2
    refine jE<|kx [] [(3,some (bx (.val (.int .u64 (((((n*1000000000)+((jV (jQ z)).getD ((jV (jQ z)).length-1-j) 0)):Nat):Int))))))] (zR (kP cY)<|zE (oMl (n*1000000000))<|zM<|zE (yR vW vY ((jV (jQ z)).getD ((jV (jQ z)).length-1-j) 0))<|zE (qS ((n*1000000000)+((jV (jQ z)).getD ((jV (jQ z)).length-1-j) 0)))<|zT (qA cY)<|zZ) ?_
    exact ⟨n*1000000000+((jV (jQ z)).getD ((jV (jQ z)).length-1-j) 0),wk,⟨gz_step hj hn,hrm (by omega)⟩⟩
  ·rintro n ⟨hn,hb⟩
   have hz1:=gz_end hn
   refine jA<|jH<|jA<|kx [(28,(vb (decide (0<(((jV (jQ z)).length:Nat):Int))&&(jQ z).neg)))] [] ?_ ?_
   ·refine zM<|zE (xD kC (L:=(jV (jQ z))))<|zE cK<|zE (oV (vb (decide (0<(((jV (jQ z)).length:Nat):Int)))) (kZ (by kernel_rfl)))<|?_
    rcases hb3:(decide (0<(((jV (jQ z)).length:Nat):Int))) with _ | _
    ·replace hb3:=uY hb3
     exact zK<|zK<|zE oPf<|zM<|zZ
    ·replace hb3:=uW hb3
     exact zE (kV uT)<|zR (kP dJ)<|zE oPa<|zM<|zZ
   refine jG rfl (fun h4=>?_) (fun h4=>?_)
   ·refine jA<|kx [] [(1,some (bx (.val (.int .i64 ((-((n:Nat):Int))))))),(2,some (bx (.val (.bool (true)))))] (zR (kP cY)<|zE (oNg (((18446744073709551616-n) % 18446744073709551616:Nat):Int) (hr:=by exact (negu64 hb)))<|zE (zCv zG in3 (-((n:Nat):Int)) (hr:=by exact (negi64 hb)))<|zT (qA qF)<|zT (qA dJ)<|zZ) ?_
    refine jI ⟨_,(dX (cs:=(bx (.val (.int .i64 ((-((n:Nat):Int))))))) (d:=(.val (.int .i64 ((-((n:Nat):Int)))))) rfl rfl qF rfl rfl (dX (cs:=(bx (.val (.bool (true))))) (d:=(.val (.bool (true)))) rfl rfl dJ rfl rfl .nil)),?_⟩
    obtain ⟨q1,q2⟩:=sm_n hz1 hb (sm_neg h4)
    rw[q1,q2];rfl
   ·refine jA<|kx [(39,(vb (((n:Nat):Int) == 9223372036854775808)))] [] (zR (kP cY)<|zE gX<|zM<|zZ) ?_
    refine jG rfl (fun h5=>?_) (fun h5=>?_)
    ·replace h5:=eq_of_beq h5
     refine jA<|kx [] [(1,some (bx (.val (.int .i64 (0))))),(2,some (bx (.val (.bool (false)))))] (zT (qA qF)<|zT (qA dJ)<|zZ) ?_
     refine jI ⟨_,(dX (cs:=(bx (.val (.int .i64 (0))))) (d:=(.val (.int .i64 (0)))) rfl rfl qF rfl rfl (dX (cs:=(bx (.val (.bool (false))))) (d:=(.val (.bool (false)))) rfl rfl dJ rfl rfl .nil)),?_⟩
     obtain ⟨q1,q2⟩:=sm_x (z:=z) (by have:=sm_pos h4;omega)
     rw[q1,q2];rfl
    ·replace h5:=ne_of_beq_false h5
     refine jE<|jA<|kx [] [(1,some (bx (.val (.int .i64 (((n:Nat):Int)))))),(2,some (bx (.val (.bool (true)))))] (zR (kP cY)<|zE (yR zG in3 n)<|zT (qA qF)<|zT (qA dJ)<|zZ) ?_
     refine jI ⟨_,(dX (cs:=(bx (.val (.int .i64 (((n:Nat):Int)))))) (d:=(.val (.int .i64 (((n:Nat):Int))))) rfl rfl qF rfl rfl (dX (cs:=(bx (.val (.bool (true))))) (d:=(.val (.bool (true)))) rfl rfl dJ rfl rfl .nil)),?_⟩
     obtain ⟨q1,q2⟩:=sm_p hz1 (by omega) (sm_pos h4)
     rw[q1,q2];rfl
theorem l_prim(z0 z1 z2 z3:Int)(hz0:zJ (jQ z0) z0 4)(hz1:zJ (jQ z1) z1 4)(hz2:zJ (jQ z2) z2 4)(hz3:zJ (jQ z3) z3 4)(hnz:nF (jB.mk z0 z1 z2 z3)):kB Tryz.prog 98 [(encA132 (A4.mk (jQ z0) (jQ z1) (jQ z2) (jQ z3)))] (.tup [(jF (qV (jB.mk z0 z1 z2 z3))),(.val (.int .i64 ((((qC (jB.mk z0 z1 z2 z3)):Nat):Int))))]):=by
 have hln:=q4_len hz0 hz1 hz2 hz3
 have hgI:=gcd_iok hln
 have hgn:=gcd_n hnz
 let y3:=(encA132 (A4.mk (jQ z0) (jQ z1) (jQ z2) (jQ z3)))
 let y2:=(bx y3)
 let y1:=(bx (jJ (jQ ((Int.gcd (((Int.gcd (((Int.gcd (((Int.gcd 0 z0:Nat):Int)) z1:Nat):Int)) z2:Nat):Int)) z3:Nat):Int))))
 refine jK Tryz.func98 rfl cb98 rfl ?_
 show qU _ _ _ _ ⟨[(0,(.d y3))],[]⟩
 refine jA<|kx [(1,(.ref 0 0)),(2,(.ref 1 0))] [(0,some y2),(1,some (bx (jF (jB.mk 0 0 0 0))))] (zN (yC 0)<|zN (uQ 1 vK vL)<|zM<|zZ) ?_
 refine jA<|kx [(4,(.ref 2 0)),(5,(.ref 3 0))] [(2,some (bx (jJ (kJ.mk false [])))),(3,some (bx (jJ (kJ.mk false []))))] (zN (uQ 2 uH uI)<|zN (uQ 3 uH uI)<|zZ) ?_
 refine pwp_meet (α:=Int × Int) (fun (g,f)=>⟨[(1,(.ref 0 0)),(2,(.ref 1 0)),(4,(.ref 2 0)),(5,(.ref 3 0))],[(0,some y2),(1,some (bx (jF (jB.mk 0 0 0 0)))),(2,some (bx (jJ (jQ g)))),(3,some (bx (jJ (jQ f))))]⟩) (fun (g,f)=>g=((gcdL (qL (jB.mk z0 z1 z2 z3)):Nat):Int)∧f=cQ (qL (jB.mk z0 z1 z2 z3))) ?_ ?_
 ·refine jA<|kx [(16,(.d y3)),(17,(jT 0))] [] (zR (kY sh132)<|zM<|zZ) ?_
  refine jH<|yM 20 ?_
  refine gH<|jA<|kx [(18,(vb true))] [] (zE (xR true uM)<|zZ) ?_
  refine jA<|qI ?_
  refine jE<|jA<|jH<|jA<|kx [(7,(.ref 4 0))] [(4,some (bx (jJ (jQ z0))))] (zE (oXa ar132 jL (fun h=>by cases h) 0)<|zN (uQ 4 uH uI)<|zT (qA jL)<|zZ) ?_
  refine jA<|kx [] [(2,some (bx (jJ (jQ ((Int.gcd 0 z0:Nat):Int)))))] (zR (kY jL)<|zR (kY jL)<|zE (kE (s_gcd mT hz0 (by decide) (by decide)))<|zT (qA jL)<|zZ) ?_
  refine jA<|kx [(25,(vb true))] [] (zR (kY jL)<|zE (kE (mY mT (by decide)))<|zE (xR true gX (by exact beq_iff_eq.2 rfl))<|zZ) ?_
  refine qI ?_
  refine kx [] [(3,some (bx (jJ (jQ z0))))] (zR (kY jL)<|zT (qA jL)<|zZ) ?_
  refine kx [(17,(jT 1))] [] (zE (qS 1 (hr:=by decide))<|zM<|zZ) ?_
  refine kH (kK.refl _) ?_
  refine jA<|kx [(18,(vb true))] [] (zE (xR true uM)<|zZ) ?_
  refine jA<|qI ?_
  refine jE<|jA<|jH<|jA<|kx [(7,(.ref 5 0))] [(5,some (bx (jJ (jQ z1))))] (zE (oXa ar132 jL (fun h=>by cases h) 1)<|zN (uQ 5 uH uI)<|zT (qA jL)<|zZ) ?_
  refine jA<|kx [] [(2,some (bx (jJ (jQ ((Int.gcd (((Int.gcd 0 z0:Nat):Int)) z1:Nat):Int)))))] (zR (kY jL)<|zR (kY jL)<|zE (kE (s_gcd (qR (k:=4) mT hz0 (by decide)) hz1 (by decide) (by decide)))<|zT (qA jL)<|zZ) ?_
  refine jA<|kx [(25,(vb ((kG z0) == ((0:Nat):Int))))] [] (zR (kY jL)<|zE (kE (mY hz0 (by decide)))<|zE gX<|zZ) ?_
  refine jG (b:=((kG z0) == ((0:Nat):Int))) rfl (fun h1=>?_) (fun h1=>?_)
  ·replace h1:=eq_of_beq h1
   refine kx [] [(3,some (bx (jJ (jQ z1))))] (zR (kY jL)<|zT (qA jL)<|zZ) ?_
   refine kX (wk (l:=[(1,(.ref 0 0)),(2,(.ref 1 0)),(4,(.ref 2 0)),(5,(.ref 3 0)),(16,(.d y3)),(17,(jT 1))]) (b:=[(0,some y2),(1,some (bx (jF (jB.mk 0 0 0 0)))),(2,some (bx (jJ (jQ ((Int.gcd (((Int.gcd 0 z0:Nat):Int)) z1:Nat):Int))))),(3,some (bx (jJ (jQ z1))))])) ?_
   refine kx [(17,(jT 2))] [] (zE (qS 2 (hr:=by decide))<|zM<|zZ) ?_
   refine kH (kK.refl _) ?_
   refine jA<|kx [(18,(vb true))] [] (zE (xR true uM)<|zZ) ?_
   refine jA<|qI ?_
   refine jE<|jA<|jH<|jA<|kx [(7,(.ref 6 0))] [(6,some (bx (jJ (jQ z2))))] (zE (oXa ar132 jL (fun h=>by cases h) 2)<|zN (uQ 6 uH uI)<|zT (qA jL)<|zZ) ?_
   refine jA<|kx [] [(2,some (bx (jJ (jQ ((Int.gcd (((Int.gcd (((Int.gcd 0 z0:Nat):Int)) z1:Nat):Int)) z2:Nat):Int)))))] (zR (kY jL)<|zR (kY jL)<|zE (kE (s_gcd (qR (k:=4) (qR (k:=4) mT hz0 (by decide)) hz1 (by decide)) hz2 (by decide) (by decide)))<|zT (qA jL)<|zZ) ?_
   refine jA<|kx [(25,(vb ((kG z1) == ((0:Nat):Int))))] [] (zR (kY jL)<|zE (kE (mY hz1 (by decide)))<|zE gX<|zZ) ?_
   refine jG (b:=((kG z1) == ((0:Nat):Int))) rfl (fun h2=>?_) (fun h2=>?_)
   ·replace h2:=eq_of_beq h2
    refine kx [] [(3,some (bx (jJ (jQ z2))))] (zR (kY jL)<|zT (qA jL)<|zZ) ?_
    refine kx [(17,(jT 3))] [] (zE (qS 3 (hr:=by decide))<|zM<|zZ) ?_
    refine kH (kK.refl _) ?_
    refine jA<|kx [(18,(vb true))] [] (zE (xR true uM)<|zZ) ?_
    refine jA<|qI ?_
    refine jE<|jA<|jH<|jA<|kx [(7,(.ref 7 0))] [(7,some (bx (jJ (jQ z3))))] (zE (oXa ar132 jL (fun h=>by cases h) 3)<|zN (uQ 7 uH uI)<|zT (qA jL)<|zZ) ?_
    refine jA<|kx [] [(2,some y1)] (zR (kY jL)<|zR (kY jL)<|zE (kE (s_gcd (qR (k:=4) (qR (k:=4) (qR (k:=4) mT hz0 (by decide)) hz1 (by decide)) hz2 (by decide)) hz3 (by decide) (by decide)))<|zT (qA jL)<|zZ) ?_
    refine jA<|kx [(25,(vb ((kG z2) == ((0:Nat):Int))))] [] (zR (kY jL)<|zE (kE (mY hz2 (by decide)))<|zE gX<|zZ) ?_
    refine jG (b:=((kG z2) == ((0:Nat):Int))) rfl (fun h3=>?_) (fun h3=>?_)
    ·replace h3:=eq_of_beq h3
     refine kx [] [(3,some (bx (jJ (jQ z3))))] (zR (kY jL)<|zT (qA jL)<|zZ) ?_
     refine kx [(17,(jT 4))] [] (zE (qS 4 (hr:=by decide))<|zM<|zZ) ?_
     refine kH (kK.refl _) ?_
     refine jA<|kx [(18,(vb false))] [] (zE (xR false uM)<|zZ) ?_
     refine jA<|qZ ?_
     refine jW ?_
     exact met (((Int.gcd ((Int.gcd ((Int.gcd ((Int.gcd 0 z0:Nat):Int) z1:Nat):Int) z2:Nat):Int) z3:Nat):Int),z3) wk (⟨rfl,fst_3 h1 h2 h3⟩)
    ·replace h3:=ne_of_beq_false h3
     refine jE<|kx [(17,(jT 4))] [] (zE (qS 4 (hr:=by decide))<|zM<|zZ) ?_
     refine kH (kK.refl _) ?_
     refine jA<|kx [(18,(vb false))] [] (zE (xR false uM)<|zZ) ?_
     refine jA<|qZ ?_
     refine jW ?_
     exact met (((Int.gcd ((Int.gcd ((Int.gcd ((Int.gcd 0 z0:Nat):Int) z1:Nat):Int) z2:Nat):Int) z3:Nat):Int),z2) wk (⟨rfl,fst_2 h1 h2 h3⟩)
   ·replace h2:=ne_of_beq_false h2
    refine jE<|kx [(17,(jT 3))] [] (zE (qS 3 (hr:=by decide))<|zM<|zZ) ?_
    refine kH (kK.refl _) ?_
    refine jA<|kx [(18,(vb true))] [] (zE (xR true uM)<|zZ) ?_
    refine jA<|qI ?_
    refine jE<|jA<|jH<|jA<|kx [(7,(.ref 8 0))] [(8,some (bx (jJ (jQ z3))))] (zE (oXa ar132 jL (fun h=>by cases h) 3)<|zN (uQ 8 uH uI)<|zT (qA jL)<|zZ) ?_
    refine jA<|kx [] [(2,some y1)] (zR (kY jL)<|zR (kY jL)<|zE (kE (s_gcd (qR (k:=4) (qR (k:=4) (qR (k:=4) mT hz0 (by decide)) hz1 (by decide)) hz2 (by decide)) hz3 (by decide) (by decide)))<|zT (qA jL)<|zZ) ?_
    refine jA<|kx [(25,(vb false))] [] (zR (kY jL)<|zE (kE (mY hz1 (by decide)))<|zE (xR false gX (by exact beq_eq_false_iff_ne.2 h2))<|zZ) ?_
    refine qZ ?_
    refine jE<|kx [(17,(jT 4))] [] (zE (qS 4 (hr:=by decide))<|zM<|zZ) ?_
    refine kH (kK.refl _) ?_
    refine jA<|kx [(18,(vb false))] [] (zE (xR false uM)<|zZ) ?_
    refine jA<|qZ ?_
    refine jW ?_
    exact met (((Int.gcd ((Int.gcd ((Int.gcd ((Int.gcd 0 z0:Nat):Int) z1:Nat):Int) z2:Nat):Int) z3:Nat):Int),z1) wk (⟨rfl,fst_1 h1 h2⟩)
  ·replace h1:=ne_of_beq_false h1
   refine jE<|kx [(17,(jT 2))] [] (zE (qS 2 (hr:=by decide))<|zM<|zZ) ?_
   refine kH (kK.refl _) ?_
   refine jA<|kX (wk (l:=[(1,(.ref 0 0)),(2,(.ref 1 0)),(4,(.ref 2 0)),(5,(.ref 3 0)),(16,(.d y3)),(17,(jT 2))]) (b:=[(0,some y2),(1,some (bx (jF (jB.mk 0 0 0 0)))),(2,some (bx (jJ (jQ ((Int.gcd (((Int.gcd 0 z0:Nat):Int)) z1:Nat):Int))))),(3,some (bx (jJ (jQ z0))))])) ?_
   refine kx [(18,(vb true))] [] (zE (xR true uM)<|zZ) ?_
   refine jA<|qI ?_
   refine jE<|jA<|jH<|jA<|kx [(7,(.ref 9 0))] [(9,some (bx (jJ (jQ z2))))] (zE (oXa ar132 jL (fun h=>by cases h) 2)<|zN (uQ 9 uH uI)<|zT (qA jL)<|zZ) ?_
   refine jA<|kx [] [(2,some (bx (jJ (jQ ((Int.gcd (((Int.gcd (((Int.gcd 0 z0:Nat):Int)) z1:Nat):Int)) z2:Nat):Int)))))] (zR (kY jL)<|zR (kY jL)<|zE (kE (s_gcd (qR (k:=4) (qR (k:=4) mT hz0 (by decide)) hz1 (by decide)) hz2 (by decide) (by decide)))<|zT (qA jL)<|zZ) ?_
   refine jA<|kx [(25,(vb false))] [] (zR (kY jL)<|zE (kE (mY hz0 (by decide)))<|zE (xR false gX (by exact beq_eq_false_iff_ne.2 h1))<|zZ) ?_
   refine qZ ?_
   refine jE<|kx [(17,(jT 3))] [] (zE (qS 3 (hr:=by decide))<|zM<|zZ) ?_
   refine kH (kK.refl _) ?_
   refine jA<|kx [(18,(vb true))] [] (zE (xR true uM)<|zZ) ?_
   refine jA<|qI ?_
   refine jE<|jA<|jH<|jA<|kx [(7,(.ref 10 0))] [(10,some (bx (jJ (jQ z3))))] (zE (oXa ar132 jL (fun h=>by cases h) 3)<|zN (uQ 10 uH uI)<|zT (qA jL)<|zZ) ?_
   refine jA<|kx [] [(2,some y1)] (zR (kY jL)<|zR (kY jL)<|zE (kE (s_gcd (qR (k:=4) (qR (k:=4) (qR (k:=4) mT hz0 (by decide)) hz1 (by decide)) hz2 (by decide)) hz3 (by decide) (by decide)))<|zT (qA jL)<|zZ) ?_
   refine jA<|kx [(25,(vb false))] [] (zR (kY jL)<|zE (kE (mY hz0 (by decide)))<|zE (xR false gX (by exact beq_eq_false_iff_ne.2 h1))<|zZ) ?_
   refine qZ ?_
   refine jE<|kx [(17,(jT 4))] [] (zE (qS 4 (hr:=by decide))<|zM<|zZ) ?_
   refine kH (kK.refl _) ?_
   refine jA<|kx [(18,(vb false))] [] (zE (xR false uM)<|zZ) ?_
   refine jA<|qZ ?_
   refine jW ?_
   exact met (((Int.gcd ((Int.gcd ((Int.gcd ((Int.gcd 0 z0:Nat):Int) z1:Nat):Int) z2:Nat):Int) z3:Nat):Int),z0) wk (⟨rfl,fst_0 h1⟩)
 ·rintro ⟨g,f⟩ ⟨hg,hf⟩
  have hfI:=fst_iok hf hln
  rw[← hg] at hgI hgn
  refine pwp_meet (α:=Int) (fun d=>⟨[(1,(.ref 0 0)),(2,(.ref 1 0)),(4,(.ref 2 0))],[(0,some y2),(1,some (bx (jF (jB.mk 0 0 0 0)))),(2,some (bx (jJ (jQ d))))]⟩) (fun d=>dvL (qL (jB.mk z0 z1 z2 z3))=d) ?_ ?_
  ·refine jA<|kx [(30,(vb (decide ((kG f)<((0:Nat):Int)))))] [] (zR (kY jL)<|zE (kE (mY hfI (by decide)))<|zE uM<|zZ) ?_
   refine jG (b:=decide ((kG f)<((0:Nat):Int))) rfl (fun h4=>?_) (fun h4=>?_)
   ·replace h4:=uW h4
    refine kx [] [(2,some (bx (jJ (jQ (-g)))))] (zR (kY jL)<|zE (kE (s_neg hgI (by decide)))<|zT (qA jL)<|zZ) ?_
    exact met (-g) wk (by rw[hg];exact dv_n hf h4)
   ·replace h4:=uY h4
    refine jE ?_
    exact met g wk (by rw[hg];exact dv_p hf h4)
  ·rintro d hd
   have hdI:zJ (jQ d) d 4:=by rw[← hd];exact gP (dvL_len hln)
   have hdn:d≠0:=by rw[← hd];exact dvL_ne hnz
   refine jA<|kx [(8,(.ref 11 0))] [(11,some (bx (xX (A4.mk 0 0 0 0))))] (zN (uQ 11 ze101 zo101)<|zZ) ?_
   refine jA<|jA<|kx [(33,(.d y3)),(34,(jT 0))] [] (zR (kY sh132)<|zM<|zZ) ?_
   refine jH<|yM 20 ?_
   refine gH<|jA<|kx [(35,(vb true))] [] (zE (xR true uM)<|zZ) ?_
   refine jA<|qI ?_
   refine jE<|jA<|jH<|jA<|kx [(9,(jT 0)),(10,(.ref 12 0))] [(12,some (bx (jJ (jQ z0))))] (zM<|zE (oXa ar132 jL (fun h=>by cases h) 0)<|zN (uQ 12 uH uI)<|zM<|zT (qA jL)<|zZ) ?_
   refine jA<|kx [(11,(.ref 13 0))] [(13,some (bx (jJ (jQ (z0.fdiv d))))),(14,none)] (zR (kY jL)<|zR (kY jL)<|zE (kE (mV hz0 hdI (by decide) (by decide) hdn))<|zM<|zE qQ<|zE qQ<|zE qQ<|zN (uQ 13 uH uI)<|zN (uQ 14 uH uI)<|zT (qA jL)<|zT (qA jL)<|zM<|zZ) ?_
   refine jA<|kx [(14,(vi (jM (z0.fdiv d)))),(15,(vb (kW (z0.fdiv d))))] [] (zR (kY jL)<|zE (kE (l_small (z0.fdiv d) (xG (mU (k:=5) hz0 hdI (by decide)) (by decide))))<|zM<|zE qQ<|zE qQ<|zM<|zM<|zZ) ?_
   refine jA<|jA<|kx [(59,(vb ((!(kW (z0.fdiv d))||decide ((jM (z0.fdiv d)) < -1048576))||decide (((1048576:Nat):Int)<(jM (z0.fdiv d))))))] [] ?_ ?_
   ·refine zM<|zE oNt<|zE (oV (vb (!(kW (z0.fdiv d)))) (kZ (by kernel_rfl)))<|?_
    rcases hb5:(!(kW (z0.fdiv d))) with _ | _
    ·refine zM<|zE uM<|zE cF<|zE (oV (vb (false||decide ((jM (z0.fdiv d)) < -1048576))) (kZ (by kernel_rfl)))<|?_
     rcases hb6:(false||decide ((jM (z0.fdiv d)) < -1048576)) with _ | _
     ·replace hb6:=uY (p:=((jM (z0.fdiv d)) < -1048576)) hb6
      exact zM<|zE cK<|zE cF<|zZ
     ·replace hb6:=uW (p:=((jM (z0.fdiv d)) < -1048576)) hb6
      exact zK<|zK<|zE xC<|zZ
    ·exact zK<|zK<|zE xC<|zM<|zK<|zK<|zE xC<|zZ
   refine jG rfl (fun h7=>?_) (fun h7=>?_)
   ·refine jA<|kx [(3,(jT 3))] [(1,some (bx (jF (jB.mk 0 0 0 0))))] (zE (eQ cB vK vL)<|zT (qA kL)<|zM<|zZ) ?_
    refine jI ⟨_,(kQ (cs:=(bx (jF (jB.mk 0 0 0 0)))) (d:=(jF (jB.mk 0 0 0 0))) rfl rfl kL rfl rfl (.tmp (d:=(.val (.int .i64 (((3:Nat):Int))))) rfl .nil)),?_⟩
    obtain ⟨q1,q2⟩:=prim_n (q:=(jB.mk z0 z1 z2 z3)) hd (x:=z0) (.inl rfl) h7
    rw[q1,q2];rfl
   ·refine jE<|kx [] [(11,some (bx (xX (A4.mk (jM (z0.fdiv d)) 0 0 0))))] (zM<|zM<|zE (oXr eZ 0)<|zT (qA qF)<|zZ) ?_
    refine kx [(34,(jT 1))] [] (zE (qS 1 (hr:=by decide))<|zM<|zZ) ?_
    refine kH (kK.refl _) ?_
    refine jA<|kx [(35,(vb true))] [] (zE (xR true uM)<|zZ) ?_
    refine jA<|qI ?_
    refine jE<|jA<|jH<|jA<|kx [(9,(jT 1)),(10,(.ref 15 0))] [(15,some (bx (jJ (jQ z1))))] (zM<|zE (oXa ar132 jL (fun h=>by cases h) 1)<|zN (uQ 15 uH uI)<|zM<|zT (qA jL)<|zZ) ?_
    refine jA<|kx [(11,(.ref 16 0))] [(16,some (bx (jJ (jQ (z1.fdiv d))))),(17,none)] (zR (kY jL)<|zR (kY jL)<|zE (kE (mV hz1 hdI (by decide) (by decide) hdn))<|zM<|zE qQ<|zE qQ<|zE qQ<|zN (uQ 16 uH uI)<|zN (uQ 17 uH uI)<|zT (qA jL)<|zT (qA jL)<|zM<|zZ) ?_
    refine jA<|kx [(14,(vi (jM (z1.fdiv d)))),(15,(vb (kW (z1.fdiv d))))] [] (zR (kY jL)<|zE (kE (l_small (z1.fdiv d) (xG (mU (k:=5) hz1 hdI (by decide)) (by decide))))<|zM<|zE qQ<|zE qQ<|zM<|zM<|zZ) ?_
    refine jA<|jA<|kx [(59,(vb ((!(kW (z1.fdiv d))||decide ((jM (z1.fdiv d)) < -1048576))||decide (((1048576:Nat):Int)<(jM (z1.fdiv d))))))] [] ?_ ?_
    ·refine zM<|zE oNt<|zE (oV (vb (!(kW (z1.fdiv d)))) (kZ (by kernel_rfl)))<|?_
     rcases hb8:(!(kW (z1.fdiv d))) with _ | _
     ·refine zM<|zE uM<|zE cF<|zE (oV (vb (false||decide ((jM (z1.fdiv d)) < -1048576))) (kZ (by kernel_rfl)))<|?_
      rcases hb9:(false||decide ((jM (z1.fdiv d)) < -1048576)) with _ | _
      ·replace hb9:=uY (p:=((jM (z1.fdiv d)) < -1048576)) hb9
       exact zM<|zE cK<|zE cF<|zZ
      ·replace hb9:=uW (p:=((jM (z1.fdiv d)) < -1048576)) hb9
       exact zK<|zK<|zE xC<|zZ
     ·exact zK<|zK<|zE xC<|zM<|zK<|zK<|zE xC<|zZ
    refine jG rfl (fun h10=>?_) (fun h10=>?_)
    ·refine jA<|kX (wk (l:=[(2,(.ref 1 0)),(4,(.ref 2 0)),(8,(.ref 11 0)),(9,(jT 1)),(14,(vi (jM (z1.fdiv d)))),(33,(.d y3)),(34,(jT 1)),(59,(vb ((!(kW (z1.fdiv d))||decide ((jM (z1.fdiv d)) < -1048576))||decide (((1048576:Nat):Int)<(jM (z1.fdiv d))))))]) (b:=[(1,some (bx (jF (jB.mk 0 0 0 0)))),(11,some (bx (xX (A4.mk (jM (z0.fdiv d)) 0 0 0)))),(2,some (bx (jJ (jQ d))))])) ?_
     refine kx [(3,(jT 3))] [(1,some (bx (jF (jB.mk 0 0 0 0))))] (zE (eQ cB vK vL)<|zT (qA kL)<|zM<|zZ) ?_
     refine jI ⟨_,(kQ (cs:=(bx (jF (jB.mk 0 0 0 0)))) (d:=(jF (jB.mk 0 0 0 0))) rfl rfl kL rfl rfl (.tmp (d:=(.val (.int .i64 (((3:Nat):Int))))) rfl .nil)),?_⟩
     obtain ⟨q1,q2⟩:=prim_n (q:=(jB.mk z0 z1 z2 z3)) hd (x:=z1) (.inr (.inl rfl)) h10
     rw[q1,q2];rfl
    ·refine jE<|kX (wk (l:=[(2,(.ref 1 0)),(4,(.ref 2 0)),(8,(.ref 11 0)),(9,(jT 1)),(14,(vi (jM (z1.fdiv d)))),(33,(.d y3)),(34,(jT 1)),(59,(vb ((!(kW (z1.fdiv d))||decide ((jM (z1.fdiv d)) < -1048576))||decide (((1048576:Nat):Int)<(jM (z1.fdiv d))))))]) (b:=[(1,some (bx (jF (jB.mk 0 0 0 0)))),(11,some (bx (xX (A4.mk (jM (z0.fdiv d)) 0 0 0)))),(2,some (bx (jJ (jQ d))))])) ?_
     refine kx [] [(11,some (bx (xX (A4.mk (jM (z0.fdiv d)) (jM (z1.fdiv d)) 0 0))))] (zM<|zM<|zE (oXr eZ 1)<|zT (qA qF)<|zZ) ?_
     refine kx [(34,(jT 2))] [] (zE (qS 2 (hr:=by decide))<|zM<|zZ) ?_
     refine kH (kK.refl _) ?_
     refine jA<|kx [(35,(vb true))] [] (zE (xR true uM)<|zZ) ?_
     refine jA<|qI ?_
     refine jE<|jA<|jH<|jA<|kx [(9,(jT 2)),(10,(.ref 18 0))] [(18,some (bx (jJ (jQ z2))))] (zM<|zE (oXa ar132 jL (fun h=>by cases h) 2)<|zN (uQ 18 uH uI)<|zM<|zT (qA jL)<|zZ) ?_
     refine jA<|kx [(11,(.ref 19 0))] [(19,some (bx (jJ (jQ (z2.fdiv d))))),(20,none)] (zR (kY jL)<|zR (kY jL)<|zE (kE (mV hz2 hdI (by decide) (by decide) hdn))<|zM<|zE qQ<|zE qQ<|zE qQ<|zN (uQ 19 uH uI)<|zN (uQ 20 uH uI)<|zT (qA jL)<|zT (qA jL)<|zM<|zZ) ?_
     refine jA<|kx [(14,(vi (jM (z2.fdiv d)))),(15,(vb (kW (z2.fdiv d))))] [] (zR (kY jL)<|zE (kE (l_small (z2.fdiv d) (xG (mU (k:=5) hz2 hdI (by decide)) (by decide))))<|zM<|zE qQ<|zE qQ<|zM<|zM<|zZ) ?_
     refine jA<|jA<|kx [(59,(vb ((!(kW (z2.fdiv d))||decide ((jM (z2.fdiv d)) < -1048576))||decide (((1048576:Nat):Int)<(jM (z2.fdiv d))))))] [] ?_ ?_
     ·refine zM<|zE oNt<|zE (oV (vb (!(kW (z2.fdiv d)))) (kZ (by kernel_rfl)))<|?_
      rcases hb11:(!(kW (z2.fdiv d))) with _ | _
      ·refine zM<|zE uM<|zE cF<|zE (oV (vb (false||decide ((jM (z2.fdiv d)) < -1048576))) (kZ (by kernel_rfl)))<|?_
       rcases hb12:(false||decide ((jM (z2.fdiv d)) < -1048576)) with _ | _
       ·replace hb12:=uY (p:=((jM (z2.fdiv d)) < -1048576)) hb12
        exact zM<|zE cK<|zE cF<|zZ
       ·replace hb12:=uW (p:=((jM (z2.fdiv d)) < -1048576)) hb12
        exact zK<|zK<|zE xC<|zZ
      ·exact zK<|zK<|zE xC<|zM<|zK<|zK<|zE xC<|zZ
     refine jG rfl (fun h13=>?_) (fun h13=>?_)
     ·refine jA<|kx [(3,(jT 3))] [(1,some (bx (jF (jB.mk 0 0 0 0))))] (zE (eQ cB vK vL)<|zT (qA kL)<|zM<|zZ) ?_
      refine jI ⟨_,(kQ (cs:=(bx (jF (jB.mk 0 0 0 0)))) (d:=(jF (jB.mk 0 0 0 0))) rfl rfl kL rfl rfl (.tmp (d:=(.val (.int .i64 (((3:Nat):Int))))) rfl .nil)),?_⟩
      obtain ⟨q1,q2⟩:=prim_n (q:=(jB.mk z0 z1 z2 z3)) hd (x:=z2) (.inr (.inr (.inl rfl))) h13
      rw[q1,q2];rfl
     ·refine jE<|kx [] [(11,some (bx (xX (A4.mk (jM (z0.fdiv d)) (jM (z1.fdiv d)) (jM (z2.fdiv d)) 0))))] (zM<|zM<|zE (oXr eZ 2)<|zT (qA qF)<|zZ) ?_
      refine kx [(34,(jT 3))] [] (zE (qS 3 (hr:=by decide))<|zM<|zZ) ?_
      refine kH (kK.refl _) ?_
      refine jA<|kx [(35,(vb true))] [] (zE (xR true uM)<|zZ) ?_
      refine jA<|qI ?_
      refine jE<|jA<|jH<|jA<|kx [(9,(jT 3)),(10,(.ref 21 0))] [(21,some (bx (jJ (jQ z3))))] (zM<|zE (oXa ar132 jL (fun h=>by cases h) 3)<|zN (uQ 21 uH uI)<|zM<|zT (qA jL)<|zZ) ?_
      refine jA<|kx [(11,(.ref 22 0))] [(22,some (bx (jJ (jQ (z3.fdiv d))))),(23,none)] (zR (kY jL)<|zR (kY jL)<|zE (kE (mV hz3 hdI (by decide) (by decide) hdn))<|zM<|zE qQ<|zE qQ<|zE qQ<|zN (uQ 22 uH uI)<|zN (uQ 23 uH uI)<|zT (qA jL)<|zT (qA jL)<|zM<|zZ) ?_
      refine jA<|kx [(14,(vi (jM (z3.fdiv d)))),(15,(vb (kW (z3.fdiv d))))] [] (zR (kY jL)<|zE (kE (l_small (z3.fdiv d) (xG (mU (k:=5) hz3 hdI (by decide)) (by decide))))<|zM<|zE qQ<|zE qQ<|zM<|zM<|zZ) ?_
      refine jA<|jA<|kx [(59,(vb ((!(kW (z3.fdiv d))||decide ((jM (z3.fdiv d)) < -1048576))||decide (((1048576:Nat):Int)<(jM (z3.fdiv d))))))] [] ?_ ?_
      ·refine zM<|zE oNt<|zE (oV (vb (!(kW (z3.fdiv d)))) (kZ (by kernel_rfl)))<|?_
       rcases hb14:(!(kW (z3.fdiv d))) with _ | _
       ·refine zM<|zE uM<|zE cF<|zE (oV (vb (false||decide ((jM (z3.fdiv d)) < -1048576))) (kZ (by kernel_rfl)))<|?_
        rcases hb15:(false||decide ((jM (z3.fdiv d)) < -1048576)) with _ | _
        ·replace hb15:=uY (p:=((jM (z3.fdiv d)) < -1048576)) hb15
         exact zM<|zE cK<|zE cF<|zZ
        ·replace hb15:=uW (p:=((jM (z3.fdiv d)) < -1048576)) hb15
         exact zK<|zK<|zE xC<|zZ
       ·exact zK<|zK<|zE xC<|zM<|zK<|zK<|zE xC<|zZ
      refine jG rfl (fun h16=>?_) (fun h16=>?_)
      ·refine jA<|kX (wk (l:=[(2,(.ref 1 0)),(4,(.ref 2 0)),(8,(.ref 11 0)),(9,(jT 3)),(14,(vi (jM (z3.fdiv d)))),(33,(.d y3)),(34,(jT 3)),(59,(vb ((!(kW (z3.fdiv d))||decide ((jM (z3.fdiv d)) < -1048576))||decide (((1048576:Nat):Int)<(jM (z3.fdiv d))))))]) (b:=[(1,some (bx (jF (jB.mk 0 0 0 0)))),(11,some (bx (xX (A4.mk (jM (z0.fdiv d)) (jM (z1.fdiv d)) (jM (z2.fdiv d)) 0)))),(2,some (bx (jJ (jQ d))))])) ?_
       refine kx [(3,(jT 3))] [(1,some (bx (jF (jB.mk 0 0 0 0))))] (zE (eQ cB vK vL)<|zT (qA kL)<|zM<|zZ) ?_
       refine jI ⟨_,(kQ (cs:=(bx (jF (jB.mk 0 0 0 0)))) (d:=(jF (jB.mk 0 0 0 0))) rfl rfl kL rfl rfl (.tmp (d:=(.val (.int .i64 (((3:Nat):Int))))) rfl .nil)),?_⟩
       obtain ⟨q1,q2⟩:=prim_n (q:=(jB.mk z0 z1 z2 z3)) hd (x:=z3) (.inr (.inr (.inr rfl))) h16
       rw[q1,q2];rfl
      ·refine jE<|kX (wk (l:=[(2,(.ref 1 0)),(4,(.ref 2 0)),(8,(.ref 11 0)),(9,(jT 3)),(14,(vi (jM (z3.fdiv d)))),(33,(.d y3)),(34,(jT 3)),(59,(vb ((!(kW (z3.fdiv d))||decide ((jM (z3.fdiv d)) < -1048576))||decide (((1048576:Nat):Int)<(jM (z3.fdiv d))))))]) (b:=[(1,some (bx (jF (jB.mk 0 0 0 0)))),(11,some (bx (xX (A4.mk (jM (z0.fdiv d)) (jM (z1.fdiv d)) (jM (z2.fdiv d)) 0)))),(2,some (bx (jJ (jQ d))))])) ?_
       refine kx [] [(11,some (bx (xX (A4.mk (jM (z0.fdiv d)) (jM (z1.fdiv d)) (jM (z2.fdiv d)) (jM (z3.fdiv d))))))] (zM<|zM<|zE (oXr eZ 3)<|zT (qA qF)<|zZ) ?_
       refine kx [(34,(jT 4))] [] (zE (qS 4 (hr:=by decide))<|zM<|zZ) ?_
       refine kH (kK.refl _) ?_
       refine jA<|kx [(35,(vb false))] [] (zE (xR false uM)<|zZ) ?_
       refine jA<|qZ ?_
       refine jW<|jA<|kx [(3,(jT 0))] [(1,some (bx (jF (jB.mk (jM (z0.fdiv d)) (jM (z1.fdiv d)) (jM (z2.fdiv d)) (jM (z3.fdiv d))))))] (zE (oXr eZ 0)<|zR (kP qF)<|zE (oXr eZ 1)<|zR (kP qF)<|zE (oXr eZ 2)<|zR (kP qF)<|zE (oXr eZ 3)<|zR (kP qF)<|zE (eQ cB vK vL)<|zT (qA kL)<|zM<|zZ) ?_
       refine jI ⟨_,(kQ (cs:=(bx (jF (jB.mk (jM (z0.fdiv d)) (jM (z1.fdiv d)) (jM (z2.fdiv d)) (jM (z3.fdiv d)))))) (d:=(jF (jB.mk (jM (z0.fdiv d)) (jM (z1.fdiv d)) (jM (z2.fdiv d)) (jM (z3.fdiv d))))) rfl rfl kL rfl rfl (.tmp (d:=(.val (.int .i64 (((0:Nat):Int))))) rfl .nil)),?_⟩
       obtain ⟨q1,q2⟩:=prim_y (q:=(jB.mk z0 z1 z2 z3)) hd h7 h10 h13 h16
       rw[q1,q2];rfl
end Go.Proofs.YteimogfidbkpnabGreat
