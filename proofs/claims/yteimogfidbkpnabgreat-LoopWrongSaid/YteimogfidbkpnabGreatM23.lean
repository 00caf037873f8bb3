/- Part 23 of a proof: rules, plain facts, and functions walked. -/
import Derived.Test.YteimogfidbkpnabGreatM22
set_option linter.all false
set_option maxRecDepth 4000
namespace Go.Proofs.YteimogfidbkpnabGreat
open Go.Fid
theorem by3:zC Tryz.prog 3=some 8:=by kernel_rfl
theorem cb65:callB Tryz.prog 65=true:=by kernel_rfl
theorem cb89:callB Tryz.prog 89=true:=by kernel_rfl
theorem fL:uK Tryz.prog 100=some (42,2):=by kernel_rfl
theorem l8_small(z:Int)(hz:zJ (jQ z) z 10000001):kB Tryz.prog 89 [(jJ (jQ z))] (.tup [(.val (.int .i64 ((jM z)))),(.val (.bool ((kW z))))]):=by
 have hzl:=hz.l
 have hln:(ofNat z.natAbs).length≤10000001:=hz.ln
 refine jK Tryz.func89 rfl cb89 rfl ?_
 show qU _ _ _ _ ⟨[(0,(.d (jJ (jQ z))))],[]⟩
 refine jA<|kx [(1,(.ref 0 0))] [(0,some (bx (jJ (jQ z))))] (zN (yC 0)<|zM<|zM<|zZ) ?_
 refine jA<|kx [] [(0,some (bx (jJ (jQ z))))] (zR (kY jL)<|zE (oQd (jJ (jQ (jS (jQ z)))) (jJ (jQ z)) (kE (nJ (jQ z) (by omega))) (by exact (by rw[gY])))<|zT (qA jL)<|zZ) ?_
 refine jA<|kx [(4,(.ref 1 0)),(5,(.ref 2 0))] [(1,some (bx (jJ (jQ (-9223372036854775808))))),(2,some (bx (jJ (jQ 9223372036854775807))))] (zE (kE (r_of (-9223372036854775808) (by omega) (by omega)))<|zE (kE (r_of 9223372036854775807 (by omega) (by omega)))<|zN (uQ 1 uH uI)<|zN (uQ 2 uH uI)<|zT (qA jL)<|zT (qA jL)<|zZ) ?_
 refine jA<|jA<|kx [(21,(vb (decide ((qY z (-9223372036854775808))<0)||decide (0<(qY z 9223372036854775807)))))] [] ?_ ?_
 ·refine zR (kY jL)<|zR (kY jL)<|zE (kE (rs_compare hz (yI (z:=(-9223372036854775808)) (by omega) (by omega)) (by decide) (by decide)))<|zE uM<|zE (oV (vb (decide ((qY z (-9223372036854775808))<0))) (kZ (by kernel_rfl)))<|?_
  rcases hb1:(decide ((qY z (-9223372036854775808))<0)) with _ | _
  ·replace hb1:=uY hb1
   exact zR (kY jL)<|zR (kY jL)<|zE (kE (rs_compare hz (yI (z:=9223372036854775807) (by omega) (by omega)) (by decide) (by decide)))<|zE cK<|zE cF<|zZ
  ·replace hb1:=uW hb1
   exact zK<|zK<|zK<|zK<|zE xC<|zZ
 refine jG rfl (fun h2=>?_) (fun h2=>?_)
 ·refine jA<|kx [(2,(jT 0)),(3,(vb false))] [] (zM<|zM<|zZ) ?_
  refine jI ⟨_,(.tmp (d:=(.val (.int .i64 (0)))) rfl (.tmp (d:=(.val (.bool (false)))) rfl .nil)),?_⟩
  obtain ⟨q1,q2⟩:=fit_no h2
  rw[q1,q2];rfl
 ·have hfz:=fit_of h2
  refine jE<|jA<|kx [(6,(jT 0))] [] (zM<|zZ) ?_
  refine jA<|jA<|kx [(7,(vi ((((ofNat (Int.natAbs z)).length:Nat):Int)-1)))] [] (zE (kV uX)<|zR (kP xB)<|zE (xD kC (L:=(ofNat (Int.natAbs z))))<|zE (zSb ((((ofNat (Int.natAbs z)).length:Nat):Int)-1) (hr:=by exact (qJ (by first | omega | rfl | (dsimp only;omega)) (by simp only[xL];omega) (by simp only[xM];omega))))<|zM<|zZ) ?_
  refine jH<|kI (α:=Nat × Int) (fun (k,v)=>⟨[(1,(.ref 0 0)),(6,(vi v)),(7,(vi (((k:Nat):Int)-1)))],[(0,some (bx (jJ (jQ z))))]⟩) (fun (k,v)=>k≤(ofNat (Int.natAbs z)).length∧v=svI z k) (fun (k,v)=>k) ((ofNat (Int.natAbs z)).length,0) wk ⟨Nat.le_refl _,(sv_end z).symm⟩ ?_
  rintro ⟨k,v⟩ ⟨hk,hv⟩
  refine jA<|jA<|kx [(27,(vb (decide (0≤(((k:Nat):Int)-1)))))] [] (zM<|zE oGe<|zZ) ?_
  refine jG (b:=decide (0≤(((k:Nat):Int)-1))) rfl (fun h3=>?_) (fun h3=>?_)
  ·replace h3:=uW h3
   have hdg:=(kA z.natAbs).getD (k-1)
   have hkb:=sv_b2 hfz.1 hfz.2 (k-1)
   have hkc:=sv_bd hfz.1 hfz.2 (k-1)
   rw[show k-1+1=k by omega] at hkb
   refine jE<|jA<|jH<|jA<|kx [(31,(vb ((jQ z).neg)))] [] (zE (kV uT)<|zR (kP dJ)<|zZ) ?_
   refine jG (b:=(jQ z).neg) rfl (fun h4=>?_) (fun h4=>?_)
   ·have hst:=sv_n (k:=k-1) h4
    rw[show k-1+1=k by omega] at hst
    refine kx [(6,(vi ((v*1000000000)-((((ofNat (Int.natAbs z)).getD (k-1) 0):Nat):Int))))] [] (zM<|zE (eS (v*1000000000) (hr:=by exact (qJ rfl (by simp only[xL];omega) (by simp only[xM];omega))))<|zE (kV uX)<|zR (kP xB)<|zE (oQd (.val (.int .i64 ((((k:Nat):Int)-1)))) (.val (.int .i64 ((((k-1):Nat):Int)))) (oV (vi (((k:Nat):Int)-1)) (kZ (by kernel_rfl))) (by exact (congrArg (fun z=>kF.val (.int .i64 z)) (by omega))))<|zE (gV kC (k-1) (0:Nat) (L:=(ofNat (Int.natAbs z))))<|zE (nG qD)<|zE (yR vW in3 ((ofNat (Int.natAbs z)).getD (k-1) 0))<|zE (zSb ((v*1000000000)-((((ofNat (Int.natAbs z)).getD (k-1) 0):Nat):Int)) (hr:=by exact (qJ rfl (by simp only[xL];omega) (by simp only[xM];omega))))<|zM<|zZ) ?_
    refine kx [(7,(vi (((k-1:Nat):Int)-1)))] [] (zM<|zE (zSb (((k-1:Nat):Int)-1) (hr:=by exact (qJ (by first | omega | rfl | (dsimp only;omega)) (by simp only[xL];omega) (by simp only[xM];omega))))<|zM<|zZ) ?_
    exact ⟨(k-1,v*1000000000-(((ofNat (Int.natAbs z)).getD (k-1) 0:Nat):Int)),wk,⟨by omega,by rw[hst,hv]⟩,(by first|omega|(dsimp only;omega))⟩
   ·have hst:=sv_p (k:=k-1) h4
    rw[show k-1+1=k by omega] at hst
    refine kx [(6,(vi ((v*1000000000)+((((ofNat (Int.natAbs z)).getD (k-1) 0):Nat):Int))))] [] (zM<|zE (eS (v*1000000000) (hr:=by exact (qJ rfl (by simp only[xL];omega) (by simp only[xM];omega))))<|zE (kV uX)<|zR (kP xB)<|zE (oQd (.val (.int .i64 ((((k:Nat):Int)-1)))) (.val (.int .i64 ((((k-1):Nat):Int)))) (oV (vi (((k:Nat):Int)-1)) (kZ (by kernel_rfl))) (by exact (congrArg (fun z=>kF.val (.int .i64 z)) (by omega))))<|zE (gV kC (k-1) (0:Nat) (L:=(ofNat (Int.natAbs z))))<|zE (nG qD)<|zE (yR vW in3 ((ofNat (Int.natAbs z)).getD (k-1) 0))<|zE (zAd ((v*1000000000)+((((ofNat (Int.natAbs z)).getD (k-1) 0):Nat):Int)) (hr:=by exact (qJ rfl (by simp only[xL];omega) (by simp only[xM];omega))))<|zM<|zZ) ?_
    refine kx [(7,(vi (((k-1:Nat):Int)-1)))] [] (zM<|zE (zSb (((k-1:Nat):Int)-1) (hr:=by exact (qJ (by first | omega | rfl | (dsimp only;omega)) (by simp only[xL];omega) (by simp only[xM];omega))))<|zM<|zZ) ?_
    exact ⟨(k-1,v*1000000000+(((ofNat (Int.natAbs z)).getD (k-1) 0:Nat):Int)),wk,⟨by omega,by rw[hst,hv]⟩,(by first|omega|(dsimp only;omega))⟩
  ·replace h3:=uY h3
   obtain ⟨q1,q2⟩:=fit_yes hfz
   obtain rfl:k=0:=by omega
   rw[sv_0] at hv
   refine jW<|jA<|kx [(2,(vi v)),(3,(vb true))] [] (zM<|zM<|zM<|zZ) ?_
   refine jI ⟨_,(.tmp (d:=(.val (.int .i64 (v)))) rfl (.tmp (d:=(.val (.bool (true)))) rfl .nil)),?_⟩
   rw[q1,q2,hv];rfl
theorem l8_prim(z0 z1 z2 z3:Int)(hz0:zJ (jQ z0) z0 4)(hz1:zJ (jQ z1) z1 4)(hz2:zJ (jQ z2) z2 4)(hz3:zJ (jQ z3) z3 4)(hnz:nF (jB.mk z0 z1 z2 z3)):kB Tryz.prog 65 [(.sl 42 2 (List.map jJ [(jQ z0),(jQ z1),(jQ z2),(jQ z3)]))] (.tup [(jF (qV (jB.mk z0 z1 z2 z3))),(.val (.int .i64 ((((qC (jB.mk z0 z1 z2 z3)):Nat):Int))))]):=by
 have hln:=q4_len hz0 hz1 hz2 hz3
 have hgI:=gcd_iok hln
 have hgn:=gcd_n hnz
 let y2:=[(jQ z0),(jQ z1),(jQ z2),(jQ z3)]
 let y1:=(bx (jJ (jQ ((Int.gcd (((Int.gcd (((Int.gcd (((Int.gcd 0 z0:Nat):Int)) z1:Nat):Int)) z2:Nat):Int)) z3:Nat):Int))))
 refine jK Tryz.func65 rfl cb65 rfl ?_
 show qU _ _ _ _ ⟨[(0,(vl 42 2 jJ y2))],[]⟩
 refine jA<|kx [(2,(.ref 0 0))] [(0,some (bx (jF (jB.mk 0 0 0 0))))] (zN (uQ 0 vK vL)<|zM<|zZ) ?_
 refine jA<|kx [(4,(.ref 1 0))] [(1,some (bx (jJ (jQ 0))))] (zE (kE (r_of 0 (by decide) (by decide)))<|zN (uQ 1 uH uI)<|zT (qA jL)<|zZ) ?_
 refine jA<|jA<|kx [(5,(jT 0))] [] (zM<|zZ) ?_
 refine jH<|yM 20 ?_
 refine gH<|jA<|jA<|kx [(17,(vb true))] [] (zM<|zE (xR true uM)<|zZ) ?_
 refine qI ?_
 refine jE<|jA<|jH<|kd [] [(1,some (bx (jJ (jQ ((Int.gcd 0 z0:Nat):Int)))))] mo (wR (kY jL)<|wM<|wM<|wE (oXs fL 0)<|wE (oCa jL)<|wE (kE (rs_gcd (mG (z:=0) (by decide)) hz0 (by decide) (by decide)))<|wT (qA jL)<|wZ) ?_
 refine kx [(5,(jT 1))] [] (zM<|zE (qS 1 (hr:=by decide))<|zM<|zZ) ?_
 refine kH (kK.refl _) ?_
 refine jA<|jA<|kx [(17,(vb true))] [] (zM<|zE (xR true uM)<|zZ) ?_
 refine qI ?_
 refine jE<|jA<|jH<|kd [] [(1,some (bx (jJ (jQ ((Int.gcd (((Int.gcd 0 z0:Nat):Int)) z1:Nat):Int)))))] mo (wR (kY jL)<|wM<|wM<|wE (oXs fL 1)<|wE (oCa jL)<|wE (kE (rs_gcd (qR (k:=4) (mG (z:=0) (by decide)) hz0 (by decide)) hz1 (by decide) (by decide)))<|wT (qA jL)<|wZ) ?_
 refine kx [(5,(jT 2))] [] (zM<|zE (qS 2 (hr:=by decide))<|zM<|zZ) ?_
 refine kH (kK.refl _) ?_
 refine jA<|jA<|kx [(17,(vb true))] [] (zM<|zE (xR true uM)<|zZ) ?_
 refine qI ?_
 refine jE<|jA<|jH<|kd [] [(1,some (bx (jJ (jQ ((Int.gcd (((Int.gcd (((Int.gcd 0 z0:Nat):Int)) z1:Nat):Int)) z2:Nat):Int)))))] mo (wR (kY jL)<|wM<|wM<|wE (oXs fL 2)<|wE (oCa jL)<|wE (kE (rs_gcd (qR (k:=4) (qR (k:=4) (mG (z:=0) (by decide)) hz0 (by decide)) hz1 (by decide)) hz2 (by decide) (by decide)))<|wT (qA jL)<|wZ) ?_
 refine kx [(5,(jT 3))] [] (zM<|zE (qS 3 (hr:=by decide))<|zM<|zZ) ?_
 refine kH (kK.refl _) ?_
 refine jA<|jA<|kx [(17,(vb true))] [] (zM<|zE (xR true uM)<|zZ) ?_
 refine qI ?_
 refine jE<|jA<|jH<|kd [] [(1,some y1)] mo (wR (kY jL)<|wM<|wM<|wE (oXs fL 3)<|wE (oCa jL)<|wE (kE (rs_gcd (qR (k:=4) (qR (k:=4) (qR (k:=4) (mG (z:=0) (by decide)) hz0 (by decide)) hz1 (by decide)) hz2 (by decide)) hz3 (by decide) (by decide)))<|wT (qA jL)<|wZ) ?_
 refine kX (wk (l:=[(0,(vl 42 2 jJ y2)),(2,(.ref 0 0)),(4,(.ref 1 0)),(5,(jT 3))]) (b:=[(0,some (bx (jF (jB.mk 0 0 0 0)))),(1,some y1)])) ?_
 refine kx [(5,(jT 4))] [] (zM<|zE (qS 4 (hr:=by decide))<|zM<|zZ) ?_
 refine kH (kK.refl _) ?_
 refine jA<|jA<|kx [(17,(vb false))] [] (zM<|zE (xR false uM)<|zZ) ?_
 refine qZ ?_
 refine jW<|jA<|kx [(6,(jT 0))] [] (zM<|zZ) ?_
 refine pwp_meet (α:=Int) (fun s=>⟨[(0,(vl 42 2 jJ y2)),(2,(.ref 0 0)),(4,(.ref 1 0)),(6,(vi s))],[(0,some (bx (jF (jB.mk 0 0 0 0)))),(1,some y1)]⟩) (fun s=>s=gD (qL (jB.mk z0 z1 z2 z3))) ?_ ?_
 ·refine jA<|kx [(7,(jT 0))] [] (zM<|zZ) ?_
  refine jH<|yM 20 ?_
  refine gH<|jA<|jA<|kx [(27,(vb true))] [] (zM<|zE (xR true uM)<|zZ) ?_
  refine qI ?_
  refine jE<|jA<|jH<|jA<|kx [(31,(vb true))] [] (zM<|zE (xR true gX)<|zZ) ?_
  refine qI ?_
  refine kx [(6,(vi (kG z0)))] [] (zM<|zM<|zE (oXs fL 0)<|zE (oCa jL)<|zE (kE (rs_sign hz0 (by decide)))<|zM<|zZ) ?_
  refine kx [(7,(jT 1))] [] (zM<|zE (qS 1 (hr:=by decide))<|zM<|zZ) ?_
  refine kH (kK.refl _) ?_
  refine jA<|jA<|kx [(27,(vb true))] [] (zM<|zE (xR true uM)<|zZ) ?_
  refine qI ?_
  refine jE<|jA<|jH<|jA<|kx [(31,(vb ((kG z0) == ((0:Nat):Int))))] [] (zM<|zE gX<|zZ) ?_
  refine jG (b:=((kG z0) == ((0:Nat):Int))) rfl (fun h1=>?_) (fun h1=>?_)
  ·replace h1:=eq_of_beq h1
   refine kx [(6,(vi (kG z1)))] [] (zM<|zM<|zE (oXs fL 1)<|zE (oCa jL)<|zE (kE (rs_sign hz1 (by decide)))<|zM<|zZ) ?_
   refine kx [(7,(jT 2))] [] (zM<|zE (qS 2 (hr:=by decide))<|zM<|zZ) ?_
   refine kH (kK.refl _) ?_
   refine jA<|jA<|kx [(27,(vb true))] [] (zM<|zE (xR true uM)<|zZ) ?_
   refine qI ?_
   refine jE<|jA<|jH<|jA<|kx [(31,(vb ((kG z1) == ((0:Nat):Int))))] [] (zM<|zE gX<|zZ) ?_
   refine jG (b:=((kG z1) == ((0:Nat):Int))) rfl (fun h2=>?_) (fun h2=>?_)
   ·replace h2:=eq_of_beq h2
    refine kX (wk (l:=[(0,(vl 42 2 jJ y2)),(2,(.ref 0 0)),(4,(.ref 1 0)),(6,(vi (kG z1))),(7,(jT 2)),(31,(vb ((kG z1) == ((0:Nat):Int))))]) (b:=[(0,some (bx (jF (jB.mk 0 0 0 0)))),(1,some y1)])) ?_
    refine kx [(6,(vi (kG z2)))] [] (zM<|zM<|zE (oXs fL 2)<|zE (oCa jL)<|zE (kE (rs_sign hz2 (by decide)))<|zM<|zZ) ?_
    refine kx [(7,(jT 3))] [] (zM<|zE (qS 3 (hr:=by decide))<|zM<|zZ) ?_
    refine kH (kK.refl _) ?_
    refine jA<|jA<|kx [(27,(vb true))] [] (zM<|zE (xR true uM)<|zZ) ?_
    refine qI ?_
    refine jE<|jA<|jH<|jA<|kx [(31,(vb ((kG z2) == ((0:Nat):Int))))] [] (zM<|zE gX<|zZ) ?_
    refine jG (b:=((kG z2) == ((0:Nat):Int))) rfl (fun h3=>?_) (fun h3=>?_)
    ·replace h3:=eq_of_beq h3
     refine kx [(6,(vi (kG z3)))] [] (zM<|zM<|zE (oXs fL 3)<|zE (oCa jL)<|zE (kE (rs_sign hz3 (by decide)))<|zM<|zZ) ?_
     refine kx [(7,(jT 4))] [] (zM<|zE (qS 4 (hr:=by decide))<|zM<|zZ) ?_
     refine kH (kK.refl _) ?_
     refine jA<|jA<|kx [(27,(vb false))] [] (zM<|zE (xR false uM)<|zZ) ?_
     refine qZ ?_
     refine jW ?_
     exact met (kG z3) wk (sgs_3 h1 h2 h3)
    ·replace h3:=ne_of_beq_false h3
     refine jE<|kx [(7,(jT 4))] [] (zM<|zE (qS 4 (hr:=by decide))<|zM<|zZ) ?_
     refine kH (kK.refl _) ?_
     refine jA<|jA<|kx [(27,(vb false))] [] (zM<|zE (xR false uM)<|zZ) ?_
     refine qZ ?_
     refine jW ?_
     exact met (kG z2) wk (sgs_2 h1 h2 h3)
   ·replace h2:=ne_of_beq_false h2
    refine jE<|kX (wk (l:=[(0,(vl 42 2 jJ y2)),(2,(.ref 0 0)),(4,(.ref 1 0)),(6,(vi (kG z1))),(7,(jT 2)),(31,(vb ((kG z1) == ((0:Nat):Int))))]) (b:=[(0,some (bx (jF (jB.mk 0 0 0 0)))),(1,some y1)])) ?_
    refine kx [(7,(jT 3))] [] (zM<|zE (qS 3 (hr:=by decide))<|zM<|zZ) ?_
    refine kH (kK.refl _) ?_
    refine jA<|jA<|kx [(27,(vb true))] [] (zM<|zE (xR true uM)<|zZ) ?_
    refine qI ?_
    refine jE<|jA<|jH<|jA<|kx [(31,(vb false))] [] (zM<|zE (xR false gX (by exact beq_eq_false_iff_ne.2 h2))<|zZ) ?_
    refine qZ ?_
    refine jE<|kx [(7,(jT 4))] [] (zM<|zE (qS 4 (hr:=by decide))<|zM<|zZ) ?_
    refine kH (kK.refl _) ?_
    refine jA<|jA<|kx [(27,(vb false))] [] (zM<|zE (xR false uM)<|zZ) ?_
    refine qZ ?_
    refine jW ?_
    exact met (kG z1) wk (sgs_1 h1 h2)
  ·replace h1:=ne_of_beq_false h1
   refine jE<|kx [(7,(jT 2))] [] (zM<|zE (qS 2 (hr:=by decide))<|zM<|zZ) ?_
   refine kH (kK.refl _) ?_
   refine jA<|jA<|kx [(27,(vb true))] [] (zM<|zE (xR true uM)<|zZ) ?_
   refine qI ?_
   refine jE<|jA<|jH<|jA<|kx [(31,(vb false))] [] (zM<|zE (xR false gX (by exact beq_eq_false_iff_ne.2 h1))<|zZ) ?_
   refine qZ ?_
   refine jE<|kx [(7,(jT 3))] [] (zM<|zE (qS 3 (hr:=by decide))<|zM<|zZ) ?_
   refine kH (kK.refl _) ?_
   refine jA<|jA<|kX (wk (l:=[(0,(vl 42 2 jJ y2)),(2,(.ref 0 0)),(4,(.ref 1 0)),(6,(vi (kG z0))),(7,(jT 3))]) (b:=[(0,some (bx (jF (jB.mk 0 0 0 0)))),(1,some y1)])) ?_
   refine kx [(27,(vb true))] [] (zM<|zE (xR true uM)<|zZ) ?_
   refine qI ?_
   refine jE<|jA<|jH<|jA<|kx [(31,(vb false))] [] (zM<|zE (xR false gX (by exact beq_eq_false_iff_ne.2 h1))<|zZ) ?_
   refine qZ ?_
   refine jE<|kx [(7,(jT 4))] [] (zM<|zE (qS 4 (hr:=by decide))<|zM<|zZ) ?_
   refine kH (kK.refl _) ?_
   refine jA<|jA<|kx [(27,(vb false))] [] (zM<|zE (xR false uM)<|zZ) ?_
   refine qZ ?_
   refine jW ?_
   exact met (kG z0) wk (sgs_0 h1)
 ·rintro s hs
  refine pwp_meet (α:=Int) (fun d=>⟨[(0,(vl 42 2 jJ y2)),(2,(.ref 0 0)),(4,(.ref 1 0))],[(0,some (bx (jF (jB.mk 0 0 0 0)))),(1,some (bx (jJ (jQ d))))]⟩) (fun d=>dvL (qL (jB.mk z0 z1 z2 z3))=d) ?_ ?_
  ·refine jA<|kx [(38,(vb (decide (s<((0:Nat):Int)))))] [] (zM<|zE uM<|zZ) ?_
   refine jG (b:=decide (s<((0:Nat):Int))) rfl (fun h4=>?_) (fun h4=>?_)
   ·replace h4:=uW h4
    refine kx [] [(1,some (bx (jJ (jQ (-(((Int.gcd (((Int.gcd (((Int.gcd (((Int.gcd 0 z0:Nat):Int)) z1:Nat):Int)) z2:Nat):Int)) z3:Nat):Int)))))))] (zR (kY jL)<|zE (kE (rs_neg (qR (k:=4) (qR (k:=4) (qR (k:=4) (qR (k:=4) (mG (z:=0) (by decide)) hz0 (by decide)) hz1 (by decide)) hz2 (by decide)) hz3 (by decide)) (by decide)))<|zT (qA jL)<|zZ) ?_
    exact met (-((Int.gcd ((Int.gcd ((Int.gcd ((Int.gcd 0 z0:Nat):Int) z1:Nat):Int) z2:Nat):Int) z3:Nat):Int)) wk (dv_ns hs h4)
   ·replace h4:=uY h4
    refine jE ?_
    exact met ((Int.gcd ((Int.gcd ((Int.gcd ((Int.gcd 0 z0:Nat):Int) z1:Nat):Int) z2:Nat):Int) z3:Nat):Int) wk (dv_ps hs h4)
  ·rintro d hd
   have hdI:zJ (jQ d) d 4:=by rw[← hd];exact gP (dvL_len hln)
   have hdn:d≠0:=by rw[← hd];exact dvL_ne hnz
   refine jA<|kx [(8,(.own 2 3 1 0))] [(2,some (bm jO []))] (zN (oBo 2 vF ze3 zo3)<|zM<|zZ) ?_
   refine jA<|jA<|kx [(9,(jT 0))] [] (zM<|zZ) ?_
   refine jH<|yM 20 ?_
   refine gH<|jA<|jA<|kx [(43,(vb true))] [] (zM<|zE (xR true uM)<|zZ) ?_
   refine qI ?_
   refine jE<|jA<|jH<|jA<|kd [(10,(.ref 3 0))] [(3,some (bx (jJ (jQ (z0.fdiv d))))),(4,none)] mo (wM<|wM<|wE (oXs fL 0)<|wE (oCa jL)<|wR (kY jL)<|wE (kE (nD hz0 hdI (by decide) (by decide) hdn))<|wM<|wE qQ<|wE qQ<|wE qQ<|wH (hc:=by kernel_rfl) (uQ 3 uH uI)<|wH (hc:=by kernel_rfl) (uQ 4 uH uI)<|wT (qA jL)<|wT (qA jL)<|wM<|wZ) ?_
   refine jA<|kx [(13,(vi (jM (z0.fdiv d)))),(14,(vb (kW (z0.fdiv d))))] [] (zR (kY jL)<|zE (kE (l8_small (z0.fdiv d) (xG (mU (k:=5) hz0 hdI (by decide)) (by decide))))<|zM<|zE qQ<|zE qQ<|zM<|zM<|zZ) ?_
   refine jA<|jA<|kx [(70,(vb ((!(kW (z0.fdiv d))||decide (((1048576:Nat):Int)<(jM (z0.fdiv d))))||decide ((jM (z0.fdiv d)) < -1048576))))] [] ?_ ?_
   ·refine zM<|zE oNt<|zE (oV (vb (!(kW (z0.fdiv d)))) (kZ (by kernel_rfl)))<|?_
    rcases hb5:(!(kW (z0.fdiv d))) with _ | _
    ·refine zM<|zE cK<|zE cF<|zE (oV (vb (false||decide (((1048576:Nat):Int)<(jM (z0.fdiv d))))) (kZ (by kernel_rfl)))<|?_
     rcases hb6:(false||decide (((1048576:Nat):Int)<(jM (z0.fdiv d)))) with _ | _
     ·replace hb6:=uY (p:=(((1048576:Nat):Int)<(jM (z0.fdiv d)))) hb6
      exact zM<|zE uM<|zE cF<|zZ
     ·replace hb6:=uW (p:=(((1048576:Nat):Int)<(jM (z0.fdiv d)))) hb6
      exact zK<|zK<|zE xC<|zZ
    ·exact zK<|zK<|zE xC<|zM<|zK<|zK<|zE xC<|zZ
   refine jG rfl (fun h7=>?_) (fun h7=>?_)
   ·refine jA<|kx [(3,(jT 3))] [(0,some (bx (jF (jB.mk 0 0 0 0))))] (zE (eQ cB vK vL)<|zT (qA kL)<|zM<|zZ) ?_
    refine jI ⟨_,(kQ (cs:=(bx (jF (jB.mk 0 0 0 0)))) (d:=(jF (jB.mk 0 0 0 0))) rfl rfl kL rfl rfl (.tmp (d:=(.val (.int .i64 (((3:Nat):Int))))) rfl .nil)),?_⟩
    obtain ⟨q1,q2⟩:=prim_n (q:=(jB.mk z0 z1 z2 z3)) hd (x:=z0) (.inl rfl) ((smB_eq _).symm.trans h7)
    rw[q1,q2];rfl
   ·refine jE<|kf [(8,(.own 2 3 1 ([(jM (z0.fdiv d))].length)))] [(2,some (bm jO [(jM (z0.fdiv d))]))] (zM<|zM<|zE (oBs vF ze3 zo3)<|zA jO [] [(jM (z0.fdiv d))] rfl vF ze3 by3 (hbig:=by exact (by simp +zetaDelta [maxLen]<;>omega)) (hbig':=by exact (by simp +zetaDelta<;>omega))<|zM<|zF) ?_
    refine kx [(9,(jT 1))] [] (zM<|zE (qS 1 (hr:=by decide))<|zM<|zZ) ?_
    refine kH (kK.refl _) ?_
    refine jA<|jA<|kx [(43,(vb true))] [] (zM<|zE (xR true uM)<|zZ) ?_
    refine qI ?_
    refine jE<|jA<|jH<|jA<|kd [(10,(.ref 5 0))] [(5,some (bx (jJ (jQ (z1.fdiv d))))),(6,none)] mo (wM<|wM<|wE (oXs fL 1)<|wE (oCa jL)<|wR (kY jL)<|wE (kE (nD hz1 hdI (by decide) (by decide) hdn))<|wM<|wE qQ<|wE qQ<|wE qQ<|wH (hc:=by kernel_rfl) (uQ 5 uH uI)<|wH (hc:=by kernel_rfl) (uQ 6 uH uI)<|wT (qA jL)<|wT (qA jL)<|wM<|wZ) ?_
    refine jA<|kx [(13,(vi (jM (z1.fdiv d)))),(14,(vb (kW (z1.fdiv d))))] [] (zR (kY jL)<|zE (kE (l8_small (z1.fdiv d) (xG (mU (k:=5) hz1 hdI (by decide)) (by decide))))<|zM<|zE qQ<|zE qQ<|zM<|zM<|zZ) ?_
    refine jA<|jA<|kx [(70,(vb ((!(kW (z1.fdiv d))||decide (((1048576:Nat):Int)<(jM (z1.fdiv d))))||decide ((jM (z1.fdiv d)) < -1048576))))] [] ?_ ?_
    ·refine zM<|zE oNt<|zE (oV (vb (!(kW (z1.fdiv d)))) (kZ (by kernel_rfl)))<|?_
     rcases hb8:(!(kW (z1.fdiv d))) with _ | _
     ·refine zM<|zE cK<|zE cF<|zE (oV (vb (false||decide (((1048576:Nat):Int)<(jM (z1.fdiv d))))) (kZ (by kernel_rfl)))<|?_
      rcases hb9:(false||decide (((1048576:Nat):Int)<(jM (z1.fdiv d)))) with _ | _
      ·replace hb9:=uY (p:=(((1048576:Nat):Int)<(jM (z1.fdiv d)))) hb9
       exact zM<|zE uM<|zE cF<|zZ
      ·replace hb9:=uW (p:=(((1048576:Nat):Int)<(jM (z1.fdiv d)))) hb9
       exact zK<|zK<|zE xC<|zZ
     ·exact zK<|zK<|zE xC<|zM<|zK<|zK<|zE xC<|zZ
    refine jG rfl (fun h10=>?_) (fun h10=>?_)
    ·refine jA<|kx [(3,(jT 3))] [(0,some (bx (jF (jB.mk 0 0 0 0))))] (zE (eQ cB vK vL)<|zT (qA kL)<|zM<|zZ) ?_
     refine jI ⟨_,(kQ (cs:=(bx (jF (jB.mk 0 0 0 0)))) (d:=(jF (jB.mk 0 0 0 0))) rfl rfl kL rfl rfl (.tmp (d:=(.val (.int .i64 (((3:Nat):Int))))) rfl .nil)),?_⟩
     obtain ⟨q1,q2⟩:=prim_n (q:=(jB.mk z0 z1 z2 z3)) hd (x:=z1) (.inr (.inl rfl)) ((smB_eq _).symm.trans h10)
     rw[q1,q2];rfl
    ·refine jE<|kf [(8,(.own 2 3 1 ([(jM (z0.fdiv d)),(jM (z1.fdiv d))].length)))] [(2,some (bm jO [(jM (z0.fdiv d)),(jM (z1.fdiv d))]))] (zM<|zM<|zE (oBs vF ze3 zo3)<|zA jO [(jM (z0.fdiv d))] [(jM (z1.fdiv d))] rfl vF ze3 by3 (hbig:=by exact (by simp +zetaDelta [maxLen]<;>omega)) (hbig':=by exact (by simp +zetaDelta<;>omega))<|zM<|zF) ?_
     refine kx [(9,(jT 2))] [] (zM<|zE (qS 2 (hr:=by decide))<|zM<|zZ) ?_
     refine kH (kK.refl _) ?_
     refine jA<|jA<|kX (wk (l:=[(0,(vl 42 2 jJ y2)),(2,(.ref 0 0)),(4,(.ref 1 0)),(8,(.own 2 3 1 ([(jM (z0.fdiv d)),(jM (z1.fdiv d))].length))),(9,(jT 2))]) (b:=[(0,some (bx (jF (jB.mk 0 0 0 0)))),(1,some (bx (jJ (jQ d)))),(2,some (bm jO [(jM (z0.fdiv d)),(jM (z1.fdiv d))]))])) ?_
     refine kx [(43,(vb true))] [] (zM<|zE (xR true uM)<|zZ) ?_
     refine qI ?_
     refine jE<|jA<|jH<|jA<|kd [(10,(.ref 7 0))] [(7,some (bx (jJ (jQ (z2.fdiv d))))),(8,none)] mo (wM<|wM<|wE (oXs fL 2)<|wE (oCa jL)<|wR (kY jL)<|wE (kE (nD hz2 hdI (by decide) (by decide) hdn))<|wM<|wE qQ<|wE qQ<|wE qQ<|wH (hc:=by kernel_rfl) (uQ 7 uH uI)<|wH (hc:=by kernel_rfl) (uQ 8 uH uI)<|wT (qA jL)<|wT (qA jL)<|wM<|wZ) ?_
     refine jA<|kx [(13,(vi (jM (z2.fdiv d)))),(14,(vb (kW (z2.fdiv d))))] [] (zR (kY jL)<|zE (kE (l8_small (z2.fdiv d) (xG (mU (k:=5) hz2 hdI (by decide)) (by decide))))<|zM<|zE qQ<|zE qQ<|zM<|zM<|zZ) ?_
     refine jA<|jA<|kx [(70,(vb ((!(kW (z2.fdiv d))||decide (((1048576:Nat):Int)<(jM (z2.fdiv d))))||decide ((jM (z2.fdiv d)) < -1048576))))] [] ?_ ?_
     ·refine zM<|zE oNt<|zE (oV (vb (!(kW (z2.fdiv d)))) (kZ (by kernel_rfl)))<|?_
      rcases hb11:(!(kW (z2.fdiv d))) with _ | _
      ·refine zM<|zE cK<|zE cF<|zE (oV (vb (false||decide (((1048576:Nat):Int)<(jM (z2.fdiv d))))) (kZ (by kernel_rfl)))<|?_
       rcases hb12:(false||decide (((1048576:Nat):Int)<(jM (z2.fdiv d)))) with _ | _
       ·replace hb12:=uY (p:=(((1048576:Nat):Int)<(jM (z2.fdiv d)))) hb12
        exact zM<|zE uM<|zE cF<|zZ
       ·replace hb12:=uW (p:=(((1048576:Nat):Int)<(jM (z2.fdiv d)))) hb12
        exact zK<|zK<|zE xC<|zZ
      ·exact zK<|zK<|zE xC<|zM<|zK<|zK<|zE xC<|zZ
     refine jG rfl (fun h13=>?_) (fun h13=>?_)
     ·refine jA<|kx [(3,(jT 3))] [(0,some (bx (jF (jB.mk 0 0 0 0))))] (zE (eQ cB vK vL)<|zT (qA kL)<|zM<|zZ) ?_
      refine jI ⟨_,(kQ (cs:=(bx (jF (jB.mk 0 0 0 0)))) (d:=(jF (jB.mk 0 0 0 0))) rfl rfl kL rfl rfl (.tmp (d:=(.val (.int .i64 (((3:Nat):Int))))) rfl .nil)),?_⟩
      obtain ⟨q1,q2⟩:=prim_n (q:=(jB.mk z0 z1 z2 z3)) hd (x:=z2) (.inr (.inr (.inl rfl))) ((smB_eq _).symm.trans h13)
      rw[q1,q2];rfl
     ·refine jE<|kf [(8,(.own 2 3 1 ([(jM (z0.fdiv d)),(jM (z1.fdiv d)),(jM (z2.fdiv d))].length)))] [(2,some (bm jO [(jM (z0.fdiv d)),(jM (z1.fdiv d)),(jM (z2.fdiv d))]))] (zM<|zM<|zE (oBs vF ze3 zo3)<|zA jO [(jM (z0.fdiv d)),(jM (z1.fdiv d))] [(jM (z2.fdiv d))] rfl vF ze3 by3 (hbig:=by exact (by simp +zetaDelta [maxLen]<;>omega)) (hbig':=by exact (by simp +zetaDelta<;>omega))<|zM<|zF) ?_
      refine kx [(9,(jT 3))] [] (zM<|zE (qS 3 (hr:=by decide))<|zM<|zZ) ?_
      refine kH (kK.refl _) ?_
      refine jA<|jA<|kx [(43,(vb true))] [] (zM<|zE (xR true uM)<|zZ) ?_
      refine qI ?_
      refine jE<|jA<|jH<|jA<|kd [(10,(.ref 9 0))] [(9,some (bx (jJ (jQ (z3.fdiv d))))),(10,none)] mo (wM<|wM<|wE (oXs fL 3)<|wE (oCa jL)<|wR (kY jL)<|wE (kE (nD hz3 hdI (by decide) (by decide) hdn))<|wM<|wE qQ<|wE qQ<|wE qQ<|wH (hc:=by kernel_rfl) (uQ 9 uH uI)<|wH (hc:=by kernel_rfl) (uQ 10 uH uI)<|wT (qA jL)<|wT (qA jL)<|wM<|wZ) ?_
      refine jA<|kx [(13,(vi (jM (z3.fdiv d)))),(14,(vb (kW (z3.fdiv d))))] [] (zR (kY jL)<|zE (kE (l8_small (z3.fdiv d) (xG (mU (k:=5) hz3 hdI (by decide)) (by decide))))<|zM<|zE qQ<|zE qQ<|zM<|zM<|zZ) ?_
      refine jA<|jA<|kx [(70,(vb ((!(kW (z3.fdiv d))||decide (((1048576:Nat):Int)<(jM (z3.fdiv d))))||decide ((jM (z3.fdiv d)) < -1048576))))] [] ?_ ?_
      ·refine zM<|zE oNt<|zE (oV (vb (!(kW (z3.fdiv d)))) (kZ (by kernel_rfl)))<|?_
       rcases hb14:(!(kW (z3.fdiv d))) with _ | _
       ·refine zM<|zE cK<|zE cF<|zE (oV (vb (false||decide (((1048576:Nat):Int)<(jM (z3.fdiv d))))) (kZ (by kernel_rfl)))<|?_
        rcases hb15:(false||decide (((1048576:Nat):Int)<(jM (z3.fdiv d)))) with _ | _
        ·replace hb15:=uY (p:=(((1048576:Nat):Int)<(jM (z3.fdiv d)))) hb15
         exact zM<|zE uM<|zE cF<|zZ
        ·replace hb15:=uW (p:=(((1048576:Nat):Int)<(jM (z3.fdiv d)))) hb15
         exact zK<|zK<|zE xC<|zZ
       ·exact zK<|zK<|zE xC<|zM<|zK<|zK<|zE xC<|zZ
      refine jG rfl (fun h16=>?_) (fun h16=>?_)
      ·refine jA<|kx [(3,(jT 3))] [(0,some (bx (jF (jB.mk 0 0 0 0))))] (zE (eQ cB vK vL)<|zT (qA kL)<|zM<|zZ) ?_
       refine jI ⟨_,(kQ (cs:=(bx (jF (jB.mk 0 0 0 0)))) (d:=(jF (jB.mk 0 0 0 0))) rfl rfl kL rfl rfl (.tmp (d:=(.val (.int .i64 (((3:Nat):Int))))) rfl .nil)),?_⟩
       obtain ⟨q1,q2⟩:=prim_n (q:=(jB.mk z0 z1 z2 z3)) hd (x:=z3) (.inr (.inr (.inr rfl))) ((smB_eq _).symm.trans h16)
       rw[q1,q2];rfl
      ·refine jE<|kf [(8,(.own 2 3 1 ([(jM (z0.fdiv d)),(jM (z1.fdiv d)),(jM (z2.fdiv d)),(jM (z3.fdiv d))].length)))] [(2,some (bm jO [(jM (z0.fdiv d)),(jM (z1.fdiv d)),(jM (z2.fdiv d)),(jM (z3.fdiv d))]))] (zM<|zM<|zE (oBs vF ze3 zo3)<|zA jO [(jM (z0.fdiv d)),(jM (z1.fdiv d)),(jM (z2.fdiv d))] [(jM (z3.fdiv d))] rfl vF ze3 by3 (hbig:=by exact (by simp +zetaDelta [maxLen]<;>omega)) (hbig':=by exact (by simp +zetaDelta<;>omega))<|zM<|zF) ?_
       refine kx [(9,(jT 4))] [] (zM<|zE (qS 4 (hr:=by decide))<|zM<|zZ) ?_
       refine kH (kK.refl _) ?_
       refine jA<|jA<|kx [(43,(vb false))] [] (zM<|zE (xR false uM)<|zZ) ?_
       refine qZ ?_
       refine jW<|jA<|kX (vV (t:=8) (k:=2) (es:=List.map jO [(jM (z0.fdiv d)),(jM (z1.fdiv d)),(jM (z2.fdiv d)),(jM (z3.fdiv d))]) rfl rfl (uU _ _ (fun _=>rfl)) (vG _ _ rfl) (vS _ _ (fun _=>rfl) rfl)) ?_
       refine kd [(3,(jT 0))] [(0,some (bx (jF (jB.mk (jM (z0.fdiv d)) (jM (z1.fdiv d)) (jM (z2.fdiv d)) (jM (z3.fdiv d))))))] mo (wM<|wE (oXs vF 0)<|wE (nG qF)<|wM<|wE (oXs vF 1)<|wE (nG qF)<|wM<|wE (oXs vF 2)<|wE (nG qF)<|wM<|wE (oXs vF 3)<|wE (nG qF)<|wE (eQ cB vK vL)<|wT (qA kL)<|wM<|wZ) ?_
       refine jI ⟨_,(kQ (cs:=(bx (jF (jB.mk (jM (z0.fdiv d)) (jM (z1.fdiv d)) (jM (z2.fdiv d)) (jM (z3.fdiv d)))))) (d:=(jF (jB.mk (jM (z0.fdiv d)) (jM (z1.fdiv d)) (jM (z2.fdiv d)) (jM (z3.fdiv d))))) rfl rfl kL rfl rfl (.tmp (d:=(.val (.int .i64 (((0:Nat):Int))))) rfl .nil)),?_⟩
       obtain ⟨q1,q2⟩:=prim_y (q:=(jB.mk z0 z1 z2 z3)) hd ((smB_eq _).symm.trans h7) ((smB_eq _).symm.trans h10) ((smB_eq _).symm.trans h13) ((smB_eq _).symm.trans h16)
       rw[q1,q2];rfl
theorem cb7:callB Tryz.prog 7=true:=by kernel_rfl
theorem cb22:callB Tryz.prog 22=true:=by kernel_rfl
theorem cb39:callB Tryz.prog 39=true:=by kernel_rfl
theorem cb41:callB Tryz.prog 41=true:=by kernel_rfl
theorem cb55:callB Tryz.prog 55=true:=by kernel_rfl
theorem cb60:callB Tryz.prog 60=true:=by kernel_rfl
theorem cb64:callB Tryz.prog 64=true:=by kernel_rfl
theorem cb79:callB Tryz.prog 79=true:=by kernel_rfl
theorem cI:uK Tryz.prog 22=some (24,4):=by kernel_rfl
theorem ze132:uZ Tryz.prog 132=some [.bool false,.slice none 0 0,.bool false,.slice none 0 0,.bool false,.slice none 0 0,.bool false,.slice none 0 0]:=by kernel_rfl
theorem zo132:mW [.bool false,.slice none 0 0,.bool false,.slice none 0 0,.bool false,.slice none 0 0,.bool false,.slice none 0 0] [.val (.bool false),.sl 103 1 [],.val (.bool false),.sl 103 1 [],.val (.bool false),.sl 103 1 [],.val (.bool false),.sl 103 1 []]:=by simp [mW,Value.oneCell']
theorem l_red(a:Int)(hal:-9223372036854775808≤a)(hah:a≤9223372036854775807)(b:Int)(hbl:-9223372036854775808≤b)(hbh:b≤9223372036854775807)(c:Int)(hcl:-9223372036854775808≤c)(hch:c≤9223372036854775807)(d:Int)(hdl:-9223372036854775808≤d)(hdh:d≤9223372036854775807)(hnz:nF (jB.mk a b c d)):kB Tryz.prog 79 [(.val (.int .i64 (a))),(.val (.int .i64 (b))),(.val (.int .i64 (c))),(.val (.int .i64 (d)))] (.tup [(jF (qV (jB.mk a b c d))),(.val (.int .i64 ((((qC (jB.mk a b c d)):Nat):Int))))]):=by
 refine jK Tryz.func79 rfl cb79 rfl ?_
 show qU _ _ _ _ ⟨[(0,(vi a)),(1,(vi b)),(2,(vi c)),(3,(vi d))],[]⟩
 refine jA<|kx [(8,(.ref 0 0))] [(0,some (bx (jF (jB.mk 0 0 0 0))))] (zN (uQ 0 vK vL)<|zM<|zZ) ?_
 refine jA<|kx [(9,(jT (qC (jB.mk a b c d))))] [(0,some (bx (jF (qV (jB.mk a b c d)))))] (zM<|zE (kE (t_of a (by omega) (by omega)))<|zM<|zE (kE (t_of b (by omega) (by omega)))<|zM<|zE (kE (t_of c (by omega) (by omega)))<|zM<|zE (kE (t_of d (by omega) (by omega)))<|zE (oBf ar132 ze132 zo132)<|zE (kE (l_prim a b c d (xG (yI (z:=a) (by omega) (by omega)) (by decide)) (xG (yI (z:=b) (by omega) (by omega)) (by decide)) (xG (yI (z:=c) (by omega) (by omega)) (by decide)) (xG (yI (z:=d) (by omega) (by omega)) (by decide)) hnz))<|zE qQ<|zE qQ<|zT (qA kL)<|zM<|zZ) ?_
 refine jI ⟨_,(kQ (cs:=(bx (jF (qV (jB.mk a b c d))))) (d:=(jF (qV (jB.mk a b c d)))) rfl rfl kL rfl rfl (.tmp (d:=(.val (.int .i64 ((((qC (jB.mk a b c d)):Nat):Int))))) rfl .nil)),?_⟩
 rfl
theorem l8_red(a:Int)(hal:-9223372036854775808≤a)(hah:a≤9223372036854775807)(b:Int)(hbl:-9223372036854775808≤b)(hbh:b≤9223372036854775807)(c:Int)(hcl:-9223372036854775808≤c)(hch:c≤9223372036854775807)(d:Int)(hdl:-9223372036854775808≤d)(hdh:d≤9223372036854775807)(hnz:nF (jB.mk a b c d)):kB Tryz.prog 41 [(.val (.int .i64 (a))),(.val (.int .i64 (b))),(.val (.int .i64 (c))),(.val (.int .i64 (d)))] (.tup [(jF (qV (jB.mk a b c d))),(.val (.int .i64 ((((qC (jB.mk a b c d)):Nat):Int))))]):=by
 refine jK Tryz.func41 rfl cb41 rfl ?_
 show qU _ _ _ _ ⟨[(0,(vi a)),(1,(vi b)),(2,(vi c)),(3,(vi d))],[]⟩
 refine jA<|kx [(8,(.ref 0 0))] [(0,some (bx (jF (jB.mk 0 0 0 0))))] (zN (uQ 0 vK vL)<|zM<|zZ) ?_
 refine jA<|kx [(9,(jT (qC (jB.mk a b c d))))] [(0,some (bx (jF (qV (jB.mk a b c d)))))] (zM<|zE (kE (r_of a (by omega) (by omega)))<|zM<|zE (kE (r_of b (by omega) (by omega)))<|zM<|zE (kE (r_of c (by omega) (by omega)))<|zM<|zE (kE (r_of d (by omega) (by omega)))<|zE (oBs fL uH uI)<|zE (kE (l8_prim a b c d (xG (yI (z:=a) (by omega) (by omega)) (by decide)) (xG (yI (z:=b) (by omega) (by omega)) (by decide)) (xG (yI (z:=c) (by omega) (by omega)) (by decide)) (xG (yI (z:=d) (by omega) (by omega)) (by decide)) hnz))<|zE qQ<|zE qQ<|zT (qA kL)<|zM<|zZ) ?_
 refine jI ⟨_,(kQ (cs:=(bx (jF (qV (jB.mk a b c d))))) (d:=(jF (qV (jB.mk a b c d)))) rfl rfl kL rfl rfl (.tmp (d:=(.val (.int .i64 ((((qC (jB.mk a b c d)):Nat):Int))))) rfl .nil)),?_⟩
 rfl
theorem l8_canon(q:jB)(hq:dU q):kB Tryz.prog 22 [(jF q)] (.tup [(jF (qV q)),(.val (.int .i64 ((((qC q):Nat):Int))))]):=by
 obtain ⟨qa_,qb_,qc_,qd_⟩:=hq.2.bd
 refine jK Tryz.func22 rfl cb22 rfl ?_
 show qU _ _ _ _ ⟨[(0,(.d (jF q)))],[]⟩
 refine jA<|kx [(1,(.ref 0 0)),(2,(.ref 1 0))] [(0,some (bx (jF q))),(1,some (bx (jF (jB.mk 0 0 0 0))))] (zN (yC 0)<|zN (uQ 1 vK vL)<|zM<|zZ) ?_
 refine jA<|kx [(4,(jT (gU q.a q.b q.c q.d)))] [] (zR (kY kL)<|zE (kE (qs_chk q.a q.b q.c q.d))<|zM<|zZ) ?_
 refine jA<|jA<|kx [(8,(vb false))] [] (zM<|zE (xR false fO (by exact bne_eq_false_iff_eq.2 (by rw[show (gU q.a q.b q.c q.d)=0 from (nO.1 hq)]<;>rfl)))<|zZ) ?_
 refine qZ ?_
 refine jE<|jA<|kx [(3,(jT (qC (jB.mk q.a q.b q.c q.d))))] [(1,some (bx (jF (qV (jB.mk q.a q.b q.c q.d)))))] (zE (kV vO)<|zR (kP qF)<|zE (kV vP)<|zR (kP qF)<|zE (kV vM)<|zR (kP qF)<|zE (kV vN)<|zR (kP qF)<|zE (kE (l8_red q.a (by omega) (by omega) q.b (by omega) (by omega) q.c (by omega) (by omega) q.d (by omega) (by omega) hq.1))<|zE qQ<|zE qQ<|zT (qA kL)<|zM<|zZ) ?_
 refine jI ⟨_,(kQ (cs:=(bx (jF (qV (jB.mk q.a q.b q.c q.d))))) (d:=(jF (qV (jB.mk q.a q.b q.c q.d)))) rfl rfl kL rfl rfl (.tmp (d:=(.val (.int .i64 ((((qC (jB.mk q.a q.b q.c q.d)):Nat):Int))))) rfl .nil)),?_⟩
 rfl
theorem l8_same(p:jB)(q:jB)(hp:dU p)(hq:dU q):kB Tryz.prog 7 [(jF p),(jF q)] (.val (.bool ((sameQ p q)))):=by
 refine jK Tryz.func7 rfl cb7 rfl ?_
 show qU _ _ _ _ ⟨[(0,(.d (jF p))),(1,(.d (jF q)))],[]⟩
 refine jA<|kx [(2,(.ref 0 0)),(3,(.ref 1 0))] [(0,some (bx (jF p))),(1,some (bx (jF q)))] (zN (yC 0)<|zN (yC 1)<|zM<|zZ) ?_
 refine jA<|kx [(5,(.ref 2 0)),(6,(jT (qC p)))] [(2,some (bx (jF (qV p))))] (zR (kY kL)<|zE (kE (l8_canon p hp))<|zM<|zE qQ<|zE qQ<|zN (uQ 2 vK vL)<|zT (qA kL)<|zM<|zZ) ?_
 refine jA<|kx [(7,(.ref 3 0)),(8,(jT (qC q)))] [(3,some (bx (jF (qV q))))] (zR (kY kL)<|zE (kE (l8_canon q hq))<|zM<|zE qQ<|zE qQ<|zN (uQ 3 vK vL)<|zT (qA kL)<|zM<|zZ) ?_
 refine jA<|kx [(4,(vb (true&&(decide ([(qV p).a,(qV p).b,(qV p).c,(qV p).d]=[(qV q).a,(qV q).b,(qV q).c,(qV q).d])))))] [] (zM<|zE (xR true gX (by exact beq_iff_eq.2 (by rw[show (qC p)=0 from (qC_ok hp)]<;>rfl)))<|zM<|zM<|zE (xR true gX (by exact beq_iff_eq.2 (by rw[show (qC q)=0 from (qC_ok hq)]<;>rfl)))<|zE xC<|zM<|zR (kY kL)<|zR (kY kL)<|zE (oEs eqs24 .i64 [(qV p).a,(qV p).b,(qV p).c,(qV p).d] [(qV q).a,(qV q).b,(qV q).c,(qV q).d])<|zE oPa<|zM<|zZ) ?_
 refine jI ⟨_,(.tmp (d:=(.val (.bool ((true&&(decide ([(qV p).a,(qV p).b,(qV p).c,(qV p).d]=[(qV q).a,(qV q).b,(qV q).c,(qV q).d]))))))) rfl .nil),?_⟩
 rfl
theorem l_conj(q:jB)(hq:dU q):kB Tryz.prog 60 [(jF q)] (.tup [(jF (qV (uL q))),(.val (.int .i64 ((((qC (uL q)):Nat):Int))))]):=by
 obtain ⟨qa_,qb_,qc_,qd_⟩:=hq.2.bd
 refine jK Tryz.func60 rfl cb60 rfl ?_
 show qU _ _ _ _ ⟨[(0,(.d (jF q)))],[]⟩
 refine jA<|kx [(1,(.ref 0 0)),(2,(.ref 1 0))] [(0,some (bx (jF q))),(1,some (bx (jF (jB.mk 0 0 0 0))))] (zN (yC 0)<|zN (uQ 1 vK vL)<|zM<|zZ) ?_
 refine jA<|jA<|kx [(4,(jT (gU q.a q.b q.c q.d)))] [] (zR (kY kL)<|zE (kE (q_chk q.a q.b q.c q.d))<|zM<|zZ) ?_
 refine jA<|kx [(8,(vb false))] [] (zM<|zE (xR false fO (by exact bne_eq_false_iff_eq.2 (by rw[show (gU q.a q.b q.c q.d)=0 from (nO.1 hq)]<;>rfl)))<|zZ) ?_
 refine qZ ?_
 refine jE<|jA<|kx [(3,(jT (qC (jB.mk q.a (-q.b) (-q.c) (-q.d)))))] [(1,some (bx (jF (qV (jB.mk q.a (-q.b) (-q.c) (-q.d))))))] (zE (kV vO)<|zR (kP qF)<|zE (kV vP)<|zR (kP qF)<|zE (oNg (-q.b) (hr:=by exact (qJ (by first | omega | rfl | (dsimp only;omega)) (by simp only[xL];omega) (by simp only[xM];omega))))<|zE (kV vM)<|zR (kP qF)<|zE (oNg (-q.c) (hr:=by exact (qJ (by first | omega | rfl | (dsimp only;omega)) (by simp only[xL];omega) (by simp only[xM];omega))))<|zE (kV vN)<|zR (kP qF)<|zE (oNg (-q.d) (hr:=by exact (qJ (by first | omega | rfl | (dsimp only;omega)) (by simp only[xL];omega) (by simp only[xM];omega))))<|zE (kE (l_red q.a (by omega) (by omega) (-q.b) (by omega) (by omega) (-q.c) (by omega) (by omega) (-q.d) (by omega) (by omega) (zD hq.1)))<|zE qQ<|zE qQ<|zT (qA kL)<|zM<|zZ) ?_
 refine jI ⟨_,(kQ (cs:=(bx (jF (qV (jB.mk q.a (-q.b) (-q.c) (-q.d)))))) (d:=(jF (qV (jB.mk q.a (-q.b) (-q.c) (-q.d))))) rfl rfl kL rfl rfl (.tmp (d:=(.val (.int .i64 ((((qC (jB.mk q.a (-q.b) (-q.c) (-q.d))):Nat):Int))))) rfl .nil)),?_⟩
 rfl
theorem l8_conj(q:jB)(hq:dU q):kB Tryz.prog 39 [(jF q)] (.tup [(jF (qV (uL q))),(.val (.int .i64 ((((qC (uL q)):Nat):Int))))]):=by
 obtain ⟨qa_,qb_,qc_,qd_⟩:=hq.2.bd
 refine jK Tryz.func39 rfl cb39 rfl ?_
 show qU _ _ _ _ ⟨[(0,(.d (jF q)))],[]⟩
 refine jA<|kx [(1,(.ref 0 0)),(2,(.ref 1 0))] [(0,some (bx (jF q))),(1,some (bx (jF (jB.mk 0 0 0 0))))] (zN (yC 0)<|zN (uQ 1 vK vL)<|zM<|zZ) ?_
 refine jA<|kx [(3,(jT (qC (jB.mk q.a (-q.b) (-q.c) (-q.d)))))] [(1,some (bx (jF (qV (jB.mk q.a (-q.b) (-q.c) (-q.d))))))] (zE (kV vO)<|zR (kP qF)<|zE (kV vP)<|zR (kP qF)<|zE (oNg (-q.b) (hr:=by exact (qJ (by first | omega | rfl | (dsimp only;omega)) (by simp only[xL];omega) (by simp only[xM];omega))))<|zE (kV vM)<|zR (kP qF)<|zE (oNg (-q.c) (hr:=by exact (qJ (by first | omega | rfl | (dsimp only;omega)) (by simp only[xL];omega) (by simp only[xM];omega))))<|zE (kV vN)<|zR (kP qF)<|zE (oNg (-q.d) (hr:=by exact (qJ (by first | omega | rfl | (dsimp only;omega)) (by simp only[xL];omega) (by simp only[xM];omega))))<|zE (eQ cB vK vL)<|zE (kE (l8_canon (jB.mk q.a (-q.b) (-q.c) (-q.d)) (qcj_ok hq)))<|zE qQ<|zE qQ<|zT (qA kL)<|zM<|zZ) ?_
 refine jI ⟨_,(kQ (cs:=(bx (jF (qV (jB.mk q.a (-q.b) (-q.c) (-q.d)))))) (d:=(jF (qV (jB.mk q.a (-q.b) (-q.c) (-q.d))))) rfl rfl kL rfl rfl (.tmp (d:=(.val (.int .i64 ((((qC (jB.mk q.a (-q.b) (-q.c) (-q.d))):Nat):Int))))) rfl .nil)),?_⟩
 rfl
theorem l_chkd(p q:jB)(hp:dU p)(hq:dU q):kB Tryz.prog 55 [(.sl 24 4 (List.map jF [p,q]))] (.val (.int .i64 (0))):=by
 refine jK Tryz.func55 rfl cb55 rfl ?_
 show qU _ _ _ _ ⟨[(0,(vl 24 4 jF [p,q]))],[]⟩
 refine jA<|kx [] [] (zM<|zZ) ?_
 refine jA<|jA<|kx [(6,(vl 24 4 jF [p,q])),(7,(jT 2)),(8,(jT 0))] [] (zM<|zE (oLn cI 2)<|zM<|zZ) ?_
 refine jH<|yM 20 ?_
 refine gH<|jA<|kx [(9,(vb true))] [] (zE (xR true uM)<|zZ) ?_
 refine jA<|qI ?_
 refine jE<|jA<|jH<|jA<|kx [(4,(.ref 0 0))] [(0,some (bx (jF p)))] (zE (oXs cI 0)<|zE (oCa kL)<|zN (uQ 0 vK vL)<|zT (qA kL)<|zZ) ?_
 refine jA<|kx [(5,(jT (gU p.a p.b p.c p.d)))] [] (zR (kY kL)<|zE (kE (q_chk p.a p.b p.c p.d))<|zM<|zZ) ?_
 refine jA<|kx [(15,(vb false))] [] (zM<|zE (xR false fO (by exact bne_eq_false_iff_eq.2 (by rw[show (gU p.a p.b p.c p.d)=0 from (nO.1 hp)]<;>rfl)))<|zZ) ?_
 refine qZ ?_
 refine jE<|kx [(8,(jT 1))] [] (zE (qS 1 (hr:=by decide))<|zM<|zZ) ?_
 refine kH (kK.refl _) ?_
 refine jA<|kx [(9,(vb true))] [] (zE (xR true uM)<|zZ) ?_
 refine jA<|qI ?_
 refine jE<|jA<|jH<|jA<|kx [(4,(.ref 1 0))] [(1,some (bx (jF q)))] (zE (oXs cI 1)<|zE (oCa kL)<|zN (uQ 1 vK vL)<|zT (qA kL)<|zZ) ?_
 refine jA<|kx [(5,(jT (gU q.a q.b q.c q.d)))] [] (zR (kY kL)<|zE (kE (q_chk q.a q.b q.c q.d))<|zM<|zZ) ?_
 refine jA<|kx [(15,(vb false))] [] (zM<|zE (xR false fO (by exact bne_eq_false_iff_eq.2 (by rw[show (gU q.a q.b q.c q.d)=0 from (nO.1 hq)]<;>rfl)))<|zZ) ?_
 refine qZ ?_
 refine jE<|kx [(8,(jT 2))] [] (zE (qS 2 (hr:=by decide))<|zM<|zZ) ?_
 refine kH (kK.refl _) ?_
 refine jA<|kx [(9,(vb false))] [] (zE (xR false uM)<|zZ) ?_
 refine jA<|qZ ?_
 refine jW<|jA<|kx [(2,(jT 0))] [] (zM<|zZ) ?_
 refine jI ⟨_,(.tmp (d:=(.val (.int .i64 (((0:Nat):Int))))) rfl .nil),?_⟩
 rfl
theorem l8_both(p:jB)(q:jB)(hp:dU p)(hq:dU q):kB Tryz.prog 64 [(jF p),(jF q)] (.val (.int .i64 (0))):=by
 refine jK Tryz.func64 rfl cb64 rfl ?_
 show qU _ _ _ _ ⟨[(0,(.d (jF p))),(1,(.d (jF q)))],[]⟩
 refine jA<|kx [(2,(.ref 0 0)),(3,(.ref 1 0))] [(0,some (bx (jF p))),(1,some (bx (jF q)))] (zN (yC 0)<|zN (yC 1)<|zM<|zZ) ?_
 refine jA<|kx [(5,(jT (gU p.a p.b p.c p.d)))] [] (zR (kY kL)<|zE (kE (qs_chk p.a p.b p.c p.d))<|zM<|zZ) ?_
 refine jA<|jA<|kx [(9,(vb false))] [] (zM<|zE (xR false fO (by exact bne_eq_false_iff_eq.2 (by rw[show (gU p.a p.b p.c p.d)=0 from (nO.1 hp)]<;>rfl)))<|zZ) ?_
 refine qZ ?_
 refine jE<|jA<|kx [(4,(jT (gU q.a q.b q.c q.d)))] [] (zR (kY kL)<|zE (kE (qs_chk q.a q.b q.c q.d))<|zM<|zZ) ?_
 refine jI ⟨_,(.tmp (d:=(.val (.int .i64 ((((gU q.a q.b q.c q.d):Nat):Int))))) rfl .nil),?_⟩
 rw[show gU q.a q.b q.c q.d=0 from nO.1 hq];rfl
end Go.Proofs.YteimogfidbkpnabGreat
