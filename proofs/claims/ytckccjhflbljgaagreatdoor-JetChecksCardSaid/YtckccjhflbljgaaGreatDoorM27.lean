/- Part 27 of a proof: rules, plain facts, and functions walked. -/
import Derived.Test.YtckccjhflbljgaaGreatDoorM26
import Derived.Test.YtckccjhflbljgaaGreatDoorM20
import Derived.Test.YtckccjhflbljgaaGreatDoorM18
import Derived.Test.YtckccjhflbljgaaGreatDoorM21
set_option linter.all false
set_option maxRecDepth 4000
namespace Go.Proofs.YtckccjhflbljgaaGreatDoor
open Go.Fid
theorem by3:xE Tryz.prog 3=some 8:=by kernel_rfl
theorem by72:xE Tryz.prog 72=some 88:=by kernel_rfl
theorem cb67:callB Tryz.prog 67=true:=by kernel_rfl
theorem cb110:callB Tryz.prog 110=true:=by kernel_rfl
theorem xW:uG Tryz.prog 23=some (72,7):=by kernel_rfl
theorem uA:uG Tryz.prog 74=some (3,1):=by kernel_rfl
theorem eqa130:eqaB Tryz.prog 130=some 3:=by kernel_rfl
theorem xU:uM Tryz.prog 72 0=some 0:=by kernel_rfl
theorem gX:uM Tryz.prog 72 3=some 3:=by kernel_rfl
theorem eE:uM Tryz.prog 103 0=some 0:=by kernel_rfl
theorem fo103_3:uM Tryz.prog 103 3=some 3:=by kernel_rfl
theorem fo103_4:uM Tryz.prog 103 4=some 4:=by kernel_rfl
theorem sh23:qC Tryz.prog 23=some (false,1):=by kernel_rfl
theorem dA:qC Tryz.prog 55=some (false,1):=by kernel_rfl
theorem eB:qC Tryz.prog 72=some (true,7):=by kernel_rfl
theorem sh74:qC Tryz.prog 74=some (false,1):=by kernel_rfl
theorem sk9:strKB Tryz.prog 9=true:=by kernel_rfl
theorem cO:vG Tryz.prog 72=some [.int .i64 0,.int .i64 0,.int .i64 0,.bool false,.slice none 0 0,.bool false,.slice none 0 0]:=by kernel_rfl
theorem fA:cN [.int .i64 0,.int .i64 0,.int .i64 0,.bool false,.slice none 0 0,.bool false,.slice none 0 0] [.val (.int .i64 0),.val (.int .i64 0),.val (.int .i64 0),.val (.bool false),.sl 107 1 [],.val (.bool false),.sl 107 1 []]:=by simp [cN,Value.oneCell']
theorem e_add(x:kC)(z:Int)(B:yP)(hB:RBI B):vJ Tryz.prog 110 [(.ref 0 0),(.d (jK x)),(vi z)] [(0,some [(.own 1 72 7 B.tm.length),(.mp 2),(.mp 3),(.own 4 3 1 B.us.length),(vb B.ov)]),(1,some (qL jK B.tm)),(2,some [.mo (kU vC kX B.kn)]),(3,some [.mo (kU vE kX B.os)]),(4,some (bm jG B.us))] (.d (.val (.int .i64 ((uH B x z).2)))) [(0,some [(.own 1 72 7 (((uH B x z).1).tm.length)),(.mp 2),(.mp 3),(.own 4 3 1 (((uH B x z).1).us.length)),(vb (((uH B x z).1).ov))]),(1,some (qL jK (((uH B x z).1).tm))),(2,some [.mo (kU vC kX (((uH B x z).1).kn))]),(3,some [.mo (kU vE kX (((uH B x z).1).os))]),(4,some (bm jG (((uH B x z).1).us)))]:=by
 have hbl:=hB.hl
 have hbu:=hB.hu
 refine zB Tryz.func110 rfl cb110 rfl ?_
 refine jB<|kx [(4,(.ref 5 0))] [(5,some (bx (jK x)))] (zH (xH 5)<|zM<|zZ) ?_
 refine jB<|jB<|kx [(16,(vb (decide (4096<z)||decide (400<=((B.tm.length:Nat):Int)))))] [] ?_ ?_
 ·refine zM<|zE eA<|zE (oV (vb (decide (4096<z))) (qE (by kernel_rfl)))<|?_
  rcases hb1:(decide (4096<z)) with _ | _
  ·replace hb1:=xJ hb1
   exact zM<|zE oNc<|zE (kL eE)<|zR (qK sh23)<|zE (oLo xW)<|zE oGe<|zE fW<|zZ
  ·replace hb1:=vW hb1
   exact zK<|zK<|zK<|zK<|zK<|zK<|zE nT<|zZ
 refine jF rfl (fun h2=>?_) (fun h2=>?_)
 ·refine jB<|kx [] [(0,some [(.own 1 72 7 B.tm.length),(.mp 2),(.mp 3),(.own 4 3 1 B.us.length),(vb true)])] (zM<|zE oNc<|zE (kL fo103_4)<|zT (qU eK)<|zZ) ?_
  refine jB<|kx [(6,(kJ 0))] [] (zM<|zZ) ?_
  rw[bAdd_t (B:=B) (x:=x) (z:=z) h2]
  refine jE ⟨qV (by kernel_rfl),uP (by kernel_rfl),.inl ⟨_,(.tmp (d:=(.val (.int .i64 (0)))) rfl .nil),?_⟩⟩
  rfl
 ·have hlt:B.tm.length<400:=by have h9:=(Bool.or_eq_false_iff.1 h2).2;rw[decide_eq_false_iff_not] at h9;omega
  refine jH<|jB<|kd [] [(0,some [(.own 6 72 7 ((B.tm++[x]).length)),(.mp 2),(.mp 3),(.own 4 3 1 B.us.length),(vb B.ov)]),(6,some (qL jK (B.tm++[x]))),(1,none)] mo (wM<|wM<|wE oNc<|wE (kL eE)<|wR (qK sh23)<|wR (kV eB)<|wE (oBs xW cO fA)<|wAS (k:=1) 6 jK B.tm [x] rfl xW cO by72<|wE oNc<|wE (kL eE)<|wT (oSx sh23)<|wZ) ?_
  refine qH (wk (l:=[(0,(.ref 0 0)),(2,(vi z))]) (b:=[(0,some [(.own 6 72 7 ((B.tm++[x]).length)),(.mp 2),(.mp 3),(.own 4 3 1 B.us.length),(vb B.ov)]),(2,some [.mo (kU vC kX B.kn)]),(3,some [.mo (kU vE kX B.os)]),(4,some (bm jG B.us)),(6,some (qL jK (B.tm++[x])))])) ?_
  refine qH (sim_ren2 (S':=[(0,(.ref 0 0)),(2,(vi z))]) (B':=[(0,some [(.own 1 72 7 ((B.tm++[x]).length)),(.mp 2),(.mp 3),(.own 4 3 1 B.us.length),(vb B.ov)]),(1,some (qL jK (B.tm++[x]))),(2,some [.mo (kU vC kX B.kn)]),(3,some [.mo (kU vE kX B.os)]),(4,some (bm jG B.us))]) 1 6 0) ?_
  refine jB<|kf [] [(0,some [(.own 1 72 7 ((B.tm++[x]).length)),(.mp 2),(.mp 3),(.own 4 3 1 ((B.us++[z]).length)),(vb B.ov)]),(4,some (bm jG (B.us++[z])))] (zM<|zM<|zE oNc<|zE (kL fo103_3)<|zR (qK sh74)<|zM<|zE (oBs uA ze3 zo3)<|zAm 0 3 jG B.us [z] rfl uA ze3 by3 (hB:=by repeat first | exact clrn_nil _ _ | refine clrn_hide ?_ | refine clrn_self ?_ | refine clrn_map ?_ | refine clrn_none ?_ | refine clrn_bx ?_ | refine clrn_d ?_ | refine clrn_cons rfl ?_) (k:=4)<|zE oNc<|zE (kL fo103_3)<|zT (oSx sh74)<|zF) ?_
  refine jB<|kx [(6,(kJ B.tm.length))] [] (zM<|zE oNc<|zE (kL eE)<|zR (qK sh23)<|zE (oLo xW)<|zE (oSb B.tm.length (hr:=by exact (by rw[List.length_append,List.length_singleton];exact wNat (by omega) (by simp only[kHiN];omega) (by decide))))<|zM<|zZ) ?_
  rw[bAdd_f (B:=B) (x:=x) (z:=z) h2]
  refine jE ⟨qV (by kernel_rfl),uP (by kernel_rfl),.inl ⟨_,(.tmp (d:=(.val (.int .i64 (((B.tm.length:Nat):Int))))) rfl .nil),?_⟩⟩
  rfl
theorem e_is(i:Int)(n:Int)(B:yP)(hB:RBI B)(hi:eC B i)(hn1:-9223372036854775808<=n)(hn2:n<=9223372036854775807):vJ Tryz.prog 67 [(.ref 0 0),(vi i),(vi n)] [(0,some [(.own 1 72 7 B.tm.length),(.mp 2),(.mp 3),(.own 4 3 1 B.us.length),(vb B.ov)]),(1,some (qL jK B.tm)),(2,some [.mo (kU vC kX B.kn)]),(3,some [.mo (kU vE kX B.os)]),(4,some (bm jG B.us))] (.d (.val (.bool ((cH B i n))))) [(0,some [(.own 1 72 7 B.tm.length),(.mp 2),(.mp 3),(.own 4 3 1 B.us.length),(vb B.ov)]),(1,some (qL jK B.tm)),(2,some [.mo (kU vC kX B.kn)]),(3,some [.mo (kU vE kX B.os)]),(4,some (bm jG B.us))]:=by
 have hbl:=hB.hl
 have hi0:=hi.1
 have hi1:=hi.2
 refine zB Tryz.func67 rfl cb67 rfl ?_
 refine jB<|kx [] [] (zM<|zZ) ?_
 refine jB<|kd [(6,(vb ((decide (i<((B.tm.length:Nat):Int))&&((B.tm.getD ((i).toNat) tz).op == 0))&&((gY (xD ((B.tm.getD ((i).toNat) tz).n)) ((n:Int):Rat)) == 0))))] [] mo ?_ ?_
 ·refine wM<|wM<|wE oNc<|wE (kL eE)<|wR (qK sh23)<|wE (oLo xW)<|wE nD<|wE (oV (vb (decide (i<((B.tm.length:Nat):Int)))) (qE (by kernel_rfl)))<|?_
  rcases hb1:(decide (i<((B.tm.length:Nat):Int))) with _ | _
  ·replace hb1:=xJ hb1
   exact wK<|wK<|wK<|wK<|wK<|wK<|wK<|wK<|wK<|wE gG<|wM<|wK<|wK<|wK<|wK<|wK<|wK<|wK<|wK<|wK<|wK<|wK<|wK<|wE gG<|wM<|wZ
  ·replace hb1:=vW hb1
   refine wM<|wE oNc<|wE (kL eE)<|wR (qK sh23)<|wM<|wE (oXO xW ((i).toNat))<|wE (kL xU)<|wR (oLs (s:=7) (i:=0) dA ((i).toNat) (tz:kC))<|wE yA<|wE dZ<|wE (oV (vb (true&&((B.tm.getD ((i).toNat) tz).op == 0))) (qE (by kernel_rfl)))<|?_
   rcases hb2:((B.tm.getD ((i).toNat) tz).op == 0) with _ | _
   ·replace hb2:=ne_of_beq_false hb2
    exact wK<|wK<|wK<|wK<|wK<|wK<|wK<|wK<|wK<|wK<|wK<|wK<|wE gG<|wM<|wZ
   ·replace hb2:=eq_of_beq hb2
    exact wM<|wE oNc<|wE (kL eE)<|wR (qK sh23)<|wM<|wE (oXO xW ((i).toNat))<|wE (kL gX)<|wR (dR (jQ ((B.tm.getD ((i).toNat) tz).n)) (jQ ((B.tm.getD ((i).toNat) tz).n)) (oLf (s:=7) (i:=3) kA ((i).toNat) (tz:kC) (jQ ((B.tm.getD ((i).toNat) tz).n))) (by exact rfl))<|wM<|wE (kF (eH n (by omega) (by omega)))<|wE (kF (fL ((B.tm.getD ((i).toNat) tz).n) (jV ((n:Int):Rat)) (xD ((B.tm.getD ((i).toNat) tz).n)) ((n:Int):Rat) (kE (hB.q (show (i).toNat<B.tm.length by omega))) (kE (kI (zJ (z:=n) (nL (by omega) (by omega)))))))<|wE yA<|wE dZ<|wM<|wZ
 refine jE ⟨qV (by kernel_rfl),uP (by kernel_rfl),.inl ⟨_,(.tmp (d:=(.val (.bool (((decide (i<((B.tm.length:Nat):Int))&&((B.tm.getD ((i).toNat) tz).op == 0))&&((gY (xD ((B.tm.getD ((i).toNat) tz).n)) ((n:Int):Rat)) == 0)))))) rfl .nil),?_⟩⟩
 rfl
theorem ar130:arrB Tryz.prog 130=some (3,3,1):=by kernel_rfl
theorem cb61:callB Tryz.prog 61=true:=by kernel_rfl
theorem cb63:callB Tryz.prog 63=true:=by kernel_rfl
theorem fo103_1:uM Tryz.prog 103 1=some 1:=by kernel_rfl
theorem fo103_2:uM Tryz.prog 103 2=some 2:=by kernel_rfl
theorem mk100:mapKB Tryz.prog 100=some (130,3):=by kernel_rfl
theorem mk101:mapKB Tryz.prog 101=some (9,3):=by kernel_rfl
theorem pl72:cE Tryz.prog 72=some [(0,1),(1,1),(2,1),(3,4)]:=by kernel_rfl
theorem sh100:qC Tryz.prog 100=some (false,1):=by kernel_rfl
theorem sh101:qC Tryz.prog 101=some (false,1):=by kernel_rfl
theorem sh130:qC Tryz.prog 130=some (true,3):=by kernel_rfl
theorem ze130:vG Tryz.prog 130=some [.int .i64 0,.int .i64 0,.int .i64 0]:=by kernel_rfl
theorem zo130:cN [.int .i64 0,.int .i64 0,.int .i64 0] [.val (.int .i64 0),.val (.int .i64 0),.val (.int .i64 0)]:=by simp [cN,Value.oneCell']
theorem zv3:zeroVm Tryz.prog 3=some (.int .i64 0):=by kernel_rfl
theorem cP(o:Int)(i:Int)(k:Int)(B:yP)(hB:RBI B)(ha:NdAr B o i k):vJ Tryz.prog 63 [(.ref 0 0),(vi o),(vi i),(vi k)] [(0,some [(.own 1 72 7 B.tm.length),(.mp 2),(.mp 3),(.own 4 3 1 B.us.length),(vb B.ov)]),(1,some (qL jK B.tm)),(2,some [.mo (kU vC kX B.kn)]),(3,some [.mo (kU vE kX B.os)]),(4,some (bm jG B.us))] (.d (.val (.int .i64 ((jC B o i k).2)))) [(0,some [(.own 1 72 7 (((jC B o i k).1).tm.length)),(.mp 2),(.mp 3),(.own 4 3 1 (((jC B o i k).1).us.length)),(vb (((jC B o i k).1).ov))]),(1,some (qL jK (((jC B o i k).1).tm))),(2,some [.mo (kU vC kX (((jC B o i k).1).kn))]),(3,some [.mo (kU vE kX (((jC B o i k).1).os))]),(4,some (bm jG (((jC B o i k).1).us)))]:=by
 have hbl:=hB.hl
 have hbu:=hB.hu
 let y1:=vQ
 refine zB Tryz.func63 rfl cb63 rfl ?_
 refine jB<|kx [] [] (zM<|zZ) ?_
 refine jB<|kx [(9,(.ref 5 0))] [(5,some (bx (encA130 (A3.mk o i k))))] (zM<|zM<|zM<|zE (oBf ar130 ze130 zo130)<|zH (vT 5 ze130 zo130)<|zT (qU sh130)<|zZ) ?_
 refine jB<|jB<|kd [(10,(vi ((xL B.kn (o,i,k)).getD 0))),(11,(vb ((xL B.kn (o,i,k)).isSome)))] [] mo (wM<|wE oNc<|wE (kL fo103_1)<|wR (qK sh100)<|wR (kV sh130)<|wR (oGi (l:=B.kn) mk100 (keyT3 eqa130) zv3 (o,i,k) (fun _ _ _ h=>rep_T3 h))<|wM<|wE yM<|wE yM<|wM<|wM<|wZ) ?_
 refine jB<|kx [(33,(vb ((xL B.kn (o,i,k)).isSome||B.ov)))] [] ?_ ?_
 ·refine zM<|zE (oV (vb ((xL B.kn (o,i,k)).isSome)) (qE (by kernel_rfl)))<|?_
  rcases hb1:((xL B.kn (o,i,k)).isSome) with _ | _
  ·exact zM<|zE oNc<|zE (kL fo103_4)<|zR (qK eK)<|zE fW<|zZ
  ·exact zK<|zK<|zK<|zK<|zE nT<|zZ
 refine jF (b:=((xL B.kn (o,i,k)).isSome||B.ov)) rfl (fun h2=>?_) (fun h2=>?_)
 ·refine jB<|kx [(8,(vi ((xL B.kn (o,i,k)).getD 0)))] [] (zM<|zM<|zZ) ?_
  rw[bNode_t (B:=B) (o:=o) (i:=i) (k:=k) h2]
  refine jE ⟨qV (by kernel_rfl),uP (by kernel_rfl),.inl ⟨_,(.tmp (d:=(.val (.int .i64 (((xL B.kn (o,i,k)).getD 0))))) rfl .nil),?_⟩⟩
  rfl
 ·refine jH<|jB<|kx [(12,(kJ 1))] [] (zM<|zZ) ?_
  refine pwp_seqjoin (α:=Int) (fun v=>⟨[(0,(.ref 0 0)),(1,(vi o)),(2,(vi i)),(3,(vi k)),(9,(.ref 5 0)),(12,(vi v))],[(0,some [(.own 1 72 7 B.tm.length),(.mp 2),(.mp 3),(.own 4 3 1 B.us.length),(vb B.ov)]),(1,some (qL jK B.tm)),(2,some [.mo (kU vC kX B.kn)]),(3,some [.mo (kU vE kX B.os)]),(4,some (bm jG B.us)),(5,some (bx (encA130 (A3.mk o i k))))]⟩) (fun v=>v=bSz B o i k) ?_ ?_
  ·refine jB<|kx [(35,(vb (o == 6)))] [] (zM<|zE yA<|zM<|zZ) ?_
   refine jF (b:=(o == 6)) rfl (fun h3=>?_) (fun h3=>?_)
   ·replace h3:=eq_of_beq h3
    obtain ⟨⟨a1,a2⟩,⟨a3,a4⟩,a5,a6⟩:=ha.ge2 hB (show o≠1 by omega)
    refine kx [(12,(vi (B.us.getD ((i).toNat) 0)))] [] (zM<|zE oNc<|zE (kL fo103_3)<|zR (qK sh74)<|zM<|zE (xS uA ((i).toNat))<|zR (cV uF ((i).toNat) (0:Int))<|zM<|zZ) ?_
    exact ⟨(B.us.getD i.toNat 0),wk,(bSz_6 h3)⟩
   ·replace h3:=ne_of_beq_false h3
    refine jB<|kx [(45,(vb (o == 7)))] [] (zM<|zE yA<|zM<|zZ) ?_
    refine jF (b:=(o == 7)) rfl (fun h4=>?_) (fun h4=>?_)
    ·replace h4:=eq_of_beq h4
     obtain ⟨⟨a1,a2⟩,⟨a3,a4⟩,a5,a6⟩:=ha.ge2 hB (show o≠1 by omega)
     refine kx [(12,(vi (2*(B.us.getD ((i).toNat) 0))))] [] (zM<|zE oNc<|zE (kL fo103_3)<|zR (qK sh74)<|zM<|zE (xS uA ((i).toNat))<|zR (cV uF ((i).toNat) (0:Int))<|zE (zMl (2*(B.us.getD ((i).toNat) 0)))<|zM<|zZ) ?_
     exact ⟨(2*B.us.getD i.toNat 0),wk,(bSz_7 h3 h4)⟩
    ·replace h4:=ne_of_beq_false h4
     refine jB<|kx [(56,(vb ((qW o) == 2)))] [] (zM<|zE (kF (j_kids o))<|zE yA<|zM<|zZ) ?_
     refine jF (b:=((qW o) == 2)) rfl (fun h5=>?_) (fun h5=>?_)
     ·replace h5:=eq_of_beq h5
      obtain ⟨⟨a1,a2⟩,⟨a3,a4⟩,a5,a6⟩:=ha.ge2 hB (show o≠1 from fun e=>by rw[e] at h5;revert h5;decide)
      refine kd [(12,(vi ((B.us.getD ((i).toNat) 0)+(B.us.getD ((k).toNat) 0))))] [] mo (wM<|wE oNc<|wE (kL fo103_3)<|wR (qK sh74)<|wM<|wE (xS uA ((i).toNat))<|wR (cV uF ((i).toNat) (0:Int))<|wM<|wE oNc<|wE (kL fo103_3)<|wR (qK sh74)<|wM<|wE (xS uA ((k).toNat))<|wR (cV uF ((k).toNat) (0:Int))<|wE (zAd ((B.us.getD ((i).toNat) 0)+(B.us.getD ((k).toNat) 0)))<|wM<|wZ) ?_
      exact ⟨(B.us.getD i.toNat 0+B.us.getD k.toNat 0),wk,(bSz_2 h3 h4 h5)⟩
     ·replace h5:=ne_of_beq_false h5
      refine jH ?_
      exact ⟨1,wk,(bSz_1 h3 h4 h5)⟩
  ·rintro v hv
   refine jB<|kf [(13,(vi ((uH B (kC.mk o i k y1) v).2)))] [(0,some [(.own 1 72 7 (((uH B (kC.mk o i k y1) v).1).tm.length)),(.mp 2),(.mp 3),(.own 4 3 1 (((uH B (kC.mk o i k y1) v).1).us.length)),(vb (((uH B (kC.mk o i k y1) v).1).ov))]),(1,some (qL jK (((uH B (kC.mk o i k y1) v).1).tm))),(2,some [.mo (kU vC kX (((uH B (kC.mk o i k y1) v).1).kn))]),(3,some [.mo (kU vE kX (((uH B (kC.mk o i k y1) v).1).os))]),(4,some (bm jG (((uH B (kC.mk o i k y1) v).1).us)))] (zM<|zM<|zM<|zM<|zE (oBd pl72 cO fA)<|zM<|zSe (B2:=[(0,some [(.own 1 72 7 B.tm.length),(.mp 2),(.mp 3),(.own 4 3 1 B.us.length),(vb B.ov)]),(1,some (qL jK B.tm)),(2,some [.mo (kU vC kX B.kn)]),(3,some [.mo (kU vE kX B.os)]),(4,some (bm jG B.us))]) (B2':=[(0,some [(.own 1 72 7 (((uH B (kC.mk o i k y1) v).1).tm.length)),(.mp 2),(.mp 3),(.own 4 3 1 (((uH B (kC.mk o i k y1) v).1).us.length)),(vb (((uH B (kC.mk o i k y1) v).1).ov))]),(1,some (qL jK (((uH B (kC.mk o i k y1) v).1).tm))),(2,some [.mo (kU vC kX (((uH B (kC.mk o i k y1) v).1).kn))]),(3,some [.mo (kU vE kX (((uH B (kC.mk o i k y1) v).1).os))]),(4,some (bm jG (((uH B (kC.mk o i k y1) v).1).us)))]) [0,1,2,3,4] [0] (e_add (kC.mk o i k y1) v B hB)<|zM<|zF) ?_
   refine jB<|kd [] [(2,some [.mo (kU vC kX ((((uH B (kC.mk o i k y1) v).1).kn)++[((o,i,k),(uH B (kC.mk o i k y1) v).2)]))])] mo (wM<|wE oNc<|wE (kL fo103_1)<|wR (qK sh100)<|wR (kV sh130)<|wM<|wT (oIi (l:=((uH B (kC.mk o i k y1) v).1).kn) mk100 (keyT3 eqa130) (o,i,k) ((uH B (kC.mk o i k y1) v).2) (fun _ _ _ h=>rep_T3 h) (by rw[(bAdd_os _ _ _).2];exact (Bool.or_eq_false_iff.1 h2).1))<|wZ) ?_
   refine jB<|kx [(8,(vi ((uH B (kC.mk o i k y1) v).2)))] [] (zM<|zM<|zZ) ?_
   rw[bNode_f (B:=B) (o:=o) (i:=i) (k:=k) (z:=v) h2 hv]
   refine jE ⟨qV (by kernel_rfl),uP (by kernel_rfl),.inl ⟨_,(.tmp (d:=(.val (.int .i64 ((uH B (kC.mk o i k vQ) v).2)))) rfl .nil),?_⟩⟩
   rfl
def TextAt(q:Rat):Prop:=jS Tryz.prog 109 [jQ (jV q)] (.val (.string (txQ q)))
theorem p_text(q:Rat)(hq:QL q 1048576)(ht:TextAt q):jS Tryz.prog 109 [jQ (jV q)] (.val (.string (txQ q))):=ht
theorem e_num(q:Rat)(hq:QL q 1048576)(B:yP)(hB:RBI B)(ht:TextAt q):vJ Tryz.prog 61 [(.ref 0 0),(.d (jQ (jV q)))] [(0,some [(.own 1 72 7 B.tm.length),(.mp 2),(.mp 3),(.own 4 3 1 B.us.length),(vb B.ov)]),(1,some (qL jK B.tm)),(2,some [.mo (kU vC kX B.kn)]),(3,some [.mo (kU vE kX B.os)]),(4,some (bm jG B.us))] (.d (.val (.int .i64 ((kT B q).2)))) [(0,some [(.own 1 72 7 (((kT B q).1).tm.length)),(.mp 2),(.mp 3),(.own 4 3 1 (((kT B q).1).us.length)),(vb (((kT B q).1).ov))]),(1,some (qL jK (((kT B q).1).tm))),(2,some [.mo (kU vC kX (((kT B q).1).kn))]),(3,some [.mo (kU vE kX (((kT B q).1).os))]),(4,some (bm jG (((kT B q).1).us)))]:=by
 have hbl:=hB.hl
 have hbu:=hB.hu
 refine zB Tryz.func61 rfl cb61 rfl ?_
 refine jB<|kx [(3,(.ref 5 0))] [(5,some (bx (jQ (jV q))))] (zH (xH 5)<|zM<|zZ) ?_
 refine jB<|kx [(5,(.d (.val (.string (txQ q)))))] [] (zR (kV kA)<|zE (kF (p_text q hq ht))<|zM<|zZ) ?_
 refine jB<|jB<|kx [(6,(vi ((xL B.os (txQ q)).getD 0))),(7,(vb ((xL B.os (txQ q)).isSome)))] [] (zM<|zE oNc<|zE (kL fo103_2)<|zR (qK sh101)<|zM<|zR (oGi (l:=B.os) mk101 (keySt sk9) zv3 (txQ q) (fun _ _ _ h=>uW h))<|zM<|zE yM<|zE yM<|zM<|zM<|zZ) ?_
 refine jB<|kx [(20,(vb ((xL B.os (txQ q)).isSome)))] [] (zM<|zZ) ?_
 refine jF (b:=(xL B.os (txQ q)).isSome) rfl (fun h1=>?_) (fun h1=>?_)
 ·refine jB<|kx [(4,(vi ((xL B.os (txQ q)).getD 0)))] [] (zM<|zM<|zZ) ?_
  rw[bNum_t (B:=B) (q:=q) h1]
  refine jE ⟨qV (by kernel_rfl),uP (by kernel_rfl),.inl ⟨_,(.tmp (d:=(.val (.int .i64 (((xL B.os (txQ q)).getD 0))))) rfl .nil),?_⟩⟩
  rfl
 ·refine jH<|jB<|kf [(8,(vi ((uH B (kC.mk 0 0 0 (jV q)) 1).2)))] [(0,some [(.own 1 72 7 (((uH B (kC.mk 0 0 0 (jV q)) 1).1).tm.length)),(.mp 2),(.mp 3),(.own 4 3 1 (((uH B (kC.mk 0 0 0 (jV q)) 1).1).us.length)),(vb (((uH B (kC.mk 0 0 0 (jV q)) 1).1).ov))]),(1,some (qL jK (((uH B (kC.mk 0 0 0 (jV q)) 1).1).tm))),(2,some [.mo (kU vC kX (((uH B (kC.mk 0 0 0 (jV q)) 1).1).kn))]),(3,some [.mo (kU vE kX (((uH B (kC.mk 0 0 0 (jV q)) 1).1).os))]),(4,some (bm jG (((uH B (kC.mk 0 0 0 (jV q)) 1).1).us)))] (zM<|zR (kV kA)<|zE (oBd pl72 cO fA)<|zSe (B2:=[(0,some [(.own 1 72 7 B.tm.length),(.mp 2),(.mp 3),(.own 4 3 1 B.us.length),(vb B.ov)]),(1,some (qL jK B.tm)),(2,some [.mo (kU vC kX B.kn)]),(3,some [.mo (kU vE kX B.os)]),(4,some (bm jG B.us))]) (B2':=[(0,some [(.own 1 72 7 (((uH B (kC.mk 0 0 0 (jV q)) 1).1).tm.length)),(.mp 2),(.mp 3),(.own 4 3 1 (((uH B (kC.mk 0 0 0 (jV q)) 1).1).us.length)),(vb (((uH B (kC.mk 0 0 0 (jV q)) 1).1).ov))]),(1,some (qL jK (((uH B (kC.mk 0 0 0 (jV q)) 1).1).tm))),(2,some [.mo (kU vC kX (((uH B (kC.mk 0 0 0 (jV q)) 1).1).kn))]),(3,some [.mo (kU vE kX (((uH B (kC.mk 0 0 0 (jV q)) 1).1).os))]),(4,some (bm jG (((uH B (kC.mk 0 0 0 (jV q)) 1).1).us)))]) [0,1,2,3,4] [0] (e_add (kC.mk 0 0 0 (jV q)) 1 B hB)<|zM<|zF) ?_
  refine jB<|kx [] [(3,some [.mo (kU vE kX ((((uH B (kC.mk 0 0 0 (jV q)) 1).1).os)++[((txQ q),(uH B (kC.mk 0 0 0 (jV q)) 1).2)]))])] (zM<|zE oNc<|zE (kL fo103_2)<|zR (qK sh101)<|zM<|zM<|zT (oIi (l:=((uH B (kC.mk 0 0 0 (jV q)) 1).1).os) mk101 (keySt sk9) (txQ q) ((uH B (kC.mk 0 0 0 (jV q)) 1).2) (fun _ _ _ h=>uW h) (by rw[(bAdd_os _ _ _).1];exact h1))<|zZ) ?_
  refine jB<|kx [(4,(vi ((uH B (kC.mk 0 0 0 (jV q)) 1).2)))] [] (zM<|zM<|zZ) ?_
  rw[bNum_f (B:=B) (q:=q) h1]
  refine jE ⟨qV (by kernel_rfl),uP (by kernel_rfl),.inl ⟨_,(.tmp (d:=(.val (.int .i64 ((uH B (kC.mk 0 0 0 (jV q)) 1).2)))) rfl .nil),?_⟩⟩
  rfl
def TextZ(z:Int):Prop:=jS Tryz.prog 168 [jO (kD z)] (.val (.string ⟨(txZ z).toArray⟩))
theorem p_textZ(z:Int)(hz:cF (kD z) z 1048576)(ht:TextZ z):jS Tryz.prog 168 [jO (kD z)] (.val (.string ⟨(txZ z).toArray⟩)):=ht
theorem p_textW(q:Rat)(hq:QL q 1048576)(hd:q.den=1)(ht:TextZ q.num):jS Tryz.prog 109 [(jQ (jV q))] (.val (.string (txQ q))):=by
 refine vA Tryz.func109 ?_
 refine jB<|kx [(1,(.ref 0 0))] [(0,some (bx (jQ (jV q))))] (zN (xH 0)<|zM<|zZ) ?_
 refine jB<|kx [] [(0,some (bx (jQ (jV q))))] (zR (kV kA)<|zE (kF (mK (jV q) q (kE (kI hq))))<|zT (qU kA)<|zZ) ?_
 refine jB<|kx [(3,(.d (.val (.string (⟨(txZ q.num).toArray⟩:ByteArray)))))] [] (zE (kL xT)<|zR (kV jX)<|zE (kF (p_textZ q.num (uI hq) ht))<|zM<|zZ) ?_
 refine jB<|jB<|kd [(13,(vb false))] [] mo (wE (kL vO)<|wR (kV jX)<|wE (kF (t_of 1))<|wE (kF (s_compare (qY hq) (iok_small (z:=1))))<|wE (fC false oNe (by exact bne_eq_false_iff_eq.2 (by rw[hd];decide)))<|wZ) ?_
 refine vH ?_
 refine jH<|jB<|kx [(2,(.d (.val (.string (⟨(txZ q.num).toArray⟩:ByteArray)))))] [] (zM<|zM<|zZ) ?_
 refine jE ⟨_,(.tmp (d:=(.val (.string (⟨(txZ q.num).toArray⟩:ByteArray)))) rfl .nil),?_⟩
 unfold txQ;rw[if_pos hd];rfl
theorem ofNat_one{n:Nat}(h:n<1000000000){d:Nat}(hd:d∈ofNat n\/d=0):d<=n:=by
 rcases hd with hd | rfl
 ·by_cases h0:n=0
  ·subst h0;rw[qQ] at hd;cases hd
  ·rw[gK h0,Nat.mod_eq_of_lt h,Nat.div_eq_of_lt h,qQ,List.mem_singleton] at hd;omega
 ·omega
theorem tz_small(z:Int)(h:z.natAbs<100):TextZ z:=t_text z (Nat.le_trans (xM (by omega)) (by decide)) fun d hd=>itA_small d (by have:=ofNat_one (by omega) hd;omega)
theorem tx_small(z:Int)(h:z.natAbs<100:=by decide):TextAt ((z:Int):Rat):=p_textW _ (ql_i (by omega)) (Rat.den_intCast z) (by rw[Rat.num_intCast];exact tz_small z h)
theorem cb64:callB Tryz.prog 64=true:=by kernel_rfl
theorem cb65:callB Tryz.prog 65=true:=by kernel_rfl
theorem cb66:callB Tryz.prog 66=true:=by kernel_rfl
theorem e_sum(i:Int)(k:Int)(B:yP)(hB:RBI B)(hi:eC B i)(hk:eC B k):vJ Tryz.prog 66 [(.ref 0 0),(vi i),(vi k)] [(0,some [(.own 1 72 7 B.tm.length),(.mp 2),(.mp 3),(.own 4 3 1 B.us.length),(vb B.ov)]),(1,some (qL jK B.tm)),(2,some [.mo (kU vC kX B.kn)]),(3,some [.mo (kU vE kX B.os)]),(4,some (bm jG B.us))] (.d (.val (.int .i64 ((vP B i k).2)))) [(0,some [(.own 1 72 7 (((vP B i k).1).tm.length)),(.mp 2),(.mp 3),(.own 4 3 1 (((vP B i k).1).us.length)),(vb (((vP B i k).1).ov))]),(1,some (qL jK (((vP B i k).1).tm))),(2,some [.mo (kU vC kX (((vP B i k).1).kn))]),(3,some [.mo (kU vE kX (((vP B i k).1).os))]),(4,some (bm jG (((vP B i k).1).us)))]:=by
 have hbl:=hB.hl
 have hbu:=hB.hu
 refine zB Tryz.func66 rfl cb66 rfl ?_
 refine jB<|kx [] [] (zM<|zZ) ?_
 refine jB<|jL<|jB<|kf [(7,(vb (cH B i 0)))] [(0,some [(.own 1 72 7 B.tm.length),(.mp 2),(.mp 3),(.own 4 3 1 B.us.length),(vb B.ov)]),(1,some (qL jK B.tm)),(2,some [.mo (kU vC kX B.kn)]),(3,some [.mo (kU vE kX B.os)]),(4,some (bm jG B.us))] (zM<|zM<|zSe (B2:=[(0,some [(.own 1 72 7 B.tm.length),(.mp 2),(.mp 3),(.own 4 3 1 B.us.length),(vb B.ov)]),(1,some (qL jK B.tm)),(2,some [.mo (kU vC kX B.kn)]),(3,some [.mo (kU vE kX B.os)]),(4,some (bm jG B.us))]) (B2':=[(0,some [(.own 1 72 7 B.tm.length),(.mp 2),(.mp 3),(.own 4 3 1 B.us.length),(vb B.ov)]),(1,some (qL jK B.tm)),(2,some [.mo (kU vC kX B.kn)]),(3,some [.mo (kU vE kX B.os)]),(4,some (bm jG B.us))]) [0,1,2,3,4] [0] (e_is i 0 B hB hi (by omega) (by omega))<|zM<|zF) ?_
 refine jF (b:=(cH B i 0)) rfl (fun h1=>?_) (fun h1=>?_)
 ·refine jB<|kx [(6,(vi k))] [] (zM<|zM<|zZ) ?_
  rw[bSum_1 h1]
  refine jE ⟨qV (by kernel_rfl),uP (by kernel_rfl),.inl ⟨_,(.tmp (d:=(.val (.int .i64 (k)))) rfl .nil),?_⟩⟩
  rfl
 ·refine jB<|kf [(12,(vb (cH B k 0)))] [(0,some [(.own 1 72 7 B.tm.length),(.mp 2),(.mp 3),(.own 4 3 1 B.us.length),(vb B.ov)]),(1,some (qL jK B.tm)),(2,some [.mo (kU vC kX B.kn)]),(3,some [.mo (kU vE kX B.os)]),(4,some (bm jG B.us))] (zM<|zM<|zSe (B2:=[(0,some [(.own 1 72 7 B.tm.length),(.mp 2),(.mp 3),(.own 4 3 1 B.us.length),(vb B.ov)]),(1,some (qL jK B.tm)),(2,some [.mo (kU vC kX B.kn)]),(3,some [.mo (kU vE kX B.os)]),(4,some (bm jG B.us))]) (B2':=[(0,some [(.own 1 72 7 B.tm.length),(.mp 2),(.mp 3),(.own 4 3 1 B.us.length),(vb B.ov)]),(1,some (qL jK B.tm)),(2,some [.mo (kU vC kX B.kn)]),(3,some [.mo (kU vE kX B.os)]),(4,some (bm jG B.us))]) [0,1,2,3,4] [0] (e_is k 0 B hB hk (by omega) (by omega))<|zM<|zF) ?_
  refine jF (b:=(cH B k 0)) rfl (fun h2=>?_) (fun h2=>?_)
  ·refine jB<|kx [(6,(vi i))] [] (zM<|zM<|zZ) ?_
   rw[bSum_2 h1 h2]
   refine jE ⟨qV (by kernel_rfl),uP (by kernel_rfl),.inl ⟨_,(.tmp (d:=(.val (.int .i64 (i)))) rfl .nil),?_⟩⟩
   rfl
  ·refine jH<|jB<|kf [(6,(vi ((jC B 2 i k).2)))] [(0,some [(.own 1 72 7 (((jC B 2 i k).1).tm.length)),(.mp 2),(.mp 3),(.own 4 3 1 (((jC B 2 i k).1).us.length)),(vb (((jC B 2 i k).1).ov))]),(1,some (qL jK (((jC B 2 i k).1).tm))),(2,some [.mo (kU vC kX (((jC B 2 i k).1).kn))]),(3,some [.mo (kU vE kX (((jC B 2 i k).1).os))]),(4,some (bm jG (((jC B 2 i k).1).us)))] (zM<|zM<|zM<|zSe (B2:=[(0,some [(.own 1 72 7 B.tm.length),(.mp 2),(.mp 3),(.own 4 3 1 B.us.length),(vb B.ov)]),(1,some (qL jK B.tm)),(2,some [.mo (kU vC kX B.kn)]),(3,some [.mo (kU vE kX B.os)]),(4,some (bm jG B.us))]) (B2':=[(0,some [(.own 1 72 7 (((jC B 2 i k).1).tm.length)),(.mp 2),(.mp 3),(.own 4 3 1 (((jC B 2 i k).1).us.length)),(vb (((jC B 2 i k).1).ov))]),(1,some (qL jK (((jC B 2 i k).1).tm))),(2,some [.mo (kU vC kX (((jC B 2 i k).1).kn))]),(3,some [.mo (kU vE kX (((jC B 2 i k).1).os))]),(4,some (bm jG (((jC B 2 i k).1).us)))]) [0,1,2,3,4] [0] (cP 2 i k B hB (.inr ⟨by decide,by decide,hi,hk⟩))<|zM<|zF) ?_
   rw[bSum_3 h1 h2]
   refine jE ⟨qV (by kernel_rfl),uP (by kernel_rfl),.inl ⟨_,(.tmp (d:=(.val (.int .i64 ((jC B 2 i k).2)))) rfl .nil),?_⟩⟩
   rfl
theorem e_dif(i:Int)(k:Int)(B:yP)(hB:RBI B)(hi:eC B i)(hk:eC B k):vJ Tryz.prog 64 [(.ref 0 0),(vi i),(vi k)] [(0,some [(.own 1 72 7 B.tm.length),(.mp 2),(.mp 3),(.own 4 3 1 B.us.length),(vb B.ov)]),(1,some (qL jK B.tm)),(2,some [.mo (kU vC kX B.kn)]),(3,some [.mo (kU vE kX B.os)]),(4,some (bm jG B.us))] (.d (.val (.int .i64 ((kK B i k).2)))) [(0,some [(.own 1 72 7 (((kK B i k).1).tm.length)),(.mp 2),(.mp 3),(.own 4 3 1 (((kK B i k).1).us.length)),(vb (((kK B i k).1).ov))]),(1,some (qL jK (((kK B i k).1).tm))),(2,some [.mo (kU vC kX (((kK B i k).1).kn))]),(3,some [.mo (kU vE kX (((kK B i k).1).os))]),(4,some (bm jG (((kK B i k).1).us)))]:=by
 have hbl:=hB.hl
 have hbu:=hB.hu
 refine zB Tryz.func64 rfl cb64 rfl ?_
 refine jB<|kx [] [] (zM<|zZ) ?_
 refine jB<|jL<|jB<|kf [(7,(vb (cH B k 0)))] [(0,some [(.own 1 72 7 B.tm.length),(.mp 2),(.mp 3),(.own 4 3 1 B.us.length),(vb B.ov)]),(1,some (qL jK B.tm)),(2,some [.mo (kU vC kX B.kn)]),(3,some [.mo (kU vE kX B.os)]),(4,some (bm jG B.us))] (zM<|zM<|zSe (B2:=[(0,some [(.own 1 72 7 B.tm.length),(.mp 2),(.mp 3),(.own 4 3 1 B.us.length),(vb B.ov)]),(1,some (qL jK B.tm)),(2,some [.mo (kU vC kX B.kn)]),(3,some [.mo (kU vE kX B.os)]),(4,some (bm jG B.us))]) (B2':=[(0,some [(.own 1 72 7 B.tm.length),(.mp 2),(.mp 3),(.own 4 3 1 B.us.length),(vb B.ov)]),(1,some (qL jK B.tm)),(2,some [.mo (kU vC kX B.kn)]),(3,some [.mo (kU vE kX B.os)]),(4,some (bm jG B.us))]) [0,1,2,3,4] [0] (e_is k 0 B hB hk (by omega) (by omega))<|zM<|zF) ?_
 refine jF (b:=(cH B k 0)) rfl (fun h1=>?_) (fun h1=>?_)
 ·refine jB<|kx [(6,(vi i))] [] (zM<|zM<|zZ) ?_
  rw[bDif_1 h1]
  refine jE ⟨qV (by kernel_rfl),uP (by kernel_rfl),.inl ⟨_,(.tmp (d:=(.val (.int .i64 (i)))) rfl .nil),?_⟩⟩
  rfl
 ·refine jB<|kf [(12,(vb (cH B i 0)))] [(0,some [(.own 1 72 7 B.tm.length),(.mp 2),(.mp 3),(.own 4 3 1 B.us.length),(vb B.ov)]),(1,some (qL jK B.tm)),(2,some [.mo (kU vC kX B.kn)]),(3,some [.mo (kU vE kX B.os)]),(4,some (bm jG B.us))] (zM<|zM<|zSe (B2:=[(0,some [(.own 1 72 7 B.tm.length),(.mp 2),(.mp 3),(.own 4 3 1 B.us.length),(vb B.ov)]),(1,some (qL jK B.tm)),(2,some [.mo (kU vC kX B.kn)]),(3,some [.mo (kU vE kX B.os)]),(4,some (bm jG B.us))]) (B2':=[(0,some [(.own 1 72 7 B.tm.length),(.mp 2),(.mp 3),(.own 4 3 1 B.us.length),(vb B.ov)]),(1,some (qL jK B.tm)),(2,some [.mo (kU vC kX B.kn)]),(3,some [.mo (kU vE kX B.os)]),(4,some (bm jG B.us))]) [0,1,2,3,4] [0] (e_is i 0 B hB hi (by omega) (by omega))<|zM<|zF) ?_
  refine jF (b:=(cH B i 0)) rfl (fun h2=>?_) (fun h2=>?_)
  ·refine jB<|kf [(6,(vi ((jC B 6 k 0).2)))] [(0,some [(.own 1 72 7 (((jC B 6 k 0).1).tm.length)),(.mp 2),(.mp 3),(.own 4 3 1 (((jC B 6 k 0).1).us.length)),(vb (((jC B 6 k 0).1).ov))]),(1,some (qL jK (((jC B 6 k 0).1).tm))),(2,some [.mo (kU vC kX (((jC B 6 k 0).1).kn))]),(3,some [.mo (kU vE kX (((jC B 6 k 0).1).os))]),(4,some (bm jG (((jC B 6 k 0).1).us)))] (zM<|zM<|zSe (B2:=[(0,some [(.own 1 72 7 B.tm.length),(.mp 2),(.mp 3),(.own 4 3 1 B.us.length),(vb B.ov)]),(1,some (qL jK B.tm)),(2,some [.mo (kU vC kX B.kn)]),(3,some [.mo (kU vE kX B.os)]),(4,some (bm jG B.us))]) (B2':=[(0,some [(.own 1 72 7 (((jC B 6 k 0).1).tm.length)),(.mp 2),(.mp 3),(.own 4 3 1 (((jC B 6 k 0).1).us.length)),(vb (((jC B 6 k 0).1).ov))]),(1,some (qL jK (((jC B 6 k 0).1).tm))),(2,some [.mo (kU vC kX (((jC B 6 k 0).1).kn))]),(3,some [.mo (kU vE kX (((jC B 6 k 0).1).os))]),(4,some (bm jG (((jC B 6 k 0).1).us)))]) [0,1,2,3,4] [0] (cP 6 k 0 B hB (.inr ⟨by decide,by decide,hk,hk.pos⟩))<|zM<|zF) ?_
   rw[bDif_2 h1 h2]
   refine jE ⟨qV (by kernel_rfl),uP (by kernel_rfl),.inl ⟨_,(.tmp (d:=(.val (.int .i64 ((jC B 6 k 0).2)))) rfl .nil),?_⟩⟩
   rfl
  ·refine jH<|jB<|kf [(6,(vi ((jC B 3 i k).2)))] [(0,some [(.own 1 72 7 (((jC B 3 i k).1).tm.length)),(.mp 2),(.mp 3),(.own 4 3 1 (((jC B 3 i k).1).us.length)),(vb (((jC B 3 i k).1).ov))]),(1,some (qL jK (((jC B 3 i k).1).tm))),(2,some [.mo (kU vC kX (((jC B 3 i k).1).kn))]),(3,some [.mo (kU vE kX (((jC B 3 i k).1).os))]),(4,some (bm jG (((jC B 3 i k).1).us)))] (zM<|zM<|zM<|zSe (B2:=[(0,some [(.own 1 72 7 B.tm.length),(.mp 2),(.mp 3),(.own 4 3 1 B.us.length),(vb B.ov)]),(1,some (qL jK B.tm)),(2,some [.mo (kU vC kX B.kn)]),(3,some [.mo (kU vE kX B.os)]),(4,some (bm jG B.us))]) (B2':=[(0,some [(.own 1 72 7 (((jC B 3 i k).1).tm.length)),(.mp 2),(.mp 3),(.own 4 3 1 (((jC B 3 i k).1).us.length)),(vb (((jC B 3 i k).1).ov))]),(1,some (qL jK (((jC B 3 i k).1).tm))),(2,some [.mo (kU vC kX (((jC B 3 i k).1).kn))]),(3,some [.mo (kU vE kX (((jC B 3 i k).1).os))]),(4,some (bm jG (((jC B 3 i k).1).us)))]) [0,1,2,3,4] [0] (cP 3 i k B hB (.inr ⟨by decide,by decide,hi,hk⟩))<|zM<|zF) ?_
   rw[bDif_3 h1 h2]
   refine jE ⟨qV (by kernel_rfl),uP (by kernel_rfl),.inl ⟨_,(.tmp (d:=(.val (.int .i64 ((jC B 3 i k).2)))) rfl .nil),?_⟩⟩
   rfl
theorem e_prd(i:Int)(k:Int)(B:yP)(hB:RBI B)(hi:eC B i)(hk:eC B k):vJ Tryz.prog 65 [(.ref 0 0),(vi i),(vi k)] [(0,some [(.own 1 72 7 B.tm.length),(.mp 2),(.mp 3),(.own 4 3 1 B.us.length),(vb B.ov)]),(1,some (qL jK B.tm)),(2,some [.mo (kU vC kX B.kn)]),(3,some [.mo (kU vE kX B.os)]),(4,some (bm jG B.us))] (.d (.val (.int .i64 ((jI B i k).2)))) [(0,some [(.own 1 72 7 (((jI B i k).1).tm.length)),(.mp 2),(.mp 3),(.own 4 3 1 (((jI B i k).1).us.length)),(vb (((jI B i k).1).ov))]),(1,some (qL jK (((jI B i k).1).tm))),(2,some [.mo (kU vC kX (((jI B i k).1).kn))]),(3,some [.mo (kU vE kX (((jI B i k).1).os))]),(4,some (bm jG (((jI B i k).1).us)))]:=by
 have hbl:=hB.hl
 have hbu:=hB.hu
 refine zB Tryz.func65 rfl cb65 rfl ?_
 refine jB<|kx [] [] (zM<|zZ) ?_
 refine jB<|jL<|jB<|kf [(7,(vb ((cH B i 0)||(cH B k 1))))] [(0,some [(.own 1 72 7 B.tm.length),(.mp 2),(.mp 3),(.own 4 3 1 B.us.length),(vb B.ov)]),(1,some (qL jK B.tm)),(2,some [.mo (kU vC kX B.kn)]),(3,some [.mo (kU vE kX B.os)]),(4,some (bm jG B.us))] ?_ ?_
 ·refine zM<|zM<|zSe (B2:=[(0,some [(.own 1 72 7 B.tm.length),(.mp 2),(.mp 3),(.own 4 3 1 B.us.length),(vb B.ov)]),(1,some (qL jK B.tm)),(2,some [.mo (kU vC kX B.kn)]),(3,some [.mo (kU vE kX B.os)]),(4,some (bm jG B.us))]) (B2':=[(0,some [(.own 1 72 7 B.tm.length),(.mp 2),(.mp 3),(.own 4 3 1 B.us.length),(vb B.ov)]),(1,some (qL jK B.tm)),(2,some [.mo (kU vC kX B.kn)]),(3,some [.mo (kU vE kX B.os)]),(4,some (bm jG B.us))]) [0,1,2,3,4] [0] (e_is i 0 B hB hi (by omega) (by omega))<|zE (oV (vb (cH B i 0)) (qE (by kernel_rfl)))<|?_
  rcases hb1:(cH B i 0) with _ | _
  ·exact zM<|zM<|zSe (B2:=[(0,some [(.own 1 72 7 B.tm.length),(.mp 2),(.mp 3),(.own 4 3 1 B.us.length),(vb B.ov)]),(1,some (qL jK B.tm)),(2,some [.mo (kU vC kX B.kn)]),(3,some [.mo (kU vE kX B.os)]),(4,some (bm jG B.us))]) (B2':=[(0,some [(.own 1 72 7 B.tm.length),(.mp 2),(.mp 3),(.own 4 3 1 B.us.length),(vb B.ov)]),(1,some (qL jK B.tm)),(2,some [.mo (kU vC kX B.kn)]),(3,some [.mo (kU vE kX B.os)]),(4,some (bm jG B.us))]) [0,1,2,3,4] [0] (e_is k 1 B hB hk (by omega) (by omega))<|zE fW<|zM<|zF
  ·exact zK<|zK<|zK<|zE nT<|zM<|zF
 refine jF (b:=((cH B i 0)||(cH B k 1))) rfl (fun h2=>?_) (fun h2=>?_)
 ·refine jB<|kx [(6,(vi i))] [] (zM<|zM<|zZ) ?_
  rw[bPrd_1 h2]
  refine jE ⟨qV (by kernel_rfl),uP (by kernel_rfl),.inl ⟨_,(.tmp (d:=(.val (.int .i64 (i)))) rfl .nil),?_⟩⟩
  rfl
 ·refine jB<|kf [(17,(vb ((cH B k 0)||(cH B i 1))))] [(0,some [(.own 1 72 7 B.tm.length),(.mp 2),(.mp 3),(.own 4 3 1 B.us.length),(vb B.ov)]),(1,some (qL jK B.tm)),(2,some [.mo (kU vC kX B.kn)]),(3,some [.mo (kU vE kX B.os)]),(4,some (bm jG B.us))] ?_ ?_
  ·refine zM<|zM<|zSe (B2:=[(0,some [(.own 1 72 7 B.tm.length),(.mp 2),(.mp 3),(.own 4 3 1 B.us.length),(vb B.ov)]),(1,some (qL jK B.tm)),(2,some [.mo (kU vC kX B.kn)]),(3,some [.mo (kU vE kX B.os)]),(4,some (bm jG B.us))]) (B2':=[(0,some [(.own 1 72 7 B.tm.length),(.mp 2),(.mp 3),(.own 4 3 1 B.us.length),(vb B.ov)]),(1,some (qL jK B.tm)),(2,some [.mo (kU vC kX B.kn)]),(3,some [.mo (kU vE kX B.os)]),(4,some (bm jG B.us))]) [0,1,2,3,4] [0] (e_is k 0 B hB hk (by omega) (by omega))<|zE (oV (vb (cH B k 0)) (qE (by kernel_rfl)))<|?_
   rcases hb3:(cH B k 0) with _ | _
   ·exact zM<|zM<|zSe (B2:=[(0,some [(.own 1 72 7 B.tm.length),(.mp 2),(.mp 3),(.own 4 3 1 B.us.length),(vb B.ov)]),(1,some (qL jK B.tm)),(2,some [.mo (kU vC kX B.kn)]),(3,some [.mo (kU vE kX B.os)]),(4,some (bm jG B.us))]) (B2':=[(0,some [(.own 1 72 7 B.tm.length),(.mp 2),(.mp 3),(.own 4 3 1 B.us.length),(vb B.ov)]),(1,some (qL jK B.tm)),(2,some [.mo (kU vC kX B.kn)]),(3,some [.mo (kU vE kX B.os)]),(4,some (bm jG B.us))]) [0,1,2,3,4] [0] (e_is i 1 B hB hi (by omega) (by omega))<|zE fW<|zM<|zF
   ·exact zK<|zK<|zK<|zE nT<|zM<|zF
  refine jF (b:=((cH B k 0)||(cH B i 1))) rfl (fun h4=>?_) (fun h4=>?_)
  ·refine jB<|kx [(6,(vi k))] [] (zM<|zM<|zZ) ?_
   rw[bPrd_2 h2 h4]
   refine jE ⟨qV (by kernel_rfl),uP (by kernel_rfl),.inl ⟨_,(.tmp (d:=(.val (.int .i64 (k)))) rfl .nil),?_⟩⟩
   rfl
  ·refine jH<|jB<|kf [(6,(vi ((jC B 4 i k).2)))] [(0,some [(.own 1 72 7 (((jC B 4 i k).1).tm.length)),(.mp 2),(.mp 3),(.own 4 3 1 (((jC B 4 i k).1).us.length)),(vb (((jC B 4 i k).1).ov))]),(1,some (qL jK (((jC B 4 i k).1).tm))),(2,some [.mo (kU vC kX (((jC B 4 i k).1).kn))]),(3,some [.mo (kU vE kX (((jC B 4 i k).1).os))]),(4,some (bm jG (((jC B 4 i k).1).us)))] (zM<|zM<|zM<|zSe (B2:=[(0,some [(.own 1 72 7 B.tm.length),(.mp 2),(.mp 3),(.own 4 3 1 B.us.length),(vb B.ov)]),(1,some (qL jK B.tm)),(2,some [.mo (kU vC kX B.kn)]),(3,some [.mo (kU vE kX B.os)]),(4,some (bm jG B.us))]) (B2':=[(0,some [(.own 1 72 7 (((jC B 4 i k).1).tm.length)),(.mp 2),(.mp 3),(.own 4 3 1 (((jC B 4 i k).1).us.length)),(vb (((jC B 4 i k).1).ov))]),(1,some (qL jK (((jC B 4 i k).1).tm))),(2,some [.mo (kU vC kX (((jC B 4 i k).1).kn))]),(3,some [.mo (kU vE kX (((jC B 4 i k).1).os))]),(4,some (bm jG (((jC B 4 i k).1).us)))]) [0,1,2,3,4] [0] (cP 4 i k B hB (.inr ⟨by decide,by decide,hi,hk⟩))<|zM<|zF) ?_
   rw[bPrd_3 h2 h4]
   refine jE ⟨qV (by kernel_rfl),uP (by kernel_rfl),.inl ⟨_,(.tmp (d:=(.val (.int .i64 ((jC B 4 i k).2)))) rfl .nil),?_⟩⟩
   rfl
theorem by4:xE Tryz.prog 4=some 1:=by kernel_rfl
theorem el131:uG Tryz.prog 131=some (4,1):=by kernel_rfl
theorem qN:uM Tryz.prog 72 1=some 1:=by kernel_rfl
theorem uV:uM Tryz.prog 72 2=some 2:=by kernel_rfl
theorem ze4:vG Tryz.prog 4=some [.bool false]:=by kernel_rfl
theorem zo4:cN [.bool false] [.val (.bool false)]:=by simp [cN,Value.oneCell']
theorem p_trim(t:List kC)(m:Nat)(hm:m<t.length)(hl:t.length<=400)(hT:OrdT t):jS Tryz.prog 68 [(.sl 72 7 (List.map jK t)),(.val (.int .i64 (((m:Nat):Int))))] (.sl 72 7 (List.map jK (trimT t m))):=by
 refine vA Tryz.func68 ?_
 refine jB<|kx [] [] (zE (eY 72 7)<|zZ) ?_
 refine jB<|kx [(5,(.own 0 4 1 t.length))] [(0,some (bm dS (List.replicate t.length false)))] (zM<|zE (yD xW)<|zN (oMk 0 dS (false:Bool) t.length t.length el131 ze4 zo4 by4)<|zM<|zZ) ?_
 refine jB<|kx [] [(0,some (bm dS ((List.replicate t.length false).set m true)))] (zM<|zM<|zE (xS el131 m)<|zT (cU eK m true (h1:=by first | omega | (simp only[List.length_replicate,List.length_set];omega)))<|zZ) ?_
 refine jB<|jB<|kx [(6,(kJ m))] [] (zM<|zM<|zZ) ?_
 refine jL<|kW (α:=Int × List Bool) (fun (z,nd)=>⟨[(0,(vl 72 7 jK t)),(1,(kJ m)),(5,(.own 0 4 1 t.length)),(6,(vi z))],[(0,some (bm dS nd))]⟩) (fun (z,nd)=>z<=(m:Int)/\-1<=z/\nd.length=t.length/\ndL t nd (z+1).toNat=ndA t m) (fun (z,nd)=>(z+1).toNat) ((m:Int),(List.replicate t.length false).set m true) wk ⟨Int.le_refl _,by omega,by rw[List.length_set,List.length_replicate],by rw[show ((m:Int)+1).toNat=m+1 by omega];rfl⟩ ?_
 rintro ⟨z,nd⟩ ⟨hzm,hz1,hnl,hnd⟩
 refine jB<|jB<|kx [(21,(vb (decide (0<=z))))] [] (zM<|zE oGe<|zZ) ?_
 refine jF (b:=decide (0<=z)) rfl (fun h1=>?_) (fun h1=>?_)
 ·replace h1:=vW h1
  have hz0:0<=z:=h1
  refine jH<|jB<|jL<|jB<|jB<|kx [(28,(vb (!(nd.getD ((z).toNat) false))))] [] (zM<|zM<|zE (xS el131 ((z).toNat))<|zR (cV eK ((z).toNat) (false:Bool))<|zE oNt<|zZ) ?_
  refine jF (b:=!(nd.getD ((z).toNat) false)) rfl (fun h2=>?_) (fun h2=>?_)
  ·refine kQ<|kx [(6,(vi (z-1)))] [] (zM<|zE (zSb (z-1))<|zM<|zZ) ?_
   exact ⟨(z-1,nd),wk,⟨by omega,by omega,hnl,ndL_step hz0 hnd (ndS_n h2)⟩,(by first|omega|(dsimp only;omega))⟩
  ·have hne:=h2
   refine jH<|jB<|kx [(7,(vi (qW ((t.getD ((z).toNat) tz).op))))] [] (zM<|zM<|zE (cR xW ((z).toNat) (tz:kC))<|zE (oFc xU)<|zE (nF dA)<|zE (kF (j_kids ((t.getD ((z).toNat) tz).op)))<|zM<|zZ) ?_
   refine jB<|kx [(36,(vb (decide (0<(qW ((t.getD ((z).toNat) tz).op))))))] [] (zM<|zE eA<|zZ) ?_
   refine jF rfl (fun h3=>?_) (fun h3=>?_)
   ·replace h3:=vW h3
    have hk0:=h3
    obtain ⟨ha0,ha1⟩:=(hT z.toNat (by omega)).1 h3
    refine jB<|kx [] [(0,some (bm dS (nd.set (((t.getD ((z).toNat) tz).a).toNat) true)))] (zM<|zM<|zM<|zE (cR xW ((z).toNat) (tz:kC))<|zE (oFc qN)<|zE (nF uF)<|zE (xS el131 (((t.getD ((z).toNat) tz).a).toNat))<|zT (cU eK (((t.getD ((z).toNat) tz).a).toNat) true (h1:=by first | omega | (simp only[List.length_replicate,List.length_set];omega)))<|zZ) ?_
    refine jB<|kx [(45,(vb (decide (1<(qW ((t.getD ((z).toNat) tz).op))))))] [] (zM<|zE eA<|zZ) ?_
    refine jF rfl (fun h4=>?_) (fun h4=>?_)
    ·replace h4:=vW h4
     obtain ⟨hb0,hb1⟩:=(hT z.toNat (by omega)).2 h4
     have hnl2:(nd.set (t.getD z.toNat tz).a.toNat true).length=t.length:=by rw[List.length_set];exact hnl
     refine kx [] [(0,some (bm dS ((nd.set (((t.getD ((z).toNat) tz).a).toNat) true).set (((t.getD ((z).toNat) tz).b).toNat) true)))] (zM<|zM<|zM<|zE (cR xW ((z).toNat) (tz:kC))<|zE (oFc uV)<|zE (nF uF)<|zE (xS el131 (((t.getD ((z).toNat) tz).b).toNat))<|zT (cU eK (((t.getD ((z).toNat) tz).b).toNat) true (h1:=by first | omega | (simp only[List.length_replicate,List.length_set];omega)))<|zZ) ?_
     refine kx [(6,(vi (z-1)))] [] (zM<|zE (zSb (z-1))<|zM<|zZ) ?_
     exact ⟨(z-1,(nd.set (t.getD z.toNat tz).a.toNat true).set (t.getD z.toNat tz).b.toNat true),wk,⟨by omega,by omega,by rw[List.length_set,List.length_set];exact hnl,ndL_step hz0 hnd (ndS_2 hne hk0 h4)⟩,(by first|omega|(dsimp only;omega))⟩
    ·replace h4:=xJ h4
     refine jH<|kx [(6,(vi (z-1)))] [] (zM<|zE (zSb (z-1))<|zM<|zZ) ?_
     exact ⟨(z-1,nd.set (t.getD z.toNat tz).a.toNat true),wk,⟨by omega,by omega,by rw[List.length_set];exact hnl,ndL_step hz0 hnd (ndS_1 hne hk0 h4)⟩,(by first|omega|(dsimp only;omega))⟩
   ·replace h3:=xJ h3
    refine jH<|kx [(6,(vi (z-1)))] [] (zM<|zE (zSb (z-1))<|zM<|zZ) ?_
    exact ⟨(z-1,nd),wk,⟨by omega,by omega,hnl,ndL_step hz0 hnd (ndS_0 hne h3)⟩,(by first|omega|(dsimp only;omega))⟩
 ·replace h1:=xJ h1
  have hnd2:=ndL_end h1 hnd
  refine kQ<|jB<|kx [(8,(.own 1 3 1 t.length))] [(1,some (bm jG (List.replicate t.length 0)))] (zM<|zE (yD xW)<|zH (oMk 1 jG (0:Int) t.length t.length uA ze3 zo3 by3)<|zM<|zZ) ?_
  refine jB<|kx [(9,(.own 2 72 7 0))] [(2,some (qL jK []))] (zOh 2 72 7<|zZ) ?_
  refine jB<|jB<|kx [(59,(vl 72 7 jK (List.take (m+1) t))),(60,(kJ (m+1))),(61,(kJ 0))] [] (zM<|zM<|zE (xO (m+1))<|zE (e_slc (l:=0) (h:=(m+1)) (kl:=.i64) (kh:=.i64) (es':=List.map jK (List.take (m+1) t)) (by exact rfl) xW (by exact rfl) (by exact rfl) (by exact rfl) (Nat.zero_le _) (by simp only[List.length_map];omega) (by rw[List.drop_zero,List.map_take]))<|zE (oLn xW (m+1) (hr:=by exact (by rw[List.length_map,List.length_take];congr 2;omega)))<|zM<|zZ) ?_
  refine jL<|kW (α:=Nat × List Int × List kC) (fun (k,nm,o)=>⟨[(5,(.own 0 4 1 t.length)),(8,(.own 1 3 1 t.length)),(9,(.own 2 72 7 o.length)),(59,(vl 72 7 jK (List.take (m+1) t))),(60,(kJ (m+1))),(61,(kJ k))],[(0,some (bm dS nd)),(1,some (bm jG nm)),(2,some (qL jK o))]⟩) (fun (k,nm,o)=>k<=m+1/\tmF t nd k=(nm,o)) (fun (k,nm,o)=>m+1-k) (0,List.replicate t.length 0,[]) wk ⟨Nat.zero_le _,rfl⟩ ?_
  rintro ⟨k,nm,o⟩ ⟨hk,hf⟩
  obtain ⟨hml,hol⟩:=tm_lenk hf
  refine jB<|kx [(62,(vb (decide (((k:Nat):Int)<(((m+1):Nat):Int)))))] [] (zE nD<|zZ) ?_
  refine jB<|jF rfl (fun h5=>?_) (fun h5=>?_)
  ·replace h5:=vW h5
   have hkm:k<m+1:=by omega
   refine jH<|jB<|jL<|jB<|kx [(10,(kJ k)),(11,(.ref 3 0))] [(3,some (bx (jK (t.getD k tz))))] (zM<|zE (cR xW k (tz:kC) (L:=(List.take (m+1) t)) (hj:=by first | omega | (rw[List.length_take];omega) | (simp only[List.length_take];omega)) (h1:=by first | omega | (rw[List.length_take];omega) | (simp only[List.length_take];omega)))<|zE (oQd (jK ((List.take (m+1) t).getD k tz)) (jK (t.getD k tz)) (dH eB) (by exact (by rw[show (List.take (m+1) t).getD k tz=t.getD k tz from take_getDr t tz hkm])))<|zH (vT 3 cO fA)<|zM<|zT (qU eB)<|zZ) ?_
   refine jB<|jB<|kx [(70,(vb (!(nd.getD k false))))] [] (zM<|zM<|zE (xS el131 k)<|zR (cV eK k (false:Bool))<|zE oNt<|zZ) ?_
   refine jF (b:=!(nd.getD k false)) rfl (fun h6=>?_) (fun h6=>?_)
   ·refine kQ<|kx [(61,(kJ (k+1)))] [] (zE (xO (k+1))<|zM<|zZ) ?_
    exact ⟨(k+1,nm,o),wk,⟨by omega,tmF_n hf h6⟩,(by first|omega|(dsimp only;omega))⟩
   ·have hne:=h6
    refine jH<|jB<|jB<|kx [(12,(vi (qW ((t.getD k tz).op))))] [] (zE (kL xU)<|zR (qK dA)<|zE (kF (j_kids ((t.getD k tz).op)))<|zM<|zZ) ?_
    refine jB<|kx [(75,(vb (decide (0<(qW ((t.getD k tz).op))))))] [] (zM<|zE eA<|zZ) ?_
    refine jF (b:=decide (0<(qW ((t.getD k tz).op)))) rfl (fun h7=>?_) (fun h7=>?_)
    ·replace h7:=vW h7
     have hk0:=h7
     obtain ⟨ha0,ha1⟩:=(hT k (by omega)).1 h7
     refine jB<|kx [] [(3,some (bx (jK (kC.mk ((t.getD k tz).op) (nm.getD (((t.getD k tz).a).toNat) 0) ((t.getD k tz).b) ((t.getD k tz).n)))))] (zM<|zE (kL qN)<|zR (qK uF)<|zE (xS uA (((t.getD k tz).a).toNat))<|zR (cV uF (((t.getD k tz).a).toNat) (0:Int))<|zE (kL qN)<|zT (qU uF)<|zZ) ?_
     refine jB<|kx [(83,(vb (decide (1<(qW ((t.getD k tz).op))))))] [] (zM<|zE eA<|zZ) ?_
     refine jF (b:=decide (1<(qW ((t.getD k tz).op)))) rfl (fun h8=>?_) (fun h8=>?_)
     ·replace h8:=vW h8
      obtain ⟨hb0,hb1⟩:=(hT k (by omega)).2 h8
      refine kx [] [(3,some (bx (jK (kC.mk ((t.getD k tz).op) (nm.getD (((t.getD k tz).a).toNat) 0) (nm.getD (((t.getD k tz).b).toNat) 0) ((t.getD k tz).n)))))] (zM<|zE (kL uV)<|zR (qK uF)<|zE (xS uA (((t.getD k tz).b).toNat) (hj:=by first | omega | (dsimp only;omega)) (h1:=by first | omega | (dsimp only;omega)))<|zR (cV uF (((t.getD k tz).b).toNat) (0:Int))<|zE (kL uV)<|zT (qU uF)<|zZ) ?_
      refine jB<|kx [] [(1,some (bm jG (nm.set k ((o.length:Nat):Int))))] (zM<|zM<|zM<|zE (oLo xW)<|zE (xS uA k)<|zT (cU uF k (((o.length:Nat):Int)) (h1:=by first | omega | (simp only[List.length_replicate,List.length_set];omega)))<|zZ) ?_
      refine kf [(9,(.own 2 72 7 ((o++[(kC.mk ((t.getD k tz).op) (nm.getD (((t.getD k tz).a).toNat) 0) (nm.getD (((t.getD k tz).b).toNat) 0) ((t.getD k tz).n))]).length)))] [(2,some (qL jK (o++[(kC.mk ((t.getD k tz).op) (nm.getD (((t.getD k tz).a).toNat) 0) (nm.getD (((t.getD k tz).b).toNat) 0) ((t.getD k tz).n))])))] (zM<|zR (kV eB)<|zE (oBs xW cO fA)<|zAS jK o [(kC.mk ((t.getD k tz).op) (nm.getD (((t.getD k tz).a).toNat) 0) (nm.getD (((t.getD k tz).b).toNat) 0) ((t.getD k tz).n))] rfl xW cO by72<|zM<|zF) ?_
      refine kx [(61,(kJ (k+1)))] [] (zE (xO (k+1))<|zM<|zZ) ?_
      exact ⟨(k+1,nm.set k ((o.length:Nat):Int),o++[kC.mk (t.getD k tz).op (nm.getD (t.getD k tz).a.toNat 0) (nm.getD (t.getD k tz).b.toNat 0) (t.getD k tz).n]),wk,⟨by omega,tmF_y hf hne (rnN_2 hk0 h8)⟩,(by first|omega|(dsimp only;omega))⟩
     ·replace h8:=xJ h8
      refine jH<|jB<|kx [] [(1,some (bm jG (nm.set k ((o.length:Nat):Int))))] (zM<|zM<|zM<|zE (oLo xW)<|zE (xS uA k)<|zT (cU uF k (((o.length:Nat):Int)) (h1:=by first | omega | (simp only[List.length_replicate,List.length_set];omega)))<|zZ) ?_
      refine kf [(9,(.own 2 72 7 ((o++[(kC.mk ((t.getD k tz).op) (nm.getD (((t.getD k tz).a).toNat) 0) ((t.getD k tz).b) ((t.getD k tz).n))]).length)))] [(2,some (qL jK (o++[(kC.mk ((t.getD k tz).op) (nm.getD (((t.getD k tz).a).toNat) 0) ((t.getD k tz).b) ((t.getD k tz).n))])))] (zM<|zR (kV eB)<|zE (oBs xW cO fA)<|zAS jK o [(kC.mk ((t.getD k tz).op) (nm.getD (((t.getD k tz).a).toNat) 0) ((t.getD k tz).b) ((t.getD k tz).n))] rfl xW cO by72<|zM<|zF) ?_
      refine kx [(61,(kJ (k+1)))] [] (zE (xO (k+1))<|zM<|zZ) ?_
      exact ⟨(k+1,nm.set k ((o.length:Nat):Int),o++[kC.mk (t.getD k tz).op (nm.getD (t.getD k tz).a.toNat 0) (t.getD k tz).b (t.getD k tz).n]),wk,⟨by omega,tmF_y hf hne (rnN_1 hk0 h8)⟩,(by first|omega|(dsimp only;omega))⟩
    ·replace h7:=xJ h7
     refine jH<|jB<|kx [] [(1,some (bm jG (nm.set k ((o.length:Nat):Int))))] (zM<|zM<|zM<|zE (oLo xW)<|zE (xS uA k)<|zT (cU uF k (((o.length:Nat):Int)) (h1:=by first | omega | (simp only[List.length_replicate,List.length_set];omega)))<|zZ) ?_
     refine kf [(9,(.own 2 72 7 ((o++[(t.getD k tz)]).length)))] [(2,some (qL jK (o++[(t.getD k tz)])))] (zM<|zR (kV eB)<|zE (oBs xW cO fA)<|zAS jK o [(t.getD k tz)] rfl xW cO by72<|zM<|zF) ?_
     refine kx [(61,(kJ (k+1)))] [] (zE (xO (k+1))<|zM<|zZ) ?_
     exact ⟨(k+1,nm.set k ((o.length:Nat):Int),o++[(t.getD k tz)]),wk,⟨by omega,tmF_y hf hne (rnN_0 h7)⟩,(by first|omega|(dsimp only;omega))⟩
  ·replace h5:=xJ h5
   refine kQ<|jB<|kx [(4,(.own 2 72 7 o.length))] [] (zM<|zM<|zZ) ?_
   refine qH (zY (t:=4) (k:=2) (es:=List.map jK o) rfl rfl (aG _ _ (fun _=>rfl)) (vY _ _ rfl) (pubs_take jK o (fun _=>rfl) rfl)) ?_
   refine jE ⟨_,(.tmp (d:=(.sl 72 7 (List.map jK o))) rfl .nil),?_⟩
   rw[show trimT t m=o from by unfold trimT;rw[<- hnd2,<- show k=m+1 by omega,hf]];rfl
end Go.Proofs.YtckccjhflbljgaaGreatDoor
