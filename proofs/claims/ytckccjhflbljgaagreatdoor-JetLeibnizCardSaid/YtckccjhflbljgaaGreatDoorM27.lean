/- Part 27 of a proof: rules, plain facts, and functions walked. -/
import Derived.Test.YtckccjhflbljgaaGreatDoorM26
import Derived.Test.YtckccjhflbljgaaGreatDoorM20
import Derived.Test.YtckccjhflbljgaaGreatDoorM18
import Derived.Test.YtckccjhflbljgaaGreatDoorM21
set_option linter.all false
set_option maxRecDepth 4000
namespace Go.Proofs.YtckccjhflbljgaaGreatDoor
open Go.Fid
theorem by3:zG Tryz.prog 3=some 8:=by kernel_rfl
theorem by72:zG Tryz.prog 72=some 88:=by kernel_rfl
theorem cb67:callB Tryz.prog 67=true:=by kernel_rfl
theorem cb110:callB Tryz.prog 110=true:=by kernel_rfl
theorem vE:uM Tryz.prog 23=some (72,7):=by kernel_rfl
theorem uI:uM Tryz.prog 74=some (3,1):=by kernel_rfl
theorem eqa130:eqaB Tryz.prog 130=some 3:=by kernel_rfl
theorem xV:uU Tryz.prog 72 0=some 0:=by kernel_rfl
theorem nR:uU Tryz.prog 72 3=some 3:=by kernel_rfl
theorem aR:uU Tryz.prog 103 0=some 0:=by kernel_rfl
theorem fo103_3:uU Tryz.prog 103 3=some 3:=by kernel_rfl
theorem fo103_4:uU Tryz.prog 103 4=some 4:=by kernel_rfl
theorem sh23:qD Tryz.prog 23=some (false,1):=by kernel_rfl
theorem dG:qD Tryz.prog 55=some (false,1):=by kernel_rfl
theorem cN:qD Tryz.prog 72=some (true,7):=by kernel_rfl
theorem sh74:qD Tryz.prog 74=some (false,1):=by kernel_rfl
theorem sk9:strKB Tryz.prog 9=true:=by kernel_rfl
theorem mD:vX Tryz.prog 72=some [.int .i64 0,.int .i64 0,.int .i64 0,.bool false,.slice none 0 0,.bool false,.slice none 0 0]:=by kernel_rfl
theorem dH:eL [.int .i64 0,.int .i64 0,.int .i64 0,.bool false,.slice none 0 0,.bool false,.slice none 0 0] [.val (.int .i64 0),.val (.int .i64 0),.val (.int .i64 0),.val (.bool false),.sl 107 1 [],.val (.bool false),.sl 107 1 []]:=by simp [eL,Value.oneCell']
theorem e_add(x:jO)(z:Int)(B:uQ)(hB:RBI B):xG Tryz.prog 110 [(.ref 0 0),(.d (jK x)),(vi z)] [(0,some [(.own 1 72 7 B.tm.length),(.mp 2),(.mp 3),(.own 4 3 1 B.us.length),(vb B.ov)]),(1,some (uK jK B.tm)),(2,some [.mo (uZ mJ vP B.kn)]),(3,some [.mo (uZ mN vP B.os)]),(4,some (bm jL B.us))] (.d (.val (.int .i64 ((qQ B x z).2)))) [(0,some [(.own 1 72 7 (((qQ B x z).1).tm.length)),(.mp 2),(.mp 3),(.own 4 3 1 (((qQ B x z).1).us.length)),(vb (((qQ B x z).1).ov))]),(1,some (uK jK (((qQ B x z).1).tm))),(2,some [.mo (uZ mJ vP (((qQ B x z).1).kn))]),(3,some [.mo (uZ mN vP (((qQ B x z).1).os))]),(4,some (bm jL (((qQ B x z).1).us)))]:=by
 have hbl:=hB.hl
 have hbu:=hB.hu
 refine yL Tryz.func110 rfl cb110 rfl ?_
 refine jB<|kx [(4,(.ref 5 0))] [(5,some (bx (jK x)))] (zH (xO 5)<|zM<|zZ) ?_
 refine jB<|jB<|kx [(16,(vb (decide (4096<z)||decide (400<=((B.tm.length:Nat):Int)))))] [] ?_ ?_
 ·refine zM<|zE dV<|zE (oV (vb (decide (4096<z))) (kW (by kernel_rfl)))<|?_
  rcases hb1:(decide (4096<z)) with _ | _
  ·replace hb1:=xC hb1
   exact zM<|zE oNc<|zE (kI aR)<|zR (qH sh23)<|zE (oLo vE)<|zE oGe<|zE aC<|zZ
  ·replace hb1:=vY hb1
   exact zK<|zK<|zK<|zK<|zK<|zK<|zE yH<|zZ
 refine jE rfl (fun h2=>?_) (fun h2=>?_)
 ·refine jB<|kx [] [(0,some [(.own 1 72 7 B.tm.length),(.mp 2),(.mp 3),(.own 4 3 1 B.us.length),(vb true)])] (zM<|zE oNc<|zE (kI fo103_4)<|zT (qJ aU)<|zZ) ?_
  refine jB<|kx [(6,(kF 0))] [] (zM<|zZ) ?_
  rw[bAdd_t (B:=B) (x:=x) (z:=z) h2]
  refine jF ⟨uC (by kernel_rfl),vB (by kernel_rfl),.inl ⟨_,(.tmp (d:=(.val (.int .i64 (0)))) rfl .nil),?_⟩⟩
  rfl
 ·have hlt:B.tm.length<400:=by have h9:=(Bool.or_eq_false_iff.1 h2).2;rw[decide_eq_false_iff_not] at h9;omega
  refine jD<|jB<|kd [] [(0,some [(.own 6 72 7 ((B.tm++[x]).length)),(.mp 2),(.mp 3),(.own 4 3 1 B.us.length),(vb B.ov)]),(6,some (uK jK (B.tm++[x]))),(1,none)] mo (wM<|wM<|wE oNc<|wE (kI aR)<|wR (qH sh23)<|wR (kP cN)<|wE (eY vE mD dH)<|wAS (k:=1) 6 jK B.tm [x] rfl vE mD by72<|wE oNc<|wE (kI aR)<|wT (oSx sh23)<|wZ) ?_
  refine qG (wk (l:=[(0,(.ref 0 0)),(2,(vi z))]) (b:=[(0,some [(.own 6 72 7 ((B.tm++[x]).length)),(.mp 2),(.mp 3),(.own 4 3 1 B.us.length),(vb B.ov)]),(2,some [.mo (uZ mJ vP B.kn)]),(3,some [.mo (uZ mN vP B.os)]),(4,some (bm jL B.us)),(6,some (uK jK (B.tm++[x])))])) ?_
  refine qG (sim_ren2 (S':=[(0,(.ref 0 0)),(2,(vi z))]) (B':=[(0,some [(.own 1 72 7 ((B.tm++[x]).length)),(.mp 2),(.mp 3),(.own 4 3 1 B.us.length),(vb B.ov)]),(1,some (uK jK (B.tm++[x]))),(2,some [.mo (uZ mJ vP B.kn)]),(3,some [.mo (uZ mN vP B.os)]),(4,some (bm jL B.us))]) 1 6 0) ?_
  refine jB<|kf [] [(0,some [(.own 1 72 7 ((B.tm++[x]).length)),(.mp 2),(.mp 3),(.own 4 3 1 ((B.us++[z]).length)),(vb B.ov)]),(4,some (bm jL (B.us++[z])))] (zM<|zM<|zE oNc<|zE (kI fo103_3)<|zR (qH sh74)<|zM<|zE (eY uI ze3 zo3)<|zAm 0 3 jL B.us [z] rfl uI ze3 by3 (hB:=by repeat first | exact clrn_nil _ _ | refine clrn_hide ?_ | refine clrn_self ?_ | refine clrn_map ?_ | refine clrn_none ?_ | refine clrn_bx ?_ | refine clrn_d ?_ | refine clrn_cons rfl ?_) (k:=4)<|zE oNc<|zE (kI fo103_3)<|zT (oSx sh74)<|zF) ?_
  refine jB<|kx [(6,(kF B.tm.length))] [] (zM<|zE oNc<|zE (kI aR)<|zR (qH sh23)<|zE (oLo vE)<|zE (oSb B.tm.length (hr:=by exact (by rw[List.length_append,List.length_singleton];exact wNat (by omega) (by simp only[kHiN];omega) (by decide))))<|zM<|zZ) ?_
  rw[bAdd_f (B:=B) (x:=x) (z:=z) h2]
  refine jF ⟨uC (by kernel_rfl),vB (by kernel_rfl),.inl ⟨_,(.tmp (d:=(.val (.int .i64 (((B.tm.length:Nat):Int))))) rfl .nil),?_⟩⟩
  rfl
theorem e_is(i:Int)(n:Int)(B:uQ)(hB:RBI B)(hi:gX B i)(hn1:-9223372036854775808<=n)(hn2:n<=9223372036854775807):xG Tryz.prog 67 [(.ref 0 0),(vi i),(vi n)] [(0,some [(.own 1 72 7 B.tm.length),(.mp 2),(.mp 3),(.own 4 3 1 B.us.length),(vb B.ov)]),(1,some (uK jK B.tm)),(2,some [.mo (uZ mJ vP B.kn)]),(3,some [.mo (uZ mN vP B.os)]),(4,some (bm jL B.us))] (.d (.val (.bool ((bIs B i n))))) [(0,some [(.own 1 72 7 B.tm.length),(.mp 2),(.mp 3),(.own 4 3 1 B.us.length),(vb B.ov)]),(1,some (uK jK B.tm)),(2,some [.mo (uZ mJ vP B.kn)]),(3,some [.mo (uZ mN vP B.os)]),(4,some (bm jL B.us))]:=by
 have hbl:=hB.hl
 have hi0:=hi.1
 have hi1:=hi.2
 refine yL Tryz.func67 rfl cb67 rfl ?_
 refine jB<|kx [] [] (zM<|zZ) ?_
 refine jB<|kd [(6,(vb ((decide (i<((B.tm.length:Nat):Int))&&((B.tm.getD ((i).toNat) tz).op == 0))&&((mE (vC ((B.tm.getD ((i).toNat) tz).n)) ((n:Int):Rat)) == 0))))] [] mo ?_ ?_
 ·refine wM<|wM<|wE oNc<|wE (kI aR)<|wR (qH sh23)<|wE (oLo vE)<|wE gZ<|wE (oV (vb (decide (i<((B.tm.length:Nat):Int)))) (kW (by kernel_rfl)))<|?_
  rcases hb1:(decide (i<((B.tm.length:Nat):Int))) with _ | _
  ·replace hb1:=xC hb1
   exact wK<|wK<|wK<|wK<|wK<|wK<|wK<|wK<|wK<|wE vL<|wM<|wK<|wK<|wK<|wK<|wK<|wK<|wK<|wK<|wK<|wK<|wK<|wK<|wE vL<|wM<|wZ
  ·replace hb1:=vY hb1
   refine wM<|wE oNc<|wE (kI aR)<|wR (qH sh23)<|wM<|wE (fK vE ((i).toNat))<|wE (kI xV)<|wR (oLs (s:=7) (i:=0) dG ((i).toNat) (tz:jO))<|wE xU<|wE aD<|wE (oV (vb (true&&((B.tm.getD ((i).toNat) tz).op == 0))) (kW (by kernel_rfl)))<|?_
   rcases hb2:((B.tm.getD ((i).toNat) tz).op == 0) with _ | _
   ·replace hb2:=ne_of_beq_false hb2
    exact wK<|wK<|wK<|wK<|wK<|wK<|wK<|wK<|wK<|wK<|wK<|wK<|wE vL<|wM<|wZ
   ·replace hb2:=eq_of_beq hb2
    exact wM<|wE oNc<|wE (kI aR)<|wR (qH sh23)<|wM<|wE (fK vE ((i).toNat))<|wE (kI nR)<|wR (mR (jG ((B.tm.getD ((i).toNat) tz).n)) (jG ((B.tm.getD ((i).toNat) tz).n)) (oLf (s:=7) (i:=3) jT ((i).toNat) (tz:jO) (jG ((B.tm.getD ((i).toNat) tz).n))) (by exact rfl))<|wM<|wE (jY (aX n (by omega) (by omega)))<|wE (jY (bT ((B.tm.getD ((i).toNat) tz).n) (jM ((n:Int):Rat)) (vC ((B.tm.getD ((i).toNat) tz).n)) ((n:Int):Rat) (jW (hB.q (show (i).toNat<B.tm.length by omega))) (jW (kC (zW (z:=n) (mU (by omega) (by omega)))))))<|wE xU<|wE aD<|wM<|wZ
 refine jF ⟨uC (by kernel_rfl),vB (by kernel_rfl),.inl ⟨_,(.tmp (d:=(.val (.bool (((decide (i<((B.tm.length:Nat):Int))&&((B.tm.getD ((i).toNat) tz).op == 0))&&((mE (vC ((B.tm.getD ((i).toNat) tz).n)) ((n:Int):Rat)) == 0)))))) rfl .nil),?_⟩⟩
 rfl
theorem ar130:arrB Tryz.prog 130=some (3,3,1):=by kernel_rfl
theorem cb61:callB Tryz.prog 61=true:=by kernel_rfl
theorem cb63:callB Tryz.prog 63=true:=by kernel_rfl
theorem fo103_1:uU Tryz.prog 103 1=some 1:=by kernel_rfl
theorem fo103_2:uU Tryz.prog 103 2=some 2:=by kernel_rfl
theorem mk100:mapKB Tryz.prog 100=some (130,3):=by kernel_rfl
theorem mk101:mapKB Tryz.prog 101=some (9,3):=by kernel_rfl
theorem pl72:eF Tryz.prog 72=some [(0,1),(1,1),(2,1),(3,4)]:=by kernel_rfl
theorem sh100:qD Tryz.prog 100=some (false,1):=by kernel_rfl
theorem sh101:qD Tryz.prog 101=some (false,1):=by kernel_rfl
theorem sh130:qD Tryz.prog 130=some (true,3):=by kernel_rfl
theorem ze130:vX Tryz.prog 130=some [.int .i64 0,.int .i64 0,.int .i64 0]:=by kernel_rfl
theorem zo130:eL [.int .i64 0,.int .i64 0,.int .i64 0] [.val (.int .i64 0),.val (.int .i64 0),.val (.int .i64 0)]:=by simp [eL,Value.oneCell']
theorem zv3:zeroVm Tryz.prog 3=some (.int .i64 0):=by kernel_rfl
theorem eT(o:Int)(i:Int)(k:Int)(B:uQ)(hB:RBI B)(ha:NdAr B o i k):xG Tryz.prog 63 [(.ref 0 0),(vi o),(vi i),(vi k)] [(0,some [(.own 1 72 7 B.tm.length),(.mp 2),(.mp 3),(.own 4 3 1 B.us.length),(vb B.ov)]),(1,some (uK jK B.tm)),(2,some [.mo (uZ mJ vP B.kn)]),(3,some [.mo (uZ mN vP B.os)]),(4,some (bm jL B.us))] (.d (.val (.int .i64 ((jJ B o i k).2)))) [(0,some [(.own 1 72 7 (((jJ B o i k).1).tm.length)),(.mp 2),(.mp 3),(.own 4 3 1 (((jJ B o i k).1).us.length)),(vb (((jJ B o i k).1).ov))]),(1,some (uK jK (((jJ B o i k).1).tm))),(2,some [.mo (uZ mJ vP (((jJ B o i k).1).kn))]),(3,some [.mo (uZ mN vP (((jJ B o i k).1).os))]),(4,some (bm jL (((jJ B o i k).1).us)))]:=by
 have hbl:=hB.hl
 have hbu:=hB.hu
 let y1:=uG
 refine yL Tryz.func63 rfl cb63 rfl ?_
 refine jB<|kx [] [] (zM<|zZ) ?_
 refine jB<|kx [(9,(.ref 5 0))] [(5,some (bx (encA130 (A3.mk o i k))))] (zM<|zM<|zM<|zE (oBf ar130 ze130 zo130)<|zH (vH 5 ze130 zo130)<|zT (qJ sh130)<|zZ) ?_
 refine jB<|jB<|kd [(10,(vi ((xF B.kn (o,i,k)).getD 0))),(11,(vb ((xF B.kn (o,i,k)).isSome)))] [] mo (wM<|wE oNc<|wE (kI fo103_1)<|wR (qH sh100)<|wR (kP sh130)<|wR (oGi (l:=B.kn) mk100 (keyT3 eqa130) zv3 (o,i,k) (fun _ _ _ h=>rep_T3 h))<|wM<|wE xJ<|wE xJ<|wM<|wM<|wZ) ?_
 refine jB<|kx [(33,(vb ((xF B.kn (o,i,k)).isSome||B.ov)))] [] ?_ ?_
 ·refine zM<|zE (oV (vb ((xF B.kn (o,i,k)).isSome)) (kW (by kernel_rfl)))<|?_
  rcases hb1:((xF B.kn (o,i,k)).isSome) with _ | _
  ·exact zM<|zE oNc<|zE (kI fo103_4)<|zR (qH aU)<|zE aC<|zZ
  ·exact zK<|zK<|zK<|zK<|zE yH<|zZ
 refine jE (b:=((xF B.kn (o,i,k)).isSome||B.ov)) rfl (fun h2=>?_) (fun h2=>?_)
 ·refine jB<|kx [(8,(vi ((xF B.kn (o,i,k)).getD 0)))] [] (zM<|zM<|zZ) ?_
  rw[iK (B:=B) (o:=o) (i:=i) (k:=k) h2]
  refine jF ⟨uC (by kernel_rfl),vB (by kernel_rfl),.inl ⟨_,(.tmp (d:=(.val (.int .i64 (((xF B.kn (o,i,k)).getD 0))))) rfl .nil),?_⟩⟩
  rfl
 ·refine jD<|jB<|kx [(12,(kF 1))] [] (zM<|zZ) ?_
  refine pwp_seqjoin (α:=Int) (fun v=>⟨[(0,(.ref 0 0)),(1,(vi o)),(2,(vi i)),(3,(vi k)),(9,(.ref 5 0)),(12,(vi v))],[(0,some [(.own 1 72 7 B.tm.length),(.mp 2),(.mp 3),(.own 4 3 1 B.us.length),(vb B.ov)]),(1,some (uK jK B.tm)),(2,some [.mo (uZ mJ vP B.kn)]),(3,some [.mo (uZ mN vP B.os)]),(4,some (bm jL B.us)),(5,some (bx (encA130 (A3.mk o i k))))]⟩) (fun v=>v=bSz B o i k) ?_ ?_
  ·refine jB<|kx [(35,(vb (o == 6)))] [] (zM<|zE xU<|zM<|zZ) ?_
   refine jE (b:=(o == 6)) rfl (fun h3=>?_) (fun h3=>?_)
   ·replace h3:=eq_of_beq h3
    obtain ⟨⟨a1,a2⟩,⟨a3,a4⟩,a5,a6⟩:=ha.ge2 hB (show o≠1 by omega)
    refine kx [(12,(vi (B.us.getD ((i).toNat) 0)))] [] (zM<|zE oNc<|zE (kI fo103_3)<|zR (qH sh74)<|zM<|zE (yE uI ((i).toNat))<|zR (eZ qZ ((i).toNat) (0:Int))<|zM<|zZ) ?_
    exact ⟨(B.us.getD i.toNat 0),wk,(bSz_6 h3)⟩
   ·replace h3:=ne_of_beq_false h3
    refine jB<|kx [(45,(vb (o == 7)))] [] (zM<|zE xU<|zM<|zZ) ?_
    refine jE (b:=(o == 7)) rfl (fun h4=>?_) (fun h4=>?_)
    ·replace h4:=eq_of_beq h4
     obtain ⟨⟨a1,a2⟩,⟨a3,a4⟩,a5,a6⟩:=ha.ge2 hB (show o≠1 by omega)
     refine kx [(12,(vi (2*(B.us.getD ((i).toNat) 0))))] [] (zM<|zE oNc<|zE (kI fo103_3)<|zR (qH sh74)<|zM<|zE (yE uI ((i).toNat))<|zR (eZ qZ ((i).toNat) (0:Int))<|zE (zMl (2*(B.us.getD ((i).toNat) 0)))<|zM<|zZ) ?_
     exact ⟨(2*B.us.getD i.toNat 0),wk,(bSz_7 h3 h4)⟩
    ·replace h4:=ne_of_beq_false h4
     refine jB<|kx [(56,(vb ((kZ o) == 2)))] [] (zM<|zE (jY (j_kids o))<|zE xU<|zM<|zZ) ?_
     refine jE (b:=((kZ o) == 2)) rfl (fun h5=>?_) (fun h5=>?_)
     ·replace h5:=eq_of_beq h5
      obtain ⟨⟨a1,a2⟩,⟨a3,a4⟩,a5,a6⟩:=ha.ge2 hB (show o≠1 from fun e=>by rw[e] at h5;revert h5;decide)
      refine kd [(12,(vi ((B.us.getD ((i).toNat) 0)+(B.us.getD ((k).toNat) 0))))] [] mo (wM<|wE oNc<|wE (kI fo103_3)<|wR (qH sh74)<|wM<|wE (yE uI ((i).toNat))<|wR (eZ qZ ((i).toNat) (0:Int))<|wM<|wE oNc<|wE (kI fo103_3)<|wR (qH sh74)<|wM<|wE (yE uI ((k).toNat))<|wR (eZ qZ ((k).toNat) (0:Int))<|wE (zAd ((B.us.getD ((i).toNat) 0)+(B.us.getD ((k).toNat) 0)))<|wM<|wZ) ?_
      exact ⟨(B.us.getD i.toNat 0+B.us.getD k.toNat 0),wk,(bSz_2 h3 h4 h5)⟩
     ·replace h5:=ne_of_beq_false h5
      refine jD ?_
      exact ⟨1,wk,(bSz_1 h3 h4 h5)⟩
  ·rintro v hv
   refine jB<|kf [(13,(vi ((qQ B (jO.mk o i k y1) v).2)))] [(0,some [(.own 1 72 7 (((qQ B (jO.mk o i k y1) v).1).tm.length)),(.mp 2),(.mp 3),(.own 4 3 1 (((qQ B (jO.mk o i k y1) v).1).us.length)),(vb (((qQ B (jO.mk o i k y1) v).1).ov))]),(1,some (uK jK (((qQ B (jO.mk o i k y1) v).1).tm))),(2,some [.mo (uZ mJ vP (((qQ B (jO.mk o i k y1) v).1).kn))]),(3,some [.mo (uZ mN vP (((qQ B (jO.mk o i k y1) v).1).os))]),(4,some (bm jL (((qQ B (jO.mk o i k y1) v).1).us)))] (zM<|zM<|zM<|zM<|zE (oBd pl72 mD dH)<|zM<|zSe (B2:=[(0,some [(.own 1 72 7 B.tm.length),(.mp 2),(.mp 3),(.own 4 3 1 B.us.length),(vb B.ov)]),(1,some (uK jK B.tm)),(2,some [.mo (uZ mJ vP B.kn)]),(3,some [.mo (uZ mN vP B.os)]),(4,some (bm jL B.us))]) (B2':=[(0,some [(.own 1 72 7 (((qQ B (jO.mk o i k y1) v).1).tm.length)),(.mp 2),(.mp 3),(.own 4 3 1 (((qQ B (jO.mk o i k y1) v).1).us.length)),(vb (((qQ B (jO.mk o i k y1) v).1).ov))]),(1,some (uK jK (((qQ B (jO.mk o i k y1) v).1).tm))),(2,some [.mo (uZ mJ vP (((qQ B (jO.mk o i k y1) v).1).kn))]),(3,some [.mo (uZ mN vP (((qQ B (jO.mk o i k y1) v).1).os))]),(4,some (bm jL (((qQ B (jO.mk o i k y1) v).1).us)))]) [0,1,2,3,4] [0] (e_add (jO.mk o i k y1) v B hB)<|zM<|zF) ?_
   refine jB<|kd [] [(2,some [.mo (uZ mJ vP ((((qQ B (jO.mk o i k y1) v).1).kn)++[((o,i,k),(qQ B (jO.mk o i k y1) v).2)]))])] mo (wM<|wE oNc<|wE (kI fo103_1)<|wR (qH sh100)<|wR (kP sh130)<|wM<|wT (oIi (l:=((qQ B (jO.mk o i k y1) v).1).kn) mk100 (keyT3 eqa130) (o,i,k) ((qQ B (jO.mk o i k y1) v).2) (fun _ _ _ h=>rep_T3 h) (by rw[(bAdd_os _ _ _).2];exact (Bool.or_eq_false_iff.1 h2).1))<|wZ) ?_
   refine jB<|kx [(8,(vi ((qQ B (jO.mk o i k y1) v).2)))] [] (zM<|zM<|zZ) ?_
   rw[bNode_f (B:=B) (o:=o) (i:=i) (k:=k) (z:=v) h2 hv]
   refine jF ⟨uC (by kernel_rfl),vB (by kernel_rfl),.inl ⟨_,(.tmp (d:=(.val (.int .i64 ((qQ B (jO.mk o i k uG) v).2)))) rfl .nil),?_⟩⟩
   rfl
def lI(q:Rat):Prop:=jQ Tryz.prog 109 [jG (jM q)] (.val (.string (txQ q)))
theorem p_text(q:Rat)(hq:QL q 1048576)(ht:lI q):jQ Tryz.prog 109 [jG (jM q)] (.val (.string (txQ q))):=ht
theorem e_num(q:Rat)(hq:QL q 1048576)(B:uQ)(hB:RBI B)(ht:lI q):xG Tryz.prog 61 [(.ref 0 0),(.d (jG (jM q)))] [(0,some [(.own 1 72 7 B.tm.length),(.mp 2),(.mp 3),(.own 4 3 1 B.us.length),(vb B.ov)]),(1,some (uK jK B.tm)),(2,some [.mo (uZ mJ vP B.kn)]),(3,some [.mo (uZ mN vP B.os)]),(4,some (bm jL B.us))] (.d (.val (.int .i64 ((vN B q).2)))) [(0,some [(.own 1 72 7 (((vN B q).1).tm.length)),(.mp 2),(.mp 3),(.own 4 3 1 (((vN B q).1).us.length)),(vb (((vN B q).1).ov))]),(1,some (uK jK (((vN B q).1).tm))),(2,some [.mo (uZ mJ vP (((vN B q).1).kn))]),(3,some [.mo (uZ mN vP (((vN B q).1).os))]),(4,some (bm jL (((vN B q).1).us)))]:=by
 have hbl:=hB.hl
 have hbu:=hB.hu
 refine yL Tryz.func61 rfl cb61 rfl ?_
 refine jB<|kx [(3,(.ref 5 0))] [(5,some (bx (jG (jM q))))] (zH (xO 5)<|zM<|zZ) ?_
 refine jB<|kx [(5,(.d (.val (.string (txQ q)))))] [] (zR (kP jT)<|zE (jY (p_text q hq ht))<|zM<|zZ) ?_
 refine jB<|jB<|kx [(6,(vi ((xF B.os (txQ q)).getD 0))),(7,(vb ((xF B.os (txQ q)).isSome)))] [] (zM<|zE oNc<|zE (kI fo103_2)<|zR (qH sh101)<|zM<|zR (oGi (l:=B.os) mk101 (keySt sk9) zv3 (txQ q) (fun _ _ _ h=>vO h))<|zM<|zE xJ<|zE xJ<|zM<|zM<|zZ) ?_
 refine jB<|kx [(20,(vb ((xF B.os (txQ q)).isSome)))] [] (zM<|zZ) ?_
 refine jE (b:=(xF B.os (txQ q)).isSome) rfl (fun h1=>?_) (fun h1=>?_)
 ·refine jB<|kx [(4,(vi ((xF B.os (txQ q)).getD 0)))] [] (zM<|zM<|zZ) ?_
  rw[bNum_t (B:=B) (q:=q) h1]
  refine jF ⟨uC (by kernel_rfl),vB (by kernel_rfl),.inl ⟨_,(.tmp (d:=(.val (.int .i64 (((xF B.os (txQ q)).getD 0))))) rfl .nil),?_⟩⟩
  rfl
 ·refine jD<|jB<|kf [(8,(vi ((qQ B (jO.mk 0 0 0 (jM q)) 1).2)))] [(0,some [(.own 1 72 7 (((qQ B (jO.mk 0 0 0 (jM q)) 1).1).tm.length)),(.mp 2),(.mp 3),(.own 4 3 1 (((qQ B (jO.mk 0 0 0 (jM q)) 1).1).us.length)),(vb (((qQ B (jO.mk 0 0 0 (jM q)) 1).1).ov))]),(1,some (uK jK (((qQ B (jO.mk 0 0 0 (jM q)) 1).1).tm))),(2,some [.mo (uZ mJ vP (((qQ B (jO.mk 0 0 0 (jM q)) 1).1).kn))]),(3,some [.mo (uZ mN vP (((qQ B (jO.mk 0 0 0 (jM q)) 1).1).os))]),(4,some (bm jL (((qQ B (jO.mk 0 0 0 (jM q)) 1).1).us)))] (zM<|zR (kP jT)<|zE (oBd pl72 mD dH)<|zSe (B2:=[(0,some [(.own 1 72 7 B.tm.length),(.mp 2),(.mp 3),(.own 4 3 1 B.us.length),(vb B.ov)]),(1,some (uK jK B.tm)),(2,some [.mo (uZ mJ vP B.kn)]),(3,some [.mo (uZ mN vP B.os)]),(4,some (bm jL B.us))]) (B2':=[(0,some [(.own 1 72 7 (((qQ B (jO.mk 0 0 0 (jM q)) 1).1).tm.length)),(.mp 2),(.mp 3),(.own 4 3 1 (((qQ B (jO.mk 0 0 0 (jM q)) 1).1).us.length)),(vb (((qQ B (jO.mk 0 0 0 (jM q)) 1).1).ov))]),(1,some (uK jK (((qQ B (jO.mk 0 0 0 (jM q)) 1).1).tm))),(2,some [.mo (uZ mJ vP (((qQ B (jO.mk 0 0 0 (jM q)) 1).1).kn))]),(3,some [.mo (uZ mN vP (((qQ B (jO.mk 0 0 0 (jM q)) 1).1).os))]),(4,some (bm jL (((qQ B (jO.mk 0 0 0 (jM q)) 1).1).us)))]) [0,1,2,3,4] [0] (e_add (jO.mk 0 0 0 (jM q)) 1 B hB)<|zM<|zF) ?_
  refine jB<|kx [] [(3,some [.mo (uZ mN vP ((((qQ B (jO.mk 0 0 0 (jM q)) 1).1).os)++[((txQ q),(qQ B (jO.mk 0 0 0 (jM q)) 1).2)]))])] (zM<|zE oNc<|zE (kI fo103_2)<|zR (qH sh101)<|zM<|zM<|zT (oIi (l:=((qQ B (jO.mk 0 0 0 (jM q)) 1).1).os) mk101 (keySt sk9) (txQ q) ((qQ B (jO.mk 0 0 0 (jM q)) 1).2) (fun _ _ _ h=>vO h) (by rw[(bAdd_os _ _ _).1];exact h1))<|zZ) ?_
  refine jB<|kx [(4,(vi ((qQ B (jO.mk 0 0 0 (jM q)) 1).2)))] [] (zM<|zM<|zZ) ?_
  rw[bNum_f (B:=B) (q:=q) h1]
  refine jF ⟨uC (by kernel_rfl),vB (by kernel_rfl),.inl ⟨_,(.tmp (d:=(.val (.int .i64 ((qQ B (jO.mk 0 0 0 (jM q)) 1).2)))) rfl .nil),?_⟩⟩
  rfl
theorem cmp1_ne{d:Nat}(h:d≠1):(uT (d:Int) 1)≠0:=by
 unfold uT
 by_cases h1:(d:Int)<1
 ·rw[if_pos h1];decide
 ·rw[if_neg h1,if_pos (by omega)];decide
theorem dgs_l:∀ (f n:Nat),(dgs f n).length<=f
 |0,_=>by simp [dgs]
 |f+1,n=>by
  unfold dgs
  by_cases h:n<10
  ·rw[if_pos h];simp
  ·rw[if_neg h];have:=dgs_l f (n / 10);simp;omega
theorem pads_l:∀ l:List Nat,((l.map iU).flatten).length<=29*l.length
 |[]=>by simp
 |d::l=>by
  have h1:=pads_l l
  have h2:(iU d).length<=29:=by unfold iU;have:=dgs_l 20 d;rw[List.length_append,List.length_replicate];unfold itN at *;omega
  rw[List.map_cons,List.flatten_cons,List.length_append,List.length_cons];omega
theorem txN_l(n:Nat):(txN n).length<=29*(ofNat n).length+29:=by
 unfold txN
 by_cases h:(ofNat n).length=0
 ·rw[if_pos h];simp
 ·rw[if_neg h]
  rcases hr:(ofNat n).reverse with _ | ⟨d,l⟩
  ·simp [txG]
  ·have h1:=pads_l l
   have h2:=congrArg List.length hr
   rw[List.length_reverse,List.length_cons] at h2
   have h3:=dgs_l 20 d
   unfold txG itN
   rw[List.length_append];omega
theorem txZ_l(z:Int):(aF z).length<=29*(ofNat z.natAbs).length+30:=by
 have:=txN_l z.natAbs
 unfold aF
 by_cases h:z<0
 ·rw[if_pos h,List.length_cons];omega
 ·rw[if_neg h];omega
theorem tx_l1{q:Rat}(hq:QL q 1048576):(ByteArray.mk #[47]).size+(⟨(aF ((q.den:Nat):Int)).toArray⟩:ByteArray).size<9223372036854775808:=by
 have h:=txZ_l ((q.den:Nat):Int)
 have h2:(ofNat ((q.den:Nat):Int).natAbs).length<=1048576:=hq.2
 show 1+(aF ((q.den:Nat):Int)).length<_
 omega
theorem tx_l2{q:Rat}(hq:QL q 1048576):(⟨(aF q.num).toArray⟩:ByteArray).size+(ByteArray.mk #[47]++(⟨(aF ((q.den:Nat):Int)).toArray⟩:ByteArray)).size<9223372036854775808:=by
 have h:=txZ_l ((q.den:Nat):Int)
 have h2:(ofNat ((q.den:Nat):Int).natAbs).length<=1048576:=hq.2
 have h3:=txZ_l q.num
 have h4:(ofNat q.num.natAbs).length<=1048576:=hq.1
 rw[ByteArray.size_append]
 show (aF q.num).length+(1+(aF ((q.den:Nat):Int)).length)<_
 omega
theorem tx_join{q:Rat}(hd:q.den≠1):(⟨(aF q.num).toArray⟩:ByteArray)++(ByteArray.mk #[47]++(⟨(aF ((q.den:Nat):Int)).toArray⟩:ByteArray))=txQ q:=by
 unfold txQ
 rw[if_neg hd]
 apply ByteArray.ext
 simp [ByteArray.data_append]
def TextZ(z:Int):Prop:=jQ Tryz.prog 168 [jR (kH z)] (.val (.string ⟨(aF z).toArray⟩))
theorem p_textZ(z:Int)(hz:dP (kH z) z 1048576)(ht:TextZ z):jQ Tryz.prog 168 [jR (kH z)] (.val (.string ⟨(aF z).toArray⟩)):=ht
theorem p_textW(q:Rat)(hq:QL q 1048576)(hd:q.den=1)(ht:TextZ q.num):jQ Tryz.prog 109 [(jG (jM q))] (.val (.string (txQ q))):=by
 refine uR Tryz.func109 ?_
 refine jB<|kx [(1,(.ref 0 0))] [(0,some (bx (jG (jM q))))] (zN (xO 0)<|zM<|zZ) ?_
 refine jB<|kx [] [(0,some (bx (jG (jM q))))] (zR (kP jT)<|zE (jY (cC (jM q) q (jW (kC hq))))<|zT (qJ jT)<|zZ) ?_
 refine jB<|kx [(3,(.d (.val (.string (⟨(aF q.num).toArray⟩:ByteArray)))))] [] (zE (kI xD)<|zR (kP kB)<|zE (jY (p_textZ q.num (qR hq) ht))<|zM<|zZ) ?_
 refine jB<|jB<|kd [(13,(vb false))] [] mo (wE (kI vF)<|wR (kP kB)<|wE (jY (t_of 1))<|wE (jY (s_compare (qN hq) (iE (z:=1))))<|wE (vS false cK (by exact bne_eq_false_iff_eq.2 (by rw[hd];decide)))<|wZ) ?_
 refine qE ?_
 refine jD<|jB<|kx [(2,(.d (.val (.string (⟨(aF q.num).toArray⟩:ByteArray)))))] [] (zM<|zM<|zZ) ?_
 refine jF ⟨_,(.tmp (d:=(.val (.string (⟨(aF q.num).toArray⟩:ByteArray)))) rfl .nil),?_⟩
 unfold txQ;rw[if_pos hd];rfl
theorem p_textF(q:Rat)(hq:QL q 1048576)(hd:q.den≠1)(ht:TextZ q.num)(ht2:TextZ ((q.den:Nat):Int)):jQ Tryz.prog 109 [(jG (jM q))] (.val (.string (txQ q))):=by
 refine uR Tryz.func109 ?_
 refine jB<|kx [(1,(.ref 0 0))] [(0,some (bx (jG (jM q))))] (zN (xO 0)<|zM<|zZ) ?_
 refine jB<|kx [] [(0,some (bx (jG (jM q))))] (zR (kP jT)<|zE (jY (cC (jM q) q (jW (kC hq))))<|zT (qJ jT)<|zZ) ?_
 refine jB<|kx [(3,(.d (.val (.string (⟨(aF q.num).toArray⟩:ByteArray)))))] [] (zE (kI xD)<|zR (kP kB)<|zE (jY (p_textZ q.num (qR hq) ht))<|zM<|zZ) ?_
 refine jB<|jB<|kd [(13,(vb true))] [] mo (wE (kI vF)<|wR (kP kB)<|wE (jY (t_of 1))<|wE (jY (s_compare (qN hq) (iE (z:=1))))<|wE (vS true cK (by exact bne_iff_ne.2 (cmp1_ne hd)))<|wZ) ?_
 refine xQ ?_
 refine kx [(3,(.d (.val (.string ((⟨(aF q.num).toArray⟩:ByteArray)++((ByteArray.mk #[47])++(⟨(aF (q.den:Int)).toArray⟩:ByteArray)))))))] [] (zM<|zE (kI vF)<|zR (kP kB)<|zE (jY (p_textZ (q.den:Int) (qN hq) ht2))<|zE (oAst ((ByteArray.mk #[47])++(⟨(aF (q.den:Int)).toArray⟩:ByteArray)) (hl:=(by first | exact tx_l1 hq | exact tx_l2 hq)))<|zE (oAst ((⟨(aF q.num).toArray⟩:ByteArray)++((ByteArray.mk #[47])++(⟨(aF (q.den:Int)).toArray⟩:ByteArray))) (hl:=(by first | exact tx_l1 hq | exact tx_l2 hq)))<|zM<|zZ) ?_
 refine jB<|kx [(2,(.d (.val (.string ((⟨(aF q.num).toArray⟩:ByteArray)++((ByteArray.mk #[47])++(⟨(aF (q.den:Int)).toArray⟩:ByteArray)))))))] [] (zM<|zM<|zZ) ?_
 refine jF ⟨_,(.tmp (d:=(.val (.string ((⟨(aF q.num).toArray⟩:ByteArray)++((ByteArray.mk #[47])++(⟨(aF (q.den:Int)).toArray⟩:ByteArray)))))) rfl .nil),?_⟩
 rw[tx_join hd];rfl
theorem ofNat_one{n:Nat}(h:n<1000000000){d:Nat}(hd:d∈ofNat n\/d=0):d<=n:=by
 rcases hd with hd | rfl
 ·by_cases h0:n=0
  ·subst h0;rw[uA] at hd;cases hd
  ·rw[nQ h0,Nat.mod_eq_of_lt h,Nat.div_eq_of_lt h,uA,List.mem_singleton] at hd;omega
 ·omega
theorem tz_small(z:Int)(h:z.natAbs<100):TextZ z:=t_text z (Nat.le_trans (xB (by omega)) (by decide)) fun d hd=>itA_small d (by have:=ofNat_one (by omega) hd;omega)
theorem tz_all(z:Int)(h:dE z<=1000000):TextZ z:=t_text z h fun d hd=>itA d (by
 rcases hd with hd | rfl
 ·exact kE _ _ hd
 ·decide)
theorem tx_all(q:Rat)(h:QL q 1000000):lI q:=by
 by_cases hd:q.den=1
 ·exact p_textW q (uE h) hd (tz_all _ h.1)
 ·exact p_textF q (uE h) hd (tz_all _ h.1) (tz_all _ h.2)
theorem bZ(z:Int)(h:z.natAbs<100:=by decide):lI ((z:Int):Rat):=p_textW _ (ql_i (by omega)) (Rat.den_intCast z) (by rw[Rat.num_intCast];exact tz_small z h)
theorem cb64:callB Tryz.prog 64=true:=by kernel_rfl
theorem cb65:callB Tryz.prog 65=true:=by kernel_rfl
theorem cb66:callB Tryz.prog 66=true:=by kernel_rfl
theorem e_sum(i:Int)(k:Int)(B:uQ)(hB:RBI B)(hi:gX B i)(hk:gX B k):xG Tryz.prog 66 [(.ref 0 0),(vi i),(vi k)] [(0,some [(.own 1 72 7 B.tm.length),(.mp 2),(.mp 3),(.own 4 3 1 B.us.length),(vb B.ov)]),(1,some (uK jK B.tm)),(2,some [.mo (uZ mJ vP B.kn)]),(3,some [.mo (uZ mN vP B.os)]),(4,some (bm jL B.us))] (.d (.val (.int .i64 ((yU B i k).2)))) [(0,some [(.own 1 72 7 (((yU B i k).1).tm.length)),(.mp 2),(.mp 3),(.own 4 3 1 (((yU B i k).1).us.length)),(vb (((yU B i k).1).ov))]),(1,some (uK jK (((yU B i k).1).tm))),(2,some [.mo (uZ mJ vP (((yU B i k).1).kn))]),(3,some [.mo (uZ mN vP (((yU B i k).1).os))]),(4,some (bm jL (((yU B i k).1).us)))]:=by
 have hbl:=hB.hl
 have hbu:=hB.hu
 refine yL Tryz.func66 rfl cb66 rfl ?_
 refine jB<|kx [] [] (zM<|zZ) ?_
 refine jB<|jH<|jB<|kf [(7,(vb (bIs B i 0)))] [(0,some [(.own 1 72 7 B.tm.length),(.mp 2),(.mp 3),(.own 4 3 1 B.us.length),(vb B.ov)]),(1,some (uK jK B.tm)),(2,some [.mo (uZ mJ vP B.kn)]),(3,some [.mo (uZ mN vP B.os)]),(4,some (bm jL B.us))] (zM<|zM<|zSe (B2:=[(0,some [(.own 1 72 7 B.tm.length),(.mp 2),(.mp 3),(.own 4 3 1 B.us.length),(vb B.ov)]),(1,some (uK jK B.tm)),(2,some [.mo (uZ mJ vP B.kn)]),(3,some [.mo (uZ mN vP B.os)]),(4,some (bm jL B.us))]) (B2':=[(0,some [(.own 1 72 7 B.tm.length),(.mp 2),(.mp 3),(.own 4 3 1 B.us.length),(vb B.ov)]),(1,some (uK jK B.tm)),(2,some [.mo (uZ mJ vP B.kn)]),(3,some [.mo (uZ mN vP B.os)]),(4,some (bm jL B.us))]) [0,1,2,3,4] [0] (e_is i 0 B hB hi (by omega) (by omega))<|zM<|zF) ?_
 refine jE (b:=(bIs B i 0)) rfl (fun h1=>?_) (fun h1=>?_)
 ·refine jB<|kx [(6,(vi k))] [] (zM<|zM<|zZ) ?_
  rw[bSum_1 h1]
  refine jF ⟨uC (by kernel_rfl),vB (by kernel_rfl),.inl ⟨_,(.tmp (d:=(.val (.int .i64 (k)))) rfl .nil),?_⟩⟩
  rfl
 ·refine jB<|kf [(12,(vb (bIs B k 0)))] [(0,some [(.own 1 72 7 B.tm.length),(.mp 2),(.mp 3),(.own 4 3 1 B.us.length),(vb B.ov)]),(1,some (uK jK B.tm)),(2,some [.mo (uZ mJ vP B.kn)]),(3,some [.mo (uZ mN vP B.os)]),(4,some (bm jL B.us))] (zM<|zM<|zSe (B2:=[(0,some [(.own 1 72 7 B.tm.length),(.mp 2),(.mp 3),(.own 4 3 1 B.us.length),(vb B.ov)]),(1,some (uK jK B.tm)),(2,some [.mo (uZ mJ vP B.kn)]),(3,some [.mo (uZ mN vP B.os)]),(4,some (bm jL B.us))]) (B2':=[(0,some [(.own 1 72 7 B.tm.length),(.mp 2),(.mp 3),(.own 4 3 1 B.us.length),(vb B.ov)]),(1,some (uK jK B.tm)),(2,some [.mo (uZ mJ vP B.kn)]),(3,some [.mo (uZ mN vP B.os)]),(4,some (bm jL B.us))]) [0,1,2,3,4] [0] (e_is k 0 B hB hk (by omega) (by omega))<|zM<|zF) ?_
  refine jE (b:=(bIs B k 0)) rfl (fun h2=>?_) (fun h2=>?_)
  ·refine jB<|kx [(6,(vi i))] [] (zM<|zM<|zZ) ?_
   rw[bSum_2 h1 h2]
   refine jF ⟨uC (by kernel_rfl),vB (by kernel_rfl),.inl ⟨_,(.tmp (d:=(.val (.int .i64 (i)))) rfl .nil),?_⟩⟩
   rfl
  ·refine jD<|jB<|kf [(6,(vi ((jJ B 2 i k).2)))] [(0,some [(.own 1 72 7 (((jJ B 2 i k).1).tm.length)),(.mp 2),(.mp 3),(.own 4 3 1 (((jJ B 2 i k).1).us.length)),(vb (((jJ B 2 i k).1).ov))]),(1,some (uK jK (((jJ B 2 i k).1).tm))),(2,some [.mo (uZ mJ vP (((jJ B 2 i k).1).kn))]),(3,some [.mo (uZ mN vP (((jJ B 2 i k).1).os))]),(4,some (bm jL (((jJ B 2 i k).1).us)))] (zM<|zM<|zM<|zSe (B2:=[(0,some [(.own 1 72 7 B.tm.length),(.mp 2),(.mp 3),(.own 4 3 1 B.us.length),(vb B.ov)]),(1,some (uK jK B.tm)),(2,some [.mo (uZ mJ vP B.kn)]),(3,some [.mo (uZ mN vP B.os)]),(4,some (bm jL B.us))]) (B2':=[(0,some [(.own 1 72 7 (((jJ B 2 i k).1).tm.length)),(.mp 2),(.mp 3),(.own 4 3 1 (((jJ B 2 i k).1).us.length)),(vb (((jJ B 2 i k).1).ov))]),(1,some (uK jK (((jJ B 2 i k).1).tm))),(2,some [.mo (uZ mJ vP (((jJ B 2 i k).1).kn))]),(3,some [.mo (uZ mN vP (((jJ B 2 i k).1).os))]),(4,some (bm jL (((jJ B 2 i k).1).us)))]) [0,1,2,3,4] [0] (eT 2 i k B hB (.inr ⟨by decide,by decide,hi,hk⟩))<|zM<|zF) ?_
   rw[bSum_3 h1 h2]
   refine jF ⟨uC (by kernel_rfl),vB (by kernel_rfl),.inl ⟨_,(.tmp (d:=(.val (.int .i64 ((jJ B 2 i k).2)))) rfl .nil),?_⟩⟩
   rfl
theorem e_dif(i:Int)(k:Int)(B:uQ)(hB:RBI B)(hi:gX B i)(hk:gX B k):xG Tryz.prog 64 [(.ref 0 0),(vi i),(vi k)] [(0,some [(.own 1 72 7 B.tm.length),(.mp 2),(.mp 3),(.own 4 3 1 B.us.length),(vb B.ov)]),(1,some (uK jK B.tm)),(2,some [.mo (uZ mJ vP B.kn)]),(3,some [.mo (uZ mN vP B.os)]),(4,some (bm jL B.us))] (.d (.val (.int .i64 ((qU B i k).2)))) [(0,some [(.own 1 72 7 (((qU B i k).1).tm.length)),(.mp 2),(.mp 3),(.own 4 3 1 (((qU B i k).1).us.length)),(vb (((qU B i k).1).ov))]),(1,some (uK jK (((qU B i k).1).tm))),(2,some [.mo (uZ mJ vP (((qU B i k).1).kn))]),(3,some [.mo (uZ mN vP (((qU B i k).1).os))]),(4,some (bm jL (((qU B i k).1).us)))]:=by
 have hbl:=hB.hl
 have hbu:=hB.hu
 refine yL Tryz.func64 rfl cb64 rfl ?_
 refine jB<|kx [] [] (zM<|zZ) ?_
 refine jB<|jH<|jB<|kf [(7,(vb (bIs B k 0)))] [(0,some [(.own 1 72 7 B.tm.length),(.mp 2),(.mp 3),(.own 4 3 1 B.us.length),(vb B.ov)]),(1,some (uK jK B.tm)),(2,some [.mo (uZ mJ vP B.kn)]),(3,some [.mo (uZ mN vP B.os)]),(4,some (bm jL B.us))] (zM<|zM<|zSe (B2:=[(0,some [(.own 1 72 7 B.tm.length),(.mp 2),(.mp 3),(.own 4 3 1 B.us.length),(vb B.ov)]),(1,some (uK jK B.tm)),(2,some [.mo (uZ mJ vP B.kn)]),(3,some [.mo (uZ mN vP B.os)]),(4,some (bm jL B.us))]) (B2':=[(0,some [(.own 1 72 7 B.tm.length),(.mp 2),(.mp 3),(.own 4 3 1 B.us.length),(vb B.ov)]),(1,some (uK jK B.tm)),(2,some [.mo (uZ mJ vP B.kn)]),(3,some [.mo (uZ mN vP B.os)]),(4,some (bm jL B.us))]) [0,1,2,3,4] [0] (e_is k 0 B hB hk (by omega) (by omega))<|zM<|zF) ?_
 refine jE (b:=(bIs B k 0)) rfl (fun h1=>?_) (fun h1=>?_)
 ·refine jB<|kx [(6,(vi i))] [] (zM<|zM<|zZ) ?_
  rw[bDif_1 h1]
  refine jF ⟨uC (by kernel_rfl),vB (by kernel_rfl),.inl ⟨_,(.tmp (d:=(.val (.int .i64 (i)))) rfl .nil),?_⟩⟩
  rfl
 ·refine jB<|kf [(12,(vb (bIs B i 0)))] [(0,some [(.own 1 72 7 B.tm.length),(.mp 2),(.mp 3),(.own 4 3 1 B.us.length),(vb B.ov)]),(1,some (uK jK B.tm)),(2,some [.mo (uZ mJ vP B.kn)]),(3,some [.mo (uZ mN vP B.os)]),(4,some (bm jL B.us))] (zM<|zM<|zSe (B2:=[(0,some [(.own 1 72 7 B.tm.length),(.mp 2),(.mp 3),(.own 4 3 1 B.us.length),(vb B.ov)]),(1,some (uK jK B.tm)),(2,some [.mo (uZ mJ vP B.kn)]),(3,some [.mo (uZ mN vP B.os)]),(4,some (bm jL B.us))]) (B2':=[(0,some [(.own 1 72 7 B.tm.length),(.mp 2),(.mp 3),(.own 4 3 1 B.us.length),(vb B.ov)]),(1,some (uK jK B.tm)),(2,some [.mo (uZ mJ vP B.kn)]),(3,some [.mo (uZ mN vP B.os)]),(4,some (bm jL B.us))]) [0,1,2,3,4] [0] (e_is i 0 B hB hi (by omega) (by omega))<|zM<|zF) ?_
  refine jE (b:=(bIs B i 0)) rfl (fun h2=>?_) (fun h2=>?_)
  ·refine jB<|kf [(6,(vi ((jJ B 6 k 0).2)))] [(0,some [(.own 1 72 7 (((jJ B 6 k 0).1).tm.length)),(.mp 2),(.mp 3),(.own 4 3 1 (((jJ B 6 k 0).1).us.length)),(vb (((jJ B 6 k 0).1).ov))]),(1,some (uK jK (((jJ B 6 k 0).1).tm))),(2,some [.mo (uZ mJ vP (((jJ B 6 k 0).1).kn))]),(3,some [.mo (uZ mN vP (((jJ B 6 k 0).1).os))]),(4,some (bm jL (((jJ B 6 k 0).1).us)))] (zM<|zM<|zSe (B2:=[(0,some [(.own 1 72 7 B.tm.length),(.mp 2),(.mp 3),(.own 4 3 1 B.us.length),(vb B.ov)]),(1,some (uK jK B.tm)),(2,some [.mo (uZ mJ vP B.kn)]),(3,some [.mo (uZ mN vP B.os)]),(4,some (bm jL B.us))]) (B2':=[(0,some [(.own 1 72 7 (((jJ B 6 k 0).1).tm.length)),(.mp 2),(.mp 3),(.own 4 3 1 (((jJ B 6 k 0).1).us.length)),(vb (((jJ B 6 k 0).1).ov))]),(1,some (uK jK (((jJ B 6 k 0).1).tm))),(2,some [.mo (uZ mJ vP (((jJ B 6 k 0).1).kn))]),(3,some [.mo (uZ mN vP (((jJ B 6 k 0).1).os))]),(4,some (bm jL (((jJ B 6 k 0).1).us)))]) [0,1,2,3,4] [0] (eT 6 k 0 B hB (.inr ⟨by decide,by decide,hk,hk.pos⟩))<|zM<|zF) ?_
   rw[bDif_2 h1 h2]
   refine jF ⟨uC (by kernel_rfl),vB (by kernel_rfl),.inl ⟨_,(.tmp (d:=(.val (.int .i64 ((jJ B 6 k 0).2)))) rfl .nil),?_⟩⟩
   rfl
  ·refine jD<|jB<|kf [(6,(vi ((jJ B 3 i k).2)))] [(0,some [(.own 1 72 7 (((jJ B 3 i k).1).tm.length)),(.mp 2),(.mp 3),(.own 4 3 1 (((jJ B 3 i k).1).us.length)),(vb (((jJ B 3 i k).1).ov))]),(1,some (uK jK (((jJ B 3 i k).1).tm))),(2,some [.mo (uZ mJ vP (((jJ B 3 i k).1).kn))]),(3,some [.mo (uZ mN vP (((jJ B 3 i k).1).os))]),(4,some (bm jL (((jJ B 3 i k).1).us)))] (zM<|zM<|zM<|zSe (B2:=[(0,some [(.own 1 72 7 B.tm.length),(.mp 2),(.mp 3),(.own 4 3 1 B.us.length),(vb B.ov)]),(1,some (uK jK B.tm)),(2,some [.mo (uZ mJ vP B.kn)]),(3,some [.mo (uZ mN vP B.os)]),(4,some (bm jL B.us))]) (B2':=[(0,some [(.own 1 72 7 (((jJ B 3 i k).1).tm.length)),(.mp 2),(.mp 3),(.own 4 3 1 (((jJ B 3 i k).1).us.length)),(vb (((jJ B 3 i k).1).ov))]),(1,some (uK jK (((jJ B 3 i k).1).tm))),(2,some [.mo (uZ mJ vP (((jJ B 3 i k).1).kn))]),(3,some [.mo (uZ mN vP (((jJ B 3 i k).1).os))]),(4,some (bm jL (((jJ B 3 i k).1).us)))]) [0,1,2,3,4] [0] (eT 3 i k B hB (.inr ⟨by decide,by decide,hi,hk⟩))<|zM<|zF) ?_
   rw[bDif_3 h1 h2]
   refine jF ⟨uC (by kernel_rfl),vB (by kernel_rfl),.inl ⟨_,(.tmp (d:=(.val (.int .i64 ((jJ B 3 i k).2)))) rfl .nil),?_⟩⟩
   rfl
theorem e_prd(i:Int)(k:Int)(B:uQ)(hB:RBI B)(hi:gX B i)(hk:gX B k):xG Tryz.prog 65 [(.ref 0 0),(vi i),(vi k)] [(0,some [(.own 1 72 7 B.tm.length),(.mp 2),(.mp 3),(.own 4 3 1 B.us.length),(vb B.ov)]),(1,some (uK jK B.tm)),(2,some [.mo (uZ mJ vP B.kn)]),(3,some [.mo (uZ mN vP B.os)]),(4,some (bm jL B.us))] (.d (.val (.int .i64 ((jX B i k).2)))) [(0,some [(.own 1 72 7 (((jX B i k).1).tm.length)),(.mp 2),(.mp 3),(.own 4 3 1 (((jX B i k).1).us.length)),(vb (((jX B i k).1).ov))]),(1,some (uK jK (((jX B i k).1).tm))),(2,some [.mo (uZ mJ vP (((jX B i k).1).kn))]),(3,some [.mo (uZ mN vP (((jX B i k).1).os))]),(4,some (bm jL (((jX B i k).1).us)))]:=by
 have hbl:=hB.hl
 have hbu:=hB.hu
 refine yL Tryz.func65 rfl cb65 rfl ?_
 refine jB<|kx [] [] (zM<|zZ) ?_
 refine jB<|jH<|jB<|kf [(7,(vb ((bIs B i 0)||(bIs B k 1))))] [(0,some [(.own 1 72 7 B.tm.length),(.mp 2),(.mp 3),(.own 4 3 1 B.us.length),(vb B.ov)]),(1,some (uK jK B.tm)),(2,some [.mo (uZ mJ vP B.kn)]),(3,some [.mo (uZ mN vP B.os)]),(4,some (bm jL B.us))] ?_ ?_
 ·refine zM<|zM<|zSe (B2:=[(0,some [(.own 1 72 7 B.tm.length),(.mp 2),(.mp 3),(.own 4 3 1 B.us.length),(vb B.ov)]),(1,some (uK jK B.tm)),(2,some [.mo (uZ mJ vP B.kn)]),(3,some [.mo (uZ mN vP B.os)]),(4,some (bm jL B.us))]) (B2':=[(0,some [(.own 1 72 7 B.tm.length),(.mp 2),(.mp 3),(.own 4 3 1 B.us.length),(vb B.ov)]),(1,some (uK jK B.tm)),(2,some [.mo (uZ mJ vP B.kn)]),(3,some [.mo (uZ mN vP B.os)]),(4,some (bm jL B.us))]) [0,1,2,3,4] [0] (e_is i 0 B hB hi (by omega) (by omega))<|zE (oV (vb (bIs B i 0)) (kW (by kernel_rfl)))<|?_
  rcases hb1:(bIs B i 0) with _ | _
  ·exact zM<|zM<|zSe (B2:=[(0,some [(.own 1 72 7 B.tm.length),(.mp 2),(.mp 3),(.own 4 3 1 B.us.length),(vb B.ov)]),(1,some (uK jK B.tm)),(2,some [.mo (uZ mJ vP B.kn)]),(3,some [.mo (uZ mN vP B.os)]),(4,some (bm jL B.us))]) (B2':=[(0,some [(.own 1 72 7 B.tm.length),(.mp 2),(.mp 3),(.own 4 3 1 B.us.length),(vb B.ov)]),(1,some (uK jK B.tm)),(2,some [.mo (uZ mJ vP B.kn)]),(3,some [.mo (uZ mN vP B.os)]),(4,some (bm jL B.us))]) [0,1,2,3,4] [0] (e_is k 1 B hB hk (by omega) (by omega))<|zE aC<|zM<|zF
  ·exact zK<|zK<|zK<|zE yH<|zM<|zF
 refine jE (b:=((bIs B i 0)||(bIs B k 1))) rfl (fun h2=>?_) (fun h2=>?_)
 ·refine jB<|kx [(6,(vi i))] [] (zM<|zM<|zZ) ?_
  rw[bPrd_1 h2]
  refine jF ⟨uC (by kernel_rfl),vB (by kernel_rfl),.inl ⟨_,(.tmp (d:=(.val (.int .i64 (i)))) rfl .nil),?_⟩⟩
  rfl
 ·refine jB<|kf [(17,(vb ((bIs B k 0)||(bIs B i 1))))] [(0,some [(.own 1 72 7 B.tm.length),(.mp 2),(.mp 3),(.own 4 3 1 B.us.length),(vb B.ov)]),(1,some (uK jK B.tm)),(2,some [.mo (uZ mJ vP B.kn)]),(3,some [.mo (uZ mN vP B.os)]),(4,some (bm jL B.us))] ?_ ?_
  ·refine zM<|zM<|zSe (B2:=[(0,some [(.own 1 72 7 B.tm.length),(.mp 2),(.mp 3),(.own 4 3 1 B.us.length),(vb B.ov)]),(1,some (uK jK B.tm)),(2,some [.mo (uZ mJ vP B.kn)]),(3,some [.mo (uZ mN vP B.os)]),(4,some (bm jL B.us))]) (B2':=[(0,some [(.own 1 72 7 B.tm.length),(.mp 2),(.mp 3),(.own 4 3 1 B.us.length),(vb B.ov)]),(1,some (uK jK B.tm)),(2,some [.mo (uZ mJ vP B.kn)]),(3,some [.mo (uZ mN vP B.os)]),(4,some (bm jL B.us))]) [0,1,2,3,4] [0] (e_is k 0 B hB hk (by omega) (by omega))<|zE (oV (vb (bIs B k 0)) (kW (by kernel_rfl)))<|?_
   rcases hb3:(bIs B k 0) with _ | _
   ·exact zM<|zM<|zSe (B2:=[(0,some [(.own 1 72 7 B.tm.length),(.mp 2),(.mp 3),(.own 4 3 1 B.us.length),(vb B.ov)]),(1,some (uK jK B.tm)),(2,some [.mo (uZ mJ vP B.kn)]),(3,some [.mo (uZ mN vP B.os)]),(4,some (bm jL B.us))]) (B2':=[(0,some [(.own 1 72 7 B.tm.length),(.mp 2),(.mp 3),(.own 4 3 1 B.us.length),(vb B.ov)]),(1,some (uK jK B.tm)),(2,some [.mo (uZ mJ vP B.kn)]),(3,some [.mo (uZ mN vP B.os)]),(4,some (bm jL B.us))]) [0,1,2,3,4] [0] (e_is i 1 B hB hi (by omega) (by omega))<|zE aC<|zM<|zF
   ·exact zK<|zK<|zK<|zE yH<|zM<|zF
  refine jE (b:=((bIs B k 0)||(bIs B i 1))) rfl (fun h4=>?_) (fun h4=>?_)
  ·refine jB<|kx [(6,(vi k))] [] (zM<|zM<|zZ) ?_
   rw[bPrd_2 h2 h4]
   refine jF ⟨uC (by kernel_rfl),vB (by kernel_rfl),.inl ⟨_,(.tmp (d:=(.val (.int .i64 (k)))) rfl .nil),?_⟩⟩
   rfl
  ·refine jD<|jB<|kf [(6,(vi ((jJ B 4 i k).2)))] [(0,some [(.own 1 72 7 (((jJ B 4 i k).1).tm.length)),(.mp 2),(.mp 3),(.own 4 3 1 (((jJ B 4 i k).1).us.length)),(vb (((jJ B 4 i k).1).ov))]),(1,some (uK jK (((jJ B 4 i k).1).tm))),(2,some [.mo (uZ mJ vP (((jJ B 4 i k).1).kn))]),(3,some [.mo (uZ mN vP (((jJ B 4 i k).1).os))]),(4,some (bm jL (((jJ B 4 i k).1).us)))] (zM<|zM<|zM<|zSe (B2:=[(0,some [(.own 1 72 7 B.tm.length),(.mp 2),(.mp 3),(.own 4 3 1 B.us.length),(vb B.ov)]),(1,some (uK jK B.tm)),(2,some [.mo (uZ mJ vP B.kn)]),(3,some [.mo (uZ mN vP B.os)]),(4,some (bm jL B.us))]) (B2':=[(0,some [(.own 1 72 7 (((jJ B 4 i k).1).tm.length)),(.mp 2),(.mp 3),(.own 4 3 1 (((jJ B 4 i k).1).us.length)),(vb (((jJ B 4 i k).1).ov))]),(1,some (uK jK (((jJ B 4 i k).1).tm))),(2,some [.mo (uZ mJ vP (((jJ B 4 i k).1).kn))]),(3,some [.mo (uZ mN vP (((jJ B 4 i k).1).os))]),(4,some (bm jL (((jJ B 4 i k).1).us)))]) [0,1,2,3,4] [0] (eT 4 i k B hB (.inr ⟨by decide,by decide,hi,hk⟩))<|zM<|zF) ?_
   rw[bPrd_3 h2 h4]
   refine jF ⟨uC (by kernel_rfl),vB (by kernel_rfl),.inl ⟨_,(.tmp (d:=(.val (.int .i64 ((jJ B 4 i k).2)))) rfl .nil),?_⟩⟩
   rfl
end Go.Proofs.YtckccjhflbljgaaGreatDoor
