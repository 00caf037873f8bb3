/- Part 27 of a proof: rules, plain facts, and functions walked. -/
import Derived.Test.YtckccjhflbljgaaGreatDoorM26
import Derived.Test.YtckccjhflbljgaaGreatDoorM20
import Derived.Test.YtckccjhflbljgaaGreatDoorM18
import Derived.Test.YtckccjhflbljgaaGreatDoorM21
set_option linter.all false
set_option maxRecDepth 4000
namespace Go.Proofs.YtckccjhflbljgaaGreatDoor
open Go.Fid
theorem by3:xN Tryz.prog 3=some 8:=by kernel_rfl
theorem by72:xN Tryz.prog 72=some 88:=by kernel_rfl
theorem cb67:callB Tryz.prog 67=true:=by kernel_rfl
theorem cb110:callB Tryz.prog 110=true:=by kernel_rfl
theorem xZ:uN Tryz.prog 23=some (72,7):=by kernel_rfl
theorem uI:uN Tryz.prog 74=some (3,1):=by kernel_rfl
theorem eqa130:eqaB Tryz.prog 130=some 3:=by kernel_rfl
theorem xY:uQ Tryz.prog 72 0=some 0:=by kernel_rfl
theorem gV:uQ Tryz.prog 72 3=some 3:=by kernel_rfl
theorem eY:uQ Tryz.prog 103 0=some 0:=by kernel_rfl
theorem fo103_3:uQ Tryz.prog 103 3=some 3:=by kernel_rfl
theorem fo103_4:uQ Tryz.prog 103 4=some 4:=by kernel_rfl
theorem sh23:qE Tryz.prog 23=some (false,1):=by kernel_rfl
theorem dD:qE Tryz.prog 55=some (false,1):=by kernel_rfl
theorem dP:qE Tryz.prog 72=some (true,7):=by kernel_rfl
theorem sh74:qE Tryz.prog 74=some (false,1):=by kernel_rfl
theorem sk9:strKB Tryz.prog 9=true:=by kernel_rfl
theorem cX:vO Tryz.prog 72=some [.int .i64 0,.int .i64 0,.int .i64 0,.bool false,.slice none 0 0,.bool false,.slice none 0 0]:=by kernel_rfl
theorem eN:dC [.int .i64 0,.int .i64 0,.int .i64 0,.bool false,.slice none 0 0,.bool false,.slice none 0 0] [.val (.int .i64 0),.val (.int .i64 0),.val (.int .i64 0),.val (.bool false),.sl 107 1 [],.val (.bool false),.sl 107 1 []]:=by simp [dC,Value.oneCell']
theorem e_add(x:kC)(z:Int)(B:yU)(hB:RBI B):vR Tryz.prog 110 [(.ref 0 0),(.d (jM x)),(vi z)] [(0,some [(.own 1 72 7 B.tm.length),(.mp 2),(.mp 3),(.own 4 3 1 B.us.length),(vb B.ov)]),(1,some (qN jM B.tm)),(2,some [.mo (kX vJ kY B.kn)]),(3,some [.mo (kX vL kY B.os)]),(4,some (bm jH B.us))] (.d (.val (.int .i64 ((uP B x z).2)))) [(0,some [(.own 1 72 7 (((uP B x z).1).tm.length)),(.mp 2),(.mp 3),(.own 4 3 1 (((uP B x z).1).us.length)),(vb (((uP B x z).1).ov))]),(1,some (qN jM (((uP B x z).1).tm))),(2,some [.mo (kX vJ kY (((uP B x z).1).kn))]),(3,some [.mo (kX vL kY (((uP B x z).1).os))]),(4,some (bm jH (((uP B x z).1).us)))]:=by
 have hbl:=hB.hl
 have hbu:=hB.hu
 refine zW Tryz.func110 rfl cb110 rfl ?_
 refine jB<|kx [(4,(.ref 5 0))] [(5,some (bx (jM x)))] (zH (vZ 5)<|zM<|zZ) ?_
 refine jB<|jB<|kx [(16,(vb (decide (4096<z)||decide (400<=((B.tm.length:Nat):Int)))))] [] ?_ ?_
 ·refine zM<|zE dI<|zE (oV (vb (decide (4096<z))) (qA (by kernel_rfl)))<|?_
  rcases hb1:(decide (4096<z)) with _ | _
  ·replace hb1:=vX hb1
   exact zM<|zE oNc<|zE (kK eY)<|zR (qI sh23)<|zE (oLo xZ)<|zE oGe<|zE eM<|zZ
  ·replace hb1:=vN hb1
   exact zK<|zK<|zK<|zK<|zK<|zK<|zE gU<|zZ
 refine jF rfl (fun h2=>?_) (fun h2=>?_)
 ·refine jB<|kx [] [(0,some [(.own 1 72 7 B.tm.length),(.mp 2),(.mp 3),(.own 4 3 1 B.us.length),(vb true)])] (zM<|zE oNc<|zE (kK fo103_4)<|zT (qM eL)<|zZ) ?_
  refine jB<|kx [(6,(kG 0))] [] (zM<|zZ) ?_
  rw[bAdd_t (B:=B) (x:=x) (z:=z) h2]
  refine jE ⟨qZ (by kernel_rfl),vA (by kernel_rfl),.inl ⟨_,(.tmp (d:=(.val (.int .i64 (0)))) rfl .nil),?_⟩⟩
  rfl
 ·have hlt:B.tm.length<400:=by have h9:=(Bool.or_eq_false_iff.1 h2).2;rw[decide_eq_false_iff_not] at h9;omega
  refine jG<|jB<|kd [] [(0,some [(.own 6 72 7 ((B.tm++[x]).length)),(.mp 2),(.mp 3),(.own 4 3 1 B.us.length),(vb B.ov)]),(6,some (qN jM (B.tm++[x]))),(1,none)] mo (wM<|wM<|wE oNc<|wE (kK eY)<|wR (qI sh23)<|wR (kR dP)<|wE (fH xZ cX eN)<|wAS (k:=1) 6 jM B.tm [x] rfl xZ cX by72<|wE oNc<|wE (kK eY)<|wT (oSx sh23)<|wZ) ?_
  refine qL (wk (l:=[(0,(.ref 0 0)),(2,(vi z))]) (b:=[(0,some [(.own 6 72 7 ((B.tm++[x]).length)),(.mp 2),(.mp 3),(.own 4 3 1 B.us.length),(vb B.ov)]),(2,some [.mo (kX vJ kY B.kn)]),(3,some [.mo (kX vL kY B.os)]),(4,some (bm jH B.us)),(6,some (qN jM (B.tm++[x])))])) ?_
  refine qL (sim_ren2 (S':=[(0,(.ref 0 0)),(2,(vi z))]) (B':=[(0,some [(.own 1 72 7 ((B.tm++[x]).length)),(.mp 2),(.mp 3),(.own 4 3 1 B.us.length),(vb B.ov)]),(1,some (qN jM (B.tm++[x]))),(2,some [.mo (kX vJ kY B.kn)]),(3,some [.mo (kX vL kY B.os)]),(4,some (bm jH B.us))]) 1 6 0) ?_
  refine jB<|kf [] [(0,some [(.own 1 72 7 ((B.tm++[x]).length)),(.mp 2),(.mp 3),(.own 4 3 1 ((B.us++[z]).length)),(vb B.ov)]),(4,some (bm jH (B.us++[z])))] (zM<|zM<|zE oNc<|zE (kK fo103_3)<|zR (qI sh74)<|zM<|zE (fH uI ze3 zo3)<|zAm 0 3 jH B.us [z] rfl uI ze3 by3 (hB:=by repeat first | exact clrn_nil _ _ | refine clrn_hide ?_ | refine clrn_self ?_ | refine clrn_map ?_ | refine clrn_none ?_ | refine clrn_bx ?_ | refine clrn_d ?_ | refine clrn_cons rfl ?_) (k:=4)<|zE oNc<|zE (kK fo103_3)<|zT (oSx sh74)<|zF) ?_
  refine jB<|kx [(6,(kG B.tm.length))] [] (zM<|zE oNc<|zE (kK eY)<|zR (qI sh23)<|zE (oLo xZ)<|zE (oSb B.tm.length (hr:=by exact (by rw[List.length_append,List.length_singleton];exact wNat (by omega) (by simp only[kHiN];omega) (by decide))))<|zM<|zZ) ?_
  rw[bAdd_f (B:=B) (x:=x) (z:=z) h2]
  refine jE ⟨qZ (by kernel_rfl),vA (by kernel_rfl),.inl ⟨_,(.tmp (d:=(.val (.int .i64 (((B.tm.length:Nat):Int))))) rfl .nil),?_⟩⟩
  rfl
theorem e_is(i:Int)(n:Int)(B:yU)(hB:RBI B)(hi:eO B i)(hn1:-9223372036854775808<=n)(hn2:n<=9223372036854775807):vR Tryz.prog 67 [(.ref 0 0),(vi i),(vi n)] [(0,some [(.own 1 72 7 B.tm.length),(.mp 2),(.mp 3),(.own 4 3 1 B.us.length),(vb B.ov)]),(1,some (qN jM B.tm)),(2,some [.mo (kX vJ kY B.kn)]),(3,some [.mo (kX vL kY B.os)]),(4,some (bm jH B.us))] (.d (.val (.bool ((cS B i n))))) [(0,some [(.own 1 72 7 B.tm.length),(.mp 2),(.mp 3),(.own 4 3 1 B.us.length),(vb B.ov)]),(1,some (qN jM B.tm)),(2,some [.mo (kX vJ kY B.kn)]),(3,some [.mo (kX vL kY B.os)]),(4,some (bm jH B.us))]:=by
 have hbl:=hB.hl
 have hi0:=hi.1
 have hi1:=hi.2
 refine zW Tryz.func67 rfl cb67 rfl ?_
 refine jB<|kx [] [] (zM<|zZ) ?_
 refine jB<|kd [(6,(vb ((decide (i<((B.tm.length:Nat):Int))&&((B.tm.getD ((i).toNat) tz).op == 0))&&((nB (vQ ((B.tm.getD ((i).toNat) tz).n)) ((n:Int):Rat)) == 0))))] [] mo ?_ ?_
 ·refine wM<|wM<|wE oNc<|wE (kK eY)<|wR (qI sh23)<|wE (oLo xZ)<|wE gX<|wE (oV (vb (decide (i<((B.tm.length:Nat):Int)))) (qA (by kernel_rfl)))<|?_
  rcases hb1:(decide (i<((B.tm.length:Nat):Int))) with _ | _
  ·replace hb1:=vX hb1
   exact wK<|wK<|wK<|wK<|wK<|wK<|wK<|wK<|wK<|wE yS<|wM<|wK<|wK<|wK<|wK<|wK<|wK<|wK<|wK<|wK<|wK<|wK<|wK<|wE yS<|wM<|wZ
  ·replace hb1:=vN hb1
   refine wM<|wE oNc<|wE (kK eY)<|wR (qI sh23)<|wM<|wE (fS xZ ((i).toNat))<|wE (kK xY)<|wR (oLs (s:=7) (i:=0) dD ((i).toNat) (tz:kC))<|wE xV<|wE eK<|wE (oV (vb (true&&((B.tm.getD ((i).toNat) tz).op == 0))) (qA (by kernel_rfl)))<|?_
   rcases hb2:((B.tm.getD ((i).toNat) tz).op == 0) with _ | _
   ·replace hb2:=ne_of_beq_false hb2
    exact wK<|wK<|wK<|wK<|wK<|wK<|wK<|wK<|wK<|wK<|wK<|wK<|wE yS<|wM<|wZ
   ·replace hb2:=eq_of_beq hb2
    exact wM<|wE oNc<|wE (kK eY)<|wR (qI sh23)<|wM<|wE (fS xZ ((i).toNat))<|wE (kK gV)<|wR (mG (jJ ((B.tm.getD ((i).toNat) tz).n)) (jJ ((B.tm.getD ((i).toNat) tz).n)) (oLf (s:=7) (i:=3) jS ((i).toNat) (tz:kC) (jJ ((B.tm.getD ((i).toNat) tz).n))) (by exact rfl))<|wM<|wE (kB (eR n (by omega) (by omega)))<|wE (kB (aE ((B.tm.getD ((i).toNat) tz).n) (jO ((n:Int):Rat)) (vQ ((B.tm.getD ((i).toNat) tz).n)) ((n:Int):Rat) (jY (hB.q (show (i).toNat<B.tm.length by omega))) (jY (kF (yB (z:=n) (nP (by omega) (by omega)))))))<|wE xV<|wE eK<|wM<|wZ
 refine jE ⟨qZ (by kernel_rfl),vA (by kernel_rfl),.inl ⟨_,(.tmp (d:=(.val (.bool (((decide (i<((B.tm.length:Nat):Int))&&((B.tm.getD ((i).toNat) tz).op == 0))&&((nB (vQ ((B.tm.getD ((i).toNat) tz).n)) ((n:Int):Rat)) == 0)))))) rfl .nil),?_⟩⟩
 rfl
theorem ar130:arrB Tryz.prog 130=some (3,3,1):=by kernel_rfl
theorem cb61:callB Tryz.prog 61=true:=by kernel_rfl
theorem cb63:callB Tryz.prog 63=true:=by kernel_rfl
theorem fo103_1:uQ Tryz.prog 103 1=some 1:=by kernel_rfl
theorem fo103_2:uQ Tryz.prog 103 2=some 2:=by kernel_rfl
theorem mk100:mapKB Tryz.prog 100=some (130,3):=by kernel_rfl
theorem mk101:mapKB Tryz.prog 101=some (9,3):=by kernel_rfl
theorem pl72:cR Tryz.prog 72=some [(0,1),(1,1),(2,1),(3,4)]:=by kernel_rfl
theorem sh100:qE Tryz.prog 100=some (false,1):=by kernel_rfl
theorem sh101:qE Tryz.prog 101=some (false,1):=by kernel_rfl
theorem sh130:qE Tryz.prog 130=some (true,3):=by kernel_rfl
theorem ze130:vO Tryz.prog 130=some [.int .i64 0,.int .i64 0,.int .i64 0]:=by kernel_rfl
theorem zo130:dC [.int .i64 0,.int .i64 0,.int .i64 0] [.val (.int .i64 0),.val (.int .i64 0),.val (.int .i64 0)]:=by simp [dC,Value.oneCell']
theorem zv3:zeroVm Tryz.prog 3=some (.int .i64 0):=by kernel_rfl
theorem dB(o:Int)(i:Int)(k:Int)(B:yU)(hB:RBI B)(ha:NdAr B o i k):vR Tryz.prog 63 [(.ref 0 0),(vi o),(vi i),(vi k)] [(0,some [(.own 1 72 7 B.tm.length),(.mp 2),(.mp 3),(.own 4 3 1 B.us.length),(vb B.ov)]),(1,some (qN jM B.tm)),(2,some [.mo (kX vJ kY B.kn)]),(3,some [.mo (kX vL kY B.os)]),(4,some (bm jH B.us))] (.d (.val (.int .i64 ((jC B o i k).2)))) [(0,some [(.own 1 72 7 (((jC B o i k).1).tm.length)),(.mp 2),(.mp 3),(.own 4 3 1 (((jC B o i k).1).us.length)),(vb (((jC B o i k).1).ov))]),(1,some (qN jM (((jC B o i k).1).tm))),(2,some [.mo (kX vJ kY (((jC B o i k).1).kn))]),(3,some [.mo (kX vL kY (((jC B o i k).1).os))]),(4,some (bm jH (((jC B o i k).1).us)))]:=by
 have hbl:=hB.hl
 have hbu:=hB.hu
 let y1:=uD
 refine zW Tryz.func63 rfl cb63 rfl ?_
 refine jB<|kx [] [] (zM<|zZ) ?_
 refine jB<|kx [(9,(.ref 5 0))] [(5,some (bx (encA130 (A3.mk o i k))))] (zM<|zM<|zM<|zE (oBf ar130 ze130 zo130)<|zH (vC 5 ze130 zo130)<|zT (qM sh130)<|zZ) ?_
 refine jB<|jB<|kd [(10,(vi ((xR B.kn (o,i,k)).getD 0))),(11,(vb ((xR B.kn (o,i,k)).isSome)))] [] mo (wM<|wE oNc<|wE (kK fo103_1)<|wR (qI sh100)<|wR (kR sh130)<|wR (oGi (l:=B.kn) mk100 (keyT3 eqa130) zv3 (o,i,k) (fun _ _ _ h=>rep_T3 h))<|wM<|wE xU<|wE xU<|wM<|wM<|wZ) ?_
 refine jB<|kx [(33,(vb ((xR B.kn (o,i,k)).isSome||B.ov)))] [] ?_ ?_
 ·refine zM<|zE (oV (vb ((xR B.kn (o,i,k)).isSome)) (qA (by kernel_rfl)))<|?_
  rcases hb1:((xR B.kn (o,i,k)).isSome) with _ | _
  ·exact zM<|zE oNc<|zE (kK fo103_4)<|zR (qI eL)<|zE eM<|zZ
  ·exact zK<|zK<|zK<|zK<|zE gU<|zZ
 refine jF (b:=((xR B.kn (o,i,k)).isSome||B.ov)) rfl (fun h2=>?_) (fun h2=>?_)
 ·refine jB<|kx [(8,(vi ((xR B.kn (o,i,k)).getD 0)))] [] (zM<|zM<|zZ) ?_
  rw[bNode_t (B:=B) (o:=o) (i:=i) (k:=k) h2]
  refine jE ⟨qZ (by kernel_rfl),vA (by kernel_rfl),.inl ⟨_,(.tmp (d:=(.val (.int .i64 (((xR B.kn (o,i,k)).getD 0))))) rfl .nil),?_⟩⟩
  rfl
 ·refine jG<|jB<|kx [(12,(kG 1))] [] (zM<|zZ) ?_
  refine pwp_seqjoin (α:=Int) (fun v=>⟨[(0,(.ref 0 0)),(1,(vi o)),(2,(vi i)),(3,(vi k)),(9,(.ref 5 0)),(12,(vi v))],[(0,some [(.own 1 72 7 B.tm.length),(.mp 2),(.mp 3),(.own 4 3 1 B.us.length),(vb B.ov)]),(1,some (qN jM B.tm)),(2,some [.mo (kX vJ kY B.kn)]),(3,some [.mo (kX vL kY B.os)]),(4,some (bm jH B.us)),(5,some (bx (encA130 (A3.mk o i k))))]⟩) (fun v=>v=bSz B o i k) ?_ ?_
  ·refine jB<|kx [(35,(vb (o == 6)))] [] (zM<|zE xV<|zM<|zZ) ?_
   refine jF (b:=(o == 6)) rfl (fun h3=>?_) (fun h3=>?_)
   ·replace h3:=eq_of_beq h3
    obtain ⟨⟨a1,a2⟩,⟨a3,a4⟩,a5,a6⟩:=ha.ge2 hB (show o≠1 by omega)
    refine kx [(12,(vi (B.us.getD ((i).toNat) 0)))] [] (zM<|zE oNc<|zE (kK fo103_3)<|zR (qI sh74)<|zM<|zE (zJ uI ((i).toNat))<|zR (dG uC ((i).toNat) (0:Int))<|zM<|zZ) ?_
    exact ⟨(B.us.getD i.toNat 0),wk,(bSz_6 h3)⟩
   ·replace h3:=ne_of_beq_false h3
    refine jB<|kx [(45,(vb (o == 7)))] [] (zM<|zE xV<|zM<|zZ) ?_
    refine jF (b:=(o == 7)) rfl (fun h4=>?_) (fun h4=>?_)
    ·replace h4:=eq_of_beq h4
     obtain ⟨⟨a1,a2⟩,⟨a3,a4⟩,a5,a6⟩:=ha.ge2 hB (show o≠1 by omega)
     refine kx [(12,(vi (2*(B.us.getD ((i).toNat) 0))))] [] (zM<|zE oNc<|zE (kK fo103_3)<|zR (qI sh74)<|zM<|zE (zJ uI ((i).toNat))<|zR (dG uC ((i).toNat) (0:Int))<|zE (zMl (2*(B.us.getD ((i).toNat) 0)))<|zM<|zZ) ?_
     exact ⟨(2*B.us.getD i.toNat 0),wk,(bSz_7 h3 h4)⟩
    ·replace h4:=ne_of_beq_false h4
     refine jB<|kx [(56,(vb ((uA o) == 2)))] [] (zM<|zE (kB (j_kids o))<|zE xV<|zM<|zZ) ?_
     refine jF (b:=((uA o) == 2)) rfl (fun h5=>?_) (fun h5=>?_)
     ·replace h5:=eq_of_beq h5
      obtain ⟨⟨a1,a2⟩,⟨a3,a4⟩,a5,a6⟩:=ha.ge2 hB (show o≠1 from fun e=>by rw[e] at h5;revert h5;decide)
      refine kd [(12,(vi ((B.us.getD ((i).toNat) 0)+(B.us.getD ((k).toNat) 0))))] [] mo (wM<|wE oNc<|wE (kK fo103_3)<|wR (qI sh74)<|wM<|wE (zJ uI ((i).toNat))<|wR (dG uC ((i).toNat) (0:Int))<|wM<|wE oNc<|wE (kK fo103_3)<|wR (qI sh74)<|wM<|wE (zJ uI ((k).toNat))<|wR (dG uC ((k).toNat) (0:Int))<|wE (zAd ((B.us.getD ((i).toNat) 0)+(B.us.getD ((k).toNat) 0)))<|wM<|wZ) ?_
      exact ⟨(B.us.getD i.toNat 0+B.us.getD k.toNat 0),wk,(bSz_2 h3 h4 h5)⟩
     ·replace h5:=ne_of_beq_false h5
      refine jG ?_
      exact ⟨1,wk,(bSz_1 h3 h4 h5)⟩
  ·rintro v hv
   refine jB<|kf [(13,(vi ((uP B (kC.mk o i k y1) v).2)))] [(0,some [(.own 1 72 7 (((uP B (kC.mk o i k y1) v).1).tm.length)),(.mp 2),(.mp 3),(.own 4 3 1 (((uP B (kC.mk o i k y1) v).1).us.length)),(vb (((uP B (kC.mk o i k y1) v).1).ov))]),(1,some (qN jM (((uP B (kC.mk o i k y1) v).1).tm))),(2,some [.mo (kX vJ kY (((uP B (kC.mk o i k y1) v).1).kn))]),(3,some [.mo (kX vL kY (((uP B (kC.mk o i k y1) v).1).os))]),(4,some (bm jH (((uP B (kC.mk o i k y1) v).1).us)))] (zM<|zM<|zM<|zM<|zE (bC pl72 cX eN)<|zM<|zSe (B2:=[(0,some [(.own 1 72 7 B.tm.length),(.mp 2),(.mp 3),(.own 4 3 1 B.us.length),(vb B.ov)]),(1,some (qN jM B.tm)),(2,some [.mo (kX vJ kY B.kn)]),(3,some [.mo (kX vL kY B.os)]),(4,some (bm jH B.us))]) (B2':=[(0,some [(.own 1 72 7 (((uP B (kC.mk o i k y1) v).1).tm.length)),(.mp 2),(.mp 3),(.own 4 3 1 (((uP B (kC.mk o i k y1) v).1).us.length)),(vb (((uP B (kC.mk o i k y1) v).1).ov))]),(1,some (qN jM (((uP B (kC.mk o i k y1) v).1).tm))),(2,some [.mo (kX vJ kY (((uP B (kC.mk o i k y1) v).1).kn))]),(3,some [.mo (kX vL kY (((uP B (kC.mk o i k y1) v).1).os))]),(4,some (bm jH (((uP B (kC.mk o i k y1) v).1).us)))]) [0,1,2,3,4] [0] (e_add (kC.mk o i k y1) v B hB)<|zM<|zF) ?_
   refine jB<|kd [] [(2,some [.mo (kX vJ kY ((((uP B (kC.mk o i k y1) v).1).kn)++[((o,i,k),(uP B (kC.mk o i k y1) v).2)]))])] mo (wM<|wE oNc<|wE (kK fo103_1)<|wR (qI sh100)<|wR (kR sh130)<|wM<|wT (oIi (l:=((uP B (kC.mk o i k y1) v).1).kn) mk100 (keyT3 eqa130) (o,i,k) ((uP B (kC.mk o i k y1) v).2) (fun _ _ _ h=>rep_T3 h) (by rw[(bAdd_os _ _ _).2];exact (Bool.or_eq_false_iff.1 h2).1))<|wZ) ?_
   refine jB<|kx [(8,(vi ((uP B (kC.mk o i k y1) v).2)))] [] (zM<|zM<|zZ) ?_
   rw[bNode_f (B:=B) (o:=o) (i:=i) (k:=k) (z:=v) h2 hv]
   refine jE ⟨qZ (by kernel_rfl),vA (by kernel_rfl),.inl ⟨_,(.tmp (d:=(.val (.int .i64 ((uP B (kC.mk o i k uD) v).2)))) rfl .nil),?_⟩⟩
   rfl
def TextAt(q:Rat):Prop:=jR Tryz.prog 109 [jJ (jO q)] (.val (.string (txQ q)))
theorem p_text(q:Rat)(hq:QL q 1048576)(ht:TextAt q):jR Tryz.prog 109 [jJ (jO q)] (.val (.string (txQ q))):=ht
theorem e_num(q:Rat)(hq:QL q 1048576)(B:yU)(hB:RBI B)(ht:TextAt q):vR Tryz.prog 61 [(.ref 0 0),(.d (jJ (jO q)))] [(0,some [(.own 1 72 7 B.tm.length),(.mp 2),(.mp 3),(.own 4 3 1 B.us.length),(vb B.ov)]),(1,some (qN jM B.tm)),(2,some [.mo (kX vJ kY B.kn)]),(3,some [.mo (kX vL kY B.os)]),(4,some (bm jH B.us))] (.d (.val (.int .i64 ((kW B q).2)))) [(0,some [(.own 1 72 7 (((kW B q).1).tm.length)),(.mp 2),(.mp 3),(.own 4 3 1 (((kW B q).1).us.length)),(vb (((kW B q).1).ov))]),(1,some (qN jM (((kW B q).1).tm))),(2,some [.mo (kX vJ kY (((kW B q).1).kn))]),(3,some [.mo (kX vL kY (((kW B q).1).os))]),(4,some (bm jH (((kW B q).1).us)))]:=by
 have hbl:=hB.hl
 have hbu:=hB.hu
 refine zW Tryz.func61 rfl cb61 rfl ?_
 refine jB<|kx [(3,(.ref 5 0))] [(5,some (bx (jJ (jO q))))] (zH (vZ 5)<|zM<|zZ) ?_
 refine jB<|kx [(5,(.d (.val (.string (txQ q)))))] [] (zR (kR jS)<|zE (kB (p_text q hq ht))<|zM<|zZ) ?_
 refine jB<|jB<|kx [(6,(vi ((xR B.os (txQ q)).getD 0))),(7,(vb ((xR B.os (txQ q)).isSome)))] [] (zM<|zE oNc<|zE (kK fo103_2)<|zR (qI sh101)<|zM<|zR (oGi (l:=B.os) mk101 (keySt sk9) zv3 (txQ q) (fun _ _ _ h=>vG h))<|zM<|zE xU<|zE xU<|zM<|zM<|zZ) ?_
 refine jB<|kx [(20,(vb ((xR B.os (txQ q)).isSome)))] [] (zM<|zZ) ?_
 refine jF (b:=(xR B.os (txQ q)).isSome) rfl (fun h1=>?_) (fun h1=>?_)
 ·refine jB<|kx [(4,(vi ((xR B.os (txQ q)).getD 0)))] [] (zM<|zM<|zZ) ?_
  rw[bNum_t (B:=B) (q:=q) h1]
  refine jE ⟨qZ (by kernel_rfl),vA (by kernel_rfl),.inl ⟨_,(.tmp (d:=(.val (.int .i64 (((xR B.os (txQ q)).getD 0))))) rfl .nil),?_⟩⟩
  rfl
 ·refine jG<|jB<|kf [(8,(vi ((uP B (kC.mk 0 0 0 (jO q)) 1).2)))] [(0,some [(.own 1 72 7 (((uP B (kC.mk 0 0 0 (jO q)) 1).1).tm.length)),(.mp 2),(.mp 3),(.own 4 3 1 (((uP B (kC.mk 0 0 0 (jO q)) 1).1).us.length)),(vb (((uP B (kC.mk 0 0 0 (jO q)) 1).1).ov))]),(1,some (qN jM (((uP B (kC.mk 0 0 0 (jO q)) 1).1).tm))),(2,some [.mo (kX vJ kY (((uP B (kC.mk 0 0 0 (jO q)) 1).1).kn))]),(3,some [.mo (kX vL kY (((uP B (kC.mk 0 0 0 (jO q)) 1).1).os))]),(4,some (bm jH (((uP B (kC.mk 0 0 0 (jO q)) 1).1).us)))] (zM<|zR (kR jS)<|zE (bC pl72 cX eN)<|zSe (B2:=[(0,some [(.own 1 72 7 B.tm.length),(.mp 2),(.mp 3),(.own 4 3 1 B.us.length),(vb B.ov)]),(1,some (qN jM B.tm)),(2,some [.mo (kX vJ kY B.kn)]),(3,some [.mo (kX vL kY B.os)]),(4,some (bm jH B.us))]) (B2':=[(0,some [(.own 1 72 7 (((uP B (kC.mk 0 0 0 (jO q)) 1).1).tm.length)),(.mp 2),(.mp 3),(.own 4 3 1 (((uP B (kC.mk 0 0 0 (jO q)) 1).1).us.length)),(vb (((uP B (kC.mk 0 0 0 (jO q)) 1).1).ov))]),(1,some (qN jM (((uP B (kC.mk 0 0 0 (jO q)) 1).1).tm))),(2,some [.mo (kX vJ kY (((uP B (kC.mk 0 0 0 (jO q)) 1).1).kn))]),(3,some [.mo (kX vL kY (((uP B (kC.mk 0 0 0 (jO q)) 1).1).os))]),(4,some (bm jH (((uP B (kC.mk 0 0 0 (jO q)) 1).1).us)))]) [0,1,2,3,4] [0] (e_add (kC.mk 0 0 0 (jO q)) 1 B hB)<|zM<|zF) ?_
  refine jB<|kx [] [(3,some [.mo (kX vL kY ((((uP B (kC.mk 0 0 0 (jO q)) 1).1).os)++[((txQ q),(uP B (kC.mk 0 0 0 (jO q)) 1).2)]))])] (zM<|zE oNc<|zE (kK fo103_2)<|zR (qI sh101)<|zM<|zM<|zT (oIi (l:=((uP B (kC.mk 0 0 0 (jO q)) 1).1).os) mk101 (keySt sk9) (txQ q) ((uP B (kC.mk 0 0 0 (jO q)) 1).2) (fun _ _ _ h=>vG h) (by rw[(bAdd_os _ _ _).1];exact h1))<|zZ) ?_
  refine jB<|kx [(4,(vi ((uP B (kC.mk 0 0 0 (jO q)) 1).2)))] [] (zM<|zM<|zZ) ?_
  rw[bNum_f (B:=B) (q:=q) h1]
  refine jE ⟨qZ (by kernel_rfl),vA (by kernel_rfl),.inl ⟨_,(.tmp (d:=(.val (.int .i64 ((uP B (kC.mk 0 0 0 (jO q)) 1).2)))) rfl .nil),?_⟩⟩
  rfl
def TextZ(z:Int):Prop:=jR Tryz.prog 168 [jQ (kH z)] (.val (.string ⟨(txZ z).toArray⟩))
theorem p_textZ(z:Int)(hz:cB (kH z) z 1048576)(ht:TextZ z):jR Tryz.prog 168 [jQ (kH z)] (.val (.string ⟨(txZ z).toArray⟩)):=ht
theorem p_textW(q:Rat)(hq:QL q 1048576)(hd:q.den=1)(ht:TextZ q.num):jR Tryz.prog 109 [(jJ (jO q))] (.val (.string (txQ q))):=by
 refine uU Tryz.func109 ?_
 refine jB<|kx [(1,(.ref 0 0))] [(0,some (bx (jJ (jO q))))] (zN (vZ 0)<|zM<|zZ) ?_
 refine jB<|kx [] [(0,some (bx (jJ (jO q))))] (zR (kR jS)<|zE (kB (mT (jO q) q (jY (kF hq))))<|zT (qM jS)<|zZ) ?_
 refine jB<|kx [(3,(.d (.val (.string (⟨(txZ q.num).toArray⟩:ByteArray)))))] [] (zE (kK vP)<|zR (kR jZ)<|zE (kB (p_textZ q.num (qR hq) ht))<|zM<|zZ) ?_
 refine jB<|jB<|kd [(13,(vb false))] [] mo (wE (kK vB)<|wR (kR jZ)<|wE (kB (t_of 1))<|wE (kB (s_compare (qO hq) (iok_small (z:=1))))<|wE (nH false aK (by exact bne_eq_false_iff_eq.2 (by rw[hd];decide)))<|wZ) ?_
 refine qW ?_
 refine jG<|jB<|kx [(2,(.d (.val (.string (⟨(txZ q.num).toArray⟩:ByteArray)))))] [] (zM<|zM<|zZ) ?_
 refine jE ⟨_,(.tmp (d:=(.val (.string (⟨(txZ q.num).toArray⟩:ByteArray)))) rfl .nil),?_⟩
 unfold txQ;rw[if_pos hd];rfl
theorem ofNat_one{n:Nat}(h:n<1000000000){d:Nat}(hd:d∈ofNat n\/d=0):d<=n:=by
 rcases hd with hd | rfl
 ·by_cases h0:n=0
  ·subst h0;rw[qV] at hd;cases hd
  ·rw[gQ h0,Nat.mod_eq_of_lt h,Nat.div_eq_of_lt h,qV,List.mem_singleton] at hd;omega
 ·omega
theorem tz_small(z:Int)(h:z.natAbs<100):TextZ z:=t_text z (Nat.le_trans (xT (by omega)) (by decide)) fun d hd=>itA_small d (by have:=ofNat_one (by omega) hd;omega)
theorem tx_small(z:Int)(h:z.natAbs<100:=by decide):TextAt ((z:Int):Rat):=p_textW _ (ql_i (by omega)) (Rat.den_intCast z) (by rw[Rat.num_intCast];exact tz_small z h)
theorem cb64:callB Tryz.prog 64=true:=by kernel_rfl
theorem cb65:callB Tryz.prog 65=true:=by kernel_rfl
theorem cb66:callB Tryz.prog 66=true:=by kernel_rfl
theorem e_sum(i:Int)(k:Int)(B:yU)(hB:RBI B)(hi:eO B i)(hk:eO B k):vR Tryz.prog 66 [(.ref 0 0),(vi i),(vi k)] [(0,some [(.own 1 72 7 B.tm.length),(.mp 2),(.mp 3),(.own 4 3 1 B.us.length),(vb B.ov)]),(1,some (qN jM B.tm)),(2,some [.mo (kX vJ kY B.kn)]),(3,some [.mo (kX vL kY B.os)]),(4,some (bm jH B.us))] (.d (.val (.int .i64 ((xE B i k).2)))) [(0,some [(.own 1 72 7 (((xE B i k).1).tm.length)),(.mp 2),(.mp 3),(.own 4 3 1 (((xE B i k).1).us.length)),(vb (((xE B i k).1).ov))]),(1,some (qN jM (((xE B i k).1).tm))),(2,some [.mo (kX vJ kY (((xE B i k).1).kn))]),(3,some [.mo (kX vL kY (((xE B i k).1).os))]),(4,some (bm jH (((xE B i k).1).us)))]:=by
 have hbl:=hB.hl
 have hbu:=hB.hu
 refine zW Tryz.func66 rfl cb66 rfl ?_
 refine jB<|kx [] [] (zM<|zZ) ?_
 refine jB<|jL<|jB<|kf [(7,(vb (cS B i 0)))] [(0,some [(.own 1 72 7 B.tm.length),(.mp 2),(.mp 3),(.own 4 3 1 B.us.length),(vb B.ov)]),(1,some (qN jM B.tm)),(2,some [.mo (kX vJ kY B.kn)]),(3,some [.mo (kX vL kY B.os)]),(4,some (bm jH B.us))] (zM<|zM<|zSe (B2:=[(0,some [(.own 1 72 7 B.tm.length),(.mp 2),(.mp 3),(.own 4 3 1 B.us.length),(vb B.ov)]),(1,some (qN jM B.tm)),(2,some [.mo (kX vJ kY B.kn)]),(3,some [.mo (kX vL kY B.os)]),(4,some (bm jH B.us))]) (B2':=[(0,some [(.own 1 72 7 B.tm.length),(.mp 2),(.mp 3),(.own 4 3 1 B.us.length),(vb B.ov)]),(1,some (qN jM B.tm)),(2,some [.mo (kX vJ kY B.kn)]),(3,some [.mo (kX vL kY B.os)]),(4,some (bm jH B.us))]) [0,1,2,3,4] [0] (e_is i 0 B hB hi (by omega) (by omega))<|zM<|zF) ?_
 refine jF (b:=(cS B i 0)) rfl (fun h1=>?_) (fun h1=>?_)
 ·refine jB<|kx [(6,(vi k))] [] (zM<|zM<|zZ) ?_
  rw[bSum_1 h1]
  refine jE ⟨qZ (by kernel_rfl),vA (by kernel_rfl),.inl ⟨_,(.tmp (d:=(.val (.int .i64 (k)))) rfl .nil),?_⟩⟩
  rfl
 ·refine jB<|kf [(12,(vb (cS B k 0)))] [(0,some [(.own 1 72 7 B.tm.length),(.mp 2),(.mp 3),(.own 4 3 1 B.us.length),(vb B.ov)]),(1,some (qN jM B.tm)),(2,some [.mo (kX vJ kY B.kn)]),(3,some [.mo (kX vL kY B.os)]),(4,some (bm jH B.us))] (zM<|zM<|zSe (B2:=[(0,some [(.own 1 72 7 B.tm.length),(.mp 2),(.mp 3),(.own 4 3 1 B.us.length),(vb B.ov)]),(1,some (qN jM B.tm)),(2,some [.mo (kX vJ kY B.kn)]),(3,some [.mo (kX vL kY B.os)]),(4,some (bm jH B.us))]) (B2':=[(0,some [(.own 1 72 7 B.tm.length),(.mp 2),(.mp 3),(.own 4 3 1 B.us.length),(vb B.ov)]),(1,some (qN jM B.tm)),(2,some [.mo (kX vJ kY B.kn)]),(3,some [.mo (kX vL kY B.os)]),(4,some (bm jH B.us))]) [0,1,2,3,4] [0] (e_is k 0 B hB hk (by omega) (by omega))<|zM<|zF) ?_
  refine jF (b:=(cS B k 0)) rfl (fun h2=>?_) (fun h2=>?_)
  ·refine jB<|kx [(6,(vi i))] [] (zM<|zM<|zZ) ?_
   rw[bSum_2 h1 h2]
   refine jE ⟨qZ (by kernel_rfl),vA (by kernel_rfl),.inl ⟨_,(.tmp (d:=(.val (.int .i64 (i)))) rfl .nil),?_⟩⟩
   rfl
  ·refine jG<|jB<|kf [(6,(vi ((jC B 2 i k).2)))] [(0,some [(.own 1 72 7 (((jC B 2 i k).1).tm.length)),(.mp 2),(.mp 3),(.own 4 3 1 (((jC B 2 i k).1).us.length)),(vb (((jC B 2 i k).1).ov))]),(1,some (qN jM (((jC B 2 i k).1).tm))),(2,some [.mo (kX vJ kY (((jC B 2 i k).1).kn))]),(3,some [.mo (kX vL kY (((jC B 2 i k).1).os))]),(4,some (bm jH (((jC B 2 i k).1).us)))] (zM<|zM<|zM<|zSe (B2:=[(0,some [(.own 1 72 7 B.tm.length),(.mp 2),(.mp 3),(.own 4 3 1 B.us.length),(vb B.ov)]),(1,some (qN jM B.tm)),(2,some [.mo (kX vJ kY B.kn)]),(3,some [.mo (kX vL kY B.os)]),(4,some (bm jH B.us))]) (B2':=[(0,some [(.own 1 72 7 (((jC B 2 i k).1).tm.length)),(.mp 2),(.mp 3),(.own 4 3 1 (((jC B 2 i k).1).us.length)),(vb (((jC B 2 i k).1).ov))]),(1,some (qN jM (((jC B 2 i k).1).tm))),(2,some [.mo (kX vJ kY (((jC B 2 i k).1).kn))]),(3,some [.mo (kX vL kY (((jC B 2 i k).1).os))]),(4,some (bm jH (((jC B 2 i k).1).us)))]) [0,1,2,3,4] [0] (dB 2 i k B hB (.inr ⟨by decide,by decide,hi,hk⟩))<|zM<|zF) ?_
   rw[bSum_3 h1 h2]
   refine jE ⟨qZ (by kernel_rfl),vA (by kernel_rfl),.inl ⟨_,(.tmp (d:=(.val (.int .i64 ((jC B 2 i k).2)))) rfl .nil),?_⟩⟩
   rfl
theorem e_dif(i:Int)(k:Int)(B:yU)(hB:RBI B)(hi:eO B i)(hk:eO B k):vR Tryz.prog 64 [(.ref 0 0),(vi i),(vi k)] [(0,some [(.own 1 72 7 B.tm.length),(.mp 2),(.mp 3),(.own 4 3 1 B.us.length),(vb B.ov)]),(1,some (qN jM B.tm)),(2,some [.mo (kX vJ kY B.kn)]),(3,some [.mo (kX vL kY B.os)]),(4,some (bm jH B.us))] (.d (.val (.int .i64 ((kM B i k).2)))) [(0,some [(.own 1 72 7 (((kM B i k).1).tm.length)),(.mp 2),(.mp 3),(.own 4 3 1 (((kM B i k).1).us.length)),(vb (((kM B i k).1).ov))]),(1,some (qN jM (((kM B i k).1).tm))),(2,some [.mo (kX vJ kY (((kM B i k).1).kn))]),(3,some [.mo (kX vL kY (((kM B i k).1).os))]),(4,some (bm jH (((kM B i k).1).us)))]:=by
 have hbl:=hB.hl
 have hbu:=hB.hu
 refine zW Tryz.func64 rfl cb64 rfl ?_
 refine jB<|kx [] [] (zM<|zZ) ?_
 refine jB<|jL<|jB<|kf [(7,(vb (cS B k 0)))] [(0,some [(.own 1 72 7 B.tm.length),(.mp 2),(.mp 3),(.own 4 3 1 B.us.length),(vb B.ov)]),(1,some (qN jM B.tm)),(2,some [.mo (kX vJ kY B.kn)]),(3,some [.mo (kX vL kY B.os)]),(4,some (bm jH B.us))] (zM<|zM<|zSe (B2:=[(0,some [(.own 1 72 7 B.tm.length),(.mp 2),(.mp 3),(.own 4 3 1 B.us.length),(vb B.ov)]),(1,some (qN jM B.tm)),(2,some [.mo (kX vJ kY B.kn)]),(3,some [.mo (kX vL kY B.os)]),(4,some (bm jH B.us))]) (B2':=[(0,some [(.own 1 72 7 B.tm.length),(.mp 2),(.mp 3),(.own 4 3 1 B.us.length),(vb B.ov)]),(1,some (qN jM B.tm)),(2,some [.mo (kX vJ kY B.kn)]),(3,some [.mo (kX vL kY B.os)]),(4,some (bm jH B.us))]) [0,1,2,3,4] [0] (e_is k 0 B hB hk (by omega) (by omega))<|zM<|zF) ?_
 refine jF (b:=(cS B k 0)) rfl (fun h1=>?_) (fun h1=>?_)
 ·refine jB<|kx [(6,(vi i))] [] (zM<|zM<|zZ) ?_
  rw[bDif_1 h1]
  refine jE ⟨qZ (by kernel_rfl),vA (by kernel_rfl),.inl ⟨_,(.tmp (d:=(.val (.int .i64 (i)))) rfl .nil),?_⟩⟩
  rfl
 ·refine jB<|kf [(12,(vb (cS B i 0)))] [(0,some [(.own 1 72 7 B.tm.length),(.mp 2),(.mp 3),(.own 4 3 1 B.us.length),(vb B.ov)]),(1,some (qN jM B.tm)),(2,some [.mo (kX vJ kY B.kn)]),(3,some [.mo (kX vL kY B.os)]),(4,some (bm jH B.us))] (zM<|zM<|zSe (B2:=[(0,some [(.own 1 72 7 B.tm.length),(.mp 2),(.mp 3),(.own 4 3 1 B.us.length),(vb B.ov)]),(1,some (qN jM B.tm)),(2,some [.mo (kX vJ kY B.kn)]),(3,some [.mo (kX vL kY B.os)]),(4,some (bm jH B.us))]) (B2':=[(0,some [(.own 1 72 7 B.tm.length),(.mp 2),(.mp 3),(.own 4 3 1 B.us.length),(vb B.ov)]),(1,some (qN jM B.tm)),(2,some [.mo (kX vJ kY B.kn)]),(3,some [.mo (kX vL kY B.os)]),(4,some (bm jH B.us))]) [0,1,2,3,4] [0] (e_is i 0 B hB hi (by omega) (by omega))<|zM<|zF) ?_
  refine jF (b:=(cS B i 0)) rfl (fun h2=>?_) (fun h2=>?_)
  ·refine jB<|kf [(6,(vi ((jC B 6 k 0).2)))] [(0,some [(.own 1 72 7 (((jC B 6 k 0).1).tm.length)),(.mp 2),(.mp 3),(.own 4 3 1 (((jC B 6 k 0).1).us.length)),(vb (((jC B 6 k 0).1).ov))]),(1,some (qN jM (((jC B 6 k 0).1).tm))),(2,some [.mo (kX vJ kY (((jC B 6 k 0).1).kn))]),(3,some [.mo (kX vL kY (((jC B 6 k 0).1).os))]),(4,some (bm jH (((jC B 6 k 0).1).us)))] (zM<|zM<|zSe (B2:=[(0,some [(.own 1 72 7 B.tm.length),(.mp 2),(.mp 3),(.own 4 3 1 B.us.length),(vb B.ov)]),(1,some (qN jM B.tm)),(2,some [.mo (kX vJ kY B.kn)]),(3,some [.mo (kX vL kY B.os)]),(4,some (bm jH B.us))]) (B2':=[(0,some [(.own 1 72 7 (((jC B 6 k 0).1).tm.length)),(.mp 2),(.mp 3),(.own 4 3 1 (((jC B 6 k 0).1).us.length)),(vb (((jC B 6 k 0).1).ov))]),(1,some (qN jM (((jC B 6 k 0).1).tm))),(2,some [.mo (kX vJ kY (((jC B 6 k 0).1).kn))]),(3,some [.mo (kX vL kY (((jC B 6 k 0).1).os))]),(4,some (bm jH (((jC B 6 k 0).1).us)))]) [0,1,2,3,4] [0] (dB 6 k 0 B hB (.inr ⟨by decide,by decide,hk,hk.pos⟩))<|zM<|zF) ?_
   rw[bDif_2 h1 h2]
   refine jE ⟨qZ (by kernel_rfl),vA (by kernel_rfl),.inl ⟨_,(.tmp (d:=(.val (.int .i64 ((jC B 6 k 0).2)))) rfl .nil),?_⟩⟩
   rfl
  ·refine jG<|jB<|kf [(6,(vi ((jC B 3 i k).2)))] [(0,some [(.own 1 72 7 (((jC B 3 i k).1).tm.length)),(.mp 2),(.mp 3),(.own 4 3 1 (((jC B 3 i k).1).us.length)),(vb (((jC B 3 i k).1).ov))]),(1,some (qN jM (((jC B 3 i k).1).tm))),(2,some [.mo (kX vJ kY (((jC B 3 i k).1).kn))]),(3,some [.mo (kX vL kY (((jC B 3 i k).1).os))]),(4,some (bm jH (((jC B 3 i k).1).us)))] (zM<|zM<|zM<|zSe (B2:=[(0,some [(.own 1 72 7 B.tm.length),(.mp 2),(.mp 3),(.own 4 3 1 B.us.length),(vb B.ov)]),(1,some (qN jM B.tm)),(2,some [.mo (kX vJ kY B.kn)]),(3,some [.mo (kX vL kY B.os)]),(4,some (bm jH B.us))]) (B2':=[(0,some [(.own 1 72 7 (((jC B 3 i k).1).tm.length)),(.mp 2),(.mp 3),(.own 4 3 1 (((jC B 3 i k).1).us.length)),(vb (((jC B 3 i k).1).ov))]),(1,some (qN jM (((jC B 3 i k).1).tm))),(2,some [.mo (kX vJ kY (((jC B 3 i k).1).kn))]),(3,some [.mo (kX vL kY (((jC B 3 i k).1).os))]),(4,some (bm jH (((jC B 3 i k).1).us)))]) [0,1,2,3,4] [0] (dB 3 i k B hB (.inr ⟨by decide,by decide,hi,hk⟩))<|zM<|zF) ?_
   rw[bDif_3 h1 h2]
   refine jE ⟨qZ (by kernel_rfl),vA (by kernel_rfl),.inl ⟨_,(.tmp (d:=(.val (.int .i64 ((jC B 3 i k).2)))) rfl .nil),?_⟩⟩
   rfl
theorem e_prd(i:Int)(k:Int)(B:yU)(hB:RBI B)(hi:eO B i)(hk:eO B k):vR Tryz.prog 65 [(.ref 0 0),(vi i),(vi k)] [(0,some [(.own 1 72 7 B.tm.length),(.mp 2),(.mp 3),(.own 4 3 1 B.us.length),(vb B.ov)]),(1,some (qN jM B.tm)),(2,some [.mo (kX vJ kY B.kn)]),(3,some [.mo (kX vL kY B.os)]),(4,some (bm jH B.us))] (.d (.val (.int .i64 ((jI B i k).2)))) [(0,some [(.own 1 72 7 (((jI B i k).1).tm.length)),(.mp 2),(.mp 3),(.own 4 3 1 (((jI B i k).1).us.length)),(vb (((jI B i k).1).ov))]),(1,some (qN jM (((jI B i k).1).tm))),(2,some [.mo (kX vJ kY (((jI B i k).1).kn))]),(3,some [.mo (kX vL kY (((jI B i k).1).os))]),(4,some (bm jH (((jI B i k).1).us)))]:=by
 have hbl:=hB.hl
 have hbu:=hB.hu
 refine zW Tryz.func65 rfl cb65 rfl ?_
 refine jB<|kx [] [] (zM<|zZ) ?_
 refine jB<|jL<|jB<|kf [(7,(vb ((cS B i 0)||(cS B k 1))))] [(0,some [(.own 1 72 7 B.tm.length),(.mp 2),(.mp 3),(.own 4 3 1 B.us.length),(vb B.ov)]),(1,some (qN jM B.tm)),(2,some [.mo (kX vJ kY B.kn)]),(3,some [.mo (kX vL kY B.os)]),(4,some (bm jH B.us))] ?_ ?_
 ·refine zM<|zM<|zSe (B2:=[(0,some [(.own 1 72 7 B.tm.length),(.mp 2),(.mp 3),(.own 4 3 1 B.us.length),(vb B.ov)]),(1,some (qN jM B.tm)),(2,some [.mo (kX vJ kY B.kn)]),(3,some [.mo (kX vL kY B.os)]),(4,some (bm jH B.us))]) (B2':=[(0,some [(.own 1 72 7 B.tm.length),(.mp 2),(.mp 3),(.own 4 3 1 B.us.length),(vb B.ov)]),(1,some (qN jM B.tm)),(2,some [.mo (kX vJ kY B.kn)]),(3,some [.mo (kX vL kY B.os)]),(4,some (bm jH B.us))]) [0,1,2,3,4] [0] (e_is i 0 B hB hi (by omega) (by omega))<|zE (oV (vb (cS B i 0)) (qA (by kernel_rfl)))<|?_
  rcases hb1:(cS B i 0) with _ | _
  ·exact zM<|zM<|zSe (B2:=[(0,some [(.own 1 72 7 B.tm.length),(.mp 2),(.mp 3),(.own 4 3 1 B.us.length),(vb B.ov)]),(1,some (qN jM B.tm)),(2,some [.mo (kX vJ kY B.kn)]),(3,some [.mo (kX vL kY B.os)]),(4,some (bm jH B.us))]) (B2':=[(0,some [(.own 1 72 7 B.tm.length),(.mp 2),(.mp 3),(.own 4 3 1 B.us.length),(vb B.ov)]),(1,some (qN jM B.tm)),(2,some [.mo (kX vJ kY B.kn)]),(3,some [.mo (kX vL kY B.os)]),(4,some (bm jH B.us))]) [0,1,2,3,4] [0] (e_is k 1 B hB hk (by omega) (by omega))<|zE eM<|zM<|zF
  ·exact zK<|zK<|zK<|zE gU<|zM<|zF
 refine jF (b:=((cS B i 0)||(cS B k 1))) rfl (fun h2=>?_) (fun h2=>?_)
 ·refine jB<|kx [(6,(vi i))] [] (zM<|zM<|zZ) ?_
  rw[bPrd_1 h2]
  refine jE ⟨qZ (by kernel_rfl),vA (by kernel_rfl),.inl ⟨_,(.tmp (d:=(.val (.int .i64 (i)))) rfl .nil),?_⟩⟩
  rfl
 ·refine jB<|kf [(17,(vb ((cS B k 0)||(cS B i 1))))] [(0,some [(.own 1 72 7 B.tm.length),(.mp 2),(.mp 3),(.own 4 3 1 B.us.length),(vb B.ov)]),(1,some (qN jM B.tm)),(2,some [.mo (kX vJ kY B.kn)]),(3,some [.mo (kX vL kY B.os)]),(4,some (bm jH B.us))] ?_ ?_
  ·refine zM<|zM<|zSe (B2:=[(0,some [(.own 1 72 7 B.tm.length),(.mp 2),(.mp 3),(.own 4 3 1 B.us.length),(vb B.ov)]),(1,some (qN jM B.tm)),(2,some [.mo (kX vJ kY B.kn)]),(3,some [.mo (kX vL kY B.os)]),(4,some (bm jH B.us))]) (B2':=[(0,some [(.own 1 72 7 B.tm.length),(.mp 2),(.mp 3),(.own 4 3 1 B.us.length),(vb B.ov)]),(1,some (qN jM B.tm)),(2,some [.mo (kX vJ kY B.kn)]),(3,some [.mo (kX vL kY B.os)]),(4,some (bm jH B.us))]) [0,1,2,3,4] [0] (e_is k 0 B hB hk (by omega) (by omega))<|zE (oV (vb (cS B k 0)) (qA (by kernel_rfl)))<|?_
   rcases hb3:(cS B k 0) with _ | _
   ·exact zM<|zM<|zSe (B2:=[(0,some [(.own 1 72 7 B.tm.length),(.mp 2),(.mp 3),(.own 4 3 1 B.us.length),(vb B.ov)]),(1,some (qN jM B.tm)),(2,some [.mo (kX vJ kY B.kn)]),(3,some [.mo (kX vL kY B.os)]),(4,some (bm jH B.us))]) (B2':=[(0,some [(.own 1 72 7 B.tm.length),(.mp 2),(.mp 3),(.own 4 3 1 B.us.length),(vb B.ov)]),(1,some (qN jM B.tm)),(2,some [.mo (kX vJ kY B.kn)]),(3,some [.mo (kX vL kY B.os)]),(4,some (bm jH B.us))]) [0,1,2,3,4] [0] (e_is i 1 B hB hi (by omega) (by omega))<|zE eM<|zM<|zF
   ·exact zK<|zK<|zK<|zE gU<|zM<|zF
  refine jF (b:=((cS B k 0)||(cS B i 1))) rfl (fun h4=>?_) (fun h4=>?_)
  ·refine jB<|kx [(6,(vi k))] [] (zM<|zM<|zZ) ?_
   rw[bPrd_2 h2 h4]
   refine jE ⟨qZ (by kernel_rfl),vA (by kernel_rfl),.inl ⟨_,(.tmp (d:=(.val (.int .i64 (k)))) rfl .nil),?_⟩⟩
   rfl
  ·refine jG<|jB<|kf [(6,(vi ((jC B 4 i k).2)))] [(0,some [(.own 1 72 7 (((jC B 4 i k).1).tm.length)),(.mp 2),(.mp 3),(.own 4 3 1 (((jC B 4 i k).1).us.length)),(vb (((jC B 4 i k).1).ov))]),(1,some (qN jM (((jC B 4 i k).1).tm))),(2,some [.mo (kX vJ kY (((jC B 4 i k).1).kn))]),(3,some [.mo (kX vL kY (((jC B 4 i k).1).os))]),(4,some (bm jH (((jC B 4 i k).1).us)))] (zM<|zM<|zM<|zSe (B2:=[(0,some [(.own 1 72 7 B.tm.length),(.mp 2),(.mp 3),(.own 4 3 1 B.us.length),(vb B.ov)]),(1,some (qN jM B.tm)),(2,some [.mo (kX vJ kY B.kn)]),(3,some [.mo (kX vL kY B.os)]),(4,some (bm jH B.us))]) (B2':=[(0,some [(.own 1 72 7 (((jC B 4 i k).1).tm.length)),(.mp 2),(.mp 3),(.own 4 3 1 (((jC B 4 i k).1).us.length)),(vb (((jC B 4 i k).1).ov))]),(1,some (qN jM (((jC B 4 i k).1).tm))),(2,some [.mo (kX vJ kY (((jC B 4 i k).1).kn))]),(3,some [.mo (kX vL kY (((jC B 4 i k).1).os))]),(4,some (bm jH (((jC B 4 i k).1).us)))]) [0,1,2,3,4] [0] (dB 4 i k B hB (.inr ⟨by decide,by decide,hi,hk⟩))<|zM<|zF) ?_
   rw[bPrd_3 h2 h4]
   refine jE ⟨qZ (by kernel_rfl),vA (by kernel_rfl),.inl ⟨_,(.tmp (d:=(.val (.int .i64 ((jC B 4 i k).2)))) rfl .nil),?_⟩⟩
   rfl
theorem by4:xN Tryz.prog 4=some 1:=by kernel_rfl
theorem el131:uN Tryz.prog 131=some (4,1):=by kernel_rfl
theorem qG:uQ Tryz.prog 72 1=some 1:=by kernel_rfl
theorem uK:uQ Tryz.prog 72 2=some 2:=by kernel_rfl
theorem ze4:vO Tryz.prog 4=some [.bool false]:=by kernel_rfl
theorem zo4:dC [.bool false] [.val (.bool false)]:=by simp [dC,Value.oneCell']
theorem p_trim(t:List kC)(m:Nat)(hm:m<t.length)(hl:t.length<=400)(hT:OrdT t):jR Tryz.prog 68 [(.sl 72 7 (List.map jM t)),(.val (.int .i64 (((m:Nat):Int))))] (.sl 72 7 (List.map jM (trimT t m))):=by
 refine uU Tryz.func68 ?_
 refine jB<|kx [] [] (zE (fQ 72 7)<|zZ) ?_
 refine jB<|kx [(5,(.own 0 4 1 t.length))] [(0,some (bm eG (List.replicate t.length false)))] (zM<|zE (zL xZ)<|zN (oMk 0 eG (false:Bool) t.length t.length el131 ze4 zo4 by4)<|zM<|zZ) ?_
 refine jB<|kx [] [(0,some (bm eG ((List.replicate t.length false).set m true)))] (zM<|zM<|zE (zJ el131 m)<|zT (dH eL m true (h1:=by first | omega | (simp only[List.length_replicate,List.length_set];omega)))<|zZ) ?_
 refine jB<|jB<|kx [(6,(kG m))] [] (zM<|zM<|zZ) ?_
 refine jL<|kQ (α:=Int × List Bool) (fun (z,nd)=>⟨[(0,(vl 72 7 jM t)),(1,(kG m)),(5,(.own 0 4 1 t.length)),(6,(vi z))],[(0,some (bm eG nd))]⟩) (fun (z,nd)=>z<=(m:Int)/\-1<=z/\nd.length=t.length/\ndL t nd (z+1).toNat=ndA t m) (fun (z,nd)=>(z+1).toNat) ((m:Int),(List.replicate t.length false).set m true) wk ⟨Int.le_refl _,by omega,by rw[List.length_set,List.length_replicate],by rw[show ((m:Int)+1).toNat=m+1 by omega];rfl⟩ ?_
 rintro ⟨z,nd⟩ ⟨hzm,hz1,hnl,hnd⟩
 refine jB<|jB<|kx [(21,(vb (decide (0<=z))))] [] (zM<|zE oGe<|zZ) ?_
 refine jF (b:=decide (0<=z)) rfl (fun h1=>?_) (fun h1=>?_)
 ·replace h1:=vN h1
  have hz0:0<=z:=h1
  refine jG<|jB<|jL<|jB<|jB<|kx [(28,(vb (!(nd.getD ((z).toNat) false))))] [] (zM<|zM<|zE (zJ el131 ((z).toNat))<|zR (dG eL ((z).toNat) (false:Bool))<|zE mH<|zZ) ?_
  refine jF (b:=!(nd.getD ((z).toNat) false)) rfl (fun h2=>?_) (fun h2=>?_)
  ·refine kN<|kx [(6,(vi (z-1)))] [] (zM<|zE (zSb (z-1))<|zM<|zZ) ?_
   exact ⟨(z-1,nd),wk,⟨by omega,by omega,hnl,ndL_step hz0 hnd (ndS_n h2)⟩,(by first|omega|(dsimp only;omega))⟩
  ·have hne:=h2
   refine jG<|jB<|kx [(7,(vi (uA ((t.getD ((z).toNat) tz).op))))] [] (zM<|zM<|zE (mV xZ ((z).toNat) (tz:kC))<|zE (oFc xY)<|zE (nK dD)<|zE (kB (j_kids ((t.getD ((z).toNat) tz).op)))<|zM<|zZ) ?_
   refine jB<|kx [(36,(vb (decide (0<(uA ((t.getD ((z).toNat) tz).op))))))] [] (zM<|zE dI<|zZ) ?_
   refine jF rfl (fun h3=>?_) (fun h3=>?_)
   ·replace h3:=vN h3
    have hk0:=h3
    obtain ⟨ha0,ha1⟩:=(hT z.toNat (by omega)).1 h3
    refine jB<|kx [] [(0,some (bm eG (nd.set (((t.getD ((z).toNat) tz).a).toNat) true)))] (zM<|zM<|zM<|zE (mV xZ ((z).toNat) (tz:kC))<|zE (oFc qG)<|zE (nK uC)<|zE (zJ el131 (((t.getD ((z).toNat) tz).a).toNat))<|zT (dH eL (((t.getD ((z).toNat) tz).a).toNat) true (h1:=by first | omega | (simp only[List.length_replicate,List.length_set];omega)))<|zZ) ?_
    refine jB<|kx [(45,(vb (decide (1<(uA ((t.getD ((z).toNat) tz).op))))))] [] (zM<|zE dI<|zZ) ?_
    refine jF rfl (fun h4=>?_) (fun h4=>?_)
    ·replace h4:=vN h4
     obtain ⟨hb0,hb1⟩:=(hT z.toNat (by omega)).2 h4
     have hnl2:(nd.set (t.getD z.toNat tz).a.toNat true).length=t.length:=by rw[List.length_set];exact hnl
     refine kx [] [(0,some (bm eG ((nd.set (((t.getD ((z).toNat) tz).a).toNat) true).set (((t.getD ((z).toNat) tz).b).toNat) true)))] (zM<|zM<|zM<|zE (mV xZ ((z).toNat) (tz:kC))<|zE (oFc uK)<|zE (nK uC)<|zE (zJ el131 (((t.getD ((z).toNat) tz).b).toNat))<|zT (dH eL (((t.getD ((z).toNat) tz).b).toNat) true (h1:=by first | omega | (simp only[List.length_replicate,List.length_set];omega)))<|zZ) ?_
     refine kx [(6,(vi (z-1)))] [] (zM<|zE (zSb (z-1))<|zM<|zZ) ?_
     exact ⟨(z-1,(nd.set (t.getD z.toNat tz).a.toNat true).set (t.getD z.toNat tz).b.toNat true),wk,⟨by omega,by omega,by rw[List.length_set,List.length_set];exact hnl,ndL_step hz0 hnd (ndS_2 hne hk0 h4)⟩,(by first|omega|(dsimp only;omega))⟩
    ·replace h4:=vX h4
     refine jG<|kx [(6,(vi (z-1)))] [] (zM<|zE (zSb (z-1))<|zM<|zZ) ?_
     exact ⟨(z-1,nd.set (t.getD z.toNat tz).a.toNat true),wk,⟨by omega,by omega,by rw[List.length_set];exact hnl,ndL_step hz0 hnd (ndS_1 hne hk0 h4)⟩,(by first|omega|(dsimp only;omega))⟩
   ·replace h3:=vX h3
    refine jG<|kx [(6,(vi (z-1)))] [] (zM<|zE (zSb (z-1))<|zM<|zZ) ?_
    exact ⟨(z-1,nd),wk,⟨by omega,by omega,hnl,ndL_step hz0 hnd (ndS_0 hne h3)⟩,(by first|omega|(dsimp only;omega))⟩
 ·replace h1:=vX h1
  have hnd2:=ndL_end h1 hnd
  refine kN<|jB<|kx [(8,(.own 1 3 1 t.length))] [(1,some (bm jH (List.replicate t.length 0)))] (zM<|zE (zL xZ)<|zH (oMk 1 jH (0:Int) t.length t.length uI ze3 zo3 by3)<|zM<|zZ) ?_
  refine jB<|kx [(9,(.own 2 72 7 0))] [(2,some (qN jM []))] (zOh 2 72 7<|zZ) ?_
  refine jB<|jB<|kx [(59,(vl 72 7 jM (List.take (m+1) t))),(60,(kG (m+1))),(61,(kG 0))] [] (zM<|zM<|zE (vY (m+1))<|zE (e_slc (l:=0) (h:=(m+1)) (kl:=.i64) (kh:=.i64) (es':=List.map jM (List.take (m+1) t)) (by exact rfl) xZ (by exact rfl) (by exact rfl) (by exact rfl) (Nat.zero_le _) (by simp only[List.length_map];omega) (by rw[List.drop_zero,List.map_take]))<|zE (oLn xZ (m+1) (hr:=by exact (by rw[List.length_map,List.length_take];congr 2;omega)))<|zM<|zZ) ?_
  refine jL<|kQ (α:=Nat × List Int × List kC) (fun (k,nm,o)=>⟨[(5,(.own 0 4 1 t.length)),(8,(.own 1 3 1 t.length)),(9,(.own 2 72 7 o.length)),(59,(vl 72 7 jM (List.take (m+1) t))),(60,(kG (m+1))),(61,(kG k))],[(0,some (bm eG nd)),(1,some (bm jH nm)),(2,some (qN jM o))]⟩) (fun (k,nm,o)=>k<=m+1/\tmF t nd k=(nm,o)) (fun (k,nm,o)=>m+1-k) (0,List.replicate t.length 0,[]) wk ⟨Nat.zero_le _,rfl⟩ ?_
  rintro ⟨k,nm,o⟩ ⟨hk,hf⟩
  obtain ⟨hml,hol⟩:=tm_lenk hf
  refine jB<|kx [(62,(vb (decide (((k:Nat):Int)<(((m+1):Nat):Int)))))] [] (zE gX<|zZ) ?_
  refine jB<|jF rfl (fun h5=>?_) (fun h5=>?_)
  ·replace h5:=vN h5
   have hkm:k<m+1:=by omega
   refine jG<|jB<|jL<|jB<|kx [(10,(kG k)),(11,(.ref 3 0))] [(3,some (bx (jM (t.getD k tz))))] (zM<|zE (mV xZ k (tz:kC) (L:=(List.take (m+1) t)) (hj:=by first | omega | (rw[List.length_take];omega) | (simp only[List.length_take];omega)) (h1:=by first | omega | (rw[List.length_take];omega) | (simp only[List.length_take];omega)))<|zE (oQd (jM ((List.take (m+1) t).getD k tz)) (jM (t.getD k tz)) (cV dP) (by exact (by rw[show (List.take (m+1) t).getD k tz=t.getD k tz from take_getDr t tz hkm])))<|zH (vC 3 cX eN)<|zM<|zT (qM dP)<|zZ) ?_
   refine jB<|jB<|kx [(70,(vb (!(nd.getD k false))))] [] (zM<|zM<|zE (zJ el131 k)<|zR (dG eL k (false:Bool))<|zE mH<|zZ) ?_
   refine jF (b:=!(nd.getD k false)) rfl (fun h6=>?_) (fun h6=>?_)
   ·refine kN<|kx [(61,(kG (k+1)))] [] (zE (vY (k+1))<|zM<|zZ) ?_
    exact ⟨(k+1,nm,o),wk,⟨by omega,tmF_n hf h6⟩,(by first|omega|(dsimp only;omega))⟩
   ·have hne:=h6
    refine jG<|jB<|jB<|kx [(12,(vi (uA ((t.getD k tz).op))))] [] (zE (kK xY)<|zR (qI dD)<|zE (kB (j_kids ((t.getD k tz).op)))<|zM<|zZ) ?_
    refine jB<|kx [(75,(vb (decide (0<(uA ((t.getD k tz).op))))))] [] (zM<|zE dI<|zZ) ?_
    refine jF (b:=decide (0<(uA ((t.getD k tz).op)))) rfl (fun h7=>?_) (fun h7=>?_)
    ·replace h7:=vN h7
     have hk0:=h7
     obtain ⟨ha0,ha1⟩:=(hT k (by omega)).1 h7
     refine jB<|kx [] [(3,some (bx (jM (kC.mk ((t.getD k tz).op) (nm.getD (((t.getD k tz).a).toNat) 0) ((t.getD k tz).b) ((t.getD k tz).n)))))] (zM<|zE (kK qG)<|zR (qI uC)<|zE (zJ uI (((t.getD k tz).a).toNat))<|zR (dG uC (((t.getD k tz).a).toNat) (0:Int))<|zE (kK qG)<|zT (qM uC)<|zZ) ?_
     refine jB<|kx [(83,(vb (decide (1<(uA ((t.getD k tz).op))))))] [] (zM<|zE dI<|zZ) ?_
     refine jF (b:=decide (1<(uA ((t.getD k tz).op)))) rfl (fun h8=>?_) (fun h8=>?_)
     ·replace h8:=vN h8
      obtain ⟨hb0,hb1⟩:=(hT k (by omega)).2 h8
      refine kx [] [(3,some (bx (jM (kC.mk ((t.getD k tz).op) (nm.getD (((t.getD k tz).a).toNat) 0) (nm.getD (((t.getD k tz).b).toNat) 0) ((t.getD k tz).n)))))] (zM<|zE (kK uK)<|zR (qI uC)<|zE (zJ uI (((t.getD k tz).b).toNat) (hj:=by first | omega | (dsimp only;omega)) (h1:=by first | omega | (dsimp only;omega)))<|zR (dG uC (((t.getD k tz).b).toNat) (0:Int))<|zE (kK uK)<|zT (qM uC)<|zZ) ?_
      refine jB<|kx [] [(1,some (bm jH (nm.set k ((o.length:Nat):Int))))] (zM<|zM<|zM<|zE (oLo xZ)<|zE (zJ uI k)<|zT (dH uC k (((o.length:Nat):Int)) (h1:=by first | omega | (simp only[List.length_replicate,List.length_set];omega)))<|zZ) ?_
      refine kf [(9,(.own 2 72 7 ((o++[(kC.mk ((t.getD k tz).op) (nm.getD (((t.getD k tz).a).toNat) 0) (nm.getD (((t.getD k tz).b).toNat) 0) ((t.getD k tz).n))]).length)))] [(2,some (qN jM (o++[(kC.mk ((t.getD k tz).op) (nm.getD (((t.getD k tz).a).toNat) 0) (nm.getD (((t.getD k tz).b).toNat) 0) ((t.getD k tz).n))])))] (zM<|zR (kR dP)<|zE (fH xZ cX eN)<|zAS jM o [(kC.mk ((t.getD k tz).op) (nm.getD (((t.getD k tz).a).toNat) 0) (nm.getD (((t.getD k tz).b).toNat) 0) ((t.getD k tz).n))] rfl xZ cX by72<|zM<|zF) ?_
      refine kx [(61,(kG (k+1)))] [] (zE (vY (k+1))<|zM<|zZ) ?_
      exact ⟨(k+1,nm.set k ((o.length:Nat):Int),o++[kC.mk (t.getD k tz).op (nm.getD (t.getD k tz).a.toNat 0) (nm.getD (t.getD k tz).b.toNat 0) (t.getD k tz).n]),wk,⟨by omega,tmF_y hf hne (rnN_2 hk0 h8)⟩,(by first|omega|(dsimp only;omega))⟩
     ·replace h8:=vX h8
      refine jG<|jB<|kx [] [(1,some (bm jH (nm.set k ((o.length:Nat):Int))))] (zM<|zM<|zM<|zE (oLo xZ)<|zE (zJ uI k)<|zT (dH uC k (((o.length:Nat):Int)) (h1:=by first | omega | (simp only[List.length_replicate,List.length_set];omega)))<|zZ) ?_
      refine kf [(9,(.own 2 72 7 ((o++[(kC.mk ((t.getD k tz).op) (nm.getD (((t.getD k tz).a).toNat) 0) ((t.getD k tz).b) ((t.getD k tz).n))]).length)))] [(2,some (qN jM (o++[(kC.mk ((t.getD k tz).op) (nm.getD (((t.getD k tz).a).toNat) 0) ((t.getD k tz).b) ((t.getD k tz).n))])))] (zM<|zR (kR dP)<|zE (fH xZ cX eN)<|zAS jM o [(kC.mk ((t.getD k tz).op) (nm.getD (((t.getD k tz).a).toNat) 0) ((t.getD k tz).b) ((t.getD k tz).n))] rfl xZ cX by72<|zM<|zF) ?_
      refine kx [(61,(kG (k+1)))] [] (zE (vY (k+1))<|zM<|zZ) ?_
      exact ⟨(k+1,nm.set k ((o.length:Nat):Int),o++[kC.mk (t.getD k tz).op (nm.getD (t.getD k tz).a.toNat 0) (t.getD k tz).b (t.getD k tz).n]),wk,⟨by omega,tmF_y hf hne (rnN_1 hk0 h8)⟩,(by first|omega|(dsimp only;omega))⟩
    ·replace h7:=vX h7
     refine jG<|jB<|kx [] [(1,some (bm jH (nm.set k ((o.length:Nat):Int))))] (zM<|zM<|zM<|zE (oLo xZ)<|zE (zJ uI k)<|zT (dH uC k (((o.length:Nat):Int)) (h1:=by first | omega | (simp only[List.length_replicate,List.length_set];omega)))<|zZ) ?_
     refine kf [(9,(.own 2 72 7 ((o++[(t.getD k tz)]).length)))] [(2,some (qN jM (o++[(t.getD k tz)])))] (zM<|zR (kR dP)<|zE (fH xZ cX eN)<|zAS jM o [(t.getD k tz)] rfl xZ cX by72<|zM<|zF) ?_
     refine kx [(61,(kG (k+1)))] [] (zE (vY (k+1))<|zM<|zZ) ?_
     exact ⟨(k+1,nm.set k ((o.length:Nat):Int),o++[(t.getD k tz)]),wk,⟨by omega,tmF_y hf hne (rnN_0 h7)⟩,(by first|omega|(dsimp only;omega))⟩
  ·replace h5:=vX h5
   refine kN<|jB<|kx [(4,(.own 2 72 7 o.length))] [] (zM<|zM<|zZ) ?_
   refine qL (yG (t:=4) (k:=2) (es:=List.map jM o) rfl rfl (bH _ _ (fun _=>rfl)) (xH _ _ rfl) (pubs_take jM o (fun _=>rfl) rfl)) ?_
   refine jE ⟨_,(.tmp (d:=(.sl 72 7 (List.map jM o))) rfl .nil),?_⟩
   rw[show trimT t m=o from by unfold trimT;rw[<- hnd2,<- show k=m+1 by omega,hf]];rfl
end Go.Proofs.YtckccjhflbljgaaGreatDoor
