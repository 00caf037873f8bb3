/- Part 28 of a proof: rules, plain facts, and functions walked. -/
import Derived.Test.YtckccjhflbljgaaGreatDoorM27
set_option linter.all false
set_option maxRecDepth 4000
namespace Go.Proofs.YtckccjhflbljgaaGreatDoor
open Go.Fid
theorem cb64:callB Tryz.prog 64=true:=by kernel_rfl
theorem cb65:callB Tryz.prog 65=true:=by kernel_rfl
theorem cb66:callB Tryz.prog 66=true:=by kernel_rfl
theorem e_sum(i:Int)(k:Int)(B:gO)(hB:RBI B)(hi:fX B i)(hk:fX B k):uI Tryz.prog 66 [(.ref 0 0),(vi i),(vi k)] [(0,some [(.own 1 72 7 B.tm.length),(.mp 2),(.mp 3),(.own 4 3 1 B.us.length),(vb B.ov)]),(1,some (qS jO B.tm)),(2,some [.mo (vF mH vW B.kn)]),(3,some [.mo (vF mO vW B.os)]),(4,some (bm jL B.us))] (.d (.val (.int .i64 ((mB B i k).2)))) [(0,some [(.own 1 72 7 (((mB B i k).1).tm.length)),(.mp 2),(.mp 3),(.own 4 3 1 (((mB B i k).1).us.length)),(vb (((mB B i k).1).ov))]),(1,some (qS jO (((mB B i k).1).tm))),(2,some [.mo (vF mH vW (((mB B i k).1).kn))]),(3,some [.mo (vF mO vW (((mB B i k).1).os))]),(4,some (bm jL (((mB B i k).1).us)))]:=by
 have hbl:=hB.hl
 have hbu:=hB.hu
 refine xE Tryz.func66 rfl cb66 rfl ?_
 refine jB<|kx [] [] (zM<|zZ) ?_
 refine jB<|jH<|jB<|kf [(7,(vb (dY B i 0)))] [(0,some [(.own 1 72 7 B.tm.length),(.mp 2),(.mp 3),(.own 4 3 1 B.us.length),(vb B.ov)]),(1,some (qS jO B.tm)),(2,some [.mo (vF mH vW B.kn)]),(3,some [.mo (vF mO vW B.os)]),(4,some (bm jL B.us))] (zM<|zM<|iF (B2:=[(0,some [(.own 1 72 7 B.tm.length),(.mp 2),(.mp 3),(.own 4 3 1 B.us.length),(vb B.ov)]),(1,some (qS jO B.tm)),(2,some [.mo (vF mH vW B.kn)]),(3,some [.mo (vF mO vW B.os)]),(4,some (bm jL B.us))]) (B2':=[(0,some [(.own 1 72 7 B.tm.length),(.mp 2),(.mp 3),(.own 4 3 1 B.us.length),(vb B.ov)]),(1,some (qS jO B.tm)),(2,some [.mo (vF mH vW B.kn)]),(3,some [.mo (vF mO vW B.os)]),(4,some (bm jL B.us))]) [0,1,2,3,4] [0] (e_is i 0 B hB hi (by omega) (by omega))<|zM<|zF) ?_
 refine jF (b:=(dY B i 0)) rfl (fun h1=>?_) (fun h1=>?_)
 ·refine jB<|kx [(6,(vi k))] [] (zM<|zM<|zZ) ?_
  rw[bSum_1 h1]
  refine jD ⟨qR (by kernel_rfl),uH (by kernel_rfl),.inl ⟨_,(.tmp (d:=(.val (.int .i64 (k)))) rfl .nil),?_⟩⟩
  rfl
 ·refine jB<|kf [(12,(vb (dY B k 0)))] [(0,some [(.own 1 72 7 B.tm.length),(.mp 2),(.mp 3),(.own 4 3 1 B.us.length),(vb B.ov)]),(1,some (qS jO B.tm)),(2,some [.mo (vF mH vW B.kn)]),(3,some [.mo (vF mO vW B.os)]),(4,some (bm jL B.us))] (zM<|zM<|iF (B2:=[(0,some [(.own 1 72 7 B.tm.length),(.mp 2),(.mp 3),(.own 4 3 1 B.us.length),(vb B.ov)]),(1,some (qS jO B.tm)),(2,some [.mo (vF mH vW B.kn)]),(3,some [.mo (vF mO vW B.os)]),(4,some (bm jL B.us))]) (B2':=[(0,some [(.own 1 72 7 B.tm.length),(.mp 2),(.mp 3),(.own 4 3 1 B.us.length),(vb B.ov)]),(1,some (qS jO B.tm)),(2,some [.mo (vF mH vW B.kn)]),(3,some [.mo (vF mO vW B.os)]),(4,some (bm jL B.us))]) [0,1,2,3,4] [0] (e_is k 0 B hB hk (by omega) (by omega))<|zM<|zF) ?_
  refine jF (b:=(dY B k 0)) rfl (fun h2=>?_) (fun h2=>?_)
  ·refine jB<|kx [(6,(vi i))] [] (zM<|zM<|zZ) ?_
   rw[bSum_2 h1 h2]
   refine jD ⟨qR (by kernel_rfl),uH (by kernel_rfl),.inl ⟨_,(.tmp (d:=(.val (.int .i64 (i)))) rfl .nil),?_⟩⟩
   rfl
  ·refine jE<|jB<|kf [(6,(vi ((jV B 2 i k).2)))] [(0,some [(.own 1 72 7 (((jV B 2 i k).1).tm.length)),(.mp 2),(.mp 3),(.own 4 3 1 (((jV B 2 i k).1).us.length)),(vb (((jV B 2 i k).1).ov))]),(1,some (qS jO (((jV B 2 i k).1).tm))),(2,some [.mo (vF mH vW (((jV B 2 i k).1).kn))]),(3,some [.mo (vF mO vW (((jV B 2 i k).1).os))]),(4,some (bm jL (((jV B 2 i k).1).us)))] (zM<|zM<|zM<|iF (B2:=[(0,some [(.own 1 72 7 B.tm.length),(.mp 2),(.mp 3),(.own 4 3 1 B.us.length),(vb B.ov)]),(1,some (qS jO B.tm)),(2,some [.mo (vF mH vW B.kn)]),(3,some [.mo (vF mO vW B.os)]),(4,some (bm jL B.us))]) (B2':=[(0,some [(.own 1 72 7 (((jV B 2 i k).1).tm.length)),(.mp 2),(.mp 3),(.own 4 3 1 (((jV B 2 i k).1).us.length)),(vb (((jV B 2 i k).1).ov))]),(1,some (qS jO (((jV B 2 i k).1).tm))),(2,some [.mo (vF mH vW (((jV B 2 i k).1).kn))]),(3,some [.mo (vF mO vW (((jV B 2 i k).1).os))]),(4,some (bm jL (((jV B 2 i k).1).us)))]) [0,1,2,3,4] [0] (eP 2 i k B hB (.inr ⟨by decide,by decide,hi,hk⟩))<|zM<|zF) ?_
   rw[bSum_3 h1 h2]
   refine jD ⟨qR (by kernel_rfl),uH (by kernel_rfl),.inl ⟨_,(.tmp (d:=(.val (.int .i64 ((jV B 2 i k).2)))) rfl .nil),?_⟩⟩
   rfl
theorem e_dif(i:Int)(k:Int)(B:gO)(hB:RBI B)(hi:fX B i)(hk:fX B k):uI Tryz.prog 64 [(.ref 0 0),(vi i),(vi k)] [(0,some [(.own 1 72 7 B.tm.length),(.mp 2),(.mp 3),(.own 4 3 1 B.us.length),(vb B.ov)]),(1,some (qS jO B.tm)),(2,some [.mo (vF mH vW B.kn)]),(3,some [.mo (vF mO vW B.os)]),(4,some (bm jL B.us))] (.d (.val (.int .i64 ((vJ B i k).2)))) [(0,some [(.own 1 72 7 (((vJ B i k).1).tm.length)),(.mp 2),(.mp 3),(.own 4 3 1 (((vJ B i k).1).us.length)),(vb (((vJ B i k).1).ov))]),(1,some (qS jO (((vJ B i k).1).tm))),(2,some [.mo (vF mH vW (((vJ B i k).1).kn))]),(3,some [.mo (vF mO vW (((vJ B i k).1).os))]),(4,some (bm jL (((vJ B i k).1).us)))]:=by
 have hbl:=hB.hl
 have hbu:=hB.hu
 refine xE Tryz.func64 rfl cb64 rfl ?_
 refine jB<|kx [] [] (zM<|zZ) ?_
 refine jB<|jH<|jB<|kf [(7,(vb (dY B k 0)))] [(0,some [(.own 1 72 7 B.tm.length),(.mp 2),(.mp 3),(.own 4 3 1 B.us.length),(vb B.ov)]),(1,some (qS jO B.tm)),(2,some [.mo (vF mH vW B.kn)]),(3,some [.mo (vF mO vW B.os)]),(4,some (bm jL B.us))] (zM<|zM<|iF (B2:=[(0,some [(.own 1 72 7 B.tm.length),(.mp 2),(.mp 3),(.own 4 3 1 B.us.length),(vb B.ov)]),(1,some (qS jO B.tm)),(2,some [.mo (vF mH vW B.kn)]),(3,some [.mo (vF mO vW B.os)]),(4,some (bm jL B.us))]) (B2':=[(0,some [(.own 1 72 7 B.tm.length),(.mp 2),(.mp 3),(.own 4 3 1 B.us.length),(vb B.ov)]),(1,some (qS jO B.tm)),(2,some [.mo (vF mH vW B.kn)]),(3,some [.mo (vF mO vW B.os)]),(4,some (bm jL B.us))]) [0,1,2,3,4] [0] (e_is k 0 B hB hk (by omega) (by omega))<|zM<|zF) ?_
 refine jF (b:=(dY B k 0)) rfl (fun h1=>?_) (fun h1=>?_)
 ·refine jB<|kx [(6,(vi i))] [] (zM<|zM<|zZ) ?_
  rw[bDif_1 h1]
  refine jD ⟨qR (by kernel_rfl),uH (by kernel_rfl),.inl ⟨_,(.tmp (d:=(.val (.int .i64 (i)))) rfl .nil),?_⟩⟩
  rfl
 ·refine jB<|kf [(12,(vb (dY B i 0)))] [(0,some [(.own 1 72 7 B.tm.length),(.mp 2),(.mp 3),(.own 4 3 1 B.us.length),(vb B.ov)]),(1,some (qS jO B.tm)),(2,some [.mo (vF mH vW B.kn)]),(3,some [.mo (vF mO vW B.os)]),(4,some (bm jL B.us))] (zM<|zM<|iF (B2:=[(0,some [(.own 1 72 7 B.tm.length),(.mp 2),(.mp 3),(.own 4 3 1 B.us.length),(vb B.ov)]),(1,some (qS jO B.tm)),(2,some [.mo (vF mH vW B.kn)]),(3,some [.mo (vF mO vW B.os)]),(4,some (bm jL B.us))]) (B2':=[(0,some [(.own 1 72 7 B.tm.length),(.mp 2),(.mp 3),(.own 4 3 1 B.us.length),(vb B.ov)]),(1,some (qS jO B.tm)),(2,some [.mo (vF mH vW B.kn)]),(3,some [.mo (vF mO vW B.os)]),(4,some (bm jL B.us))]) [0,1,2,3,4] [0] (e_is i 0 B hB hi (by omega) (by omega))<|zM<|zF) ?_
  refine jF (b:=(dY B i 0)) rfl (fun h2=>?_) (fun h2=>?_)
  ·refine jB<|kf [(6,(vi ((jV B 6 k 0).2)))] [(0,some [(.own 1 72 7 (((jV B 6 k 0).1).tm.length)),(.mp 2),(.mp 3),(.own 4 3 1 (((jV B 6 k 0).1).us.length)),(vb (((jV B 6 k 0).1).ov))]),(1,some (qS jO (((jV B 6 k 0).1).tm))),(2,some [.mo (vF mH vW (((jV B 6 k 0).1).kn))]),(3,some [.mo (vF mO vW (((jV B 6 k 0).1).os))]),(4,some (bm jL (((jV B 6 k 0).1).us)))] (zM<|zM<|iF (B2:=[(0,some [(.own 1 72 7 B.tm.length),(.mp 2),(.mp 3),(.own 4 3 1 B.us.length),(vb B.ov)]),(1,some (qS jO B.tm)),(2,some [.mo (vF mH vW B.kn)]),(3,some [.mo (vF mO vW B.os)]),(4,some (bm jL B.us))]) (B2':=[(0,some [(.own 1 72 7 (((jV B 6 k 0).1).tm.length)),(.mp 2),(.mp 3),(.own 4 3 1 (((jV B 6 k 0).1).us.length)),(vb (((jV B 6 k 0).1).ov))]),(1,some (qS jO (((jV B 6 k 0).1).tm))),(2,some [.mo (vF mH vW (((jV B 6 k 0).1).kn))]),(3,some [.mo (vF mO vW (((jV B 6 k 0).1).os))]),(4,some (bm jL (((jV B 6 k 0).1).us)))]) [0,1,2,3,4] [0] (eP 6 k 0 B hB (.inr ⟨by decide,by decide,hk,hk.pos⟩))<|zM<|zF) ?_
   rw[bDif_2 h1 h2]
   refine jD ⟨qR (by kernel_rfl),uH (by kernel_rfl),.inl ⟨_,(.tmp (d:=(.val (.int .i64 ((jV B 6 k 0).2)))) rfl .nil),?_⟩⟩
   rfl
  ·refine jE<|jB<|kf [(6,(vi ((jV B 3 i k).2)))] [(0,some [(.own 1 72 7 (((jV B 3 i k).1).tm.length)),(.mp 2),(.mp 3),(.own 4 3 1 (((jV B 3 i k).1).us.length)),(vb (((jV B 3 i k).1).ov))]),(1,some (qS jO (((jV B 3 i k).1).tm))),(2,some [.mo (vF mH vW (((jV B 3 i k).1).kn))]),(3,some [.mo (vF mO vW (((jV B 3 i k).1).os))]),(4,some (bm jL (((jV B 3 i k).1).us)))] (zM<|zM<|zM<|iF (B2:=[(0,some [(.own 1 72 7 B.tm.length),(.mp 2),(.mp 3),(.own 4 3 1 B.us.length),(vb B.ov)]),(1,some (qS jO B.tm)),(2,some [.mo (vF mH vW B.kn)]),(3,some [.mo (vF mO vW B.os)]),(4,some (bm jL B.us))]) (B2':=[(0,some [(.own 1 72 7 (((jV B 3 i k).1).tm.length)),(.mp 2),(.mp 3),(.own 4 3 1 (((jV B 3 i k).1).us.length)),(vb (((jV B 3 i k).1).ov))]),(1,some (qS jO (((jV B 3 i k).1).tm))),(2,some [.mo (vF mH vW (((jV B 3 i k).1).kn))]),(3,some [.mo (vF mO vW (((jV B 3 i k).1).os))]),(4,some (bm jL (((jV B 3 i k).1).us)))]) [0,1,2,3,4] [0] (eP 3 i k B hB (.inr ⟨by decide,by decide,hi,hk⟩))<|zM<|zF) ?_
   rw[bDif_3 h1 h2]
   refine jD ⟨qR (by kernel_rfl),uH (by kernel_rfl),.inl ⟨_,(.tmp (d:=(.val (.int .i64 ((jV B 3 i k).2)))) rfl .nil),?_⟩⟩
   rfl
theorem e_prd(i:Int)(k:Int)(B:gO)(hB:RBI B)(hi:fX B i)(hk:fX B k):uI Tryz.prog 65 [(.ref 0 0),(vi i),(vi k)] [(0,some [(.own 1 72 7 B.tm.length),(.mp 2),(.mp 3),(.own 4 3 1 B.us.length),(vb B.ov)]),(1,some (qS jO B.tm)),(2,some [.mo (vF mH vW B.kn)]),(3,some [.mo (vF mO vW B.os)]),(4,some (bm jL B.us))] (.d (.val (.int .i64 ((kH B i k).2)))) [(0,some [(.own 1 72 7 (((kH B i k).1).tm.length)),(.mp 2),(.mp 3),(.own 4 3 1 (((kH B i k).1).us.length)),(vb (((kH B i k).1).ov))]),(1,some (qS jO (((kH B i k).1).tm))),(2,some [.mo (vF mH vW (((kH B i k).1).kn))]),(3,some [.mo (vF mO vW (((kH B i k).1).os))]),(4,some (bm jL (((kH B i k).1).us)))]:=by
 have hbl:=hB.hl
 have hbu:=hB.hu
 refine xE Tryz.func65 rfl cb65 rfl ?_
 refine jB<|kx [] [] (zM<|zZ) ?_
 refine jB<|jH<|jB<|kf [(7,(vb ((dY B i 0)||(dY B k 1))))] [(0,some [(.own 1 72 7 B.tm.length),(.mp 2),(.mp 3),(.own 4 3 1 B.us.length),(vb B.ov)]),(1,some (qS jO B.tm)),(2,some [.mo (vF mH vW B.kn)]),(3,some [.mo (vF mO vW B.os)]),(4,some (bm jL B.us))] ?_ ?_
 ·refine zM<|zM<|iF (B2:=[(0,some [(.own 1 72 7 B.tm.length),(.mp 2),(.mp 3),(.own 4 3 1 B.us.length),(vb B.ov)]),(1,some (qS jO B.tm)),(2,some [.mo (vF mH vW B.kn)]),(3,some [.mo (vF mO vW B.os)]),(4,some (bm jL B.us))]) (B2':=[(0,some [(.own 1 72 7 B.tm.length),(.mp 2),(.mp 3),(.own 4 3 1 B.us.length),(vb B.ov)]),(1,some (qS jO B.tm)),(2,some [.mo (vF mH vW B.kn)]),(3,some [.mo (vF mO vW B.os)]),(4,some (bm jL B.us))]) [0,1,2,3,4] [0] (e_is i 0 B hB hi (by omega) (by omega))<|zE (oV (vb (dY B i 0)) (qA (by kernel_rfl)))<|?_
  rcases hb1:(dY B i 0) with _ | _
  ·exact zM<|zM<|iF (B2:=[(0,some [(.own 1 72 7 B.tm.length),(.mp 2),(.mp 3),(.own 4 3 1 B.us.length),(vb B.ov)]),(1,some (qS jO B.tm)),(2,some [.mo (vF mH vW B.kn)]),(3,some [.mo (vF mO vW B.os)]),(4,some (bm jL B.us))]) (B2':=[(0,some [(.own 1 72 7 B.tm.length),(.mp 2),(.mp 3),(.own 4 3 1 B.us.length),(vb B.ov)]),(1,some (qS jO B.tm)),(2,some [.mo (vF mH vW B.kn)]),(3,some [.mo (vF mO vW B.os)]),(4,some (bm jL B.us))]) [0,1,2,3,4] [0] (e_is k 1 B hB hk (by omega) (by omega))<|zE aD<|zM<|zF
  ·exact zK<|zK<|zK<|zE nT<|zM<|zF
 refine jF (b:=((dY B i 0)||(dY B k 1))) rfl (fun h2=>?_) (fun h2=>?_)
 ·refine jB<|kx [(6,(vi i))] [] (zM<|zM<|zZ) ?_
  rw[bPrd_1 h2]
  refine jD ⟨qR (by kernel_rfl),uH (by kernel_rfl),.inl ⟨_,(.tmp (d:=(.val (.int .i64 (i)))) rfl .nil),?_⟩⟩
  rfl
 ·refine jB<|kf [(17,(vb ((dY B k 0)||(dY B i 1))))] [(0,some [(.own 1 72 7 B.tm.length),(.mp 2),(.mp 3),(.own 4 3 1 B.us.length),(vb B.ov)]),(1,some (qS jO B.tm)),(2,some [.mo (vF mH vW B.kn)]),(3,some [.mo (vF mO vW B.os)]),(4,some (bm jL B.us))] ?_ ?_
  ·refine zM<|zM<|iF (B2:=[(0,some [(.own 1 72 7 B.tm.length),(.mp 2),(.mp 3),(.own 4 3 1 B.us.length),(vb B.ov)]),(1,some (qS jO B.tm)),(2,some [.mo (vF mH vW B.kn)]),(3,some [.mo (vF mO vW B.os)]),(4,some (bm jL B.us))]) (B2':=[(0,some [(.own 1 72 7 B.tm.length),(.mp 2),(.mp 3),(.own 4 3 1 B.us.length),(vb B.ov)]),(1,some (qS jO B.tm)),(2,some [.mo (vF mH vW B.kn)]),(3,some [.mo (vF mO vW B.os)]),(4,some (bm jL B.us))]) [0,1,2,3,4] [0] (e_is k 0 B hB hk (by omega) (by omega))<|zE (oV (vb (dY B k 0)) (qA (by kernel_rfl)))<|?_
   rcases hb3:(dY B k 0) with _ | _
   ·exact zM<|zM<|iF (B2:=[(0,some [(.own 1 72 7 B.tm.length),(.mp 2),(.mp 3),(.own 4 3 1 B.us.length),(vb B.ov)]),(1,some (qS jO B.tm)),(2,some [.mo (vF mH vW B.kn)]),(3,some [.mo (vF mO vW B.os)]),(4,some (bm jL B.us))]) (B2':=[(0,some [(.own 1 72 7 B.tm.length),(.mp 2),(.mp 3),(.own 4 3 1 B.us.length),(vb B.ov)]),(1,some (qS jO B.tm)),(2,some [.mo (vF mH vW B.kn)]),(3,some [.mo (vF mO vW B.os)]),(4,some (bm jL B.us))]) [0,1,2,3,4] [0] (e_is i 1 B hB hi (by omega) (by omega))<|zE aD<|zM<|zF
   ·exact zK<|zK<|zK<|zE nT<|zM<|zF
  refine jF (b:=((dY B k 0)||(dY B i 1))) rfl (fun h4=>?_) (fun h4=>?_)
  ·refine jB<|kx [(6,(vi k))] [] (zM<|zM<|zZ) ?_
   rw[bPrd_2 h2 h4]
   refine jD ⟨qR (by kernel_rfl),uH (by kernel_rfl),.inl ⟨_,(.tmp (d:=(.val (.int .i64 (k)))) rfl .nil),?_⟩⟩
   rfl
  ·refine jE<|jB<|kf [(6,(vi ((jV B 4 i k).2)))] [(0,some [(.own 1 72 7 (((jV B 4 i k).1).tm.length)),(.mp 2),(.mp 3),(.own 4 3 1 (((jV B 4 i k).1).us.length)),(vb (((jV B 4 i k).1).ov))]),(1,some (qS jO (((jV B 4 i k).1).tm))),(2,some [.mo (vF mH vW (((jV B 4 i k).1).kn))]),(3,some [.mo (vF mO vW (((jV B 4 i k).1).os))]),(4,some (bm jL (((jV B 4 i k).1).us)))] (zM<|zM<|zM<|iF (B2:=[(0,some [(.own 1 72 7 B.tm.length),(.mp 2),(.mp 3),(.own 4 3 1 B.us.length),(vb B.ov)]),(1,some (qS jO B.tm)),(2,some [.mo (vF mH vW B.kn)]),(3,some [.mo (vF mO vW B.os)]),(4,some (bm jL B.us))]) (B2':=[(0,some [(.own 1 72 7 (((jV B 4 i k).1).tm.length)),(.mp 2),(.mp 3),(.own 4 3 1 (((jV B 4 i k).1).us.length)),(vb (((jV B 4 i k).1).ov))]),(1,some (qS jO (((jV B 4 i k).1).tm))),(2,some [.mo (vF mH vW (((jV B 4 i k).1).kn))]),(3,some [.mo (vF mO vW (((jV B 4 i k).1).os))]),(4,some (bm jL (((jV B 4 i k).1).us)))]) [0,1,2,3,4] [0] (eP 4 i k B hB (.inr ⟨by decide,by decide,hi,hk⟩))<|zM<|zF) ?_
   rw[bPrd_3 h2 h4]
   refine jD ⟨qR (by kernel_rfl),uH (by kernel_rfl),.inl ⟨_,(.tmp (d:=(.val (.int .i64 ((jV B 4 i k).2)))) rfl .nil),?_⟩⟩
   rfl
theorem by4:zD Tryz.prog 4=some 1:=by kernel_rfl
theorem el131:uS Tryz.prog 131=some (4,1):=by kernel_rfl
theorem qU:uY Tryz.prog 72 1=some 1:=by kernel_rfl
theorem vM:uY Tryz.prog 72 2=some 2:=by kernel_rfl
theorem ze4:xB Tryz.prog 4=some [.bool false]:=by kernel_rfl
theorem zo4:dR [.bool false] [.val (.bool false)]:=by simp [dR,Value.oneCell']
theorem p_trim(t:List kC)(m:Nat)(hm:m<t.length)(hl:t.length<=400)(hT:OrdT t):jS Tryz.prog 68 [(.sl 72 7 (List.map jO t)),(.val (.int .i64 (((m:Nat):Int))))] (.sl 72 7 (List.map jO (trimT t m))):=by
 refine uW Tryz.func68 ?_
 refine jB<|kx [] [] (zE (bB 72 7)<|zZ) ?_
 refine jB<|kx [(5,(.own 0 4 1 t.length))] [(0,some (bm fH (List.replicate t.length false)))] (zM<|zE (yH yF)<|zN (oMk 0 fH (false:Bool) t.length t.length el131 ze4 zo4 by4)<|zM<|zZ) ?_
 refine jB<|kx [] [(0,some (bm fH ((List.replicate t.length false).set m true)))] (zM<|zM<|zE (yK el131 m)<|zT (eR fG m true (h1:=by first | omega | (simp only[List.length_replicate,List.length_set];omega)))<|zZ) ?_
 refine jB<|jB<|kx [(6,(jT m))] [] (zM<|zM<|zZ) ?_
 refine jH<|kQ (α:=Int × List Bool) (fun (z,nd)=>⟨[(0,(vl 72 7 jO t)),(1,(jT m)),(5,(.own 0 4 1 t.length)),(6,(vi z))],[(0,some (bm fH nd))]⟩) (fun (z,nd)=>z<=(m:Int)/\-1<=z/\nd.length=t.length/\ndL t nd (z+1).toNat=ndA t m) (fun (z,nd)=>(z+1).toNat) ((m:Int),(List.replicate t.length false).set m true) wk ⟨Int.le_refl _,by omega,by rw[List.length_set,List.length_replicate],by rw[show ((m:Int)+1).toNat=m+1 by omega];rfl⟩ ?_
 rintro ⟨z,nd⟩ ⟨hzm,hz1,hnl,hnd⟩
 refine jB<|jB<|kx [(21,(vb (decide (0<=z))))] [] (zM<|zE oGe<|zZ) ?_
 refine jF (b:=decide (0<=z)) rfl (fun h1=>?_) (fun h1=>?_)
 ·replace h1:=vT h1
  have hz0:0<=z:=h1
  refine jE<|jB<|jH<|jB<|jB<|kx [(28,(vb (!(nd.getD ((z).toNat) false))))] [] (zM<|zM<|zE (yK el131 ((z).toNat))<|zR (eQ fG ((z).toNat) (false:Bool))<|zE cC<|zZ) ?_
  refine jF (b:=!(nd.getD ((z).toNat) false)) rfl (fun h2=>?_) (fun h2=>?_)
  ·refine kL<|kx [(6,(vi (z-1)))] [] (zM<|zE (zSb (z-1))<|zM<|zZ) ?_
   exact ⟨(z-1,nd),wk,⟨by omega,by omega,hnl,ndL_step hz0 hnd (ndS_n h2)⟩,(by first|omega|(dsimp only;omega))⟩
  ·have hne:=h2
   refine jE<|jB<|kx [(7,(vi (uA ((t.getD ((z).toNat) tz).op))))] [] (zM<|zM<|zE (dA yF ((z).toNat) (tz:kC))<|zE (oFc yA)<|zE (nX eI)<|zE (kB (j_kids ((t.getD ((z).toNat) tz).op)))<|zM<|zZ) ?_
   refine jB<|kx [(36,(vb (decide (0<(uA ((t.getD ((z).toNat) tz).op))))))] [] (zM<|zE cI<|zZ) ?_
   refine jF rfl (fun h3=>?_) (fun h3=>?_)
   ·replace h3:=vT h3
    have hk0:=h3
    obtain ⟨ha0,ha1⟩:=(hT z.toNat (by omega)).1 h3
    refine jB<|kx [] [(0,some (bm fH (nd.set (((t.getD ((z).toNat) tz).a).toNat) true)))] (zM<|zM<|zM<|zE (dA yF ((z).toNat) (tz:kC))<|zE (oFc qU)<|zE (nX uT)<|zE (yK el131 (((t.getD ((z).toNat) tz).a).toNat))<|zT (eR fG (((t.getD ((z).toNat) tz).a).toNat) true (h1:=by first | omega | (simp only[List.length_replicate,List.length_set];omega)))<|zZ) ?_
    refine jB<|kx [(45,(vb (decide (1<(uA ((t.getD ((z).toNat) tz).op))))))] [] (zM<|zE cI<|zZ) ?_
    refine jF rfl (fun h4=>?_) (fun h4=>?_)
    ·replace h4:=vT h4
     obtain ⟨hb0,hb1⟩:=(hT z.toNat (by omega)).2 h4
     have hnl2:(nd.set (t.getD z.toNat tz).a.toNat true).length=t.length:=by rw[List.length_set];exact hnl
     refine kx [] [(0,some (bm fH ((nd.set (((t.getD ((z).toNat) tz).a).toNat) true).set (((t.getD ((z).toNat) tz).b).toNat) true)))] (zM<|zM<|zM<|zE (dA yF ((z).toNat) (tz:kC))<|zE (oFc vM)<|zE (nX uT)<|zE (yK el131 (((t.getD ((z).toNat) tz).b).toNat))<|zT (eR fG (((t.getD ((z).toNat) tz).b).toNat) true (h1:=by first | omega | (simp only[List.length_replicate,List.length_set];omega)))<|zZ) ?_
     refine kx [(6,(vi (z-1)))] [] (zM<|zE (zSb (z-1))<|zM<|zZ) ?_
     exact ⟨(z-1,(nd.set (t.getD z.toNat tz).a.toNat true).set (t.getD z.toNat tz).b.toNat true),wk,⟨by omega,by omega,by rw[List.length_set,List.length_set];exact hnl,ndL_step hz0 hnd (ndS_2 hne hk0 h4)⟩,(by first|omega|(dsimp only;omega))⟩
    ·replace h4:=xC h4
     refine jE<|kx [(6,(vi (z-1)))] [] (zM<|zE (zSb (z-1))<|zM<|zZ) ?_
     exact ⟨(z-1,nd.set (t.getD z.toNat tz).a.toNat true),wk,⟨by omega,by omega,by rw[List.length_set];exact hnl,ndL_step hz0 hnd (ndS_1 hne hk0 h4)⟩,(by first|omega|(dsimp only;omega))⟩
   ·replace h3:=xC h3
    refine jE<|kx [(6,(vi (z-1)))] [] (zM<|zE (zSb (z-1))<|zM<|zZ) ?_
    exact ⟨(z-1,nd),wk,⟨by omega,by omega,hnl,ndL_step hz0 hnd (ndS_0 hne h3)⟩,(by first|omega|(dsimp only;omega))⟩
 ·replace h1:=xC h1
  have hnd2:=ndL_end h1 hnd
  refine kL<|jB<|kx [(8,(.own 1 3 1 t.length))] [(1,some (bm jL (List.replicate t.length 0)))] (zM<|zE (yH yF)<|zH (oMk 1 jL (0:Int) t.length t.length uM ze3 zo3 by3)<|zM<|zZ) ?_
  refine jB<|kx [(9,(.own 2 72 7 0))] [(2,some (qS jO []))] (zOh 2 72 7<|zZ) ?_
  refine jB<|jB<|kx [(59,(vl 72 7 jO (List.take (m+1) t))),(60,(jT (m+1))),(61,(jT 0))] [] (zM<|zM<|zE (xD (m+1))<|zE (e_slc (l:=0) (h:=(m+1)) (kl:=.i64) (kh:=.i64) (es':=List.map jO (List.take (m+1) t)) (by exact rfl) yF (by exact rfl) (by exact rfl) (by exact rfl) (Nat.zero_le _) (by simp only[List.length_map];omega) (by rw[List.drop_zero,List.map_take]))<|zE (oLn yF (m+1) (hr:=by exact (by rw[List.length_map,List.length_take];congr 2;omega)))<|zM<|zZ) ?_
  refine jH<|kQ (α:=Nat × List Int × List kC) (fun (k,nm,o)=>⟨[(5,(.own 0 4 1 t.length)),(8,(.own 1 3 1 t.length)),(9,(.own 2 72 7 o.length)),(59,(vl 72 7 jO (List.take (m+1) t))),(60,(jT (m+1))),(61,(jT k))],[(0,some (bm fH nd)),(1,some (bm jL nm)),(2,some (qS jO o))]⟩) (fun (k,nm,o)=>k<=m+1/\tmF t nd k=(nm,o)) (fun (k,nm,o)=>m+1-k) (0,List.replicate t.length 0,[]) wk ⟨Nat.zero_le _,rfl⟩ ?_
  rintro ⟨k,nm,o⟩ ⟨hk,hf⟩
  obtain ⟨hml,hol⟩:=tm_lenk hf
  refine jB<|kx [(62,(vb (decide (((k:Nat):Int)<(((m+1):Nat):Int)))))] [] (zE yY<|zZ) ?_
  refine jB<|jF rfl (fun h5=>?_) (fun h5=>?_)
  ·replace h5:=vT h5
   have hkm:k<m+1:=by omega
   refine jE<|jB<|jH<|jB<|kx [(10,(jT k)),(11,(.ref 3 0))] [(3,some (bx (jO (t.getD k tz))))] (zM<|zE (dA yF k (tz:kC) (L:=(List.take (m+1) t)) (hj:=by first | omega | (rw[List.length_take];omega) | (simp only[List.length_take];omega)) (h1:=by first | omega | (rw[List.length_take];omega) | (simp only[List.length_take];omega)))<|zE (oQd (jO ((List.take (m+1) t).getD k tz)) (jO (t.getD k tz)) (mT eK) (by exact (by rw[show (List.take (m+1) t).getD k tz=t.getD k tz from take_getDr t tz hkm])))<|zH (uJ 3 eH aA)<|zM<|zT (qM eK)<|zZ) ?_
   refine jB<|jB<|kx [(70,(vb (!(nd.getD k false))))] [] (zM<|zM<|zE (yK el131 k)<|zR (eQ fG k (false:Bool))<|zE cC<|zZ) ?_
   refine jF (b:=!(nd.getD k false)) rfl (fun h6=>?_) (fun h6=>?_)
   ·refine kL<|kx [(61,(jT (k+1)))] [] (zE (xD (k+1))<|zM<|zZ) ?_
    exact ⟨(k+1,nm,o),wk,⟨by omega,tmF_n hf h6⟩,(by first|omega|(dsimp only;omega))⟩
   ·have hne:=h6
    refine jE<|jB<|jB<|kx [(12,(vi (uA ((t.getD k tz).op))))] [] (zE (kN yA)<|zR (qJ eI)<|zE (kB (j_kids ((t.getD k tz).op)))<|zM<|zZ) ?_
    refine jB<|kx [(75,(vb (decide (0<(uA ((t.getD k tz).op))))))] [] (zM<|zE cI<|zZ) ?_
    refine jF (b:=decide (0<(uA ((t.getD k tz).op)))) rfl (fun h7=>?_) (fun h7=>?_)
    ·replace h7:=vT h7
     have hk0:=h7
     obtain ⟨ha0,ha1⟩:=(hT k (by omega)).1 h7
     refine jB<|kx [] [(3,some (bx (jO (kC.mk ((t.getD k tz).op) (nm.getD (((t.getD k tz).a).toNat) 0) ((t.getD k tz).b) ((t.getD k tz).n)))))] (zM<|zE (kN qU)<|zR (qJ uT)<|zE (yK uM (((t.getD k tz).a).toNat))<|zR (eQ uT (((t.getD k tz).a).toNat) (0:Int))<|zE (kN qU)<|zT (qM uT)<|zZ) ?_
     refine jB<|kx [(83,(vb (decide (1<(uA ((t.getD k tz).op))))))] [] (zM<|zE cI<|zZ) ?_
     refine jF (b:=decide (1<(uA ((t.getD k tz).op)))) rfl (fun h8=>?_) (fun h8=>?_)
     ·replace h8:=vT h8
      obtain ⟨hb0,hb1⟩:=(hT k (by omega)).2 h8
      refine kx [] [(3,some (bx (jO (kC.mk ((t.getD k tz).op) (nm.getD (((t.getD k tz).a).toNat) 0) (nm.getD (((t.getD k tz).b).toNat) 0) ((t.getD k tz).n)))))] (zM<|zE (kN vM)<|zR (qJ uT)<|zE (yK uM (((t.getD k tz).b).toNat) (hj:=by first | omega | (dsimp only;omega)) (h1:=by first | omega | (dsimp only;omega)))<|zR (eQ uT (((t.getD k tz).b).toNat) (0:Int))<|zE (kN vM)<|zT (qM uT)<|zZ) ?_
      refine jB<|kx [] [(1,some (bm jL (nm.set k ((o.length:Nat):Int))))] (zM<|zM<|zM<|zE (oLo yF)<|zE (yK uM k)<|zT (eR uT k (((o.length:Nat):Int)) (h1:=by first | omega | (simp only[List.length_replicate,List.length_set];omega)))<|zZ) ?_
      refine kf [(9,(.own 2 72 7 ((o++[(kC.mk ((t.getD k tz).op) (nm.getD (((t.getD k tz).a).toNat) 0) (nm.getD (((t.getD k tz).b).toNat) 0) ((t.getD k tz).n))]).length)))] [(2,some (qS jO (o++[(kC.mk ((t.getD k tz).op) (nm.getD (((t.getD k tz).a).toNat) 0) (nm.getD (((t.getD k tz).b).toNat) 0) ((t.getD k tz).n))])))] (zM<|zR (kR eK)<|zE (fF yF eH aA)<|zAS jO o [(kC.mk ((t.getD k tz).op) (nm.getD (((t.getD k tz).a).toNat) 0) (nm.getD (((t.getD k tz).b).toNat) 0) ((t.getD k tz).n))] rfl yF eH by72<|zM<|zF) ?_
      refine kx [(61,(jT (k+1)))] [] (zE (xD (k+1))<|zM<|zZ) ?_
      exact ⟨(k+1,nm.set k ((o.length:Nat):Int),o++[kC.mk (t.getD k tz).op (nm.getD (t.getD k tz).a.toNat 0) (nm.getD (t.getD k tz).b.toNat 0) (t.getD k tz).n]),wk,⟨by omega,tmF_y hf hne (rnN_2 hk0 h8)⟩,(by first|omega|(dsimp only;omega))⟩
     ·replace h8:=xC h8
      refine jE<|jB<|kx [] [(1,some (bm jL (nm.set k ((o.length:Nat):Int))))] (zM<|zM<|zM<|zE (oLo yF)<|zE (yK uM k)<|zT (eR uT k (((o.length:Nat):Int)) (h1:=by first | omega | (simp only[List.length_replicate,List.length_set];omega)))<|zZ) ?_
      refine kf [(9,(.own 2 72 7 ((o++[(kC.mk ((t.getD k tz).op) (nm.getD (((t.getD k tz).a).toNat) 0) ((t.getD k tz).b) ((t.getD k tz).n))]).length)))] [(2,some (qS jO (o++[(kC.mk ((t.getD k tz).op) (nm.getD (((t.getD k tz).a).toNat) 0) ((t.getD k tz).b) ((t.getD k tz).n))])))] (zM<|zR (kR eK)<|zE (fF yF eH aA)<|zAS jO o [(kC.mk ((t.getD k tz).op) (nm.getD (((t.getD k tz).a).toNat) 0) ((t.getD k tz).b) ((t.getD k tz).n))] rfl yF eH by72<|zM<|zF) ?_
      refine kx [(61,(jT (k+1)))] [] (zE (xD (k+1))<|zM<|zZ) ?_
      exact ⟨(k+1,nm.set k ((o.length:Nat):Int),o++[kC.mk (t.getD k tz).op (nm.getD (t.getD k tz).a.toNat 0) (t.getD k tz).b (t.getD k tz).n]),wk,⟨by omega,tmF_y hf hne (rnN_1 hk0 h8)⟩,(by first|omega|(dsimp only;omega))⟩
    ·replace h7:=xC h7
     refine jE<|jB<|kx [] [(1,some (bm jL (nm.set k ((o.length:Nat):Int))))] (zM<|zM<|zM<|zE (oLo yF)<|zE (yK uM k)<|zT (eR uT k (((o.length:Nat):Int)) (h1:=by first | omega | (simp only[List.length_replicate,List.length_set];omega)))<|zZ) ?_
     refine kf [(9,(.own 2 72 7 ((o++[(t.getD k tz)]).length)))] [(2,some (qS jO (o++[(t.getD k tz)])))] (zM<|zR (kR eK)<|zE (fF yF eH aA)<|zAS jO o [(t.getD k tz)] rfl yF eH by72<|zM<|zF) ?_
     refine kx [(61,(jT (k+1)))] [] (zE (xD (k+1))<|zM<|zZ) ?_
     exact ⟨(k+1,nm.set k ((o.length:Nat):Int),o++[(t.getD k tz)]),wk,⟨by omega,tmF_y hf hne (rnN_0 h7)⟩,(by first|omega|(dsimp only;omega))⟩
  ·replace h5:=xC h5
   refine kL<|jB<|kx [(4,(.own 2 72 7 o.length))] [] (zM<|zM<|zZ) ?_
   refine kG (yL (t:=4) (k:=2) (es:=List.map jO o) rfl rfl (mA _ _ (fun _=>rfl)) (vS _ _ rfl) (cH jO o (fun _=>rfl) rfl)) ?_
   refine jD ⟨_,(.tmp (d:=(.sl 72 7 (List.map jO o))) rfl .nil),?_⟩
   rw[show trimT t m=o from by unfold trimT;rw[<- hnd2,<- show k=m+1 by omega,hf]];rfl
theorem cb60:callB Tryz.prog 60=true:=by kernel_rfl
theorem pl103:dX Tryz.prog 103=some [(0,1),(1,1),(2,1),(3,1),(4,1)]:=by kernel_rfl
theorem ze103:xB Tryz.prog 103=some [.slice none 0 0,.map none,.map none,.slice none 0 0,.bool false]:=by kernel_rfl
theorem zn103:dR [.slice none 0 0,.map none,.map none,.slice none 0 0,.bool false] [.val (.slice none 0 0),.val (.map none),.val (.map none),.val (.slice none 0 0),.val (.bool false)]:=by simp [dR,Value.oneCell']
theorem e_newb :uI Tryz.prog 60 [] [] (.ref 0 0) [(0,some [(.own 1 72 7 rb0.tm.length),(.mp 2),(.mp 3),(.own 4 3 1 rb0.us.length),(vb rb0.ov)]),(1,some (qS jO rb0.tm)),(2,some [.mo (vF mH vW rb0.kn)]),(3,some [.mo (vF mO vW rb0.os)]),(4,some (bm jL rb0.us))]:=by
 refine xE Tryz.func60 rfl cb60 rfl ?_
 refine jB<|kx [] [] (zM<|zZ) ?_
 refine jB<|kG (wk (l:=[]) (b:=[])) ?_
 refine kr_cutm 2 [(1,.mp 2),(2,.mp 3)] [(3,some [.mo (vF mO vW [])]),(2,some [.mo (vF mH vW [])])] [(0,.ref 0 0)] ((0,some [.d (.val (.slice none 0 0)),.mp 2,.mp 3,.d (.val (.slice none 0 0)),.d (.val (.bool false))])::[(3,some [.mo (vF mO vW [])]),(2,some [.mo (vF mH vW [])])]) 1 2 (zN (oMm 2 mH vW)<|zN (oMm 3 mO vW)<|zI (sim_get (fD (by kernel_rfl)) (fun _ _ h=>h))) rfl rfl (fun b b'=>zE (oOm 1 (k:=2) (b:=b) (oOm 2 (k:=3) (b:=b') (bH pl103 ze103 zn103)))<|zN (vX 0)<|zM<|zI (cell_mps5 0 1 2 rfl rfl (by exact rfl) (by kernel_rfl) rfl)) ?_
 refine kG (wk (l:=[(0,(.ref 0 0))]) (b:=[(0,some [(.d (.val (.slice none 0 0))),(.mp 2),(.mp 3),(.d (.val (.slice none 0 0))),(vb false)]),(2,some [.mo (vF mH vW [])]),(3,some [.mo (vF mO vW [])])])) ?_
 refine aU 0 0 1 72 7 (cs:=[(.d (.val (.slice none 0 0))),(.mp 2),(.mp 3),(.d (.val (.slice none 0 0))),(vb false)]) (h:=?_)
 refine kG (wk (l:=[(0,(.ref 0 0))]) (b:=[(0,some [(.own 1 72 7 0),(.mp 2),(.mp 3),(.d (.val (.slice none 0 0))),(vb false)]),(1,some (qS jO [])),(2,some [.mo (vF mH vW [])]),(3,some [.mo (vF mO vW [])])])) ?_
 refine aU 0 3 4 3 1 (cs:=[(.own 1 72 7 0),(.mp 2),(.mp 3),(.d (.val (.slice none 0 0))),(vb false)]) (h:=?_)
 refine kG (wk (l:=[(0,(.ref 0 0))]) (b:=[(0,some [(.own 1 72 7 0),(.mp 2),(.mp 3),(.own 4 3 1 0),(vb false)]),(1,some (qS jO [])),(2,some [.mo (vF mH vW [])]),(3,some [.mo (vF mO vW [])]),(4,some (bm jL []))])) ?_
 exact jD ⟨qR (by kernel_rfl),uH (by kernel_rfl),.inr (.inl ⟨0,rfl,rfl⟩)⟩
theorem cb142:callB Tryz.prog 142=true:=by kernel_rfl
theorem cb143:callB Tryz.prog 143=true:=by kernel_rfl
theorem cb144:callB Tryz.prog 144=true:=by kernel_rfl
theorem gS:uY Tryz.prog 46 0=some 0:=by kernel_rfl
theorem gD:uY Tryz.prog 46 1=some 8:=by kernel_rfl
theorem fo113_2:uY Tryz.prog 113 2=some 2:=by kernel_rfl
theorem fO:kZ Tryz.prog 43=some (false,1):=by kernel_rfl
theorem sh67:kZ Tryz.prog 67=some (false,1):=by kernel_rfl
theorem eJ:kZ Tryz.prog 111=some (false,1):=by kernel_rfl
theorem j_round(n:Nat)(x:jQ)(a:R2)(ha:GL 67108864 a):jS Tryz.prog 170 [(.cptr 1000000 (jQ.cells (mcA n x false)) 0),(jG (kK a))] (jG (kK a)):=by
 refine uW Tryz.func170 ?_
 refine jB<|kx [(3,(.ref 0 0)),(4,(.ref 1 0))] [(0,some (bx (jG (kK a)))),(1,some (bx (jG (jM.mk kO kO))))] (zN (vX 0)<|zN (uJ 1 uK uO)<|zZ) ?_
 refine jB<|jB<|kx [(9,(vb true))] [] (zM<|zE oNd<|zE (oFc fo113_2)<|zE (nX uT)<|zE (gU true yY)<|zZ) ?_
 refine xQ ?_
 refine jB<|kx [] [(1,some (bx (jG (kK a))))] (zR (kR kF)<|zT (qM kF)<|zZ) ?_
 refine jD ⟨_,(kS (cs:=(bx (jG (kK a)))) (d:=(jG (kK a))) rfl rfl kF rfl rfl .nil),?_⟩
 rfl
theorem j_negop(a:R2)(ha:GL 67108864 a)(b:R2)(hb:GL 67108864 b)(zz:R2)(hzz:GL 3 zz):jS Tryz.prog 133 [(jG (kK a)),(jG (kK b)),(.cptr 1000000 (jQ.cells (jG (kK zz))) 0)] (jG (kK (qZ zz a))):=by
 refine uW Tryz.func133 ?_
 refine jB<|kx [(3,(.ref 0 0)),(5,(.ref 2 0))] [(0,some (bx (jG (kK a)))),(2,some (bx (jG (jM.mk kO kO)))),(1,none)] (zN (vX 0)<|zN (vX 1)<|zN (uJ 2 uK uO)<|zZ) ?_
 refine jB<|kx [] [(2,some (bx (jG (kK (qZ zz a)))))] (zE (mT kF)<|zR (kR kF)<|zE (kB (j_sub zz (qQ hzz) a ha))<|zT (qM kF)<|zZ) ?_
 refine jD ⟨_,(kS (cs:=(bx (jG (kK (qZ zz a))))) (d:=(jG (kK (qZ zz a)))) rfl rfl kF rfl rfl .nil),?_⟩
 rfl
theorem j_vAdd(n:Nat)(u:JV)(hu:nS 1048576 n u)(v:JV)(hv:nS 1048576 n v):jS Tryz.prog 124 [(.cptr 1000000 (jQ.cells (.val (.func (.func 131) #[] #[]))) 0),(.cptr 1000000 (jQ.cells (jI (qK u))) 0),(.cptr 1000000 (jQ.cells (jI (qK v))) 0)] (jG (kK (yI u.v v.v))):=by
 refine uW Tryz.func124 ?_
 refine jB<|kx [(3,(.ref 0 0))] [(0,some (bx (jG (jM.mk kO kO))))] (zN (uJ 0 uK uO)<|zZ) ?_
 refine jB<|kx [] [(0,some (bx (jG (kK (yI u.v v.v)))))] (zE (nX sh67)<|zE (oFc gS)<|zE (mT kF)<|zE (oFc gS)<|zE (mT kF)<|zE (kB (j_add u.v (qQ hu.1) v.v (qQ hv.1)))<|zT (qM kF)<|zZ) ?_
 refine jD ⟨_,(kS (cs:=(bx (jG (kK (yI u.v v.v))))) (d:=(jG (kK (yI u.v v.v)))) rfl rfl kF rfl rfl .nil),?_⟩
 rfl
theorem j_gAdd(wp:jQ)(i:Nat)(n:Nat)(u:JV)(hu:nS 1048576 n u)(v:JV)(hv:nS 1048576 n v)(hi:i<n):jS Tryz.prog 125 [(wp),(.val (.int .i64 (((i:Nat):Int)))),(.cptr 1000000 (jQ.cells (.val (.func (.func 131) #[] #[]))) 0),(.cptr 1000000 (jQ.cells (jI (qK u))) 0),(.cptr 1000000 (jQ.cells (jI (qK v))) 0)] (jG (kK (yI (u.g.getD i z2) (v.g.getD i z2)))):=by
 have hul:=hu.2.2
 have hvl:=hv.2.2
 refine uW Tryz.func125 ?_
 refine jB<|kx [(7,(.ref 0 0))] [(0,some (bx (jG (jM.mk kO kO))))] (zN (uJ 0 uK uO)<|zZ) ?_
 refine jB<|kd [] [(0,some (bx (jG (kK (yI (u.g.getD i z2) (v.g.getD i z2))))))] mo (wE (nX sh67)<|wE (oFc gD)<|wE (nX fO)<|wM<|wE (oXm zU kK i z2)<|wE (mT kF)<|wE (oFc gD)<|wE (nX fO)<|wM<|wE (oXm zU kK i z2)<|wE (mT kF)<|wE (kB (j_add (u.g.getD i z2) (qQ (qC hu.2.1 (by decide) i)) (v.g.getD i z2) (qQ (qC hv.2.1 (by decide) i))))<|wT (qM kF)<|wZ) ?_
 refine jD ⟨_,(kS (cs:=(bx (jG (kK (yI (u.g.getD i z2) (v.g.getD i z2)))))) (d:=(jG (kK (yI (u.g.getD i z2) (v.g.getD i z2))))) rfl rfl kF rfl rfl .nil),?_⟩
 rfl
theorem j_vSub(n:Nat)(u:JV)(hu:nS 1048576 n u)(v:JV)(hv:nS 1048576 n v):jS Tryz.prog 124 [(.cptr 1000000 (jQ.cells (.val (.func (.func 132) #[] #[]))) 0),(.cptr 1000000 (jQ.cells (jI (qK u))) 0),(.cptr 1000000 (jQ.cells (jI (qK v))) 0)] (jG (kK (qZ u.v v.v))):=by
 refine uW Tryz.func124 ?_
 refine jB<|kx [(3,(.ref 0 0))] [(0,some (bx (jG (jM.mk kO kO))))] (zN (uJ 0 uK uO)<|zZ) ?_
 refine jB<|kx [] [(0,some (bx (jG (kK (qZ u.v v.v)))))] (zE (nX sh67)<|zE (oFc gS)<|zE (mT kF)<|zE (oFc gS)<|zE (mT kF)<|zE (kB (j_sub u.v (qQ hu.1) v.v (qQ hv.1)))<|zT (qM kF)<|zZ) ?_
 refine jD ⟨_,(kS (cs:=(bx (jG (kK (qZ u.v v.v))))) (d:=(jG (kK (qZ u.v v.v)))) rfl rfl kF rfl rfl .nil),?_⟩
 rfl
theorem j_gSub(wp:jQ)(i:Nat)(n:Nat)(u:JV)(hu:nS 1048576 n u)(v:JV)(hv:nS 1048576 n v)(hi:i<n):jS Tryz.prog 125 [(wp),(.val (.int .i64 (((i:Nat):Int)))),(.cptr 1000000 (jQ.cells (.val (.func (.func 132) #[] #[]))) 0),(.cptr 1000000 (jQ.cells (jI (qK u))) 0),(.cptr 1000000 (jQ.cells (jI (qK v))) 0)] (jG (kK (qZ (u.g.getD i z2) (v.g.getD i z2)))):=by
 have hul:=hu.2.2
 have hvl:=hv.2.2
 refine uW Tryz.func125 ?_
 refine jB<|kx [(7,(.ref 0 0))] [(0,some (bx (jG (jM.mk kO kO))))] (zN (uJ 0 uK uO)<|zZ) ?_
 refine jB<|kd [] [(0,some (bx (jG (kK (qZ (u.g.getD i z2) (v.g.getD i z2))))))] mo (wE (nX sh67)<|wE (oFc gD)<|wE (nX fO)<|wM<|wE (oXm zU kK i z2)<|wE (mT kF)<|wE (oFc gD)<|wE (nX fO)<|wM<|wE (oXm zU kK i z2)<|wE (mT kF)<|wE (kB (j_sub (u.g.getD i z2) (qQ (qC hu.2.1 (by decide) i)) (v.g.getD i z2) (qQ (qC hv.2.1 (by decide) i))))<|wT (qM kF)<|wZ) ?_
 refine jD ⟨_,(kS (cs:=(bx (jG (kK (qZ (u.g.getD i z2) (v.g.getD i z2)))))) (d:=(jG (kK (qZ (u.g.getD i z2) (v.g.getD i z2))))) rfl rfl kF rfl rfl .nil),?_⟩
 rfl
theorem j_vNeg(n:Nat)(u:JV)(hu:nS 1048576 n u)(v:JV)(hv:nS 1048576 n v):jS Tryz.prog 124 [(.cptr 1000000 (jQ.cells (.clo 133 [(.cptr 1000000 (jQ.cells (jG (kK (gw 0)))) 0)])) 0),(.cptr 1000000 (jQ.cells (jI (qK u))) 0),(.cptr 1000000 (jQ.cells (jI (qK v))) 0)] (jG (kK (qZ (gw 0) u.v))):=by
 refine uW Tryz.func124 ?_
 refine jB<|kx [(3,(.ref 0 0))] [(0,some (bx (jG (jM.mk kO kO))))] (zN (uJ 0 uK uO)<|zZ) ?_
 refine jB<|kx [] [(0,some (bx (jG (kK (qZ (gw 0) u.v)))))] (zE (nX sh67)<|zE (oFc gS)<|zE (mT kF)<|zE (oFc gS)<|zE (mT kF)<|zE (oCd (ds:=[(jG (kK u.v)),(jG (kK v.v))]) (caps:=[(.cptr 1000000 (jQ.cells (jG (kK (gw 0)))) 0)]) (j_negop u.v (qQ hu.1) v.v (qQ hv.1) (gw 0) (gl_w (z:=0) (by omega) (by omega))))<|zT (qM kF)<|zZ) ?_
 refine jD ⟨_,(kS (cs:=(bx (jG (kK (qZ (gw 0) u.v))))) (d:=(jG (kK (qZ (gw 0) u.v)))) rfl rfl kF rfl rfl .nil),?_⟩
 rfl
theorem j_gNeg(wp:jQ)(i:Nat)(n:Nat)(u:JV)(hu:nS 1048576 n u)(v:JV)(hv:nS 1048576 n v)(hi:i<n):jS Tryz.prog 125 [(wp),(.val (.int .i64 (((i:Nat):Int)))),(.cptr 1000000 (jQ.cells (.clo 133 [(.cptr 1000000 (jQ.cells (jG (kK (gw 0)))) 0)])) 0),(.cptr 1000000 (jQ.cells (jI (qK u))) 0),(.cptr 1000000 (jQ.cells (jI (qK v))) 0)] (jG (kK (qZ (gw 0) (u.g.getD i z2)))):=by
 have hul:=hu.2.2
 have hvl:=hv.2.2
 refine uW Tryz.func125 ?_
 refine jB<|kx [(7,(.ref 0 0))] [(0,some (bx (jG (jM.mk kO kO))))] (zN (uJ 0 uK uO)<|zZ) ?_
 refine jB<|kd [] [(0,some (bx (jG (kK (qZ (gw 0) (u.g.getD i z2))))))] mo (wE (nX sh67)<|wE (oFc gD)<|wE (nX fO)<|wM<|wE (oXm zU kK i z2)<|wE (mT kF)<|wE (oFc gD)<|wE (nX fO)<|wM<|wE (oXm zU kK i z2)<|wE (mT kF)<|wE (oCd (ds:=[(jG (kK (u.g.getD i z2))),(jG (kK (v.g.getD i z2)))]) (caps:=[(.cptr 1000000 (jQ.cells (jG (kK (gw 0)))) 0)]) (j_negop (u.g.getD i z2) (qQ (qC hu.2.1 (by decide) i)) (v.g.getD i z2) (qQ (qC hv.2.1 (by decide) i)) (gw 0) (gl_w (z:=0) (by omega) (by omega))))<|wT (qM kF)<|wZ) ?_
 refine jD ⟨_,(kS (cs:=(bx (jG (kK (qZ (gw 0) (u.g.getD i z2)))))) (d:=(jG (kK (qZ (gw 0) (u.g.getD i z2))))) rfl rfl kF rfl rfl .nil),?_⟩
 rfl
theorem j_vC(p:Rat)(hp:QL p 1048576):jS Tryz.prog 127 [(.cptr 1000000 (jQ.cells (jO (kC.mk 0 0 0 (jN p)))) 0)] (jG (kK (gpt p))):=by
 refine uW Tryz.func127 ?_
 refine jB<|kx [(1,(.ref 0 0))] [(0,some (bx (jG (jM.mk kO kO))))] (zN (uJ 0 uK uO)<|zZ) ?_
 refine jB<|kx [] [(0,some (bx (jG (jM.mk (jN p) (jN p)))))] (zE (oFc mD)<|zE (mT jW)<|zE (oFc mD)<|zE (mT jW)<|zE (bH pl42 uK uO)<|zT (qM kF)<|zZ) ?_
 refine jD ⟨_,(kS (cs:=(bx (jG (jM.mk (jN p) (jN p))))) (d:=(jG (jM.mk (jN p) (jN p)))) rfl rfl kF rfl rfl .nil),?_⟩
 rfl
theorem j_gC(wp:jQ)(i:Nat)(zz:R2)(hzz:GL 3 zz):jS Tryz.prog 128 [(wp),(.val (.int .i64 (((i:Nat):Int)))),(.cptr 1000000 (jQ.cells (jG (kK zz))) 0)] (jG (kK zz)):=by
 refine uW Tryz.func128 ?_
 refine jB<|kx [(5,(.ref 0 0))] [(0,some (bx (jG (jM.mk kO kO))))] (zN (uJ 0 uK uO)<|zZ) ?_
 refine jB<|kx [] [(0,some (bx (jG (kK zz))))] (zE (mT kF)<|zT (qM kF)<|zZ) ?_
 refine jD ⟨_,(kS (cs:=(bx (jG (kK zz)))) (d:=(jG (kK zz))) rfl rfl kF rfl rfl .nil),?_⟩
 rfl
theorem j_vV(bv:List R2)(hbx:∀ x∈bv,GL 1048576 x)(a:Nat)(ha:a<bv.length)(hbl:bv.length<=1000000):jS Tryz.prog 129 [(.cptr 1000000 (jQ.cells (.sl 42 8 (List.map jG (List.map kK bv)))) 0),(.cptr 1000000 (jQ.cells (jO (kC.mk 1 ((a:Nat):Int) 0 kO))) 0)] (jG (kK (bv.getD a z2))):=by
 refine uW Tryz.func129 ?_
 refine jB<|kx [(2,(.ref 0 0))] [(0,some (bx (jG (jM.mk kO kO))))] (zN (uJ 0 uK uO)<|zZ) ?_
 refine jB<|kx [] [(0,some (bx (jG (kK (bv.getD a z2)))))] (zE (nX fO)<|zE (oFc qU)<|zE (nX uT)<|zE (oXm zU kK a z2 (hj:=by first | omega | rfl | (dsimp only;omega)) (h1:=by first | omega | rfl | (dsimp only;omega)))<|zE (mT kF)<|zT (qM kF)<|zZ) ?_
 refine jD ⟨_,(kS (cs:=(bx (jG (kK (bv.getD a z2))))) (d:=(jG (kK (bv.getD a z2)))) rfl rfl kF rfl rfl .nil),?_⟩
 rfl
theorem j_gV(wp:jQ)(i:Nat)(a:Nat)(zz:R2)(hzz:GL 3 zz):jS Tryz.prog 130 [(wp),(.val (.int .i64 (((i:Nat):Int)))),(.cptr 1000000 (jQ.cells (jO (kC.mk 1 ((a:Nat):Int) 0 kO))) 0),(.cptr 1000000 (jQ.cells (jG (kK zz))) 0)] (jG (kK (if ((i:Nat):Int)=((a:Nat):Int) then gw 1 else zz))):=by
 refine uW Tryz.func130 ?_
 refine jB<|kx [(6,(.ref 0 0))] [(0,some (bx (jG (jM.mk kO kO))))] (zN (uJ 0 uK uO)<|zZ) ?_
 refine jB<|jB<|kx [(10,(vb (((i:Nat):Int) == ((a:Nat):Int))))] [] (zM<|zE (oFc qU)<|zE (nX uT)<|zE yP<|zZ) ?_
 refine jF (b:=(((i:Nat):Int) == ((a:Nat):Int))) rfl (fun h1=>?_) (fun h1=>?_)
 ·replace h1:=eq_of_beq h1
  refine jB<|kx [] [(0,some (bx (jG (kK (gw 1)))))] (zE (kB (j_whole 1 (by omega) (by omega)))<|zT (qM kF)<|zZ) ?_
  refine jD ⟨_,(kS (cs:=(bx (jG (kK (gw 1))))) (d:=(jG (kK (gw 1)))) rfl rfl kF rfl rfl .nil),?_⟩
  rw[if_pos h1];rfl
 ·replace h1:=ne_of_beq_false h1
  refine jE<|jB<|kx [] [(0,some (bx (jG (kK zz))))] (zE (mT kF)<|zT (qM kF)<|zZ) ?_
  refine jD ⟨_,(kS (cs:=(bx (jG (kK zz)))) (d:=(jG (kK zz))) rfl rfl kF rfl rfl .nil),?_⟩
  rw[if_neg h1];rfl
theorem j_vM(n:Nat)(u:JV)(hu:nS 1048576 n u)(v:JV)(hv:nS 1048576 n v):jS Tryz.prog 134 [(.cptr 1000000 (jQ.cells (jI (qK u))) 0),(.cptr 1000000 (jQ.cells (jI (qK v))) 0)] (jG (kK (uR u.v v.v))):=by
 refine uW Tryz.func134 ?_
 refine jB<|kx [(2,(.ref 0 0))] [(0,some (bx (jG (jM.mk kO kO))))] (zN (uJ 0 uK uO)<|zZ) ?_
 refine jB<|kx [] [(0,some (bx (jG (kK (uR u.v v.v)))))] (zE (oFc gS)<|zE (mT kF)<|zE (oFc gS)<|zE (mT kF)<|zE (kB (j_mul u.v (qQ hu.1) v.v (qQ hv.1)))<|zT (qM kF)<|zZ) ?_
 refine jD ⟨_,(kS (cs:=(bx (jG (kK (uR u.v v.v))))) (d:=(jG (kK (uR u.v v.v)))) rfl rfl kF rfl rfl .nil),?_⟩
 rfl
theorem j_gM(wp:jQ)(i:Nat)(n:Nat)(u:JV)(hu:nS 1048576 n u)(v:JV)(hv:nS 1048576 n v)(hi:i<n):jS Tryz.prog 136 [(wp),(.val (.int .i64 (((i:Nat):Int)))),(.cptr 1000000 (jQ.cells (jI (qK u))) 0),(.cptr 1000000 (jQ.cells (jI (qK v))) 0)] (jG (kK (yI (uR u.v (v.g.getD i z2)) (uR v.v (u.g.getD i z2))))):=by
 have hul:=hu.2.2
 have hvl:=hv.2.2
 refine uW Tryz.func136 ?_
 refine jB<|kx [(6,(.ref 0 0))] [(0,some (bx (jG (jM.mk kO kO))))] (zN (uJ 0 uK uO)<|zZ) ?_
 refine jB<|kd [] [(0,some (bx (jG (kK (yI (uR u.v (v.g.getD i z2)) (uR v.v (u.g.getD i z2)))))))] mo (wE (oFc gS)<|wE (mT kF)<|wE (oFc gD)<|wE (nX fO)<|wM<|wE (oXm zU kK i z2)<|wE (mT kF)<|wE (kB (j_mul u.v (qQ hu.1) (v.g.getD i z2) (qQ (qC hv.2.1 (by decide) i))))<|wE (oFc gS)<|wE (mT kF)<|wE (oFc gD)<|wE (nX fO)<|wM<|wE (oXm zU kK i z2)<|wE (mT kF)<|wE (kB (j_mul v.v (qQ hv.1) (u.g.getD i z2) (qQ (qC hu.2.1 (by decide) i))))<|wE (kB (j_add (uR u.v (v.g.getD i z2)) (qQ (gX (k:=2097152) hu.1 (qC hv.2.1 (by decide) i))) (uR v.v (u.g.getD i z2)) (qQ (gX (k:=2097152) hv.1 (qC hu.2.1 (by decide) i)))))<|wT (qM kF)<|wZ) ?_
 refine jD ⟨_,(kS (cs:=(bx (jG (kK (yI (uR u.v (v.g.getD i z2)) (uR v.v (u.g.getD i z2))))))) (d:=(jG (kK (yI (uR u.v (v.g.getD i z2)) (uR v.v (u.g.getD i z2)))))) rfl rfl kF rfl rfl .nil),?_⟩
 rfl
theorem j_vQ(n:Nat)(u:JV)(hu:nS 1048576 n u):jS Tryz.prog 138 [(.cptr 1000000 (jQ.cells (jI (qK u))) 0)] (jG (kK (gsq u.v))):=by
 refine uW Tryz.func138 ?_
 refine jB<|kx [(1,(.ref 0 0))] [(0,some (bx (jG (jM.mk kO kO))))] (zN (uJ 0 uK uO)<|zZ) ?_
 refine jB<|kx [] [(0,some (bx (jG (kK (gsq u.v)))))] (zE (oFc gS)<|zE (mT kF)<|zE (kB (j_sq u.v (qQ hu.1)))<|zT (qM kF)<|zZ) ?_
 refine jD ⟨_,(kS (cs:=(bx (jG (kK (gsq u.v))))) (d:=(jG (kK (gsq u.v)))) rfl rfl kF rfl rfl .nil),?_⟩
 rfl
theorem j_gQ(wp:jQ)(i:Nat)(tt:R2)(htt:GL 3 tt)(n:Nat)(u:JV)(hu:nS 1048576 n u)(hi:i<n):jS Tryz.prog 140 [(wp),(.val (.int .i64 (((i:Nat):Int)))),(.cptr 1000000 (jQ.cells (jG (kK tt))) 0),(.cptr 1000000 (jQ.cells (jI (qK u))) 0)] (jG (kK (uR tt (uR u.v (u.g.getD i z2))))):=by
 have hul:=hu.2.2
 refine uW Tryz.func140 ?_
 refine jB<|kx [(6,(.ref 0 0))] [(0,some (bx (jG (jM.mk kO kO))))] (zN (uJ 0 uK uO)<|zZ) ?_
 refine jB<|kd [] [(0,some (bx (jG (kK (uR tt (uR u.v (u.g.getD i z2)))))))] mo (wE (mT kF)<|wE (oFc gS)<|wE (mT kF)<|wE (oFc gD)<|wE (nX fO)<|wM<|wE (oXm zU kK i z2)<|wE (mT kF)<|wE (kB (j_mul u.v (qQ hu.1) (u.g.getD i z2) (qQ (qC hu.2.1 (by decide) i))))<|wE (kB (j_mul tt (qQ htt) (uR u.v (u.g.getD i z2)) (qQ (gX (k:=2097152) hu.1 (qC hu.2.1 (by decide) i)))))<|wT (qM kF)<|wZ) ?_
 refine jD ⟨_,(kS (cs:=(bx (jG (kK (uR tt (uR u.v (u.g.getD i z2))))))) (d:=(jG (kK (uR tt (uR u.v (u.g.getD i z2)))))) rfl rfl kF rfl rfl .nil),?_⟩
 rfl
theorem j_div(n:Nat)(x:jQ)(a:R2)(ha:GL 67108864 a)(b:R2)(hb:GL 67108864 b)(hz:xI b.1 b.2=false):jS Tryz.prog 143 [(.cptr 1000000 (jQ.cells (mcA n x false)) 0),(jG (kK a)),(jG (kK b))] (jG (kK (mK a b))):=by
 let y1:=(bx (jG (jM.mk (jN (nQ (a.1 / b.1) [(a.1 / b.2),(a.2 / b.1),(a.2 / b.2)])) (jN (mR (a.1 / b.1) [(a.1 / b.2),(a.2 / b.1),(a.2 / b.2)])))))
 refine uW Tryz.func143 ?_
 refine jB<|kx [(4,(.ref 0 0)),(5,(.ref 1 0)),(6,(.ref 2 0))] [(0,some (bx (jG (kK a)))),(1,some (bx (jG (kK b)))),(2,some (bx (jG (jM.mk kO kO))))] (zN (vX 0)<|zN (vX 1)<|zN (uJ 2 uK uO)<|zZ) ?_
 refine jB<|kx [(7,(.ref 3 0)),(8,(vi 0))] [(3,some y1)] (zR (kR kF)<|zR (kR kF)<|zE (kB (i_divide a.1 a.2 b.1 b.2 (qY ha.1) (qY ha.2.1) (qY hb.1) (qY hb.2.1) ha.2.2 hb.2.2 hz))<|zM<|zE zJ<|zE zJ<|zN (uJ 3 uK uO)<|zT (qM kF)<|zM<|zZ) ?_
 refine jB<|jB<|kx [(16,(vb false))] [] (zM<|zE bD<|zZ) ?_
 refine qH ?_
 refine jE<|jB<|kx [] [(2,some y1)] (zR (kR kF)<|zT (qM kF)<|zZ) ?_
 refine jD ⟨_,(kS (cs:=y1) (d:=(jG (jM.mk (jN (nQ (a.1 / b.1) [(a.1 / b.2),(a.2 / b.1),(a.2 / b.2)])) (jN (mR (a.1 / b.1) [(a.1 / b.2),(a.2 / b.1),(a.2 / b.2)]))))) rfl rfl kF rfl rfl .nil),?_⟩
 rfl
theorem j_vD(n:Nat)(x:jQ)(u:JV)(hu:nS 1048576 n u)(v:JV)(hv:nS 1048576 n v)(hz:xI v.v.1 v.v.2=false):jS Tryz.prog 142 [(.cptr 1000000 (jQ.cells (.cptr 1000000 (jQ.cells (mcA n x false)) 0)) 0),(.cptr 1000000 (jQ.cells (jI (qK u))) 0),(.cptr 1000000 (jQ.cells (jI (qK v))) 0)] (jG (kK (mK u.v v.v))):=by
 refine uW Tryz.func142 ?_
 refine jB<|kx [(3,(.ref 0 0))] [(0,some (bx (jG (jM.mk kO kO))))] (zN (uJ 0 uK uO)<|zZ) ?_
 refine jB<|kx [] [(0,some (bx (jG (kK (mK u.v v.v)))))] (zE (nX eJ)<|zE (oFc gS)<|zE (mT kF)<|zE (oFc gS)<|zE (mT kF)<|zE (kB (j_div n (x) u.v (qQ hu.1) v.v (qQ hv.1) hz))<|zT (qM kF)<|zZ) ?_
 refine jD ⟨_,(kS (cs:=(bx (jG (kK (mK u.v v.v))))) (d:=(jG (kK (mK u.v v.v)))) rfl rfl kF rfl rfl .nil),?_⟩
 rfl
theorem j_gD(w:R2)(hw:GL 2097152 w)(y z:jQ)(i:Nat)(n:Nat)(x:jQ)(u:JV)(hu:nS 1048576 n u)(v:JV)(hv:nS 1048576 n v)(hz:xI v.v.1 v.v.2=false)(hi:i<n):jS Tryz.prog 144 [(.cptr 1000000 (jQ.cells (.agg (jQ.cells (jG (kK w))++[(y),(z)]))) 0),(.val (.int .i64 (((i:Nat):Int)))),(.cptr 1000000 (jQ.cells (.cptr 1000000 (jQ.cells (mcA n x false)) 0)) 0),(.cptr 1000000 (jQ.cells (jI (qK u))) 0),(.cptr 1000000 (jQ.cells (jI (qK v))) 0)] (jG (kK (mK (qZ (u.g.getD i z2) (uR w (v.g.getD i z2))) v.v))):=by
 have hul:=hu.2.2
 have hvl:=hv.2.2
 refine uW Tryz.func144 ?_
 refine jB<|kx [(7,(.ref 0 0))] [(0,some (bx (jG (jM.mk kO kO))))] (zN (uJ 0 uK uO)<|zZ) ?_
 refine jB<|kd [] [(0,some (bx (jG (kK (mK (qZ (u.g.getD i z2) (uR w (v.g.getD i z2))) v.v)))))] mo (wE (nX eJ)<|wE (oFc gD)<|wE (nX fO)<|wM<|wE (oXm zU kK i z2)<|wE (mT kF)<|wM<|wE oNd<|wE (oFc gS)<|wE (mT kF)<|wE (oFc gD)<|wE (nX fO)<|wM<|wE (oXm zU kK i z2)<|wE (mT kF)<|wE (kB (j_mul w (qQ hw) (v.g.getD i z2) (qQ (qC hv.2.1 (by decide) i))))<|wE (kB (j_sub (u.g.getD i z2) (qQ (qC hu.2.1 (by decide) i)) (uR w (v.g.getD i z2)) (qQ (gX (k:=3145728) hw (qC hv.2.1 (by decide) i)))))<|wE (oFc gS)<|wE (mT kF)<|wE (kB (j_div n (x) (qZ (u.g.getD i z2) (uR w (v.g.getD i z2))) (qQ (aX (k:=4194305) (qC hu.2.1 (by decide) i) (gX (k:=3145728) hw (qC hv.2.1 (by decide) i)))) v.v (qQ hv.1) hz))<|wT (qM kF)<|wZ) ?_
 refine jD ⟨_,(kS (cs:=(bx (jG (kK (mK (qZ (u.g.getD i z2) (uR w (v.g.getD i z2))) v.v))))) (d:=(jG (kK (mK (qZ (u.g.getD i z2) (uR w (v.g.getD i z2))) v.v)))) rfl rfl kF rfl rfl .nil),?_⟩
 rfl
end Go.Proofs.YtckccjhflbljgaaGreatDoor
