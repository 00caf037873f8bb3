/- Part 28 of a proof: rules, plain facts, and functions walked. -/
import Derived.Test.YtckccjhflbljgaaGreatDoorM27
import Derived.Test.YtckccjhflbljgaaGreatDoorM26
set_option linter.all false
set_option maxRecDepth 4000
namespace Go.Proofs.YtckccjhflbljgaaGreatDoor
open Go.Fid
theorem by4:zG Tryz.prog 4=some 1:=by kernel_rfl
theorem el131:uM Tryz.prog 131=some (4,1):=by kernel_rfl
theorem kV:uU Tryz.prog 72 1=some 1:=by kernel_rfl
theorem qW:uU Tryz.prog 72 2=some 2:=by kernel_rfl
theorem ze4:vX Tryz.prog 4=some [.bool false]:=by kernel_rfl
theorem zo4:eL [.bool false] [.val (.bool false)]:=by simp [eL,Value.oneCell']
theorem p_trim(t:List jO)(m:Nat)(hm:m<t.length)(hl:t.length<=400)(hT:OrdT t):jQ Tryz.prog 68 [(.sl 72 7 (List.map jK t)),(.val (.int .i64 (((m:Nat):Int))))] (.sl 72 7 (List.map jK (yA t m))):=by
 refine uR Tryz.func68 ?_
 refine jB<|kx [] [] (zE (aY 72 7)<|zZ) ?_
 refine jB<|kx [(5,(.own 0 4 1 t.length))] [(0,some (bm fX (List.replicate t.length false)))] (zM<|zE (xW vE)<|zN (oMk 0 fX (false:Bool) t.length t.length el131 ze4 zo4 by4)<|zM<|zZ) ?_
 refine jB<|kx [] [(0,some (bm fX ((List.replicate t.length false).set m true)))] (zM<|zM<|zE (yE el131 m)<|zT (eX aU m true (h1:=by first | omega | (simp only[List.length_replicate,List.length_set];omega)))<|zZ) ?_
 refine jB<|jB<|kx [(6,(kF m))] [] (zM<|zM<|zZ) ?_
 refine jH<|kO (α:=Int × List Bool) (fun (z,nd)=>⟨[(0,(vl 72 7 jK t)),(1,(kF m)),(5,(.own 0 4 1 t.length)),(6,(vi z))],[(0,some (bm fX nd))]⟩) (fun (z,nd)=>z<=(m:Int)/\-1<=z/\nd.length=t.length/\ndL t nd (z+1).toNat=ndA t m) (fun (z,nd)=>(z+1).toNat) ((m:Int),(List.replicate t.length false).set m true) wk ⟨Int.le_refl _,by omega,by rw[List.length_set,List.length_replicate],by rw[show ((m:Int)+1).toNat=m+1 by omega];rfl⟩ ?_
 rintro ⟨z,nd⟩ ⟨hzm,hz1,hnl,hnd⟩
 refine jB<|jB<|kx [(21,(vb (decide (0<=z))))] [] (zM<|zE oGe<|zZ) ?_
 refine jE (b:=decide (0<=z)) rfl (fun h1=>?_) (fun h1=>?_)
 ·replace h1:=vY h1
  have hz0:0<=z:=h1
  refine jD<|jB<|jH<|jB<|jB<|kx [(28,(vb (!(nd.getD ((z).toNat) false))))] [] (zM<|zM<|zE (yE el131 ((z).toNat))<|zR (eZ aU ((z).toNat) (false:Bool))<|zE yT<|zZ) ?_
  refine jE (b:=!(nd.getD ((z).toNat) false)) rfl (fun h2=>?_) (fun h2=>?_)
  ·refine kL<|kx [(6,(vi (z-1)))] [] (zM<|zE (zSb (z-1))<|zM<|zZ) ?_
   exact ⟨(z-1,nd),wk,⟨by omega,by omega,hnl,ndL_step hz0 hnd (ndS_n h2)⟩,(by first|omega|(dsimp only;omega))⟩
  ·have hne:=h2
   refine jD<|jB<|kx [(7,(vi (kZ ((t.getD ((z).toNat) tz).op))))] [] (zM<|zM<|zE (cT vE ((z).toNat) (tz:jO))<|zE (oFc xV)<|zE (nY dG)<|zE (jY (j_kids ((t.getD ((z).toNat) tz).op)))<|zM<|zZ) ?_
   refine jB<|kx [(36,(vb (decide (0<(kZ ((t.getD ((z).toNat) tz).op))))))] [] (zM<|zE dV<|zZ) ?_
   refine jE rfl (fun h3=>?_) (fun h3=>?_)
   ·replace h3:=vY h3
    have hk0:=h3
    obtain ⟨ha0,ha1⟩:=(hT z.toNat (by omega)).1 h3
    refine jB<|kx [] [(0,some (bm fX (nd.set (((t.getD ((z).toNat) tz).a).toNat) true)))] (zM<|zM<|zM<|zE (cT vE ((z).toNat) (tz:jO))<|zE (oFc kV)<|zE (nY qZ)<|zE (yE el131 (((t.getD ((z).toNat) tz).a).toNat))<|zT (eX aU (((t.getD ((z).toNat) tz).a).toNat) true (h1:=by first | omega | (simp only[List.length_replicate,List.length_set];omega)))<|zZ) ?_
    refine jB<|kx [(45,(vb (decide (1<(kZ ((t.getD ((z).toNat) tz).op))))))] [] (zM<|zE dV<|zZ) ?_
    refine jE rfl (fun h4=>?_) (fun h4=>?_)
    ·replace h4:=vY h4
     obtain ⟨hb0,hb1⟩:=(hT z.toNat (by omega)).2 h4
     have hnl2:(nd.set (t.getD z.toNat tz).a.toNat true).length=t.length:=by rw[List.length_set];exact hnl
     refine kx [] [(0,some (bm fX ((nd.set (((t.getD ((z).toNat) tz).a).toNat) true).set (((t.getD ((z).toNat) tz).b).toNat) true)))] (zM<|zM<|zM<|zE (cT vE ((z).toNat) (tz:jO))<|zE (oFc qW)<|zE (nY qZ)<|zE (yE el131 (((t.getD ((z).toNat) tz).b).toNat))<|zT (eX aU (((t.getD ((z).toNat) tz).b).toNat) true (h1:=by first | omega | (simp only[List.length_replicate,List.length_set];omega)))<|zZ) ?_
     refine kx [(6,(vi (z-1)))] [] (zM<|zE (zSb (z-1))<|zM<|zZ) ?_
     exact ⟨(z-1,(nd.set (t.getD z.toNat tz).a.toNat true).set (t.getD z.toNat tz).b.toNat true),wk,⟨by omega,by omega,by rw[List.length_set,List.length_set];exact hnl,ndL_step hz0 hnd (ndS_2 hne hk0 h4)⟩,(by first|omega|(dsimp only;omega))⟩
    ·replace h4:=xC h4
     refine jD<|kx [(6,(vi (z-1)))] [] (zM<|zE (zSb (z-1))<|zM<|zZ) ?_
     exact ⟨(z-1,nd.set (t.getD z.toNat tz).a.toNat true),wk,⟨by omega,by omega,by rw[List.length_set];exact hnl,ndL_step hz0 hnd (ndS_1 hne hk0 h4)⟩,(by first|omega|(dsimp only;omega))⟩
   ·replace h3:=xC h3
    refine jD<|kx [(6,(vi (z-1)))] [] (zM<|zE (zSb (z-1))<|zM<|zZ) ?_
    exact ⟨(z-1,nd),wk,⟨by omega,by omega,hnl,ndL_step hz0 hnd (ndS_0 hne h3)⟩,(by first|omega|(dsimp only;omega))⟩
 ·replace h1:=xC h1
  have hnd2:=ndL_end h1 hnd
  refine kL<|jB<|kx [(8,(.own 1 3 1 t.length))] [(1,some (bm jL (List.replicate t.length 0)))] (zM<|zE (xW vE)<|zH (oMk 1 jL (0:Int) t.length t.length uI ze3 zo3 by3)<|zM<|zZ) ?_
  refine jB<|kx [(9,(.own 2 72 7 0))] [(2,some (uK jK []))] (zOh 2 72 7<|zZ) ?_
  refine jB<|jB<|kx [(59,(vl 72 7 jK (List.take (m+1) t))),(60,(kF (m+1))),(61,(kF 0))] [] (zM<|zM<|zE (vT (m+1))<|zE (e_slc (l:=0) (h:=(m+1)) (kl:=.i64) (kh:=.i64) (es':=List.map jK (List.take (m+1) t)) (by exact rfl) vE (by exact rfl) (by exact rfl) (by exact rfl) (Nat.zero_le _) (by simp only[List.length_map];omega) (by rw[List.drop_zero,List.map_take]))<|zE (oLn vE (m+1) (hr:=by exact (by rw[List.length_map,List.length_take];congr 2;omega)))<|zM<|zZ) ?_
  refine jH<|kO (α:=Nat × List Int × List jO) (fun (k,nm,o)=>⟨[(5,(.own 0 4 1 t.length)),(8,(.own 1 3 1 t.length)),(9,(.own 2 72 7 o.length)),(59,(vl 72 7 jK (List.take (m+1) t))),(60,(kF (m+1))),(61,(kF k))],[(0,some (bm fX nd)),(1,some (bm jL nm)),(2,some (uK jK o))]⟩) (fun (k,nm,o)=>k<=m+1/\tmF t nd k=(nm,o)) (fun (k,nm,o)=>m+1-k) (0,List.replicate t.length 0,[]) wk ⟨Nat.zero_le _,rfl⟩ ?_
  rintro ⟨k,nm,o⟩ ⟨hk,hf⟩
  obtain ⟨hml,hol⟩:=tm_lenk hf
  refine jB<|kx [(62,(vb (decide (((k:Nat):Int)<(((m+1):Nat):Int)))))] [] (zE gZ<|zZ) ?_
  refine jB<|jE rfl (fun h5=>?_) (fun h5=>?_)
  ·replace h5:=vY h5
   have hkm:k<m+1:=by omega
   refine jD<|jB<|jH<|jB<|kx [(10,(kF k)),(11,(.ref 3 0))] [(3,some (bx (jK (t.getD k tz))))] (zM<|zE (cT vE k (tz:jO) (L:=(List.take (m+1) t)) (hj:=by first | omega | (rw[List.length_take];omega) | (simp only[List.length_take];omega)) (h1:=by first | omega | (rw[List.length_take];omega) | (simp only[List.length_take];omega)))<|zE (oQd (jK ((List.take (m+1) t).getD k tz)) (jK (t.getD k tz)) (eJ cN) (by exact (by rw[show (List.take (m+1) t).getD k tz=t.getD k tz from take_getDr t tz hkm])))<|zH (vH 3 mD dH)<|zM<|zT (qJ cN)<|zZ) ?_
   refine jB<|jB<|kx [(70,(vb (!(nd.getD k false))))] [] (zM<|zM<|zE (yE el131 k)<|zR (eZ aU k (false:Bool))<|zE yT<|zZ) ?_
   refine jE (b:=!(nd.getD k false)) rfl (fun h6=>?_) (fun h6=>?_)
   ·refine kL<|kx [(61,(kF (k+1)))] [] (zE (vT (k+1))<|zM<|zZ) ?_
    exact ⟨(k+1,nm,o),wk,⟨by omega,tmF_n hf h6⟩,(by first|omega|(dsimp only;omega))⟩
   ·have hne:=h6
    refine jD<|jB<|jB<|kx [(12,(vi (kZ ((t.getD k tz).op))))] [] (zE (kI xV)<|zR (qH dG)<|zE (jY (j_kids ((t.getD k tz).op)))<|zM<|zZ) ?_
    refine jB<|kx [(75,(vb (decide (0<(kZ ((t.getD k tz).op))))))] [] (zM<|zE dV<|zZ) ?_
    refine jE (b:=decide (0<(kZ ((t.getD k tz).op)))) rfl (fun h7=>?_) (fun h7=>?_)
    ·replace h7:=vY h7
     have hk0:=h7
     obtain ⟨ha0,ha1⟩:=(hT k (by omega)).1 h7
     refine jB<|kx [] [(3,some (bx (jK (jO.mk ((t.getD k tz).op) (nm.getD (((t.getD k tz).a).toNat) 0) ((t.getD k tz).b) ((t.getD k tz).n)))))] (zM<|zE (kI kV)<|zR (qH qZ)<|zE (yE uI (((t.getD k tz).a).toNat))<|zR (eZ qZ (((t.getD k tz).a).toNat) (0:Int))<|zE (kI kV)<|zT (qJ qZ)<|zZ) ?_
     refine jB<|kx [(83,(vb (decide (1<(kZ ((t.getD k tz).op))))))] [] (zM<|zE dV<|zZ) ?_
     refine jE (b:=decide (1<(kZ ((t.getD k tz).op)))) rfl (fun h8=>?_) (fun h8=>?_)
     ·replace h8:=vY h8
      obtain ⟨hb0,hb1⟩:=(hT k (by omega)).2 h8
      refine kx [] [(3,some (bx (jK (jO.mk ((t.getD k tz).op) (nm.getD (((t.getD k tz).a).toNat) 0) (nm.getD (((t.getD k tz).b).toNat) 0) ((t.getD k tz).n)))))] (zM<|zE (kI qW)<|zR (qH qZ)<|zE (yE uI (((t.getD k tz).b).toNat) (hj:=by first | omega | (dsimp only;omega)) (h1:=by first | omega | (dsimp only;omega)))<|zR (eZ qZ (((t.getD k tz).b).toNat) (0:Int))<|zE (kI qW)<|zT (qJ qZ)<|zZ) ?_
      refine jB<|kx [] [(1,some (bm jL (nm.set k ((o.length:Nat):Int))))] (zM<|zM<|zM<|zE (oLo vE)<|zE (yE uI k)<|zT (eX qZ k (((o.length:Nat):Int)) (h1:=by first | omega | (simp only[List.length_replicate,List.length_set];omega)))<|zZ) ?_
      refine kf [(9,(.own 2 72 7 ((o++[(jO.mk ((t.getD k tz).op) (nm.getD (((t.getD k tz).a).toNat) 0) (nm.getD (((t.getD k tz).b).toNat) 0) ((t.getD k tz).n))]).length)))] [(2,some (uK jK (o++[(jO.mk ((t.getD k tz).op) (nm.getD (((t.getD k tz).a).toNat) 0) (nm.getD (((t.getD k tz).b).toNat) 0) ((t.getD k tz).n))])))] (zM<|zR (kP cN)<|zE (eY vE mD dH)<|zAS jK o [(jO.mk ((t.getD k tz).op) (nm.getD (((t.getD k tz).a).toNat) 0) (nm.getD (((t.getD k tz).b).toNat) 0) ((t.getD k tz).n))] rfl vE mD by72<|zM<|zF) ?_
      refine kx [(61,(kF (k+1)))] [] (zE (vT (k+1))<|zM<|zZ) ?_
      exact ⟨(k+1,nm.set k ((o.length:Nat):Int),o++[jO.mk (t.getD k tz).op (nm.getD (t.getD k tz).a.toNat 0) (nm.getD (t.getD k tz).b.toNat 0) (t.getD k tz).n]),wk,⟨by omega,tmF_y hf hne (rnN_2 hk0 h8)⟩,(by first|omega|(dsimp only;omega))⟩
     ·replace h8:=xC h8
      refine jD<|jB<|kx [] [(1,some (bm jL (nm.set k ((o.length:Nat):Int))))] (zM<|zM<|zM<|zE (oLo vE)<|zE (yE uI k)<|zT (eX qZ k (((o.length:Nat):Int)) (h1:=by first | omega | (simp only[List.length_replicate,List.length_set];omega)))<|zZ) ?_
      refine kf [(9,(.own 2 72 7 ((o++[(jO.mk ((t.getD k tz).op) (nm.getD (((t.getD k tz).a).toNat) 0) ((t.getD k tz).b) ((t.getD k tz).n))]).length)))] [(2,some (uK jK (o++[(jO.mk ((t.getD k tz).op) (nm.getD (((t.getD k tz).a).toNat) 0) ((t.getD k tz).b) ((t.getD k tz).n))])))] (zM<|zR (kP cN)<|zE (eY vE mD dH)<|zAS jK o [(jO.mk ((t.getD k tz).op) (nm.getD (((t.getD k tz).a).toNat) 0) ((t.getD k tz).b) ((t.getD k tz).n))] rfl vE mD by72<|zM<|zF) ?_
      refine kx [(61,(kF (k+1)))] [] (zE (vT (k+1))<|zM<|zZ) ?_
      exact ⟨(k+1,nm.set k ((o.length:Nat):Int),o++[jO.mk (t.getD k tz).op (nm.getD (t.getD k tz).a.toNat 0) (t.getD k tz).b (t.getD k tz).n]),wk,⟨by omega,tmF_y hf hne (rnN_1 hk0 h8)⟩,(by first|omega|(dsimp only;omega))⟩
    ·replace h7:=xC h7
     refine jD<|jB<|kx [] [(1,some (bm jL (nm.set k ((o.length:Nat):Int))))] (zM<|zM<|zM<|zE (oLo vE)<|zE (yE uI k)<|zT (eX qZ k (((o.length:Nat):Int)) (h1:=by first | omega | (simp only[List.length_replicate,List.length_set];omega)))<|zZ) ?_
     refine kf [(9,(.own 2 72 7 ((o++[(t.getD k tz)]).length)))] [(2,some (uK jK (o++[(t.getD k tz)])))] (zM<|zR (kP cN)<|zE (eY vE mD dH)<|zAS jK o [(t.getD k tz)] rfl vE mD by72<|zM<|zF) ?_
     refine kx [(61,(kF (k+1)))] [] (zE (vT (k+1))<|zM<|zZ) ?_
     exact ⟨(k+1,nm.set k ((o.length:Nat):Int),o++[(t.getD k tz)]),wk,⟨by omega,tmF_y hf hne (rnN_0 h7)⟩,(by first|omega|(dsimp only;omega))⟩
  ·replace h5:=xC h5
   refine kL<|jB<|kx [(4,(.own 2 72 7 o.length))] [] (zM<|zM<|zZ) ?_
   refine qG (yG (t:=4) (k:=2) (es:=List.map jK o) rfl rfl (fP _ _ (fun _=>rfl)) (xR _ _ rfl) (bO jK o (fun _=>rfl) rfl)) ?_
   refine jF ⟨_,(.tmp (d:=(.sl 72 7 (List.map jK o))) rfl .nil),?_⟩
   rw[show yA t m=o from by unfold yA;rw[<- hnd2,<- show k=m+1 by omega,hf]];rfl
theorem cb60:callB Tryz.prog 60=true:=by kernel_rfl
theorem pl103:eF Tryz.prog 103=some [(0,1),(1,1),(2,1),(3,1),(4,1)]:=by kernel_rfl
theorem ze103:vX Tryz.prog 103=some [.slice none 0 0,.map none,.map none,.slice none 0 0,.bool false]:=by kernel_rfl
theorem zn103:eL [.slice none 0 0,.map none,.map none,.slice none 0 0,.bool false] [.val (.slice none 0 0),.val (.map none),.val (.map none),.val (.slice none 0 0),.val (.bool false)]:=by simp [eL,Value.oneCell']
theorem e_newb :xG Tryz.prog 60 [] [] (.ref 0 0) [(0,some [(.own 1 72 7 rb0.tm.length),(.mp 2),(.mp 3),(.own 4 3 1 rb0.us.length),(vb rb0.ov)]),(1,some (uK jK rb0.tm)),(2,some [.mo (uZ mJ vP rb0.kn)]),(3,some [.mo (uZ mN vP rb0.os)]),(4,some (bm jL rb0.us))]:=by
 refine yL Tryz.func60 rfl cb60 rfl ?_
 refine jB<|kx [] [] (zM<|zZ) ?_
 refine jB<|qG (wk (l:=[]) (b:=[])) ?_
 refine kr_cutm 2 [(1,.mp 2),(2,.mp 3)] [(3,some [.mo (uZ mN vP [])]),(2,some [.mo (uZ mJ vP [])])] [(0,.ref 0 0)] ((0,some [.d (.val (.slice none 0 0)),.mp 2,.mp 3,.d (.val (.slice none 0 0)),.d (.val (.bool false))])::[(3,some [.mo (uZ mN vP [])]),(2,some [.mo (uZ mJ vP [])])]) 1 2 (zN (oMm 2 mJ vP)<|zN (oMm 3 mN vP)<|zI (sim_get (fT (by kernel_rfl)) (fun _ _ h=>h))) rfl rfl (fun b b'=>zE (oOm 1 (k:=2) (b:=b) (oOm 2 (k:=3) (b:=b') (oBd pl103 ze103 zn103)))<|zN (xO 0)<|zM<|zI (cell_mps5 0 1 2 rfl rfl (by exact rfl) (by kernel_rfl) rfl)) ?_
 refine qG (wk (l:=[(0,(.ref 0 0))]) (b:=[(0,some [(.d (.val (.slice none 0 0))),(.mp 2),(.mp 3),(.d (.val (.slice none 0 0))),(vb false)]),(2,some [.mo (uZ mJ vP [])]),(3,some [.mo (uZ mN vP [])])])) ?_
 refine pwp_own 0 0 1 72 7 (cs:=[(.d (.val (.slice none 0 0))),(.mp 2),(.mp 3),(.d (.val (.slice none 0 0))),(vb false)]) (h:=?_)
 refine qG (wk (l:=[(0,(.ref 0 0))]) (b:=[(0,some [(.own 1 72 7 0),(.mp 2),(.mp 3),(.d (.val (.slice none 0 0))),(vb false)]),(1,some (uK jK [])),(2,some [.mo (uZ mJ vP [])]),(3,some [.mo (uZ mN vP [])])])) ?_
 refine pwp_own 0 3 4 3 1 (cs:=[(.own 1 72 7 0),(.mp 2),(.mp 3),(.d (.val (.slice none 0 0))),(vb false)]) (h:=?_)
 refine qG (wk (l:=[(0,(.ref 0 0))]) (b:=[(0,some [(.own 1 72 7 0),(.mp 2),(.mp 3),(.own 4 3 1 0),(vb false)]),(1,some (uK jK [])),(2,some [.mo (uZ mJ vP [])]),(3,some [.mo (uZ mN vP [])]),(4,some (bm jL []))])) ?_
 exact jF ⟨uC (by kernel_rfl),vB (by kernel_rfl),.inr (.inl ⟨0,rfl,rfl⟩)⟩
theorem mA:uU Tryz.prog 46 0=some 0:=by kernel_rfl
theorem cG:uU Tryz.prog 46 1=some 8:=by kernel_rfl
theorem fo113_2:uU Tryz.prog 113 2=some 2:=by kernel_rfl
theorem sh43:qD Tryz.prog 43=some (false,1):=by kernel_rfl
theorem sh67:qD Tryz.prog 67=some (false,1):=by kernel_rfl
theorem sh111:qD Tryz.prog 111=some (false,1):=by kernel_rfl
theorem j_round(n:Nat)(x:jS)(a:R2)(ha:GL 67108864 a):jQ Tryz.prog 170 [(.cptr 1000000 (jS.cells (mcA n x false)) 0),(jN (qI a))] (jN (qI a)):=by
 refine uR Tryz.func170 ?_
 refine jB<|kx [(3,(.ref 0 0)),(4,(.ref 1 0))] [(0,some (bx (jN (qI a)))),(1,some (bx (jN (kK.mk uG uG))))] (zN (xO 0)<|zN (vH 1 xT xZ)<|zZ) ?_
 refine jB<|jB<|kx [(9,(vb true))] [] (zM<|zE oNd<|zE (oFc fo113_2)<|zE (nY qZ)<|zE (vS true gZ)<|zZ) ?_
 refine xQ ?_
 refine jB<|kx [] [(1,some (bx (jN (qI a))))] (zR (kP kN)<|zT (qJ kN)<|zZ) ?_
 refine jF ⟨_,(kR (cs:=(bx (jN (qI a)))) (d:=(jN (qI a))) rfl rfl kN rfl rfl .nil),?_⟩
 rfl
theorem j_negop(a:R2)(ha:GL 67108864 a)(b:R2)(hb:GL 67108864 b)(zz:R2)(hzz:GL 3 zz):jQ Tryz.prog 133 [(jN (qI a)),(jN (qI b)),(.cptr 1000000 (jS.cells (jN (qI zz))) 0)] (jN (qI (uP zz a))):=by
 refine uR Tryz.func133 ?_
 refine jB<|kx [(3,(.ref 0 0)),(5,(.ref 2 0))] [(0,some (bx (jN (qI a)))),(2,some (bx (jN (kK.mk uG uG)))),(1,none)] (zN (xO 0)<|zN (xO 1)<|zN (vH 2 xT xZ)<|zZ) ?_
 refine jB<|kx [] [(2,some (bx (jN (qI (uP zz a)))))] (zE (eJ kN)<|zR (kP kN)<|zE (jY (j_sub zz (uH hzz) a ha))<|zT (qJ kN)<|zZ) ?_
 refine jF ⟨_,(kR (cs:=(bx (jN (qI (uP zz a))))) (d:=(jN (qI (uP zz a)))) rfl rfl kN rfl rfl .nil),?_⟩
 rfl
theorem j_vAdd(n:Nat)(u:JV)(hu:cF 1048576 n u)(v:JV)(hv:cF 1048576 n v):jQ Tryz.prog 124 [(.cptr 1000000 (jS.cells (.val (.func (.func 131) #[] #[]))) 0),(.cptr 1000000 (jS.cells (jP (uW u))) 0),(.cptr 1000000 (jS.cells (jP (uW v))) 0)] (jN (qI (gR u.v v.v))):=by
 refine uR Tryz.func124 ?_
 refine jB<|kx [(3,(.ref 0 0))] [(0,some (bx (jN (kK.mk uG uG))))] (zN (vH 0 xT xZ)<|zZ) ?_
 refine jB<|kx [] [(0,some (bx (jN (qI (gR u.v v.v)))))] (zE (nY sh67)<|zE (oFc mA)<|zE (eJ kN)<|zE (oFc mA)<|zE (eJ kN)<|zE (jY (j_add u.v (uH hu.1) v.v (uH hv.1)))<|zT (qJ kN)<|zZ) ?_
 refine jF ⟨_,(kR (cs:=(bx (jN (qI (gR u.v v.v))))) (d:=(jN (qI (gR u.v v.v)))) rfl rfl kN rfl rfl .nil),?_⟩
 rfl
theorem j_gAdd(wp:jS)(i:Nat)(n:Nat)(u:JV)(hu:cF 1048576 n u)(v:JV)(hv:cF 1048576 n v)(hi:i<n):jQ Tryz.prog 125 [(wp),(.val (.int .i64 (((i:Nat):Int)))),(.cptr 1000000 (jS.cells (.val (.func (.func 131) #[] #[]))) 0),(.cptr 1000000 (jS.cells (jP (uW u))) 0),(.cptr 1000000 (jS.cells (jP (uW v))) 0)] (jN (qI (gR (u.g.getD i z2) (v.g.getD i z2)))):=by
 have hul:=hu.2.2
 have hvl:=hv.2.2
 refine uR Tryz.func125 ?_
 refine jB<|kx [(7,(.ref 0 0))] [(0,some (bx (jN (kK.mk uG uG))))] (zN (vH 0 xT xZ)<|zZ) ?_
 refine jB<|kd [] [(0,some (bx (jN (qI (gR (u.g.getD i z2) (v.g.getD i z2))))))] mo (wE (nY sh67)<|wE (oFc cG)<|wE (nY sh43)<|wM<|wE (oXm dX qI i z2)<|wE (eJ kN)<|wE (oFc cG)<|wE (nY sh43)<|wM<|wE (oXm dX qI i z2)<|wE (eJ kN)<|wE (jY (j_add (u.g.getD i z2) (uH (yD hu.2.1 (by decide) i)) (v.g.getD i z2) (uH (yD hv.2.1 (by decide) i))))<|wT (qJ kN)<|wZ) ?_
 refine jF ⟨_,(kR (cs:=(bx (jN (qI (gR (u.g.getD i z2) (v.g.getD i z2)))))) (d:=(jN (qI (gR (u.g.getD i z2) (v.g.getD i z2))))) rfl rfl kN rfl rfl .nil),?_⟩
 rfl
theorem j_vSub(n:Nat)(u:JV)(hu:cF 1048576 n u)(v:JV)(hv:cF 1048576 n v):jQ Tryz.prog 124 [(.cptr 1000000 (jS.cells (.val (.func (.func 132) #[] #[]))) 0),(.cptr 1000000 (jS.cells (jP (uW u))) 0),(.cptr 1000000 (jS.cells (jP (uW v))) 0)] (jN (qI (uP u.v v.v))):=by
 refine uR Tryz.func124 ?_
 refine jB<|kx [(3,(.ref 0 0))] [(0,some (bx (jN (kK.mk uG uG))))] (zN (vH 0 xT xZ)<|zZ) ?_
 refine jB<|kx [] [(0,some (bx (jN (qI (uP u.v v.v)))))] (zE (nY sh67)<|zE (oFc mA)<|zE (eJ kN)<|zE (oFc mA)<|zE (eJ kN)<|zE (jY (j_sub u.v (uH hu.1) v.v (uH hv.1)))<|zT (qJ kN)<|zZ) ?_
 refine jF ⟨_,(kR (cs:=(bx (jN (qI (uP u.v v.v))))) (d:=(jN (qI (uP u.v v.v)))) rfl rfl kN rfl rfl .nil),?_⟩
 rfl
theorem j_gSub(wp:jS)(i:Nat)(n:Nat)(u:JV)(hu:cF 1048576 n u)(v:JV)(hv:cF 1048576 n v)(hi:i<n):jQ Tryz.prog 125 [(wp),(.val (.int .i64 (((i:Nat):Int)))),(.cptr 1000000 (jS.cells (.val (.func (.func 132) #[] #[]))) 0),(.cptr 1000000 (jS.cells (jP (uW u))) 0),(.cptr 1000000 (jS.cells (jP (uW v))) 0)] (jN (qI (uP (u.g.getD i z2) (v.g.getD i z2)))):=by
 have hul:=hu.2.2
 have hvl:=hv.2.2
 refine uR Tryz.func125 ?_
 refine jB<|kx [(7,(.ref 0 0))] [(0,some (bx (jN (kK.mk uG uG))))] (zN (vH 0 xT xZ)<|zZ) ?_
 refine jB<|kd [] [(0,some (bx (jN (qI (uP (u.g.getD i z2) (v.g.getD i z2))))))] mo (wE (nY sh67)<|wE (oFc cG)<|wE (nY sh43)<|wM<|wE (oXm dX qI i z2)<|wE (eJ kN)<|wE (oFc cG)<|wE (nY sh43)<|wM<|wE (oXm dX qI i z2)<|wE (eJ kN)<|wE (jY (j_sub (u.g.getD i z2) (uH (yD hu.2.1 (by decide) i)) (v.g.getD i z2) (uH (yD hv.2.1 (by decide) i))))<|wT (qJ kN)<|wZ) ?_
 refine jF ⟨_,(kR (cs:=(bx (jN (qI (uP (u.g.getD i z2) (v.g.getD i z2)))))) (d:=(jN (qI (uP (u.g.getD i z2) (v.g.getD i z2))))) rfl rfl kN rfl rfl .nil),?_⟩
 rfl
theorem j_vNeg(n:Nat)(u:JV)(hu:cF 1048576 n u)(v:JV)(hv:cF 1048576 n v):jQ Tryz.prog 124 [(.cptr 1000000 (jS.cells (.clo 133 [(.cptr 1000000 (jS.cells (jN (qI (gw 0)))) 0)])) 0),(.cptr 1000000 (jS.cells (jP (uW u))) 0),(.cptr 1000000 (jS.cells (jP (uW v))) 0)] (jN (qI (uP (gw 0) u.v))):=by
 refine uR Tryz.func124 ?_
 refine jB<|kx [(3,(.ref 0 0))] [(0,some (bx (jN (kK.mk uG uG))))] (zN (vH 0 xT xZ)<|zZ) ?_
 refine jB<|kx [] [(0,some (bx (jN (qI (uP (gw 0) u.v)))))] (zE (nY sh67)<|zE (oFc mA)<|zE (eJ kN)<|zE (oFc mA)<|zE (eJ kN)<|zE (oCd (ds:=[(jN (qI u.v)),(jN (qI v.v))]) (caps:=[(.cptr 1000000 (jS.cells (jN (qI (gw 0)))) 0)]) (j_negop u.v (uH hu.1) v.v (uH hv.1) (gw 0) (gl_w (z:=0) (by omega) (by omega))))<|zT (qJ kN)<|zZ) ?_
 refine jF ⟨_,(kR (cs:=(bx (jN (qI (uP (gw 0) u.v))))) (d:=(jN (qI (uP (gw 0) u.v)))) rfl rfl kN rfl rfl .nil),?_⟩
 rfl
theorem j_gNeg(wp:jS)(i:Nat)(n:Nat)(u:JV)(hu:cF 1048576 n u)(v:JV)(hv:cF 1048576 n v)(hi:i<n):jQ Tryz.prog 125 [(wp),(.val (.int .i64 (((i:Nat):Int)))),(.cptr 1000000 (jS.cells (.clo 133 [(.cptr 1000000 (jS.cells (jN (qI (gw 0)))) 0)])) 0),(.cptr 1000000 (jS.cells (jP (uW u))) 0),(.cptr 1000000 (jS.cells (jP (uW v))) 0)] (jN (qI (uP (gw 0) (u.g.getD i z2)))):=by
 have hul:=hu.2.2
 have hvl:=hv.2.2
 refine uR Tryz.func125 ?_
 refine jB<|kx [(7,(.ref 0 0))] [(0,some (bx (jN (kK.mk uG uG))))] (zN (vH 0 xT xZ)<|zZ) ?_
 refine jB<|kd [] [(0,some (bx (jN (qI (uP (gw 0) (u.g.getD i z2))))))] mo (wE (nY sh67)<|wE (oFc cG)<|wE (nY sh43)<|wM<|wE (oXm dX qI i z2)<|wE (eJ kN)<|wE (oFc cG)<|wE (nY sh43)<|wM<|wE (oXm dX qI i z2)<|wE (eJ kN)<|wE (oCd (ds:=[(jN (qI (u.g.getD i z2))),(jN (qI (v.g.getD i z2)))]) (caps:=[(.cptr 1000000 (jS.cells (jN (qI (gw 0)))) 0)]) (j_negop (u.g.getD i z2) (uH (yD hu.2.1 (by decide) i)) (v.g.getD i z2) (uH (yD hv.2.1 (by decide) i)) (gw 0) (gl_w (z:=0) (by omega) (by omega))))<|wT (qJ kN)<|wZ) ?_
 refine jF ⟨_,(kR (cs:=(bx (jN (qI (uP (gw 0) (u.g.getD i z2)))))) (d:=(jN (qI (uP (gw 0) (u.g.getD i z2))))) rfl rfl kN rfl rfl .nil),?_⟩
 rfl
theorem j_vC(p:Rat)(hp:QL p 1048576):jQ Tryz.prog 127 [(.cptr 1000000 (jS.cells (jK (jO.mk 0 0 0 (jM p)))) 0)] (jN (qI (gpt p))):=by
 refine uR Tryz.func127 ?_
 refine jB<|kx [(1,(.ref 0 0))] [(0,some (bx (jN (kK.mk uG uG))))] (zN (vH 0 xT xZ)<|zZ) ?_
 refine jB<|kx [] [(0,some (bx (jN (kK.mk (jM p) (jM p)))))] (zE (oFc nR)<|zE (eJ jT)<|zE (oFc nR)<|zE (eJ jT)<|zE (oBd pl42 xT xZ)<|zT (qJ kN)<|zZ) ?_
 refine jF ⟨_,(kR (cs:=(bx (jN (kK.mk (jM p) (jM p))))) (d:=(jN (kK.mk (jM p) (jM p)))) rfl rfl kN rfl rfl .nil),?_⟩
 rfl
theorem j_gC(wp:jS)(i:Nat)(zz:R2)(hzz:GL 3 zz):jQ Tryz.prog 128 [(wp),(.val (.int .i64 (((i:Nat):Int)))),(.cptr 1000000 (jS.cells (jN (qI zz))) 0)] (jN (qI zz)):=by
 refine uR Tryz.func128 ?_
 refine jB<|kx [(5,(.ref 0 0))] [(0,some (bx (jN (kK.mk uG uG))))] (zN (vH 0 xT xZ)<|zZ) ?_
 refine jB<|kx [] [(0,some (bx (jN (qI zz))))] (zE (eJ kN)<|zT (qJ kN)<|zZ) ?_
 refine jF ⟨_,(kR (cs:=(bx (jN (qI zz)))) (d:=(jN (qI zz))) rfl rfl kN rfl rfl .nil),?_⟩
 rfl
theorem j_vV(bv:List R2)(hbx:∀ x∈bv,GL 1048576 x)(a:Nat)(ha:a<bv.length)(hbl:bv.length<=1000000):jQ Tryz.prog 129 [(.cptr 1000000 (jS.cells (.sl 42 8 (List.map jN (List.map qI bv)))) 0),(.cptr 1000000 (jS.cells (jK (jO.mk 1 ((a:Nat):Int) 0 uG))) 0)] (jN (qI (bv.getD a z2))):=by
 refine uR Tryz.func129 ?_
 refine jB<|kx [(2,(.ref 0 0))] [(0,some (bx (jN (kK.mk uG uG))))] (zN (vH 0 xT xZ)<|zZ) ?_
 refine jB<|kx [] [(0,some (bx (jN (qI (bv.getD a z2)))))] (zE (nY sh43)<|zE (oFc kV)<|zE (nY qZ)<|zE (oXm dX qI a z2 (hj:=by first | omega | rfl | (dsimp only;omega)) (h1:=by first | omega | rfl | (dsimp only;omega)))<|zE (eJ kN)<|zT (qJ kN)<|zZ) ?_
 refine jF ⟨_,(kR (cs:=(bx (jN (qI (bv.getD a z2))))) (d:=(jN (qI (bv.getD a z2)))) rfl rfl kN rfl rfl .nil),?_⟩
 rfl
theorem j_gV(wp:jS)(i:Nat)(a:Nat)(zz:R2)(hzz:GL 3 zz):jQ Tryz.prog 130 [(wp),(.val (.int .i64 (((i:Nat):Int)))),(.cptr 1000000 (jS.cells (jK (jO.mk 1 ((a:Nat):Int) 0 uG))) 0),(.cptr 1000000 (jS.cells (jN (qI zz))) 0)] (jN (qI (if ((i:Nat):Int)=((a:Nat):Int) then gw 1 else zz))):=by
 refine uR Tryz.func130 ?_
 refine jB<|kx [(6,(.ref 0 0))] [(0,some (bx (jN (kK.mk uG uG))))] (zN (vH 0 xT xZ)<|zZ) ?_
 refine jB<|jB<|kx [(10,(vb (((i:Nat):Int) == ((a:Nat):Int))))] [] (zM<|zE (oFc kV)<|zE (nY qZ)<|zE xU<|zZ) ?_
 refine jE (b:=(((i:Nat):Int) == ((a:Nat):Int))) rfl (fun h1=>?_) (fun h1=>?_)
 ·replace h1:=eq_of_beq h1
  refine jB<|kx [] [(0,some (bx (jN (qI (gw 1)))))] (zE (jY (j_whole 1 (by omega) (by omega)))<|zT (qJ kN)<|zZ) ?_
  refine jF ⟨_,(kR (cs:=(bx (jN (qI (gw 1))))) (d:=(jN (qI (gw 1)))) rfl rfl kN rfl rfl .nil),?_⟩
  rw[if_pos h1];rfl
 ·replace h1:=ne_of_beq_false h1
  refine jD<|jB<|kx [] [(0,some (bx (jN (qI zz))))] (zE (eJ kN)<|zT (qJ kN)<|zZ) ?_
  refine jF ⟨_,(kR (cs:=(bx (jN (qI zz)))) (d:=(jN (qI zz))) rfl rfl kN rfl rfl .nil),?_⟩
  rw[if_neg h1];rfl
theorem j_vM(n:Nat)(u:JV)(hu:cF 1048576 n u)(v:JV)(hv:cF 1048576 n v):jQ Tryz.prog 134 [(.cptr 1000000 (jS.cells (jP (uW u))) 0),(.cptr 1000000 (jS.cells (jP (uW v))) 0)] (jN (qI (xE u.v v.v))):=by
 refine uR Tryz.func134 ?_
 refine jB<|kx [(2,(.ref 0 0))] [(0,some (bx (jN (kK.mk uG uG))))] (zN (vH 0 xT xZ)<|zZ) ?_
 refine jB<|kx [] [(0,some (bx (jN (qI (xE u.v v.v)))))] (zE (oFc mA)<|zE (eJ kN)<|zE (oFc mA)<|zE (eJ kN)<|zE (jY (j_mul u.v (uH hu.1) v.v (uH hv.1)))<|zT (qJ kN)<|zZ) ?_
 refine jF ⟨_,(kR (cs:=(bx (jN (qI (xE u.v v.v))))) (d:=(jN (qI (xE u.v v.v)))) rfl rfl kN rfl rfl .nil),?_⟩
 rfl
theorem j_gM(wp:jS)(i:Nat)(n:Nat)(u:JV)(hu:cF 1048576 n u)(v:JV)(hv:cF 1048576 n v)(hi:i<n):jQ Tryz.prog 136 [(wp),(.val (.int .i64 (((i:Nat):Int)))),(.cptr 1000000 (jS.cells (jP (uW u))) 0),(.cptr 1000000 (jS.cells (jP (uW v))) 0)] (jN (qI (gR (xE u.v (v.g.getD i z2)) (xE v.v (u.g.getD i z2))))):=by
 have hul:=hu.2.2
 have hvl:=hv.2.2
 refine uR Tryz.func136 ?_
 refine jB<|kx [(6,(.ref 0 0))] [(0,some (bx (jN (kK.mk uG uG))))] (zN (vH 0 xT xZ)<|zZ) ?_
 refine jB<|kd [] [(0,some (bx (jN (qI (gR (xE u.v (v.g.getD i z2)) (xE v.v (u.g.getD i z2)))))))] mo (wE (oFc mA)<|wE (eJ kN)<|wE (oFc cG)<|wE (nY sh43)<|wM<|wE (oXm dX qI i z2)<|wE (eJ kN)<|wE (jY (j_mul u.v (uH hu.1) (v.g.getD i z2) (uH (yD hv.2.1 (by decide) i))))<|wE (oFc mA)<|wE (eJ kN)<|wE (oFc cG)<|wE (nY sh43)<|wM<|wE (oXm dX qI i z2)<|wE (eJ kN)<|wE (jY (j_mul v.v (uH hv.1) (u.g.getD i z2) (uH (yD hu.2.1 (by decide) i))))<|wE (jY (j_add (xE u.v (v.g.getD i z2)) (uH (nZ (k:=2097152) hu.1 (yD hv.2.1 (by decide) i))) (xE v.v (u.g.getD i z2)) (uH (nZ (k:=2097152) hv.1 (yD hu.2.1 (by decide) i)))))<|wT (qJ kN)<|wZ) ?_
 refine jF ⟨_,(kR (cs:=(bx (jN (qI (gR (xE u.v (v.g.getD i z2)) (xE v.v (u.g.getD i z2))))))) (d:=(jN (qI (gR (xE u.v (v.g.getD i z2)) (xE v.v (u.g.getD i z2)))))) rfl rfl kN rfl rfl .nil),?_⟩
 rfl
theorem j_vQ(n:Nat)(u:JV)(hu:cF 1048576 n u):jQ Tryz.prog 138 [(.cptr 1000000 (jS.cells (jP (uW u))) 0)] (jN (qI (gsq u.v))):=by
 refine uR Tryz.func138 ?_
 refine jB<|kx [(1,(.ref 0 0))] [(0,some (bx (jN (kK.mk uG uG))))] (zN (vH 0 xT xZ)<|zZ) ?_
 refine jB<|kx [] [(0,some (bx (jN (qI (gsq u.v)))))] (zE (oFc mA)<|zE (eJ kN)<|zE (jY (j_sq u.v (uH hu.1)))<|zT (qJ kN)<|zZ) ?_
 refine jF ⟨_,(kR (cs:=(bx (jN (qI (gsq u.v))))) (d:=(jN (qI (gsq u.v)))) rfl rfl kN rfl rfl .nil),?_⟩
 rfl
theorem j_gQ(wp:jS)(i:Nat)(tt:R2)(htt:GL 3 tt)(n:Nat)(u:JV)(hu:cF 1048576 n u)(hi:i<n):jQ Tryz.prog 140 [(wp),(.val (.int .i64 (((i:Nat):Int)))),(.cptr 1000000 (jS.cells (jN (qI tt))) 0),(.cptr 1000000 (jS.cells (jP (uW u))) 0)] (jN (qI (xE tt (xE u.v (u.g.getD i z2))))):=by
 have hul:=hu.2.2
 refine uR Tryz.func140 ?_
 refine jB<|kx [(6,(.ref 0 0))] [(0,some (bx (jN (kK.mk uG uG))))] (zN (vH 0 xT xZ)<|zZ) ?_
 refine jB<|kd [] [(0,some (bx (jN (qI (xE tt (xE u.v (u.g.getD i z2)))))))] mo (wE (eJ kN)<|wE (oFc mA)<|wE (eJ kN)<|wE (oFc cG)<|wE (nY sh43)<|wM<|wE (oXm dX qI i z2)<|wE (eJ kN)<|wE (jY (j_mul u.v (uH hu.1) (u.g.getD i z2) (uH (yD hu.2.1 (by decide) i))))<|wE (jY (j_mul tt (uH htt) (xE u.v (u.g.getD i z2)) (uH (nZ (k:=2097152) hu.1 (yD hu.2.1 (by decide) i)))))<|wT (qJ kN)<|wZ) ?_
 refine jF ⟨_,(kR (cs:=(bx (jN (qI (xE tt (xE u.v (u.g.getD i z2))))))) (d:=(jN (qI (xE tt (xE u.v (u.g.getD i z2)))))) rfl rfl kN rfl rfl .nil),?_⟩
 rfl
theorem j_div(n:Nat)(x:jS)(a:R2)(ha:GL 67108864 a)(b:R2)(hb:GL 67108864 b)(hz:mW b.1 b.2=false):jQ Tryz.prog 143 [(.cptr 1000000 (jS.cells (mcA n x false)) 0),(jN (qI a)),(jN (qI b))] (jN (qI (eN a b))):=by
 let y1:=(bx (jN (kK.mk (jM (mnL (a.1 / b.1) [(a.1 / b.2),(a.2 / b.1),(a.2 / b.2)])) (jM (mxL (a.1 / b.1) [(a.1 / b.2),(a.2 / b.1),(a.2 / b.2)])))))
 refine uR Tryz.func143 ?_
 refine jB<|kx [(4,(.ref 0 0)),(5,(.ref 1 0)),(6,(.ref 2 0))] [(0,some (bx (jN (qI a)))),(1,some (bx (jN (qI b)))),(2,some (bx (jN (kK.mk uG uG))))] (zN (xO 0)<|zN (xO 1)<|zN (vH 2 xT xZ)<|zZ) ?_
 refine jB<|kx [(7,(.ref 3 0)),(8,(vi 0))] [(3,some y1)] (zR (kP kN)<|zR (kP kN)<|zE (jY (i_divide a.1 a.2 b.1 b.2 (uE ha.1) (uE ha.2.1) (uE hb.1) (uE hb.2.1) ha.2.2 hb.2.2 hz))<|zM<|zE xJ<|zE xJ<|zN (vH 3 xT xZ)<|zT (qJ kN)<|zM<|zZ) ?_
 refine jB<|jB<|kx [(16,(vb false))] [] (zM<|zE cK<|zZ) ?_
 refine qE ?_
 refine jD<|jB<|kx [] [(2,some y1)] (zR (kP kN)<|zT (qJ kN)<|zZ) ?_
 refine jF ⟨_,(kR (cs:=y1) (d:=(jN (kK.mk (jM (mnL (a.1 / b.1) [(a.1 / b.2),(a.2 / b.1),(a.2 / b.2)])) (jM (mxL (a.1 / b.1) [(a.1 / b.2),(a.2 / b.1),(a.2 / b.2)]))))) rfl rfl kN rfl rfl .nil),?_⟩
 rfl
theorem j_vD(n:Nat)(x:jS)(u:JV)(hu:cF 1048576 n u)(v:JV)(hv:cF 1048576 n v)(hz:mW v.v.1 v.v.2=false):jQ Tryz.prog 142 [(.cptr 1000000 (jS.cells (.cptr 1000000 (jS.cells (mcA n x false)) 0)) 0),(.cptr 1000000 (jS.cells (jP (uW u))) 0),(.cptr 1000000 (jS.cells (jP (uW v))) 0)] (jN (qI (eN u.v v.v))):=by
 refine uR Tryz.func142 ?_
 refine jB<|kx [(3,(.ref 0 0))] [(0,some (bx (jN (kK.mk uG uG))))] (zN (vH 0 xT xZ)<|zZ) ?_
 refine jB<|kx [] [(0,some (bx (jN (qI (eN u.v v.v)))))] (zE (nY sh111)<|zE (oFc mA)<|zE (eJ kN)<|zE (oFc mA)<|zE (eJ kN)<|zE (jY (j_div n (x) u.v (uH hu.1) v.v (uH hv.1) hz))<|zT (qJ kN)<|zZ) ?_
 refine jF ⟨_,(kR (cs:=(bx (jN (qI (eN u.v v.v))))) (d:=(jN (qI (eN u.v v.v)))) rfl rfl kN rfl rfl .nil),?_⟩
 rfl
theorem j_gD(w:R2)(hw:GL 2097152 w)(y z:jS)(i:Nat)(n:Nat)(x:jS)(u:JV)(hu:cF 1048576 n u)(v:JV)(hv:cF 1048576 n v)(hz:mW v.v.1 v.v.2=false)(hi:i<n):jQ Tryz.prog 144 [(.cptr 1000000 (jS.cells (.agg (jS.cells (jN (qI w))++[(y),(z)]))) 0),(.val (.int .i64 (((i:Nat):Int)))),(.cptr 1000000 (jS.cells (.cptr 1000000 (jS.cells (mcA n x false)) 0)) 0),(.cptr 1000000 (jS.cells (jP (uW u))) 0),(.cptr 1000000 (jS.cells (jP (uW v))) 0)] (jN (qI (eN (uP (u.g.getD i z2) (xE w (v.g.getD i z2))) v.v))):=by
 have hul:=hu.2.2
 have hvl:=hv.2.2
 refine uR Tryz.func144 ?_
 refine jB<|kx [(7,(.ref 0 0))] [(0,some (bx (jN (kK.mk uG uG))))] (zN (vH 0 xT xZ)<|zZ) ?_
 refine jB<|kd [] [(0,some (bx (jN (qI (eN (uP (u.g.getD i z2) (xE w (v.g.getD i z2))) v.v)))))] mo (wE (nY sh111)<|wE (oFc cG)<|wE (nY sh43)<|wM<|wE (oXm dX qI i z2)<|wE (eJ kN)<|wM<|wE oNd<|wE (oFc mA)<|wE (eJ kN)<|wE (oFc cG)<|wE (nY sh43)<|wM<|wE (oXm dX qI i z2)<|wE (eJ kN)<|wE (jY (j_mul w (uH hw) (v.g.getD i z2) (uH (yD hv.2.1 (by decide) i))))<|wE (jY (j_sub (u.g.getD i z2) (uH (yD hu.2.1 (by decide) i)) (xE w (v.g.getD i z2)) (uH (nZ (k:=3145728) hw (yD hv.2.1 (by decide) i)))))<|wE (oFc mA)<|wE (eJ kN)<|wE (jY (j_div n (x) (uP (u.g.getD i z2) (xE w (v.g.getD i z2))) (uH (lR (k:=4194305) (yD hu.2.1 (by decide) i) (nZ (k:=3145728) hw (yD hv.2.1 (by decide) i)))) v.v (uH hv.1) hz))<|wT (qJ kN)<|wZ) ?_
 refine jF ⟨_,(kR (cs:=(bx (jN (qI (eN (uP (u.g.getD i z2) (xE w (v.g.getD i z2))) v.v))))) (d:=(jN (qI (eN (uP (u.g.getD i z2) (xE w (v.g.getD i z2))) v.v)))) rfl rfl kN rfl rfl .nil),?_⟩
 rfl
end Go.Proofs.YtckccjhflbljgaaGreatDoor
