/- Part 23 of a proof: rules, plain facts, and functions walked. -/
import Derived.Test.YteimogfidbkpnaaGreatM16
import Derived.Test.YteimogfidbkpnaaGreatM22
set_option linter.all false
set_option maxRecDepth 4000
namespace Go.Proofs.YteimogfidbkpnaaGreat
open Go.Fid
theorem cb17:callB Tryz.prog 17=true:=by kernel_rfl
theorem cb18:callB Tryz.prog 18=true:=by kernel_rfl
theorem cb19:callB Tryz.prog 19=true:=by kernel_rfl
theorem cb21:callB Tryz.prog 21=true:=by kernel_rfl
theorem cb22:callB Tryz.prog 22=true:=by kernel_rfl
theorem cb47:callB Tryz.prog 47=true:=by kernel_rfl
theorem fC:uA Tryz.prog 101 0=some 0:=by kernel_rfl
theorem fo101_1:uA Tryz.prog 101 1=some 4:=by kernel_rfl
theorem fo101_2:uA Tryz.prog 101 2=some 8:=by kernel_rfl
theorem fo101_3:uA Tryz.prog 101 3=some 9:=by kernel_rfl
theorem fo101_4:uA Tryz.prog 101 4=some 10:=by kernel_rfl
theorem fo101_5:uA Tryz.prog 101 5=some 11:=by kernel_rfl
theorem pl101:yR Tryz.prog 101=some [(0,4),(4,4),(8,1),(9,1),(10,1),(11,1)]:=by kernel_rfl
theorem sh98:kZ Tryz.prog 98=some (false,1):=by kernel_rfl
theorem ze101:uL Tryz.prog 101=some [.int .i64 0,.int .i64 0,.int .i64 0,.slice none 0 0,.int .i64 0,.int .i64 0,.int .i64 0,.slice none 0 0,.slice none 0 0,.slice none 0 0,.int .i64 0,.int .i64 0]:=by kernel_rfl
theorem zo101:gD [.int .i64 0,.int .i64 0,.int .i64 0,.slice none 0 0,.int .i64 0,.int .i64 0,.int .i64 0,.slice none 0 0,.slice none 0 0,.slice none 0 0,.int .i64 0,.int .i64 0] [.val (.int .i64 0),.val (.int .i64 0),.val (.int .i64 0),.sl 3 1 [],.val (.int .i64 0),.val (.int .i64 0),.val (.int .i64 0),.sl 3 1 [],.sl 22 1 [],.sl 22 1 [],.val (.int .i64 0),.val (.int .i64 0)]:=by simp [gD,Value.oneCell']
theorem c_mat(nx:Int)(p:List Int)(w h:Nat)(mx:Int)(px:List Int)(x:Int)(y:Int)(hw:1≤w∧w≤100)(hh:1≤h∧h≤100):jR Tryz.prog 21 [(.cptr 1000001 (jQ.cells (yP (eA.mk (kG.mk ((3:Nat):Int) ((3:Nat):Int) nx p) (kG.mk ((w:Nat):Int) ((h:Nat):Int) mx px) (vH gJ px w h) (vH gQ px w h) (sm p) (xL p p)))) 0),(.val (.int .i64 (x))),(.val (.int .i64 (y)))] (.val (.bool ((cX w h x y)))):=by
 refine jH Tryz.func21 rfl cb21 rfl ?_
 show qS _ _ _ _ ⟨[(0,(.d (.cptr 1000001 (jQ.cells (yP (eA.mk (kG.mk ((3:Nat):Int) ((3:Nat):Int) nx p) (kG.mk ((w:Nat):Int) ((h:Nat):Int) mx px) (vH gJ px w h) (vH gQ px w h) (sm p) (xL p p)))) 0))),(1,(vi x)),(2,(vi y))],[]⟩
 refine jA<|kx [] [] (zM<|zZ) ?_
 refine jA<|kd [(6,(vb (((decide (0≤x)&&decide (0≤y))&&decide (x≤(((w:Nat):Int)-3)))&&decide (y≤(((h:Nat):Int)-3)))))] [] mo ?_ ?_
 ·refine wM<|wE oGe<|wE (oV (vb (decide (0≤x))) (kT (by kernel_rfl)))<|?_
  rcases hb1:(decide (0≤x)) with _ | _
  ·replace hb1:=vK hb1
   exact wK<|wK<|wE cB<|wM<|wK<|wK<|wK<|wK<|wK<|wK<|wK<|wK<|wK<|wK<|wK<|wK<|wK<|wE cB<|wM<|wK<|wK<|wK<|wK<|wK<|wK<|wK<|wK<|wK<|wK<|wK<|wK<|wK<|wE cB<|wM<|wZ
  ·replace hb1:=vM hb1
   refine wM<|wE oGe<|wE oPa<|wE (oV (vb (true&&decide (0≤y))) (kT (by kernel_rfl)))<|?_
   rcases hb2:(true&&decide (0≤y)) with _ | _
   ·replace hb2:=vK (p:=(0≤y)) hb2
    exact wK<|wK<|wK<|wK<|wK<|wK<|wK<|wK<|wK<|wK<|wK<|wK<|wK<|wE cB<|wM<|wK<|wK<|wK<|wK<|wK<|wK<|wK<|wK<|wK<|wK<|wK<|wK<|wK<|wE cB<|wM<|wZ
   ·replace hb2:=vM (p:=(0≤y)) hb2
    refine wM<|wM<|wE oNd<|wE (mZ fo101_1)<|wE (mZ uC)<|wE (xE qC)<|wM<|wE oNd<|wE (mZ fC)<|wE (mZ uC)<|wE (xE qC)<|wE (cN (((w:Nat):Int)-3))<|wE oLe<|wE oPa<|wE (oV (vb (true&&decide (x≤(((w:Nat):Int)-3)))) (kT (by kernel_rfl)))<|?_
    rcases hb3:(true&&decide (x≤(((w:Nat):Int)-3))) with _ | _
    ·replace hb3:=vK (p:=(x≤(((w:Nat):Int)-3))) hb3
     exact wK<|wK<|wK<|wK<|wK<|wK<|wK<|wK<|wK<|wK<|wK<|wK<|wK<|wE cB<|wM<|wZ
    ·replace hb3:=vM (p:=(x≤(((w:Nat):Int)-3))) hb3
     exact wM<|wM<|wE oNd<|wE (mZ fo101_1)<|wE (mZ zL)<|wE (xE qC)<|wM<|wE oNd<|wE (mZ fC)<|wE (mZ zL)<|wE (xE qC)<|wE (cN (((h:Nat):Int)-3))<|wE oLe<|wE oPa<|wM<|wZ
 refine jE ⟨_,(.tmp (d:=(.val (.bool ((((decide (0≤x)&&decide (0≤y))&&decide (x≤(((w:Nat):Int)-3)))&&decide (y≤(((h:Nat):Int)-3))))))) rfl .nil),?_⟩
 rfl
theorem c_win(nx:Int)(p:List Int)(w h:Nat)(mx:Int)(px:List Int)(f:Int→Int)(x:Nat)(y:Nat)(hw:1≤w∧w≤100)(hh:1≤h∧h≤100)(hf:∀ i,0≤f (px.getD i 0)∧f (px.getD i 0)≤4294836225)(hx:x+3≤w)(hy:y+3≤h):jR Tryz.prog 47 [(.cptr 1000001 (jQ.cells (yP (eA.mk (kG.mk ((3:Nat):Int) ((3:Nat):Int) nx p) (kG.mk ((w:Nat):Int) ((h:Nat):Int) mx px) (vH gJ px w h) (vH gQ px w h) (sm p) (xL p p)))) 0),(.sl 22 1 (List.map yZ (vH f px w h))),(.val (.int .i64 (((x:Nat):Int)))),(.val (.int .i64 (((y:Nat):Int))))] (.val (.int .i64 ((sm ((kL px w x y).map f))))):=by
 have tl:=preT_len (f:=f) (px:=px) (w:=w) (h:=h)
 have r1:((vH f px w h).getD y []).length=w+1:=by rw[dW (by omega)];exact eJ _
 have r2:((vH f px w h).getD (y+3) []).length=w+1:=by rw[dW (by omega)];exact eJ _
 have b0:=rs_M (w:=w) hf (x:=x) (y:=y) (by omega) (by omega)
 have b1:=rs_M (w:=w) hf (x:=x+3) (y:=y) (by omega) (by omega)
 have b2:=rs_M (w:=w) hf (x:=x) (y:=y+3) (by omega) (by omega)
 have b3:=rs_M (w:=w) hf (x:=x+3) (y:=y+3) (by omega) (by omega)
 refine jH Tryz.func47 rfl cb47 rfl ?_
 show qS _ _ _ _ ⟨[(0,(.d (.cptr 1000001 (jQ.cells (yP (eA.mk (kG.mk ((3:Nat):Int) ((3:Nat):Int) nx p) (kG.mk ((w:Nat):Int) ((h:Nat):Int) mx px) (vH gJ px w h) (vH gQ px w h) (sm p) (xL p p)))) 0))),(1,(vl 22 1 yZ (vH f px w h))),(2,(jL x)),(3,(jL y))],[]⟩
 refine jA<|kx [] [] (zM<|zZ) ?_
 refine jA<|kd [(9,(jL (x+3))),(10,(jL (y+3)))] [] mo (wM<|wM<|wE oNd<|wE (mZ fC)<|wE (mZ uC)<|wE (xE qC)<|wE (qP (x+3))<|wM<|wM<|wE oNd<|wE (mZ fC)<|wE (mZ zL)<|wE (xE qC)<|wE (qP (y+3))<|wM<|wM<|wZ) ?_
 refine jA<|kd [(8,(vi ((((nB f px w (x+3) (y+3))-(nB f px w (x+3) y))-(nB f px w x (y+3)))+(nB f px w x y))))] [] mo (wM<|wM<|wE (nG el98 (y+3) ([]:List (Int)) (L:=(vH f px w h)))<|wE (xE xT)<|wM<|wE (nG vI (x+3) (0:Int) (L:=((vH f px w h).getD (y+3) [])))<|wE (oQd (.val (.int .i64 ((((vH f px w h).getD (y+3) []).getD (x+3) 0)))) (.val (.int .i64 ((nB f px w (x+3) (y+3))))) (xE qC) (by exact (by rw[dW (by omega),eU _ (by omega)])))<|wM<|wM<|wE (nG el98 y ([]:List (Int)) (L:=(vH f px w h)))<|wE (xE xT)<|wM<|wE (nG vI (x+3) (0:Int) (L:=((vH f px w h).getD y [])))<|wE (oQd (.val (.int .i64 ((((vH f px w h).getD y []).getD (x+3) 0)))) (.val (.int .i64 ((nB f px w (x+3) y)))) (xE qC) (by exact (by rw[dW (by omega),eU _ (by omega)])))<|wE (cN ((nB f px w (x+3) (y+3))-(nB f px w (x+3) y)))<|wM<|wM<|wE (nG el98 (y+3) ([]:List (Int)) (L:=(vH f px w h)))<|wE (xE xT)<|wM<|wE (nG vI x (0:Int) (L:=((vH f px w h).getD (y+3) [])))<|wE (oQd (.val (.int .i64 ((((vH f px w h).getD (y+3) []).getD x 0)))) (.val (.int .i64 ((nB f px w x (y+3))))) (xE qC) (by exact (by rw[dW (by omega),eU _ (by omega)])))<|wE (cN (((nB f px w (x+3) (y+3))-(nB f px w (x+3) y))-(nB f px w x (y+3))))<|wM<|wM<|wE (nG el98 y ([]:List (Int)) (L:=(vH f px w h)))<|wE (xE xT)<|wM<|wE (nG vI x (0:Int) (L:=((vH f px w h).getD y [])))<|wE (oQd (.val (.int .i64 ((((vH f px w h).getD y []).getD x 0)))) (.val (.int .i64 ((nB f px w x y)))) (xE qC) (by exact (by rw[dW (by omega),eU _ (by omega)])))<|wE (zAd ((((nB f px w (x+3) (y+3))-(nB f px w (x+3) y))-(nB f px w x (y+3)))+(nB f px w x y)))<|wM<|wZ) ?_
 refine jE ⟨_,(.tmp (d:=(.val (.int .i64 (((((nB f px w (x+3) (y+3))-(nB f px w (x+3) y))-(nB f px w x (y+3)))+(nB f px w x y)))))) rfl .nil),?_⟩
 rw[← win_sum];rfl
theorem c_new(nx:Int)(p:List Int)(w h:Nat)(mx:Int)(px:List Int)(hw:1≤w∧w≤100)(hh:1≤h∧h≤100)(hl:px.length=w*h)(hp:PxB px)(hpl:p.length=9)(hpp:PxB p)(hc:gG ((w:Nat):Int) ((h:Nat):Int) mx px=0):jR Tryz.prog 17 [(jN (kG.mk ((3:Nat):Int) ((3:Nat):Int) nx p)),(jN (kG.mk ((w:Nat):Int) ((h:Nat):Int) mx px))] (.cptr 1000001 (jQ.cells (yP (eA.mk (kG.mk ((3:Nat):Int) ((3:Nat):Int) nx p) (kG.mk ((w:Nat):Int) ((h:Nat):Int) mx px) (vH gJ px w h) (vH gQ px w h) (sm p) (xL p p)))) 0):=by
 have hpb:=pl_b hpl hpp
 refine jH Tryz.func17 rfl cb17 rfl ?_
 show qS _ _ _ _ ⟨[(0,(.d (jN (kG.mk ((3:Nat):Int) ((3:Nat):Int) nx p)))),(1,(.d (jN (kG.mk ((w:Nat):Int) ((h:Nat):Int) mx px))))],[]⟩
 refine jA<|kx [(2,(.ref 0 0)),(3,(.ref 1 0))] [(0,some (bx (jN (kG.mk ((3:Nat):Int) ((3:Nat):Int) nx p)))),(1,some (bx (jN (kG.mk ((w:Nat):Int) ((h:Nat):Int) mx px))))] (zN (vL 0)<|zN (vL 1)<|zM<|zZ) ?_
 refine jA<|kd [(5,(.ref 2 0))] [(2,some (bx (yP (eA.mk (kG.mk ((3:Nat):Int) ((3:Nat):Int) nx p) (kG.mk ((w:Nat):Int) ((h:Nat):Int) mx px) [] (vH gQ px w h) 0 0))))] mo (wR (kI zQ)<|wR (kI zQ)<|wR (kI zQ)<|wE (jX (c_sq w h mx px hw hh hl hp))<|wE (oBd pl101 ze101 zo101)<|wN (vL 2)<|wM<|wZ) ?_
 refine jA<|kx [] [(2,some (bx (yP (eA.mk (kG.mk ((3:Nat):Int) ((3:Nat):Int) nx p) (kG.mk ((w:Nat):Int) ((h:Nat):Int) mx px) (vH gJ px w h) (vH gQ px w h) 0 0))))] (zM<|zR (kI zQ)<|zE (jX (c_int w h mx px hw hh hl hp hc))<|zM<|zE vQ<|zE vQ<|zE oNc<|zE (kJ fo101_2)<|zT (qF sh98)<|zZ) ?_
 refine jA<|kx [(6,(jL 0))] [] (zM<|zZ) ?_
 refine jA<|jA<|kx [(24,(vl 3 1 jT p)),(25,(jL p.length)),(26,(jL 0))] [] (zE (kJ uY)<|zR (kX xT)<|zE (yU vI)<|zM<|zZ) ?_
 refine jD<|kP (α:=Nat) (fun k=>⟨[(2,(.ref 0 0)),(5,(.ref 2 0)),(6,(vi (dt (p.take k) (p.take k)))),(24,(vl 3 1 jT p)),(25,(jL p.length)),(26,(jL k))],[(0,some (bx (jN (kG.mk ((3:Nat):Int) ((3:Nat):Int) nx p)))),(2,some (bx (yP (eA.mk (kG.mk ((3:Nat):Int) ((3:Nat):Int) nx p) (kG.mk ((w:Nat):Int) ((h:Nat):Int) mx px) (vH gJ px w h) (vH gQ px w h) (sm (p.take k)) 0))))]⟩) (fun k=>k≤p.length) (fun k=>p.length-k) 0 wk (Nat.zero_le _) ?_
 rintro k hk
 refine jA<|kx [(27,(vb (decide (((k:Nat):Int)<((p.length:Nat):Int)))))] [] (zE uE<|zZ) ?_
 refine jA<|jG rfl (fun h1=>?_) (fun h1=>?_)
 ·replace h1:=vM h1
  have hkl:k<p.length:=by omega
  have hkk:=hpp k
  have hs1:=sm_s hkl
  have hs2:=dt_s hkl hkl
  have hq2:=sq_M hpp k
  unfold gQ at hq2
  have hb1:=hpb k
  have hb2:=hpb (k+1)
  refine jC<|jA<|jD<|jA<|kx [(8,(vi (p.getD k 0)))] [] (zE (nG vI k (0:Int))<|zE (xE qC)<|zM<|zZ) ?_
  refine jA<|kx [] [(2,some (bx (yP (eA.mk (kG.mk ((3:Nat):Int) ((3:Nat):Int) nx p) (kG.mk ((w:Nat):Int) ((h:Nat):Int) mx px) (vH gJ px w h) (vH gQ px w h) (sm (p.take (k+1))) 0))))] (zM<|zE oNc<|zE (kJ fo101_4)<|zR (kX qC)<|zM<|zE (oQd (.val (.int .i64 (((sm (p.take k))+(p.getD k 0))))) (.val (.int .i64 ((sm (p.take (k+1)))))) (zAd ((sm (p.take k))+(p.getD k 0)) (hr:=by exact (qV rfl (by simp only[xZ];omega) (by simp only[zD];omega)))) (by exact (by rw[hs1])))<|zE oNc<|zE (kJ fo101_4)<|zT (qF qC)<|zZ) ?_
  refine kx [(6,(vi (dt (p.take (k+1)) (p.take (k+1)))))] [] (zM<|zM<|zM<|zE (nU ((p.getD k 0)*(p.getD k 0)))<|zE (oQd (.val (.int .i64 (((dt (p.take k) (p.take k))+((p.getD k 0)*(p.getD k 0)))))) (.val (.int .i64 ((dt (p.take (k+1)) (p.take (k+1)))))) (zAd ((dt (p.take k) (p.take k))+((p.getD k 0)*(p.getD k 0)))) (by exact (by rw[hs2])))<|zM<|zZ) ?_
  refine kx [(26,(jL (k+1)))] [] (zE (qP (k+1))<|zM<|zZ) ?_
  exact ⟨(k+1),wk,(by omega),(by omega)⟩
 ·replace h1:=vK h1
  have hke:p.take k=p:=by rw[show k=p.length by omega,List.take_length]
  have hb3:=hpb k
  rw[hke] at hb3
  have hb4:=sq_b2 hb3.1 hb3.1
  have hb5:((p.length:Nat):Int)*dt p p=9*dt p p:=by rw[hpl];rfl
  refine jV<|jA<|kd [] [(2,some (bx (yP (eA.mk (kG.mk ((3:Nat):Int) ((3:Nat):Int) nx p) (kG.mk ((w:Nat):Int) ((h:Nat):Int) mx px) (vH gJ px w h) (vH gQ px w h) (sm (p.take k)) (xL p p)))))] mo (wM<|wE (kJ uY)<|wR (kX xT)<|wE (yU vI)<|wE (oQd (.val (.int .i64 ((dt (p.take k) (p.take k))))) (.val (.int .i64 ((dt p p)))) (oV (vi (dt (p.take k) (p.take k))) (kT (by kernel_rfl))) (by exact (by rw[hke])))<|wE (nU (((p.length:Nat):Int)*(dt p p)) (hr:=by exact (qV rfl (by simp only[xZ];omega) (by simp only[zD];omega))))<|wM<|wE oNc<|wE (kJ fo101_4)<|wR (oQr (.val (.int .i64 ((sm (p.take k))))) (.val (.int .i64 ((sm p)))) (kX qC) (by exact (by rw[hke])))<|wM<|wE oNc<|wE (kJ fo101_4)<|wR (oQr (.val (.int .i64 ((sm (p.take k))))) (.val (.int .i64 ((sm p)))) (kX qC) (by exact (by rw[hke])))<|wE (nU ((sm p)*(sm p)) (hr:=by exact (qV rfl (by simp only[xZ];omega) (by simp only[zD];omega))))<|wE (oQd (.val (.int .i64 (((((p.length:Nat):Int)*(dt p p))-((sm p)*(sm p)))))) (.val (.int .i64 ((xL p p)))) (cN ((((p.length:Nat):Int)*(dt p p))-((sm p)*(sm p))) (hr:=by exact (qV rfl (by simp only[xZ];omega) (by simp only[zD];omega)))) (by exact rfl))<|wE oNc<|wE (kJ fo101_5)<|wT (qF qC)<|wZ) ?_
  refine jA<|kE (publishP (t:=5) (k:=2) (o:=0) (T:=1000001) (cs:=(jQ.cells (yP (eA.mk (kG.mk ((3:Nat):Int) ((3:Nat):Int) nx p) (kG.mk ((w:Nat):Int) ((h:Nat):Int) mx px) (vH gJ px w h) (vH gQ px w h) (sm (p.take k)) (xL p p))))) rfl rfl) ?_
  refine kx [(4,(.d (.cptr 1000001 (jQ.cells (yP (eA.mk (kG.mk ((3:Nat):Int) ((3:Nat):Int) nx p) (kG.mk ((w:Nat):Int) ((h:Nat):Int) mx px) (vH gJ px w h) (vH gQ px w h) (sm (p.take k)) (xL p p)))) 0)))] [] (zM<|zM<|zZ) ?_
  refine jE ⟨_,(.tmp (d:=(.cptr 1000001 (jQ.cells (yP (eA.mk (kG.mk ((3:Nat):Int) ((3:Nat):Int) nx p) (kG.mk ((w:Nat):Int) ((h:Nat):Int) mx px) (vH gJ px w h) (vH gQ px w h) (sm (p.take k)) (xL p p)))) 0)) rfl .nil),?_⟩
  rw[hke];rfl
theorem ql_i3{z:Int}(h1:-9223372036854775808≤z)(h2:z≤9223372036854775807):QL ((z:Int):Rat) 3:=kN (jM h1 h2) (by decide)
theorem ql_scW{p q:List Int}(hp:PxB p)(hq:PxB q)(h1:p.length=9)(h2:q.length=9):QL (scW p q) 12:=by
 have b1:=cov_b hp.mem hq.mem h1 h2
 have b2:=cov_b hp.mem hp.mem h1 h1
 have b3:=cov_b hq.mem hq.mem h2 h2
 unfold scW scQ
 have g1:=ql_i3 (z:=xL p q) (by omega) (by omega)
 have g2:=ql_i3 (z:=xL p p) (by omega) (by omega)
 have g3:=ql_i3 (z:=xL q q) (by omega) (by omega)
 exact ql_ite (xO (ql_i3 (by decide) (by decide)) (by decide)) (ql_div (k:=12) (kR (k:=6) g1 (ql_abs g1) (by decide)) (kR (k:=6) g2 g3 (by decide)) (by decide))
theorem st_ne{s t:Int}(hs:s≠0)(ht:t≠0):((s:Int):Rat)*((t:Int):Rat)≠0:=by
 rw[← Rat.intCast_mul,Ne,Rat.intCast_eq_zero_iff];exact Int.mul_ne_zero hs ht
theorem c_sc(nx:Int)(p:List Int)(w h:Nat)(mx:Int)(px:List Int)(x:Nat)(y:Nat)(hw:1≤w∧w≤100)(hh:1≤h∧h≤100)(hl:px.length=w*h)(hp:PxB px)(hpl:p.length=9)(hpp:PxB p)(hx:x+3≤w)(hy:y+3≤h):jR Tryz.prog 22 [(.cptr 1000001 (jQ.cells (yP (eA.mk (kG.mk ((3:Nat):Int) ((3:Nat):Int) nx p) (kG.mk ((w:Nat):Int) ((h:Nat):Int) mx px) (vH gJ px w h) (vH gQ px w h) (sm p) (xL p p)))) 0),(.val (.int .i64 (((x:Nat):Int)))),(.val (.int .i64 (((y:Nat):Int))))] (jI (jF (scW p (kL px w x y)))):=by
 have hsqM:=sq_M hp
 have hidM:=id_M hp
 let y2:=(yP (eA.mk (kG.mk ((3:Nat):Int) ((3:Nat):Int) nx p) (kG.mk ((w:Nat):Int) ((h:Nat):Int) mx px) (vH gJ px w h) (vH gQ px w h) (sm p) (xL p p)))
 let y1:=(bx (jI (jF ((((xL p (kL px w x y):Int):Rat)*(absQ ((xL p (kL px w x y):Int):Rat))) / (((xL p p:Int):Rat)*((xL (kL px w x y) (kL px w x y):Int):Rat))))))
 refine jH Tryz.func22 rfl cb22 rfl ?_
 show qS _ _ _ _ ⟨[(0,(.d (.cptr 1000001 (jQ.cells y2) 0))),(1,(jL x)),(2,(jL y))],[]⟩
 refine jA<|kx [(6,(.ref 0 0))] [(0,some (bx (jI nT)))] (zN (uX 0 qW uI)<|zZ) ?_
 refine jA<|kx [(7,(jL 3))] [] (zM<|zE oNd<|zE (mZ fC)<|zE (mZ uC)<|zE (xE qC)<|zM<|zZ) ?_
 refine jA<|kx [(8,(jL 0))] [] (zM<|zZ) ?_
 refine jA<|jA<|kx [(26,(vl 3 1 jT p)),(27,(jL p.length)),(28,(jL 0))] [] (zM<|zE oNd<|zE (mZ fC)<|zE (mZ uY)<|zE (xE xT)<|zE (yU vI (L:=p))<|zM<|zZ) ?_
 refine jD<|kP (α:=Nat) (fun k=>⟨[(0,(.d (.cptr 1000001 (jQ.cells y2) 0))),(1,(jL x)),(2,(jL y)),(6,(.ref 0 0)),(7,(jL 3)),(8,(vi (dt (p.take k) ((kL px w x y).take k)))),(26,(vl 3 1 jT p)),(27,(jL p.length)),(28,(jL k))],[(0,some (bx (jI nT)))]⟩) (fun k=>k≤p.length) (fun k=>p.length-k) 0 wk (Nat.zero_le _) ?_
 rintro k hk
 refine jA<|kx [(29,(vb (decide (((k:Nat):Int)<((p.length:Nat):Int)))))] [] (zE uE<|zZ) ?_
 refine jA<|jG rfl (fun h1=>?_) (fun h1=>?_)
 ·replace h1:=vM h1
  have hkl:k<p.length:=by omega
  have hk9:k<9:=by omega
  have hix:=dK (w:=w) (show y+k / 3<h by omega) (show x+k % 3<w by omega)
  rw[← hl] at hix
  have hlp:=hC hw.2 hh.2 hl
  have hwk:=winL_at (px:=px) (w:=w) (x:=x) (y:=y) hk9
  have hs:=dt_s (b:=(kL px w x y)) hkl (by rw[yY];omega)
  rw[hwk] at hs
  have hb1:=dt_bb hpp (hp.win w x y) hpl k
  have hb2:=dt_bb hpp (hp.win w x y) hpl (k+1)
  have hpm:=px_m (hpp k) (hp ((y+k / 3)*w+x+k % 3))
  refine jC<|jA<|jD<|jA<|kx [(9,(jL k)),(10,(vi (p.getD k 0)))] [] (zM<|zE (nG vI k (0:Int) (L:=p))<|zE (xE qC)<|zM<|zM<|zZ) ?_
  refine kd [(8,(vi (dt (p.take (k+1)) ((kL px w x y).take (k+1)))))] [] mo (wM<|wM<|wM<|wE oNd<|wE (mZ fo101_1)<|wE (mZ uY)<|wE (xE xT)<|wM<|wM<|wM<|wE (oQu (k / 3))<|wE (qP (y+(k / 3)))<|wM<|wE oNd<|wE (mZ fo101_1)<|wE (mZ uC)<|wE (xE qC)<|wE (oMl ((y+(k / 3))*w))<|wM<|wE (qP (((y+(k / 3))*w)+x))<|wM<|wM<|wE (oRe (k % 3))<|wE (qP ((((y+(k / 3))*w)+x)+(k % 3)))<|wE (nG vI ((((y+(k / 3))*w)+x)+(k % 3)) (0:Int) (L:=px))<|wE (xE qC)<|wE (nU ((p.getD k 0)*(px.getD ((((y+(k / 3))*w)+x)+(k % 3)) 0)) (hr:=by exact (qV rfl (by simp only[xZ];omega) (by simp only[zD];omega))))<|wE (oQd (.val (.int .i64 (((dt (p.take k) ((kL px w x y).take k))+((p.getD k 0)*(px.getD ((((y+(k / 3))*w)+x)+(k % 3)) 0)))))) (.val (.int .i64 ((dt (p.take (k+1)) ((kL px w x y).take (k+1)))))) (zAd ((dt (p.take k) ((kL px w x y).take k))+((p.getD k 0)*(px.getD ((((y+(k / 3))*w)+x)+(k % 3)) 0))) (hr:=by exact (qV rfl (by simp only[xZ];omega) (by simp only[zD];omega)))) (by exact (by rw[hs])))<|wM<|wZ) ?_
  refine kx [(28,(jL (k+1)))] [] (zE (qP (k+1))<|zM<|zZ) ?_
  exact ⟨(k+1),wk,(by omega),(by omega)⟩
 ·replace h1:=vK h1
  have hke:p.take k=p:=by rw[show k=p.length by omega,List.take_length]
  have hkw:(kL px w x y).take k=(kL px w x y):=by rw[show k=(kL px w x y).length by rw[yY];omega,List.take_length]
  have hpw:=hp.win w x y
  have hwl:=yY px w x y
  have g1:=dt_b9 hpp hpw hpl
  have g2:=dt_b9 hpw hpw hwl
  have g3:=sm_b9 hpw hwl
  have g4:=sm_b9 hpp hpl
  have g5:=sq_b2 g3 g3
  have g6:=sq_b2 g4 g3
  have e1:((p.length:Nat):Int)*dt p (kL px w x y)=9*dt p (kL px w x y):=by rw[hpl];rfl
  have e2:((p.length:Nat):Int)*dt (kL px w x y) (kL px w x y)=9*dt (kL px w x y) (kL px w x y):=by rw[hpl];rfl
  have hcW:((p.length:Nat):Int)*dt (kL px w x y) (kL px w x y)-sm (kL px w x y)*sm (kL px w x y)=xL (kL px w x y) (kL px w x y):=by unfold xL;rw[hwl,hpl]
  have c1:=cov_b hpp.mem hpw.mem hpl hwl
  have c2:=cov_b hpp.mem hpp.mem hpl hpl
  have c3:=cov_b hpw.mem hpw.mem hwl hwl
  refine jV<|jA<|kx [(11,(jL p.length))] [] (zM<|zE oNd<|zE (mZ fC)<|zE (mZ uY)<|zE (xE xT)<|zE (yU vI (L:=p))<|zM<|zZ) ?_
  refine jA<|kx [(12,(vi (sm (kL px w x y))))] [] (zM<|zM<|zE oNd<|zE (mZ fo101_2)<|zE (xE sh98)<|zM<|zM<|zE (oQd (.val (.int .i64 ((sm ((kL px w x y).map gJ))))) (.val (.int .i64 ((sm (kL px w x y))))) (jX (c_win nx p w h mx px gJ x y hw hh hidM hx hy)) (by exact (by rw[sm_idI])))<|zM<|zZ) ?_
  refine jA<|kx [(13,(vi (xL (kL px w x y) (kL px w x y))))] [] (zM<|zM<|zM<|zE oNd<|zE (mZ fo101_3)<|zE (xE sh98)<|zM<|zM<|zE (oQd (.val (.int .i64 ((sm ((kL px w x y).map gQ))))) (.val (.int .i64 ((dt (kL px w x y) (kL px w x y))))) (jX (c_win nx p w h mx px gQ x y hw hh hsqM hx hy)) (by exact (by rw[sm_sqI])))<|zE (nU (((p.length:Nat):Int)*(dt (kL px w x y) (kL px w x y))) (hr:=by exact (qV rfl (by simp only[xZ];omega) (by simp only[zD];omega))))<|zM<|zM<|zE (nU ((sm (kL px w x y))*(sm (kL px w x y))) (hr:=by exact (qV rfl (by simp only[xZ];omega) (by simp only[zD];omega))))<|zE (oQd (.val (.int .i64 (((((p.length:Nat):Int)*(dt (kL px w x y) (kL px w x y)))-((sm (kL px w x y))*(sm (kL px w x y))))))) (.val (.int .i64 ((xL (kL px w x y) (kL px w x y))))) (cN ((((p.length:Nat):Int)*(dt (kL px w x y) (kL px w x y)))-((sm (kL px w x y))*(sm (kL px w x y)))) (hr:=by exact (qV rfl (by simp only[xZ];omega) (by simp only[zD];omega)))) (by exact (by rw[hcW])))<|zM<|zZ) ?_
  refine jA<|jA<|kx [(98,(vb (((xL (kL px w x y) (kL px w x y)) == ((0:Nat):Int))||((xL p p) == ((0:Nat):Int)))))] [] ?_ ?_
  ·refine zM<|zE oEq<|zE (oV (vb ((xL (kL px w x y) (kL px w x y)) == ((0:Nat):Int))) (kT (by kernel_rfl)))<|?_
   rcases hb2:((xL (kL px w x y) (kL px w x y)) == ((0:Nat):Int)) with _ | _
   ·replace hb2:=ne_of_beq_false hb2
    exact zM<|zE oNd<|zE (mZ fo101_5)<|zE (xE qC)<|zE oEq<|zE nS<|zZ
   ·replace hb2:=eq_of_beq hb2
    exact zK<|zK<|zK<|zK<|zK<|zE xB<|zZ
  refine jG rfl (fun h3=>?_) (fun h3=>?_)
  ·rw[Bool.or_eq_true,beq_iff_eq,beq_iff_eq] at h3
   refine jA ?_
   have bn1:QL ((0:Int):Rat) 1:=(kN (z:=0) (uM (by decide)) (by decide))
   refine kx [] [(0,some (bx (jI (jF ((0:Int):Rat)))))] (zE (jX (hO 0 (by decide) (by decide)))<|zT (qF jP)<|zZ) ?_
   refine jE ⟨_,(kV (cs:=(bx (jI (jF ((0:Int):Rat))))) (d:=(jI (jF ((0:Int):Rat)))) rfl rfl jP rfl rfl .nil),?_⟩
   rw[show scW p (kL px w x y)=((0:Int):Rat) from if_pos h3];rfl
  ·rw[Bool.or_eq_false_iff,beq_eq_false_iff_ne,beq_eq_false_iff_ne] at h3
   obtain ⟨hn1,hn2⟩:=h3
   refine jC<|jA ?_
   have bn2:QL ((xL p (kL px w x y):Int):Rat) 3:=(kN (z:=(xL p (kL px w x y))) (jM (by omega) (by omega)) (by decide))
   refine kx [(14,(.ref 1 0))] [(1,some (bx (jI (jF ((xL p (kL px w x y):Int):Rat)))))] (zM<|zE (oQd (.val (.int .i64 ((dt (p.take k) ((kL px w x y).take k))))) (.val (.int .i64 ((dt p (kL px w x y))))) (oV (vi (dt (p.take k) ((kL px w x y).take k))) (kT (by kernel_rfl))) (by exact (by rw[hke,hkw])))<|zE (nU (((p.length:Nat):Int)*(dt p (kL px w x y))) (hr:=by exact (qV rfl (by simp only[xZ];omega) (by simp only[zD];omega))))<|zM<|zE oNd<|zE (mZ fo101_4)<|zE (xE qC)<|zM<|zE (nU ((sm p)*(sm (kL px w x y))) (hr:=by exact (qV rfl (by simp only[xZ];omega) (by simp only[zD];omega))))<|zE (oQd (.val (.int .i64 (((((p.length:Nat):Int)*(dt p (kL px w x y)))-((sm p)*(sm (kL px w x y))))))) (.val (.int .i64 ((xL p (kL px w x y))))) (cN ((((p.length:Nat):Int)*(dt p (kL px w x y)))-((sm p)*(sm (kL px w x y)))) (hr:=by exact (qV rfl (by simp only[xZ];omega) (by simp only[zD];omega)))) (by exact rfl))<|zE (jX (hO (xL p (kL px w x y)) (by omega) (by omega)))<|zN (uX 1 qW uI)<|zT (qF jP)<|zZ) ?_
   refine jA ?_
   have bn3:QL ((xL p p:Int):Rat) 3:=(kN (z:=(xL p p)) (jM (by omega) (by omega)) (by decide))
   have bn4:QL ((xL (kL px w x y) (kL px w x y):Int):Rat) 3:=(kN (z:=(xL (kL px w x y) (kL px w x y))) (jM (by omega) (by omega)) (by decide))
   have bn5:QL ((((xL p (kL px w x y):Int):Rat)*(absQ ((xL p (kL px w x y):Int):Rat))) / (((xL p p:Int):Rat)*((xL (kL px w x y) (kL px w x y):Int):Rat))) 12:=(ql_div (k:=12) (kR (k:=6) bn2 (ql_abs bn2) (by decide)) (kR (k:=6) bn3 bn4 (by decide)) (by decide))
   refine kd [(15,(.ref 2 0))] [(2,some y1)] mo (wR (kI jP)<|wR (kI jP)<|wE (jX (f_abs (jF ((xL p (kL px w x y):Int):Rat)) ((xL p (kL px w x y):Int):Rat) (kO (kQ bn2) (by decide))))<|wE (jX (cY (jF ((xL p (kL px w x y):Int):Rat)) (jF (absQ ((xL p (kL px w x y):Int):Rat))) ((xL p (kL px w x y):Int):Rat) (absQ ((xL p (kL px w x y):Int):Rat)) (kO (kQ bn2) (by decide)) (kO (kQ (ql_abs bn2)) (by decide))))<|wM<|wE oNd<|wE (mZ fo101_5)<|wE (xE qC)<|wE (jX (hO (xL p p) (by omega) (by omega)))<|wM<|wE (jX (hO (xL (kL px w x y) (kL px w x y)) (by omega) (by omega)))<|wE (jX (cY (jF ((xL p p:Int):Rat)) (jF ((xL (kL px w x y) (kL px w x y):Int):Rat)) ((xL p p:Int):Rat) ((xL (kL px w x y) (kL px w x y):Int):Rat) (kO (kQ bn3) (by decide)) (kO (kQ bn4) (by decide))))<|wE (jX (by have h:=f_divide (jF (((xL p (kL px w x y):Int):Rat)*(absQ ((xL p (kL px w x y):Int):Rat)))) (jF (((xL p p:Int):Rat)*((xL (kL px w x y) (kL px w x y):Int):Rat))) (((xL p (kL px w x y):Int):Rat)*(absQ ((xL p (kL px w x y):Int):Rat))) (((xL p p:Int):Rat)*((xL (kL px w x y) (kL px w x y):Int):Rat)) (kO (kQ (kR (k:=6) bn2 (ql_abs bn2) (by decide))) (by decide)) (kO (kQ (kR (k:=6) bn3 bn4 (by decide))) (by decide));rw[divR_ne (st_ne hn2 hn1),divC_ne (st_ne hn2 hn1)] at h;exact h))<|wM<|wE vQ<|wE vQ<|wN (uX 2 qW uI)<|wT (qF jP)<|wM<|wZ) ?_
   refine jA<|kx [] [(0,some y1)] (zR (kI jP)<|zT (qF jP)<|zZ) ?_
   refine jE ⟨_,(kV (cs:=(bx (jI (jF ((((xL p (kL px w x y):Int):Rat)*(absQ ((xL p (kL px w x y):Int):Rat))) / (((xL p p:Int):Rat)*((xL (kL px w x y) (kL px w x y):Int):Rat))))))) (d:=(jI (jF ((((xL p (kL px w x y):Int):Rat)*(absQ ((xL p (kL px w x y):Int):Rat))) / (((xL p p:Int):Rat)*((xL (kL px w x y) (kL px w x y):Int):Rat)))))) rfl rfl jP rfl rfl .nil),?_⟩
   rw[show scW p (kL px w x y)=scQ (xL p (kL px w x y)) (xL p p) (xL (kL px w x y) (kL px w x y)) from if_neg (fun e=>e.elim hn1 hn2)];rfl
def pkB:Pk→qK | none=>nT | some b=>jF b.2.2
theorem pkB_t{o:Pk}(h:pkS o=true):pkB o=jF (pkQ o):=by
 cases o with
 |none=>cases h
 |some b=>rfl
theorem c_scI(nx:Int)(p:List Int)(w h:Nat)(mx:Int)(px:List Int)(x y:Int)(hw:1≤w∧w≤100)(hh:1≤h∧h≤100)(hl:px.length=w*h)(hp:PxB px)(hpl:p.length=9)(hpp:PxB p)(hat:cX w h x y=true) :
  jR Tryz.prog 22 [(.cptr 1000001 (jQ.cells (yP (eA.mk (kG.mk ((3:Nat):Int) ((3:Nat):Int) nx p) (kG.mk ((w:Nat):Int) ((h:Nat):Int) mx px) (vH gJ px w h) (vH gQ px w h) (sm p) (xL p p)))) 0),(.val (.int .i64 x)),(.val (.int .i64 y))] (jI (jF (scF p px w x y))):=by
 obtain ⟨h1,h2,h3,h4⟩:=mAtB_t hat
 obtain ⟨a,rfl⟩:=Int.eq_ofNat_of_zero_le h1
 obtain ⟨b,rfl⟩:=Int.eq_ofNat_of_zero_le h2
 exact c_sc nx p w h mx px a b hw hh hl hp hpl hpp (by omega) (by omega)
theorem c_abv(p:Rat)(hp:QL p 16)(q:Rat)(hq:QL q 16):jR Tryz.prog 19 [(jI (jF p)),(jI (jF q))] (.val (.bool ((decide (0<dN p q))))):=by
 refine jH Tryz.func19 rfl cb19 rfl ?_
 show qS _ _ _ _ ⟨[(0,(.d (jI (jF p)))),(1,(.d (jI (jF q))))],[]⟩
 refine jA<|kx [(2,(.ref 0 0)),(3,(.ref 1 0))] [(0,some (bx (jI (jF p)))),(1,some (bx (jI (jF q))))] (zN (vL 0)<|zN (vL 1)<|zM<|zZ) ?_
 refine jA<|kx [(4,(vb (decide (((0:Nat):Int)<(dN p q)))))] [] (zR (kI jP)<|zR (kI jP)<|zE (jX (f_compare (jF p) (jF q) p q (kO (kQ hp) (by decide)) (kO (kQ hq) (by decide))))<|zE gF<|zM<|zZ) ?_
 refine jE ⟨_,(.tmp (d:=(.val (.bool (decide (((0:Nat):Int)<(dN p q)))))) rfl .nil),?_⟩
 rfl
theorem c_peak(nx:Int)(p:List Int)(w h:Nat)(mx:Int)(px:List Int)(u:Int)(v:Int)(u2:Int)(v2:Int)(a:Int)(b:Int)(q:Rat)(hw:1≤w∧w≤100)(hh:1≤h∧h≤100)(hl:px.length=w*h)(hp:PxB px)(hpl:p.length=9)(hpp:PxB p)(hu:-1000≤u∧u≤1000)(hv:-1000≤v∧v≤1000)(hu2:u2=u+6)(hv2:v2=v+6)(hq:QL q 12)(hres:pkA (scF p px w) (cX w h) u v 7 7=some (a,b,q)):jR Tryz.prog 18 [(.cptr 1000001 (jQ.cells (yP (eA.mk (kG.mk ((3:Nat):Int) ((3:Nat):Int) nx p) (kG.mk ((w:Nat):Int) ((h:Nat):Int) mx px) (vH gJ px w h) (vH gQ px w h) (sm p) (xL p p)))) 0),(.val (.int .i64 (u))),(.val (.int .i64 (v))),(.val (.int .i64 (u2))),(.val (.int .i64 (v2))),(.val (.func (.func 19) #[] #[]))] (.tup [(.val (.int .i64 (a))),(.val (.int .i64 (b))),(jI (jF q)),(.val (.bool (true)))]):=by
 have hsc:∀ x y,QL (scF p px w x y) 12:=fun x y=>ql_scW hpp (hp.win _ _ _) hpl (yY _ _ _ _)
 let y1:=(yP (eA.mk (kG.mk ((3:Nat):Int) ((3:Nat):Int) nx p) (kG.mk ((w:Nat):Int) ((h:Nat):Int) mx px) (vH gJ px w h) (vH gQ px w h) (sm p) (xL p p)))
 refine jH Tryz.func18 rfl cb18 rfl ?_
 show qS _ _ _ _ ⟨[(0,(.d (.cptr 1000001 (jQ.cells y1) 0))),(1,(vi u)),(2,(vi v)),(3,(vi u2)),(4,(vi v2)),(5,(.d (.val (.func (.func 19) #[] #[]))))],[]⟩
 refine jA<|kx [(12,(jL 0)),(13,(jL 0)),(14,(.ref 0 0)),(15,(vb false))] [(0,some (bx (jI nT)))] (zM<|zM<|zN (uX 0 qW uI)<|zM<|zZ) ?_
 refine jA<|jA<|kx [(16,(vi (v+((0:Nat):Int))))] [] (zM<|zE (oQd (.val (.int .i64 (v))) (.val (.int .i64 ((v+((0:Nat):Int))))) (oV (vi v) (kT (by kernel_rfl))) (by exact (by rw[show v+((0:Nat):Int)=v by omega])))<|zZ) ?_
 refine jD<|kP (α:=Nat × Pk) (fun (i,o)=>⟨[(0,(.d (.cptr 1000001 (jQ.cells y1) 0))),(1,(vi u)),(3,(vi u2)),(4,(vi v2)),(5,(.d (.val (.func (.func 19) #[] #[])))),(12,(vi (pkX o))),(13,(vi (pkY o))),(14,(.ref 0 0)),(15,(vb (pkS o))),(16,(vi (v+((i:Nat):Int))))],[(0,some (bx (jI (pkB o))))]⟩) (fun (i,o)=>i≤7∧o=(pkA (scF p px w) (cX w h) u v 7 i)) (fun (i,o)=>7-i) (0,none) wk ⟨Nat.zero_le _,rfl⟩ ?_
 rintro ⟨i,o⟩ ⟨hi,ho⟩
 refine jA<|jA<|kx [(22,(vb (decide ((v+((i:Nat):Int))≤v2))))] [] (zM<|zM<|zE oLe<|zZ) ?_
 refine jG (b:=decide ((v+((i:Nat):Int))≤v2)) rfl (fun h1=>?_) (fun h1=>?_)
 ·replace h1:=vM h1
  refine jC<|jA<|jD<|jA<|kx [(17,(vi (u+((0:Nat):Int))))] [] (zM<|zE (oQd (.val (.int .i64 (u))) (.val (.int .i64 ((u+((0:Nat):Int))))) (oV (vi u) (kT (by kernel_rfl))) (by exact (by rw[show u+((0:Nat):Int)=u by omega])))<|zZ) ?_
  refine jD<|kP (α:=Nat × Pk) (fun (j,r)=>⟨[(0,(.d (.cptr 1000001 (jQ.cells y1) 0))),(1,(vi u)),(3,(vi u2)),(4,(vi v2)),(5,(.d (.val (.func (.func 19) #[] #[])))),(12,(vi (pkX r))),(13,(vi (pkY r))),(14,(.ref 0 0)),(15,(vb (pkS r))),(16,(vi (v+((i:Nat):Int)))),(17,(vi (u+((j:Nat):Int))))],[(0,some (bx (jI (pkB r))))]⟩) (fun (j,r)=>j≤7∧r=pkR (scF p px w) (cX w h) (v+((i:Nat):Int)) u o j) (fun (j,r)=>7-j) (0,o) wk ⟨Nat.zero_le _,rfl⟩ ?_
  rintro ⟨j,r⟩ ⟨hj,hr⟩
  have hqr:QL (pkQ r) 12:=by rw[hr,ho];exact pkQ_R (P:=fun z=>QL z 12) hsc (pkQ_A (P:=fun z=>QL z 12) (qu ql_zero) hsc i) j
  refine jA<|jA<|kx [(28,(vb (decide ((u+((j:Nat):Int))≤u2))))] [] (zM<|zM<|zE oLe<|zZ) ?_
  refine jG (b:=decide ((u+((j:Nat):Int))≤u2)) rfl (fun h2=>?_) (fun h2=>?_)
  ·replace h2:=vM h2
   refine jC<|jA<|jD<|jA<|jA<|kx [(35,(vb (!(cX w h (u+((j:Nat):Int)) (v+((i:Nat):Int))))))] [] (zM<|zM<|zM<|zE (jX (c_mat nx p w h mx px (u+((j:Nat):Int)) (v+((i:Nat):Int)) hw hh))<|zE oNt<|zZ) ?_
   refine jG rfl (fun h3=>?_) (fun h3=>?_)
   ·have hat:cX w h (u+((j:Nat):Int)) (v+((i:Nat):Int))=false:=by simpa using h3
    refine jV<|kx [(17,(vi (u+((j+1:Nat):Int))))] [] (zM<|zE (oQd (.val (.int .i64 (((u+((j:Nat):Int))+1)))) (.val (.int .i64 ((u+((j+1:Nat):Int))))) (zAd ((u+((j:Nat):Int))+1)) (by exact (by rw[show (u+((j+1:Nat):Int))=(u+((j:Nat):Int))+1 by omega])))<|zM<|zZ) ?_
    exact ⟨(j+1,r),wk,⟨by omega,by show _=pk1 _ _ _ _ (pkR _ _ _ _ _ j);rw[← hr];exact (pk1_no hat).symm⟩,(by first|omega|(dsimp only;omega))⟩
   ·have hat:cX w h (u+((j:Nat):Int)) (v+((i:Nat):Int))=true:=by simpa using h3
    refine jC<|jA<|kx [(18,(.ref 1 0))] [(1,some (bx (jI (jF (scF p px w (u+((j:Nat):Int)) (v+((i:Nat):Int)))))))] (zM<|zM<|zM<|zE (jX (c_scI nx p w h mx px (u+((j:Nat):Int)) (v+((i:Nat):Int)) hw hh hl hp hpl hpp (by assumption)))<|zN (uX 1 qW uI)<|zT (qF jP)<|zZ) ?_
    refine jA ?_
    rcases hfo:(pkT r) with _ | _
    ·refine kx [(47,(vb true))] [] (zE (oQd (.val (.bool ((pkS r)))) (.val (.bool ((pkT r)))) (oV (vb (pkS r)) (kT (by kernel_rfl))) (by exact rfl))<|zE (vG true oNt (by exact congrArg (!·) hfo))<|zM<|zK<|zK<|zK<|zK<|zE xB<|zZ) ?_
     refine qB ?_
     refine kd [(12,(vi (u+((j:Nat):Int)))),(13,(vi (v+((i:Nat):Int)))),(15,(vb true))] [(0,some (bx (jI (jF (scF p px w (u+((j:Nat):Int)) (v+((i:Nat):Int)))))))] mo (wM<|wM<|wR (kI jP)<|wM<|wM<|wT (qF jP)<|wM<|wZ) ?_
     refine kx [(17,(vi (u+((j+1:Nat):Int))))] [] (zM<|zE (oQd (.val (.int .i64 (((u+((j:Nat):Int))+1)))) (.val (.int .i64 ((u+((j+1:Nat):Int))))) (zAd ((u+((j:Nat):Int))+1)) (by exact (by rw[show (u+((j+1:Nat):Int))=(u+((j:Nat):Int))+1 by omega])))<|zM<|zZ) ?_
     exact ⟨(j+1,some ((u+((j:Nat):Int)),(v+((i:Nat):Int)),(scF p px w (u+((j:Nat):Int)) (v+((i:Nat):Int))))),wk,⟨by omega,by show _=pk1 _ _ _ _ (pkR _ _ _ _ _ j);rw[← hr];exact (pk1_new hat hfo).symm⟩,(by first|omega|(dsimp only;omega))⟩
    ·refine kx [(47,(vb (false||(decide (0<dN (scF p px w (u+((j:Nat):Int)) (v+((i:Nat):Int))) (pkQ r))))))] [] (zE (oQd (.val (.bool ((pkS r)))) (.val (.bool ((pkT r)))) (oV (vb (pkS r)) (kT (by kernel_rfl))) (by exact rfl))<|zE (vG false oNt (by exact congrArg (!·) hfo))<|zM<|zM<|zR (kI jP)<|zR (oQr (jI (pkB r)) (jI (jF (pkQ r))) (kI jP) (by exact (congrArg jI (pkB_t hfo))))<|zE (jX (c_abv (scF p px w (u+((j:Nat):Int)) (v+((i:Nat):Int))) (xO (ql_scW hpp (hp.win _ _ _) hpl (yY _ _ _ _)) (by decide)) (pkQ r) (qu hqr)))<|zE nS<|zZ) ?_
     refine jG rfl (fun h4=>?_) (fun h4=>?_)
     ·refine kd [(12,(vi (u+((j:Nat):Int)))),(13,(vi (v+((i:Nat):Int)))),(15,(vb true))] [(0,some (bx (jI (jF (scF p px w (u+((j:Nat):Int)) (v+((i:Nat):Int)))))))] mo (wM<|wM<|wR (kI jP)<|wM<|wM<|wT (qF jP)<|wM<|wZ) ?_
      refine kx [(17,(vi (u+((j+1:Nat):Int))))] [] (zM<|zE (oQd (.val (.int .i64 (((u+((j:Nat):Int))+1)))) (.val (.int .i64 ((u+((j+1:Nat):Int))))) (zAd ((u+((j:Nat):Int))+1)) (by exact (by rw[show (u+((j+1:Nat):Int))=(u+((j:Nat):Int))+1 by omega])))<|zM<|zZ) ?_
      exact ⟨(j+1,some ((u+((j:Nat):Int)),(v+((i:Nat):Int)),(scF p px w (u+((j:Nat):Int)) (v+((i:Nat):Int))))),wk,⟨by omega,by show _=pk1 _ _ _ _ (pkR _ _ _ _ _ j);rw[← hr];exact (pk1_gt hat hfo (cmpQ_gt.1 (by simpa using h4))).symm⟩,(by first|omega|(dsimp only;omega))⟩
     ·refine jC<|kx [(17,(vi (u+((j+1:Nat):Int))))] [] (zM<|zE (oQd (.val (.int .i64 (((u+((j:Nat):Int))+1)))) (.val (.int .i64 ((u+((j+1:Nat):Int))))) (zAd ((u+((j:Nat):Int))+1)) (by exact (by rw[show (u+((j+1:Nat):Int))=(u+((j:Nat):Int))+1 by omega])))<|zM<|zZ) ?_
      exact ⟨(j+1,r),wk,⟨by omega,by show _=pk1 _ _ _ _ (pkR _ _ _ _ _ j);rw[← hr];exact (pk1_le hat hfo (fun e=>absurd (cmpQ_gt.2 e) (vK h4))).symm⟩,(by first|omega|(dsimp only;omega))⟩
  ·replace h2:=vK h2
   refine jV<|kx [(16,(vi (v+((i+1:Nat):Int))))] [] (zM<|zE (oQd (.val (.int .i64 (((v+((i:Nat):Int))+1)))) (.val (.int .i64 ((v+((i+1:Nat):Int))))) (zAd ((v+((i:Nat):Int))+1)) (by exact (by rw[show (v+((i+1:Nat):Int))=(v+((i:Nat):Int))+1 by omega])))<|zM<|zZ) ?_
   exact ⟨(i+1,r),wk,⟨by omega,by rw[hr,ho,show j=7 by omega];rfl⟩,(by first|omega|(dsimp only;omega))⟩
 ·replace h1:=vK h1
  have hox:o=some (a,b,q):=by rw[ho,show i=7 by omega];exact hres
  refine jV<|jA<|kd [(12,(vi a)),(13,(vi b)),(15,(vb true))] [(0,some (bx (jI (jF q))))] mo (wE (oQd (.val (.int .i64 ((pkX o)))) (.val (.int .i64 (a))) (oV (vi (pkX o)) (kT (by kernel_rfl))) (by exact (by rw[hox];rfl)))<|wE (oQd (.val (.int .i64 ((pkY o)))) (.val (.int .i64 (b))) (oV (vi (pkY o)) (kT (by kernel_rfl))) (by exact (by rw[hox];rfl)))<|wR (oQr (jI (pkB o)) (jI (jF q)) (kI jP) (by exact (by rw[hox];rfl)))<|wE (oQd (.val (.bool ((pkS o)))) (.val (.bool (true))) (oV (vb (pkS o)) (kT (by kernel_rfl))) (by exact (by rw[hox];rfl)))<|wM<|wM<|wT (qF jP)<|wM<|wZ) ?_
  refine jE ⟨_,(.tmp (d:=(.val (.int .i64 (a)))) rfl (.tmp (d:=(.val (.int .i64 (b)))) rfl (kV (cs:=(bx (jI (jF q)))) (d:=(jI (jF q))) rfl rfl jP rfl rfl (.tmp (d:=(.val (.bool (true)))) rfl .nil)))),?_⟩
  rfl
end Go.Proofs.YteimogfidbkpnaaGreat
