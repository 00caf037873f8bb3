/- Part 32 of a proof: rules, plain facts, and functions walked. -/
import Derived.Test.YtckccjhflbljgaaGreatDoorM31
import Derived.Test.YtckccjhflbljgaaGreatDoorM12
set_option linter.all false
set_option maxRecDepth 4000
namespace Go.Proofs.YtckccjhflbljgaaGreatDoor
open Go.Fid
theorem u_valU(t:List kC)(ht:yH 1048576 t)(xs:List Rat)(hx:∀ q∈xs,QL q 1048576)(k0:Nat)(hf:VEnd xs t k0)(hxb:xs.length<=1000000):jR Tryz.prog 12 [(.sl 72 7 (List.map jM t)),(.sl 32 4 (List.map jJ (List.map jO xs)))] (.tup [(jJ (vlR xs t k0)),(.val (.int .i64 ((vlC t k0))))]):=by
 have hxn:((List.map jO xs).length)=xs.length:=List.length_map _
 have h0:=tm_0 hf.c0
 have hk9:=hf.hk
 let y2:=uD
 let y1:=(bx (jJ y2))
 refine uU Tryz.func12 ?_
 refine jB<|kx [(4,(.ref 0 0))] [(0,some y1)] (zN (vC 0 qU uG)<|zM<|zZ) ?_
 refine jB<|jB<|kx [(15,(vb false))] [] (zM<|zE (nH true (kB (m_vlist (List.map jO xs) (pts_row hx (by omega)))) (by exact (vrow_of xs)))<|zE mH<|zZ) ?_
 refine qW ?_
 refine jG<|jB<|jB<|kx [(6,(kG (gC ((xs.length:Nat):Int) t)))] [] (zM<|zM<|zE (oLn uE xs.length)<|zE (kB (u_chk t ht ((xs.length:Nat):Int)))<|zM<|zZ) ?_
 refine jB<|kx [(22,(vb false))] [] (zM<|zE (nH false aK (by exact bne_eq_false_iff_eq.2 (by rw[show (gC ((xs.length:Nat):Int) t)=0 from hf.c0]<;>rfl)))<|zZ) ?_
 refine qW ?_
 refine jG<|jB<|kx [(7,(.own 1 32 4 0))] [(1,some (qN jJ []))] (zN (oBo 1 uE qU uG)<|zM<|zZ) ?_
 refine jB<|jB<|kx [(26,(vl 72 7 jM t)),(27,(kG t.length)),(28,(kG 0))] [] (zM<|zE (zL xZ)<|zM<|zZ) ?_
 refine jL<|kQ (α:=Nat × List kV) (fun (k,o)=>⟨[(1,(vl 32 4 jJ (List.map jO xs))),(4,(.ref 0 0)),(7,(.own 1 32 4 o.length)),(26,(vl 72 7 jM t)),(27,(kG t.length)),(28,(kG k))],[(0,some y1),(1,some (qN jJ o))]⟩) (fun (k,o)=>k<=k0/\o=List.map jO (vU xs t k)) (fun (k,o)=>t.length-k) (0,[]) wk ⟨Nat.zero_le _,rfl⟩ ?_
 rintro ⟨k,o⟩ ⟨hk,ho⟩
 have hol:o.length=k:=by rw[ho,List.length_map];exact vU_len _ _ _
 have hget:∀ j,j<k->o.getD j uD=jO ((vU xs t k).getD j 0):=fun j hj=>by rw[ho];exact map_getD jO _ 0 _ (by rw[vU_len];exact hj)
 have hVq:=(hf.up.le hk).all
 refine jB<|kx [(29,(vb (decide (((k:Nat):Int)<((t.length:Nat):Int)))))] [] (zE gX<|zZ) ?_
 refine jB<|jF rfl (fun h1=>?_) (fun h1=>?_)
 ·replace h1:=vN h1
  have hN:=nd_at hf.c0 (show k<t.length by omega)
  refine jG<|jB<|jL<|jB<|kx [(9,(.ref 2 0))] [(2,some (bx (jM (t.getD k tz))))] (zE (mV xZ k (tz:kC))<|zE (cV dP)<|zH (vC 2 cX eN)<|zT (qM dP)<|zZ) ?_
  refine jB<|kx [(10,(.ref 3 0))] [(3,some (bx (jJ ((t.getD k tz).n))))] (zE (kK gV)<|zR (kR jS)<|zH (vC 3 qU uG)<|zT (qM jS)<|zZ) ?_
  refine jB<|jB<|kx [(35,(vi ((t.getD k tz).op)))] [] (zE (kK xY)<|zR (qI dD)<|zZ) ?_
  refine jL<|jB<|kx [(36,(vb ((t.getD k tz).op == ((1:Nat):Int))))] [] (zE xV<|zM<|zZ) ?_
  refine jF (b:=((t.getD k tz).op == ((1:Nat):Int))) rfl (fun h2=>?_) (fun h2=>?_)
  ·replace h2:=eq_of_beq h2
   have hop:=h2
   obtain ⟨a1,a2⟩:=hN.var h2
   have hlt:=hf.lt hk (show k<t.length by omega) (by rw[hop];decide)
   refine kx [] [(3,some (bx (jJ (jO (xs.getD (((t.getD k tz).a).toNat) 0)))))] (zM<|zE (kK qG)<|zR (qI uC)<|zE (oXm uE jO (((t.getD k tz).a).toNat) 0)<|zE (cV jS)<|zT (qM jS)<|zZ) ?_
   refine kf [(7,(.own 1 32 4 ((o++[(jO (xs.getD (((t.getD k tz).a).toNat) 0))]).length)))] [(1,some (qN jJ (o++[(jO (xs.getD (((t.getD k tz).a).toNat) 0))])))] (zM<|zR (kR jS)<|zE (fH uE qU uG)<|zAS jJ o [(jO (xs.getD (((t.getD k tz).a).toNat) 0))] rfl uE qU by32<|zM<|zF) ?_
   refine kx [(28,(kG (k+1)))] [] (zE (vY (k+1))<|zM<|zZ) ?_
   exact ⟨(k+1,o++[jO (xs.getD ((t.getD k tz).a.toNat) 0)]),wk,⟨by omega,by rw[ho];exact eT (vV_1 hop)⟩,(by first|omega|(dsimp only;omega))⟩
  ·replace h2:=ne_of_beq_false h2
   refine jB<|kx [(43,(vb ((t.getD k tz).op == ((2:Nat):Int))))] [] (zE xV<|zM<|zZ) ?_
   refine jF (b:=((t.getD k tz).op == ((2:Nat):Int))) rfl (fun h3=>?_) (fun h3=>?_)
   ·replace h3:=eq_of_beq h3
    have hop:=h3
    obtain ⟨⟨a1,a2⟩,b1,b2⟩:=hN.bin (.inl h3)
    have hlt:=hf.lt hk (show k<t.length by omega) (by rw[hop];decide)
    refine kd [] [(3,some (bx (jJ (jO (((vU xs t k).getD ((t.getD k tz).a.toNat) 0)+((vU xs t k).getD ((t.getD k tz).b.toNat) 0))))))] mo (wM<|wE (kK qG)<|wR (qI uC)<|wE (fS uE (((t.getD k tz).a).toNat))<|wR (mG (jJ (o.getD (((t.getD k tz).a).toNat) y2)) (jJ (jO ((vU xs t k).getD ((t.getD k tz).a.toNat) 0))) (oLA jS (((t.getD k tz).a).toNat) y2) (by exact (congrArg jJ (hget _ (show (t.getD k tz).a.toNat<k by omega)))))<|wM<|wE (kK uK)<|wR (qI uC)<|wE (fS uE (((t.getD k tz).b).toNat))<|wR (mG (jJ (o.getD (((t.getD k tz).b).toNat) y2)) (jJ (jO ((vU xs t k).getD ((t.getD k tz).b.toNat) 0))) (oLA jS (((t.getD k tz).b).toNat) y2) (by exact (congrArg jJ (hget _ (show (t.getD k tz).b.toNat<k by omega)))))<|wE (kB (g_add (jO ((vU xs t k).getD ((t.getD k tz).a.toNat) 0)) (jO ((vU xs t k).getD ((t.getD k tz).b.toNat) 0)) ((vU xs t k).getD ((t.getD k tz).a.toNat) 0) ((vU xs t k).getD ((t.getD k tz).b.toNat) 0) (jY (kF (qlg hVq (by decide) ((t.getD k tz).a.toNat)))) (jY (kF (qlg hVq (by decide) ((t.getD k tz).b.toNat))))))<|wT (qM jS)<|wZ) ?_
    refine kf [(7,(.own 1 32 4 ((o++[(jO (((vU xs t k).getD ((t.getD k tz).a.toNat) 0)+((vU xs t k).getD ((t.getD k tz).b.toNat) 0)))]).length)))] [(1,some (qN jJ (o++[(jO (((vU xs t k).getD ((t.getD k tz).a.toNat) 0)+((vU xs t k).getD ((t.getD k tz).b.toNat) 0)))])))] (zM<|zR (kR jS)<|zE (fH uE qU uG)<|zAS jJ o [(jO (((vU xs t k).getD ((t.getD k tz).a.toNat) 0)+((vU xs t k).getD ((t.getD k tz).b.toNat) 0)))] rfl uE qU by32<|zM<|zF) ?_
    refine kx [(28,(kG (k+1)))] [] (zE (vY (k+1))<|zM<|zZ) ?_
    exact ⟨(k+1,o++[jO (((vU xs t k).getD ((t.getD k tz).a.toNat) 0)+((vU xs t k).getD ((t.getD k tz).b.toNat) 0))]),wk,⟨by omega,by rw[ho];exact eT (vV_2 hop)⟩,(by first|omega|(dsimp only;omega))⟩
   ·replace h3:=ne_of_beq_false h3
    refine jB<|kx [(56,(vb ((t.getD k tz).op == ((3:Nat):Int))))] [] (zE xV<|zM<|zZ) ?_
    refine jF (b:=((t.getD k tz).op == ((3:Nat):Int))) rfl (fun h4=>?_) (fun h4=>?_)
    ·replace h4:=eq_of_beq h4
     have hop:=h4
     obtain ⟨⟨a1,a2⟩,b1,b2⟩:=hN.bin (.inr (.inl h4))
     have hlt:=hf.lt hk (show k<t.length by omega) (by rw[hop];decide)
     refine kd [] [(3,some (bx (jJ (jO (((vU xs t k).getD ((t.getD k tz).a.toNat) 0)-((vU xs t k).getD ((t.getD k tz).b.toNat) 0))))))] mo (wM<|wE (kK qG)<|wR (qI uC)<|wE (fS uE (((t.getD k tz).a).toNat))<|wR (mG (jJ (o.getD (((t.getD k tz).a).toNat) y2)) (jJ (jO ((vU xs t k).getD ((t.getD k tz).a.toNat) 0))) (oLA jS (((t.getD k tz).a).toNat) y2) (by exact (congrArg jJ (hget _ (show (t.getD k tz).a.toNat<k by omega)))))<|wM<|wE (kK uK)<|wR (qI uC)<|wE (fS uE (((t.getD k tz).b).toNat))<|wR (mG (jJ (o.getD (((t.getD k tz).b).toNat) y2)) (jJ (jO ((vU xs t k).getD ((t.getD k tz).b.toNat) 0))) (oLA jS (((t.getD k tz).b).toNat) y2) (by exact (congrArg jJ (hget _ (show (t.getD k tz).b.toNat<k by omega)))))<|wE (kB (g_sub (jO ((vU xs t k).getD ((t.getD k tz).a.toNat) 0)) (jO ((vU xs t k).getD ((t.getD k tz).b.toNat) 0)) ((vU xs t k).getD ((t.getD k tz).a.toNat) 0) ((vU xs t k).getD ((t.getD k tz).b.toNat) 0) (jY (kF (qlg hVq (by decide) ((t.getD k tz).a.toNat)))) (jY (kF (qlg hVq (by decide) ((t.getD k tz).b.toNat))))))<|wT (qM jS)<|wZ) ?_
     refine kf [(7,(.own 1 32 4 ((o++[(jO (((vU xs t k).getD ((t.getD k tz).a.toNat) 0)-((vU xs t k).getD ((t.getD k tz).b.toNat) 0)))]).length)))] [(1,some (qN jJ (o++[(jO (((vU xs t k).getD ((t.getD k tz).a.toNat) 0)-((vU xs t k).getD ((t.getD k tz).b.toNat) 0)))])))] (zM<|zR (kR jS)<|zE (fH uE qU uG)<|zAS jJ o [(jO (((vU xs t k).getD ((t.getD k tz).a.toNat) 0)-((vU xs t k).getD ((t.getD k tz).b.toNat) 0)))] rfl uE qU by32<|zM<|zF) ?_
     refine kx [(28,(kG (k+1)))] [] (zE (vY (k+1))<|zM<|zZ) ?_
     exact ⟨(k+1,o++[jO (((vU xs t k).getD ((t.getD k tz).a.toNat) 0)-((vU xs t k).getD ((t.getD k tz).b.toNat) 0))]),wk,⟨by omega,by rw[ho];exact eT (vV_3 hop)⟩,(by first|omega|(dsimp only;omega))⟩
    ·replace h4:=ne_of_beq_false h4
     refine jB<|kx [(69,(vb ((t.getD k tz).op == ((4:Nat):Int))))] [] (zE xV<|zM<|zZ) ?_
     refine jF (b:=((t.getD k tz).op == ((4:Nat):Int))) rfl (fun h5=>?_) (fun h5=>?_)
     ·replace h5:=eq_of_beq h5
      have hop:=h5
      obtain ⟨⟨a1,a2⟩,b1,b2⟩:=hN.bin (.inr (.inr (.inl h5)))
      have hlt:=hf.lt hk (show k<t.length by omega) (by rw[hop];decide)
      refine kd [] [(3,some (bx (jJ (jO (((vU xs t k).getD ((t.getD k tz).a.toNat) 0)*((vU xs t k).getD ((t.getD k tz).b.toNat) 0))))))] mo (wM<|wE (kK qG)<|wR (qI uC)<|wE (fS uE (((t.getD k tz).a).toNat))<|wR (mG (jJ (o.getD (((t.getD k tz).a).toNat) y2)) (jJ (jO ((vU xs t k).getD ((t.getD k tz).a.toNat) 0))) (oLA jS (((t.getD k tz).a).toNat) y2) (by exact (congrArg jJ (hget _ (show (t.getD k tz).a.toNat<k by omega)))))<|wM<|wE (kK uK)<|wR (qI uC)<|wE (fS uE (((t.getD k tz).b).toNat))<|wR (mG (jJ (o.getD (((t.getD k tz).b).toNat) y2)) (jJ (jO ((vU xs t k).getD ((t.getD k tz).b.toNat) 0))) (oLA jS (((t.getD k tz).b).toNat) y2) (by exact (congrArg jJ (hget _ (show (t.getD k tz).b.toNat<k by omega)))))<|wE (kB (g_mul (jO ((vU xs t k).getD ((t.getD k tz).a.toNat) 0)) (jO ((vU xs t k).getD ((t.getD k tz).b.toNat) 0)) ((vU xs t k).getD ((t.getD k tz).a.toNat) 0) ((vU xs t k).getD ((t.getD k tz).b.toNat) 0) (jY (kF (qlg hVq (by decide) ((t.getD k tz).a.toNat)))) (jY (kF (qlg hVq (by decide) ((t.getD k tz).b.toNat))))))<|wT (qM jS)<|wZ) ?_
      refine kf [(7,(.own 1 32 4 ((o++[(jO (((vU xs t k).getD ((t.getD k tz).a.toNat) 0)*((vU xs t k).getD ((t.getD k tz).b.toNat) 0)))]).length)))] [(1,some (qN jJ (o++[(jO (((vU xs t k).getD ((t.getD k tz).a.toNat) 0)*((vU xs t k).getD ((t.getD k tz).b.toNat) 0)))])))] (zM<|zR (kR jS)<|zE (fH uE qU uG)<|zAS jJ o [(jO (((vU xs t k).getD ((t.getD k tz).a.toNat) 0)*((vU xs t k).getD ((t.getD k tz).b.toNat) 0)))] rfl uE qU by32<|zM<|zF) ?_
      refine kx [(28,(kG (k+1)))] [] (zE (vY (k+1))<|zM<|zZ) ?_
      exact ⟨(k+1,o++[jO (((vU xs t k).getD ((t.getD k tz).a.toNat) 0)*((vU xs t k).getD ((t.getD k tz).b.toNat) 0))]),wk,⟨by omega,by rw[ho];exact eT (vV_4 hop)⟩,(by first|omega|(dsimp only;omega))⟩
     ·replace h5:=ne_of_beq_false h5
      refine jB<|kx [(82,(vb ((t.getD k tz).op == ((6:Nat):Int))))] [] (zE xV<|zM<|zZ) ?_
      refine jF (b:=((t.getD k tz).op == ((6:Nat):Int))) rfl (fun h6=>?_) (fun h6=>?_)
      ·replace h6:=eq_of_beq h6
       have hop:=h6
       obtain ⟨a1,a2⟩:=hN.un (.inl h6)
       have hlt:=hf.lt hk (show k<t.length by omega) (by rw[hop];decide)
       refine kx [] [(3,some (bx (jJ (jO (-((vU xs t k).getD ((t.getD k tz).a.toNat) 0))))))] (zM<|zE (kK qG)<|zR (qI uC)<|zE (fS uE (((t.getD k tz).a).toNat))<|zR (mG (jJ (o.getD (((t.getD k tz).a).toNat) y2)) (jJ (jO ((vU xs t k).getD ((t.getD k tz).a.toNat) 0))) (oLA jS (((t.getD k tz).a).toNat) y2) (by exact (congrArg jJ (hget _ (show (t.getD k tz).a.toNat<k by omega)))))<|zE (kB (g_neg (jO ((vU xs t k).getD ((t.getD k tz).a.toNat) 0)) ((vU xs t k).getD ((t.getD k tz).a.toNat) 0) (jY (kF (qlg hVq (by decide) ((t.getD k tz).a.toNat))))))<|zT (qM jS)<|zZ) ?_
       refine kf [(7,(.own 1 32 4 ((o++[(jO (-((vU xs t k).getD ((t.getD k tz).a.toNat) 0)))]).length)))] [(1,some (qN jJ (o++[(jO (-((vU xs t k).getD ((t.getD k tz).a.toNat) 0)))])))] (zM<|zR (kR jS)<|zE (fH uE qU uG)<|zAS jJ o [(jO (-((vU xs t k).getD ((t.getD k tz).a.toNat) 0)))] rfl uE qU by32<|zM<|zF) ?_
       refine kx [(28,(kG (k+1)))] [] (zE (vY (k+1))<|zM<|zZ) ?_
       exact ⟨(k+1,o++[jO (-((vU xs t k).getD ((t.getD k tz).a.toNat) 0))]),wk,⟨by omega,by rw[ho];exact eT (vV_6 hop)⟩,(by first|omega|(dsimp only;omega))⟩
      ·replace h6:=ne_of_beq_false h6
       refine jB<|kx [(90,(vb ((t.getD k tz).op == ((7:Nat):Int))))] [] (zE xV<|zM<|zZ) ?_
       refine jF (b:=((t.getD k tz).op == ((7:Nat):Int))) rfl (fun h7=>?_) (fun h7=>?_)
       ·replace h7:=eq_of_beq h7
        have hop:=h7
        obtain ⟨a1,a2⟩:=hN.un (.inr h7)
        have hlt:=hf.lt hk (show k<t.length by omega) (by rw[hop];decide)
        refine kd [] [(3,some (bx (jJ (jO (((vU xs t k).getD ((t.getD k tz).a.toNat) 0)*((vU xs t k).getD ((t.getD k tz).a.toNat) 0))))))] mo (wM<|wE (kK qG)<|wR (qI uC)<|wE (fS uE (((t.getD k tz).a).toNat))<|wR (mG (jJ (o.getD (((t.getD k tz).a).toNat) y2)) (jJ (jO ((vU xs t k).getD ((t.getD k tz).a.toNat) 0))) (oLA jS (((t.getD k tz).a).toNat) y2) (by exact (congrArg jJ (hget _ (show (t.getD k tz).a.toNat<k by omega)))))<|wM<|wE (kK qG)<|wR (qI uC)<|wE (fS uE (((t.getD k tz).a).toNat))<|wR (mG (jJ (o.getD (((t.getD k tz).a).toNat) y2)) (jJ (jO ((vU xs t k).getD ((t.getD k tz).a.toNat) 0))) (oLA jS (((t.getD k tz).a).toNat) y2) (by exact (congrArg jJ (hget _ (show (t.getD k tz).a.toNat<k by omega)))))<|wE (kB (g_mul (jO ((vU xs t k).getD ((t.getD k tz).a.toNat) 0)) (jO ((vU xs t k).getD ((t.getD k tz).a.toNat) 0)) ((vU xs t k).getD ((t.getD k tz).a.toNat) 0) ((vU xs t k).getD ((t.getD k tz).a.toNat) 0) (jY (kF (qlg hVq (by decide) ((t.getD k tz).a.toNat)))) (jY (kF (qlg hVq (by decide) ((t.getD k tz).a.toNat))))))<|wT (qM jS)<|wZ) ?_
        refine kf [(7,(.own 1 32 4 ((o++[(jO (((vU xs t k).getD ((t.getD k tz).a.toNat) 0)*((vU xs t k).getD ((t.getD k tz).a.toNat) 0)))]).length)))] [(1,some (qN jJ (o++[(jO (((vU xs t k).getD ((t.getD k tz).a.toNat) 0)*((vU xs t k).getD ((t.getD k tz).a.toNat) 0)))])))] (zM<|zR (kR jS)<|zE (fH uE qU uG)<|zAS jJ o [(jO (((vU xs t k).getD ((t.getD k tz).a.toNat) 0)*((vU xs t k).getD ((t.getD k tz).a.toNat) 0)))] rfl uE qU by32<|zM<|zF) ?_
        refine kx [(28,(kG (k+1)))] [] (zE (vY (k+1))<|zM<|zZ) ?_
        exact ⟨(k+1,o++[jO (((vU xs t k).getD ((t.getD k tz).a.toNat) 0)*((vU xs t k).getD ((t.getD k tz).a.toNat) 0))]),wk,⟨by omega,by rw[ho];exact eT (vV_7 hop)⟩,(by first|omega|(dsimp only;omega))⟩
       ·replace h7:=ne_of_beq_false h7
        refine jB<|kx [(103,(vb ((t.getD k tz).op == ((5:Nat):Int))))] [] (zE xV<|zM<|zZ) ?_
        refine jF (b:=((t.getD k tz).op == ((5:Nat):Int))) rfl (fun h8=>?_) (fun h8=>?_)
        ·replace h8:=eq_of_beq h8
         have hop:=h8
         obtain ⟨⟨a1,a2⟩,b1,b2⟩:=hN.bin (.inr (.inr (.inr h8)))
         refine jB ?_
         rcases hlt0:(decide (k<k0)) with _ | _
         ·refine kd [(11,(.ref 4 0)),(12,(vi (divC ((vU xs t k).getD ((t.getD k tz).b.toNat) 0))))] [(4,some (bx (jJ (divR ((vU xs t k).getD ((t.getD k tz).a.toNat) 0) ((vU xs t k).getD ((t.getD k tz).b.toNat) 0)))))] mo (wM<|wE (kK qG)<|wR (qI uC)<|wE (fS uE (((t.getD k tz).a).toNat))<|wR (mG (jJ (o.getD (((t.getD k tz).a).toNat) y2)) (jJ (jO ((vU xs t k).getD ((t.getD k tz).a.toNat) 0))) (oLA jS (((t.getD k tz).a).toNat) y2) (by exact (congrArg jJ (hget _ (show (t.getD k tz).a.toNat<k by omega)))))<|wM<|wE (kK uK)<|wR (qI uC)<|wE (fS uE (((t.getD k tz).b).toNat))<|wR (mG (jJ (o.getD (((t.getD k tz).b).toNat) y2)) (jJ (jO ((vU xs t k).getD ((t.getD k tz).b.toNat) 0))) (oLA jS (((t.getD k tz).b).toNat) y2) (by exact (congrArg jJ (hget _ (show (t.getD k tz).b.toNat<k by omega)))))<|wE (kB (g_divide (jO ((vU xs t k).getD ((t.getD k tz).a.toNat) 0)) (jO ((vU xs t k).getD ((t.getD k tz).b.toNat) 0)) ((vU xs t k).getD ((t.getD k tz).a.toNat) 0) ((vU xs t k).getD ((t.getD k tz).b.toNat) 0) (jY (kF (qlg hVq (by decide) ((t.getD k tz).a.toNat)))) (jY (kF (qlg hVq (by decide) ((t.getD k tz).b.toNat))))))<|wM<|wE xU<|wE xU<|wH (hc:=by kernel_rfl) (vC 4 qU uG)<|wT (qM jS)<|wM<|wZ) ?_
          refine jB<|jB<|kx [(120,(vb true))] [] (zM<|zE (nH true aK (by exact bne_iff_ne.2 (by rw[divC_zero (hf.at hk (show k<t.length by omega) hlt0)];decide)))<|zZ) ?_
          refine yR ?_
          refine jB<|kx [(5,(vi (divC ((vU xs t k).getD ((t.getD k tz).b.toNat) 0))))] [(0,some y1)] (zE (bC pl32 qU uG)<|zM<|zT (qM jS)<|zM<|zZ) ?_
          refine jE ⟨_,(kP (cs:=(bx (jJ uD))) (d:=(jJ uD)) rfl rfl jS rfl rfl (.tmp (d:=(.val (.int .i64 ((divC ((vU xs t k).getD ((t.getD k tz).b.toNat) 0)))))) rfl .nil)),?_⟩
          obtain ⟨e1,e2⟩:=hf.no hk (show k<t.length by omega) hlt0 (xs:=xs)
          rw[divC_zero (hf.at hk (show k<t.length by omega) hlt0),e1,e2];rfl
         ·refine kd [(11,(.ref 4 0)),(12,(vi 0))] [(4,some (bx (jJ (jO (((vU xs t k).getD ((t.getD k tz).a.toNat) 0) / ((vU xs t k).getD ((t.getD k tz).b.toNat) 0))))))] mo (wM<|wE (kK qG)<|wR (qI uC)<|wE (fS uE (((t.getD k tz).a).toNat))<|wR (mG (jJ (o.getD (((t.getD k tz).a).toNat) y2)) (jJ (jO ((vU xs t k).getD ((t.getD k tz).a.toNat) 0))) (oLA jS (((t.getD k tz).a).toNat) y2) (by exact (congrArg jJ (hget _ (show (t.getD k tz).a.toNat<k by omega)))))<|wM<|wE (kK uK)<|wR (qI uC)<|wE (fS uE (((t.getD k tz).b).toNat))<|wR (mG (jJ (o.getD (((t.getD k tz).b).toNat) y2)) (jJ (jO ((vU xs t k).getD ((t.getD k tz).b.toNat) 0))) (oLA jS (((t.getD k tz).b).toNat) y2) (by exact (congrArg jJ (hget _ (show (t.getD k tz).b.toNat<k by omega)))))<|wE (kB (by have h:=g_divide (jO ((vU xs t k).getD ((t.getD k tz).a.toNat) 0)) (jO ((vU xs t k).getD ((t.getD k tz).b.toNat) 0)) ((vU xs t k).getD ((t.getD k tz).a.toNat) 0) ((vU xs t k).getD ((t.getD k tz).b.toNat) 0) (jY (kF (qlg hVq (by decide) ((t.getD k tz).a.toNat)))) (jY (kF (qlg hVq (by decide) ((t.getD k tz).b.toNat))));rw[divR_ne (hf.up.dz k (vN hlt0) hop),divC_ne (hf.up.dz k (vN hlt0) hop)] at h;exact h))<|wM<|wE xU<|wE xU<|wH (hc:=by kernel_rfl) (vC 4 qU uG)<|wT (qM jS)<|wM<|wZ) ?_
          refine jB<|jB<|kx [(120,(vb false))] [] (zM<|zE (nH false aK)<|zZ) ?_
          refine qW ?_
          refine jG<|kx [] [(3,some (bx (jJ (jO (((vU xs t k).getD ((t.getD k tz).a.toNat) 0) / ((vU xs t k).getD ((t.getD k tz).b.toNat) 0))))))] (zR (kR jS)<|zT (qM jS)<|zZ) ?_
          refine qL (wk (l:=[(1,(vl 32 4 jJ (List.map jO xs))),(4,(.ref 0 0)),(7,(.own 1 32 4 o.length)),(10,(.ref 3 0)),(26,(vl 72 7 jM t)),(27,(kG t.length)),(28,(kG k))]) (b:=[(0,some y1),(1,some (qN jJ o)),(3,some (bx (jJ (jO (((vU xs t k).getD ((t.getD k tz).a.toNat) 0) / ((vU xs t k).getD ((t.getD k tz).b.toNat) 0))))))])) ?_
          refine kf [(7,(.own 1 32 4 ((o++[(jO (((vU xs t k).getD ((t.getD k tz).a.toNat) 0) / ((vU xs t k).getD ((t.getD k tz).b.toNat) 0)))]).length)))] [(1,some (qN jJ (o++[(jO (((vU xs t k).getD ((t.getD k tz).a.toNat) 0) / ((vU xs t k).getD ((t.getD k tz).b.toNat) 0)))])))] (zM<|zR (kR jS)<|zE (fH uE qU uG)<|zAS jJ o [(jO (((vU xs t k).getD ((t.getD k tz).a.toNat) 0) / ((vU xs t k).getD ((t.getD k tz).b.toNat) 0)))] rfl uE qU by32<|zM<|zF) ?_
          refine kx [(28,(kG (k+1)))] [] (zE (vY (k+1))<|zM<|zZ) ?_
          exact ⟨(k+1,o++[jO (((vU xs t k).getD ((t.getD k tz).a.toNat) 0) / ((vU xs t k).getD ((t.getD k tz).b.toNat) 0))]),wk,⟨by have:=vN hlt0;omega,by rw[ho];exact eT (vV_5 hop)⟩,(by first|omega|(dsimp only;omega))⟩
        ·replace h8:=ne_of_beq_false h8
         have hop:(t.getD k tz).op=0:=by
          have:=hN.op
          omega
         have hlt:=hf.lt hk (show k<t.length by omega) (by rw[hop];decide)
         refine jG<|kf [(7,(.own 1 32 4 ((o++[(t.getD k tz).n]).length)))] [(1,some (qN jJ (o++[(t.getD k tz).n])))] (zM<|zR (kR jS)<|zE (fH uE qU uG)<|zAS jJ o [(t.getD k tz).n] rfl uE qU by32<|zM<|zF) ?_
         refine kx [(28,(kG (k+1)))] [] (zE (vY (k+1))<|zM<|zZ) ?_
         exact ⟨(k+1,o++[(t.getD k tz).n]),wk,⟨by omega,by rw[ho];exact vU_nc (vV_0 hop) (hN.con hop)⟩,(by first|omega|(dsimp only;omega))⟩
 ·replace h1:=vX h1
  refine kN<|jB<|kx [(5,(kG 0))] [(0,some (bx (jJ (o.getD (o.length-1) y2))))] (zM<|zM<|zE (oLo uE)<|zE (oSb (o.length-1))<|zE (fS uE (o.length-1))<|zR (oLA jS (o.length-1) y2)<|zT (qM jS)<|zM<|zZ) ?_
  refine jE ⟨_,(kP (cs:=(bx (jJ (o.getD (o.length-1) uD)))) (d:=(jJ (o.getD (o.length-1) uD))) rfl rfl jS rfl rfl (.tmp (d:=(.val (.int .i64 (((0:Nat):Int))))) rfl .nil)),?_⟩
  obtain rfl:k=t.length:=by omega
  obtain rfl:k0=t.length:=by omega
  rw[hol,hget _ (show t.length-1<t.length by omega),vlR_y,vlC_y];rfl
theorem u_val(t:List kC)(ht:yH 1048576 t)(xs:List Rat)(hx:∀ q∈xs,QL q 1048576)(hr:VRun xs t)(hxb:xs.length<=1000000):jR Tryz.prog 12 [(.sl 72 7 (List.map jM t)),(.sl 32 4 (List.map jJ (List.map jO xs)))] (.tup [(jJ (jO (dZ xs t))),(.val (.int .i64 (((0:Nat):Int))))]):=by
 have h:=u_valU t ht xs hx t.length hr.fin hxb
 rw[vlR_y,vlC_y] at h
 exact h
theorem u_valF(t:List kC)(ht:yH 1048576 t)(xs:List Rat)(hx:∀ q∈xs,QL q 1048576)(hfe:∃ k,VFail xs t k)(hxb:xs.length<=1000000):jR Tryz.prog 12 [(.sl 72 7 (List.map jM t)),(.sl 32 4 (List.map jJ (List.map jO xs)))] (.tup [(jJ uD),(.val (.int .i64 (((14:Nat):Int))))]):=by
 obtain ⟨k,hf⟩:=hfe
 have h:=u_valU t ht xs hx k hf.fin hxb
 rw[(hf.fin.no2 hf.hk).1,(hf.fin.no2 hf.hk).2] at h
 exact h
def brX(x:kV):Bool:=if (decide (1<((x.num.gs.length:Nat):Int))||decide (1<((x.den.gs.length:Nat):Int)))=true then false else
 ((((x.num.gs.length:Nat):Int) == 0)||decide (((x.num.gs.getD 0 0:Nat):Int)<100000))&&((((x.den.gs.length:Nat):Int) == 0)||decide (((x.den.gs.getD 0 0:Nat):Int)<=100))
def shX(n:Nat)(x:kV):Bool:=!(decide (((n:Nat):Int)<((digR x:Nat):Int))||(decide (((n:Nat):Int)<=6)&&!(brX x)))
theorem shX_t{n:Nat}{x:kV}(h:(decide (((n:Nat):Int)<((digR x:Nat):Int))||(decide (((n:Nat):Int)<=6)&&!(brX x)))=true):shX n x=false:=by unfold shX;rw[h];rfl
theorem shX_f{n:Nat}{x:kV}(h:(decide (((n:Nat):Int)<((digR x:Nat):Int))||(decide (((n:Nat):Int)<=6)&&!(brX x)))=false):shX n x=true:=by unfold shX;rw[h];rfl
theorem shX_le{n:Nat}{x:kV}(h:shX n x=true):digR x<=n:=by
 unfold shX at h
 rw[Bool.not_eq_true',Bool.or_eq_false_iff,decide_eq_false_iff_not] at h
 omega
def shR(c n:Nat)(l:List kV):Bool:=decide (l.length<=c)&&l.all (shX n)
theorem all_up{α:Type}{f:α->Bool}{l:List α}{i:Nat}{d:α}(h:i<l.length)(ha:(l.take i).all f=true)(hf:f (l.getD i d)=true):(l.take (i+1)).all f=true:=by
 rw[take_all (d:=d) h,ha,hf];rfl
theorem all_no{α:Type}{f:α->Bool}{l:List α}{i:Nat}{d:α}(h:i<l.length)(hf:f (l.getD i d)=false):l.all f=false:=by
 cases hb:l.all f with
 |false=>rfl
 |true=>
  rw[List.getD_eq_getElem?_getD,List.getElem?_eq_getElem h,Option.getD_some,List.all_eq_true.1 hb _ (List.getElem_mem h)] at hf;cases hf
theorem shR_long{c n:Nat}{l:List kV}(h:((c:Nat):Int)<((l.length:Nat):Int)):shR c n l=false:=by unfold shR;rw[decide_eq_false (by omega)];rfl
theorem shR_no{c n:Nat}{l:List kV}(h:(l.all (shX n))=false):shR c n l=false:=by unfold shR;rw[h,Bool.and_false]
theorem shR_yes{c n:Nat}{l:List kV}(h0:¬ ((c:Nat):Int)<((l.length:Nat):Int))(h:(l.all (shX n))=true):shR c n l=true:=by unfold shR;rw[decide_eq_true (by omega),h];rfl
section
variable {A B C r l:Rat}
end
end Go.Proofs.YtckccjhflbljgaaGreatDoor
