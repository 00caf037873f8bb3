/- Part 33 of a proof: rules, plain facts, and functions walked. -/
import Derived.Test.YtckccjhflbljgaaGreatDoorM32
import Derived.Test.YtckccjhflbljgaaGreatDoorM12
import Derived.Test.YtckccjhflbljgaaGreatDoorM30
import Derived.Test.YtckccjhflbljgaaGreatDoorM20
set_option linter.all false
set_option maxRecDepth 4000
namespace Go.Proofs.YtckccjhflbljgaaGreatDoor
open Go.Fid
theorem u_valU(t:List jO)(ht:uL 1048576 t)(xs:List Rat)(hx:∀ q∈xs,QL q 1048576)(k0:Nat)(hf:VEnd xs t k0)(hxb:xs.length<=1000000):jQ Tryz.prog 12 [(.sl 72 7 (List.map jK t)),(.sl 32 4 (List.map jG (List.map jM xs)))] (.tup [(jG (vlR xs t k0)),(.val (.int .i64 ((vlC t k0))))]):=by
 have hxn:((List.map jM xs).length)=xs.length:=List.length_map _
 have h0:=mQ hf.c0
 have hk9:=hf.hk
 let y2:=uG
 let y1:=(bx (jG y2))
 refine uR Tryz.func12 ?_
 refine jB<|kx [(4,(.ref 0 0))] [(0,some y1)] (zN (vH 0 qY uJ)<|zM<|zZ) ?_
 refine jB<|jB<|kx [(15,(vb false))] [] (zM<|zE (vS true (jY (fH (List.map jM xs) (nE hx (by omega)))) (by exact (aS xs)))<|zE yT<|zZ) ?_
 refine qE ?_
 refine jD<|jB<|jB<|kx [(6,(kF (zP ((xs.length:Nat):Int) t)))] [] (zM<|zM<|zE (oLn qF xs.length)<|zE (jY (aJ t ht ((xs.length:Nat):Int)))<|zM<|zZ) ?_
 refine jB<|kx [(22,(vb false))] [] (zM<|zE (vS false cK (by exact bne_eq_false_iff_eq.2 (by rw[show (zP ((xs.length:Nat):Int) t)=0 from hf.c0]<;>rfl)))<|zZ) ?_
 refine qE ?_
 refine jD<|jB<|kx [(7,(.own 1 32 4 0))] [(1,some (uK jG []))] (zN (oBo 1 qF qY uJ)<|zM<|zZ) ?_
 refine jB<|jB<|kx [(26,(vl 72 7 jK t)),(27,(kF t.length)),(28,(kF 0))] [] (zM<|zE (xW vE)<|zM<|zZ) ?_
 refine jH<|kO (α:=Nat × List kT) (fun (k,o)=>⟨[(1,(vl 32 4 jG (List.map jM xs))),(4,(.ref 0 0)),(7,(.own 1 32 4 o.length)),(26,(vl 72 7 jK t)),(27,(kF t.length)),(28,(kF k))],[(0,some y1),(1,some (uK jG o))]⟩) (fun (k,o)=>k<=k0/\o=List.map jM (vU xs t k)) (fun (k,o)=>t.length-k) (0,[]) wk ⟨Nat.zero_le _,rfl⟩ ?_
 rintro ⟨k,o⟩ ⟨hk,ho⟩
 have hol:o.length=k:=by rw[ho,List.length_map];exact eU _ _ _
 have hget:∀ j,j<k->o.getD j uG=jM ((vU xs t k).getD j 0):=fun j hj=>by rw[ho];exact map_getD jM _ 0 _ (by rw[eU];exact hj)
 have hVq:=(hf.up.le hk).all
 refine jB<|kx [(29,(vb (decide (((k:Nat):Int)<((t.length:Nat):Int)))))] [] (zE gZ<|zZ) ?_
 refine jB<|jE rfl (fun h1=>?_) (fun h1=>?_)
 ·replace h1:=vY h1
  have hN:=nd_at hf.c0 (show k<t.length by omega)
  refine jD<|jB<|jH<|jB<|kx [(9,(.ref 2 0))] [(2,some (bx (jK (t.getD k tz))))] (zE (cT vE k (tz:jO))<|zE (eJ cN)<|zH (vH 2 mD dH)<|zT (qJ cN)<|zZ) ?_
  refine jB<|kx [(10,(.ref 3 0))] [(3,some (bx (jG ((t.getD k tz).n))))] (zE (kI nR)<|zR (kP jT)<|zH (vH 3 qY uJ)<|zT (qJ jT)<|zZ) ?_
  refine jB<|jB<|kx [(35,(vi ((t.getD k tz).op)))] [] (zE (kI xV)<|zR (qH dG)<|zZ) ?_
  refine jH<|jB<|kx [(36,(vb ((t.getD k tz).op == ((1:Nat):Int))))] [] (zE xU<|zM<|zZ) ?_
  refine jE (b:=((t.getD k tz).op == ((1:Nat):Int))) rfl (fun h2=>?_) (fun h2=>?_)
  ·replace h2:=eq_of_beq h2
   have hop:=h2
   obtain ⟨a1,a2⟩:=hN.var h2
   have hlt:=hf.lt hk (show k<t.length by omega) (by rw[hop];decide)
   refine kx [] [(3,some (bx (jG (jM (xs.getD (((t.getD k tz).a).toNat) 0)))))] (zM<|zE (kI kV)<|zR (qH qZ)<|zE (oXm qF jM (((t.getD k tz).a).toNat) 0)<|zE (eJ jT)<|zT (qJ jT)<|zZ) ?_
   refine kf [(7,(.own 1 32 4 ((o++[(jM (xs.getD (((t.getD k tz).a).toNat) 0))]).length)))] [(1,some (uK jG (o++[(jM (xs.getD (((t.getD k tz).a).toNat) 0))])))] (zM<|zR (kP jT)<|zE (eY qF qY uJ)<|zAS jG o [(jM (xs.getD (((t.getD k tz).a).toNat) 0))] rfl qF qY by32<|zM<|zF) ?_
   refine kx [(28,(kF (k+1)))] [] (zE (vT (k+1))<|zM<|zZ) ?_
   exact ⟨(k+1,o++[jM (xs.getD ((t.getD k tz).a.toNat) 0)]),wk,⟨by omega,by rw[ho];exact aZ (vV_1 hop)⟩,(by first|omega|(dsimp only;omega))⟩
  ·replace h2:=ne_of_beq_false h2
   refine jB<|kx [(43,(vb ((t.getD k tz).op == ((2:Nat):Int))))] [] (zE xU<|zM<|zZ) ?_
   refine jE (b:=((t.getD k tz).op == ((2:Nat):Int))) rfl (fun h3=>?_) (fun h3=>?_)
   ·replace h3:=eq_of_beq h3
    have hop:=h3
    obtain ⟨⟨a1,a2⟩,b1,b2⟩:=hN.bin (.inl h3)
    have hlt:=hf.lt hk (show k<t.length by omega) (by rw[hop];decide)
    refine kd [] [(3,some (bx (jG (jM (((vU xs t k).getD ((t.getD k tz).a.toNat) 0)+((vU xs t k).getD ((t.getD k tz).b.toNat) 0))))))] mo (wM<|wE (kI kV)<|wR (qH qZ)<|wE (fK qF (((t.getD k tz).a).toNat))<|wR (mR (jG (o.getD (((t.getD k tz).a).toNat) y2)) (jG (jM ((vU xs t k).getD ((t.getD k tz).a.toNat) 0))) (oLA jT (((t.getD k tz).a).toNat) y2) (by exact (congrArg jG (hget _ (show (t.getD k tz).a.toNat<k by omega)))))<|wM<|wE (kI qW)<|wR (qH qZ)<|wE (fK qF (((t.getD k tz).b).toNat))<|wR (mR (jG (o.getD (((t.getD k tz).b).toNat) y2)) (jG (jM ((vU xs t k).getD ((t.getD k tz).b.toNat) 0))) (oLA jT (((t.getD k tz).b).toNat) y2) (by exact (congrArg jG (hget _ (show (t.getD k tz).b.toNat<k by omega)))))<|wE (jY (g_add (jM ((vU xs t k).getD ((t.getD k tz).a.toNat) 0)) (jM ((vU xs t k).getD ((t.getD k tz).b.toNat) 0)) ((vU xs t k).getD ((t.getD k tz).a.toNat) 0) ((vU xs t k).getD ((t.getD k tz).b.toNat) 0) (jW (kC (qlg hVq (by decide) ((t.getD k tz).a.toNat)))) (jW (kC (qlg hVq (by decide) ((t.getD k tz).b.toNat))))))<|wT (qJ jT)<|wZ) ?_
    refine kf [(7,(.own 1 32 4 ((o++[(jM (((vU xs t k).getD ((t.getD k tz).a.toNat) 0)+((vU xs t k).getD ((t.getD k tz).b.toNat) 0)))]).length)))] [(1,some (uK jG (o++[(jM (((vU xs t k).getD ((t.getD k tz).a.toNat) 0)+((vU xs t k).getD ((t.getD k tz).b.toNat) 0)))])))] (zM<|zR (kP jT)<|zE (eY qF qY uJ)<|zAS jG o [(jM (((vU xs t k).getD ((t.getD k tz).a.toNat) 0)+((vU xs t k).getD ((t.getD k tz).b.toNat) 0)))] rfl qF qY by32<|zM<|zF) ?_
    refine kx [(28,(kF (k+1)))] [] (zE (vT (k+1))<|zM<|zZ) ?_
    exact ⟨(k+1,o++[jM (((vU xs t k).getD ((t.getD k tz).a.toNat) 0)+((vU xs t k).getD ((t.getD k tz).b.toNat) 0))]),wk,⟨by omega,by rw[ho];exact aZ (vV_2 hop)⟩,(by first|omega|(dsimp only;omega))⟩
   ·replace h3:=ne_of_beq_false h3
    refine jB<|kx [(56,(vb ((t.getD k tz).op == ((3:Nat):Int))))] [] (zE xU<|zM<|zZ) ?_
    refine jE (b:=((t.getD k tz).op == ((3:Nat):Int))) rfl (fun h4=>?_) (fun h4=>?_)
    ·replace h4:=eq_of_beq h4
     have hop:=h4
     obtain ⟨⟨a1,a2⟩,b1,b2⟩:=hN.bin (.inr (.inl h4))
     have hlt:=hf.lt hk (show k<t.length by omega) (by rw[hop];decide)
     refine kd [] [(3,some (bx (jG (jM (((vU xs t k).getD ((t.getD k tz).a.toNat) 0)-((vU xs t k).getD ((t.getD k tz).b.toNat) 0))))))] mo (wM<|wE (kI kV)<|wR (qH qZ)<|wE (fK qF (((t.getD k tz).a).toNat))<|wR (mR (jG (o.getD (((t.getD k tz).a).toNat) y2)) (jG (jM ((vU xs t k).getD ((t.getD k tz).a.toNat) 0))) (oLA jT (((t.getD k tz).a).toNat) y2) (by exact (congrArg jG (hget _ (show (t.getD k tz).a.toNat<k by omega)))))<|wM<|wE (kI qW)<|wR (qH qZ)<|wE (fK qF (((t.getD k tz).b).toNat))<|wR (mR (jG (o.getD (((t.getD k tz).b).toNat) y2)) (jG (jM ((vU xs t k).getD ((t.getD k tz).b.toNat) 0))) (oLA jT (((t.getD k tz).b).toNat) y2) (by exact (congrArg jG (hget _ (show (t.getD k tz).b.toNat<k by omega)))))<|wE (jY (g_sub (jM ((vU xs t k).getD ((t.getD k tz).a.toNat) 0)) (jM ((vU xs t k).getD ((t.getD k tz).b.toNat) 0)) ((vU xs t k).getD ((t.getD k tz).a.toNat) 0) ((vU xs t k).getD ((t.getD k tz).b.toNat) 0) (jW (kC (qlg hVq (by decide) ((t.getD k tz).a.toNat)))) (jW (kC (qlg hVq (by decide) ((t.getD k tz).b.toNat))))))<|wT (qJ jT)<|wZ) ?_
     refine kf [(7,(.own 1 32 4 ((o++[(jM (((vU xs t k).getD ((t.getD k tz).a.toNat) 0)-((vU xs t k).getD ((t.getD k tz).b.toNat) 0)))]).length)))] [(1,some (uK jG (o++[(jM (((vU xs t k).getD ((t.getD k tz).a.toNat) 0)-((vU xs t k).getD ((t.getD k tz).b.toNat) 0)))])))] (zM<|zR (kP jT)<|zE (eY qF qY uJ)<|zAS jG o [(jM (((vU xs t k).getD ((t.getD k tz).a.toNat) 0)-((vU xs t k).getD ((t.getD k tz).b.toNat) 0)))] rfl qF qY by32<|zM<|zF) ?_
     refine kx [(28,(kF (k+1)))] [] (zE (vT (k+1))<|zM<|zZ) ?_
     exact ⟨(k+1,o++[jM (((vU xs t k).getD ((t.getD k tz).a.toNat) 0)-((vU xs t k).getD ((t.getD k tz).b.toNat) 0))]),wk,⟨by omega,by rw[ho];exact aZ (vV_3 hop)⟩,(by first|omega|(dsimp only;omega))⟩
    ·replace h4:=ne_of_beq_false h4
     refine jB<|kx [(69,(vb ((t.getD k tz).op == ((4:Nat):Int))))] [] (zE xU<|zM<|zZ) ?_
     refine jE (b:=((t.getD k tz).op == ((4:Nat):Int))) rfl (fun h5=>?_) (fun h5=>?_)
     ·replace h5:=eq_of_beq h5
      have hop:=h5
      obtain ⟨⟨a1,a2⟩,b1,b2⟩:=hN.bin (.inr (.inr (.inl h5)))
      have hlt:=hf.lt hk (show k<t.length by omega) (by rw[hop];decide)
      refine kd [] [(3,some (bx (jG (jM (((vU xs t k).getD ((t.getD k tz).a.toNat) 0)*((vU xs t k).getD ((t.getD k tz).b.toNat) 0))))))] mo (wM<|wE (kI kV)<|wR (qH qZ)<|wE (fK qF (((t.getD k tz).a).toNat))<|wR (mR (jG (o.getD (((t.getD k tz).a).toNat) y2)) (jG (jM ((vU xs t k).getD ((t.getD k tz).a.toNat) 0))) (oLA jT (((t.getD k tz).a).toNat) y2) (by exact (congrArg jG (hget _ (show (t.getD k tz).a.toNat<k by omega)))))<|wM<|wE (kI qW)<|wR (qH qZ)<|wE (fK qF (((t.getD k tz).b).toNat))<|wR (mR (jG (o.getD (((t.getD k tz).b).toNat) y2)) (jG (jM ((vU xs t k).getD ((t.getD k tz).b.toNat) 0))) (oLA jT (((t.getD k tz).b).toNat) y2) (by exact (congrArg jG (hget _ (show (t.getD k tz).b.toNat<k by omega)))))<|wE (jY (g_mul (jM ((vU xs t k).getD ((t.getD k tz).a.toNat) 0)) (jM ((vU xs t k).getD ((t.getD k tz).b.toNat) 0)) ((vU xs t k).getD ((t.getD k tz).a.toNat) 0) ((vU xs t k).getD ((t.getD k tz).b.toNat) 0) (jW (kC (qlg hVq (by decide) ((t.getD k tz).a.toNat)))) (jW (kC (qlg hVq (by decide) ((t.getD k tz).b.toNat))))))<|wT (qJ jT)<|wZ) ?_
      refine kf [(7,(.own 1 32 4 ((o++[(jM (((vU xs t k).getD ((t.getD k tz).a.toNat) 0)*((vU xs t k).getD ((t.getD k tz).b.toNat) 0)))]).length)))] [(1,some (uK jG (o++[(jM (((vU xs t k).getD ((t.getD k tz).a.toNat) 0)*((vU xs t k).getD ((t.getD k tz).b.toNat) 0)))])))] (zM<|zR (kP jT)<|zE (eY qF qY uJ)<|zAS jG o [(jM (((vU xs t k).getD ((t.getD k tz).a.toNat) 0)*((vU xs t k).getD ((t.getD k tz).b.toNat) 0)))] rfl qF qY by32<|zM<|zF) ?_
      refine kx [(28,(kF (k+1)))] [] (zE (vT (k+1))<|zM<|zZ) ?_
      exact ⟨(k+1,o++[jM (((vU xs t k).getD ((t.getD k tz).a.toNat) 0)*((vU xs t k).getD ((t.getD k tz).b.toNat) 0))]),wk,⟨by omega,by rw[ho];exact aZ (vV_4 hop)⟩,(by first|omega|(dsimp only;omega))⟩
     ·replace h5:=ne_of_beq_false h5
      refine jB<|kx [(82,(vb ((t.getD k tz).op == ((6:Nat):Int))))] [] (zE xU<|zM<|zZ) ?_
      refine jE (b:=((t.getD k tz).op == ((6:Nat):Int))) rfl (fun h6=>?_) (fun h6=>?_)
      ·replace h6:=eq_of_beq h6
       have hop:=h6
       obtain ⟨a1,a2⟩:=hN.un (.inl h6)
       have hlt:=hf.lt hk (show k<t.length by omega) (by rw[hop];decide)
       refine kx [] [(3,some (bx (jG (jM (-((vU xs t k).getD ((t.getD k tz).a.toNat) 0))))))] (zM<|zE (kI kV)<|zR (qH qZ)<|zE (fK qF (((t.getD k tz).a).toNat))<|zR (mR (jG (o.getD (((t.getD k tz).a).toNat) y2)) (jG (jM ((vU xs t k).getD ((t.getD k tz).a.toNat) 0))) (oLA jT (((t.getD k tz).a).toNat) y2) (by exact (congrArg jG (hget _ (show (t.getD k tz).a.toNat<k by omega)))))<|zE (jY (g_neg (jM ((vU xs t k).getD ((t.getD k tz).a.toNat) 0)) ((vU xs t k).getD ((t.getD k tz).a.toNat) 0) (jW (kC (qlg hVq (by decide) ((t.getD k tz).a.toNat))))))<|zT (qJ jT)<|zZ) ?_
       refine kf [(7,(.own 1 32 4 ((o++[(jM (-((vU xs t k).getD ((t.getD k tz).a.toNat) 0)))]).length)))] [(1,some (uK jG (o++[(jM (-((vU xs t k).getD ((t.getD k tz).a.toNat) 0)))])))] (zM<|zR (kP jT)<|zE (eY qF qY uJ)<|zAS jG o [(jM (-((vU xs t k).getD ((t.getD k tz).a.toNat) 0)))] rfl qF qY by32<|zM<|zF) ?_
       refine kx [(28,(kF (k+1)))] [] (zE (vT (k+1))<|zM<|zZ) ?_
       exact ⟨(k+1,o++[jM (-((vU xs t k).getD ((t.getD k tz).a.toNat) 0))]),wk,⟨by omega,by rw[ho];exact aZ (vV_6 hop)⟩,(by first|omega|(dsimp only;omega))⟩
      ·replace h6:=ne_of_beq_false h6
       refine jB<|kx [(90,(vb ((t.getD k tz).op == ((7:Nat):Int))))] [] (zE xU<|zM<|zZ) ?_
       refine jE (b:=((t.getD k tz).op == ((7:Nat):Int))) rfl (fun h7=>?_) (fun h7=>?_)
       ·replace h7:=eq_of_beq h7
        have hop:=h7
        obtain ⟨a1,a2⟩:=hN.un (.inr h7)
        have hlt:=hf.lt hk (show k<t.length by omega) (by rw[hop];decide)
        refine kd [] [(3,some (bx (jG (jM (((vU xs t k).getD ((t.getD k tz).a.toNat) 0)*((vU xs t k).getD ((t.getD k tz).a.toNat) 0))))))] mo (wM<|wE (kI kV)<|wR (qH qZ)<|wE (fK qF (((t.getD k tz).a).toNat))<|wR (mR (jG (o.getD (((t.getD k tz).a).toNat) y2)) (jG (jM ((vU xs t k).getD ((t.getD k tz).a.toNat) 0))) (oLA jT (((t.getD k tz).a).toNat) y2) (by exact (congrArg jG (hget _ (show (t.getD k tz).a.toNat<k by omega)))))<|wM<|wE (kI kV)<|wR (qH qZ)<|wE (fK qF (((t.getD k tz).a).toNat))<|wR (mR (jG (o.getD (((t.getD k tz).a).toNat) y2)) (jG (jM ((vU xs t k).getD ((t.getD k tz).a.toNat) 0))) (oLA jT (((t.getD k tz).a).toNat) y2) (by exact (congrArg jG (hget _ (show (t.getD k tz).a.toNat<k by omega)))))<|wE (jY (g_mul (jM ((vU xs t k).getD ((t.getD k tz).a.toNat) 0)) (jM ((vU xs t k).getD ((t.getD k tz).a.toNat) 0)) ((vU xs t k).getD ((t.getD k tz).a.toNat) 0) ((vU xs t k).getD ((t.getD k tz).a.toNat) 0) (jW (kC (qlg hVq (by decide) ((t.getD k tz).a.toNat)))) (jW (kC (qlg hVq (by decide) ((t.getD k tz).a.toNat))))))<|wT (qJ jT)<|wZ) ?_
        refine kf [(7,(.own 1 32 4 ((o++[(jM (((vU xs t k).getD ((t.getD k tz).a.toNat) 0)*((vU xs t k).getD ((t.getD k tz).a.toNat) 0)))]).length)))] [(1,some (uK jG (o++[(jM (((vU xs t k).getD ((t.getD k tz).a.toNat) 0)*((vU xs t k).getD ((t.getD k tz).a.toNat) 0)))])))] (zM<|zR (kP jT)<|zE (eY qF qY uJ)<|zAS jG o [(jM (((vU xs t k).getD ((t.getD k tz).a.toNat) 0)*((vU xs t k).getD ((t.getD k tz).a.toNat) 0)))] rfl qF qY by32<|zM<|zF) ?_
        refine kx [(28,(kF (k+1)))] [] (zE (vT (k+1))<|zM<|zZ) ?_
        exact ⟨(k+1,o++[jM (((vU xs t k).getD ((t.getD k tz).a.toNat) 0)*((vU xs t k).getD ((t.getD k tz).a.toNat) 0))]),wk,⟨by omega,by rw[ho];exact aZ (vV_7 hop)⟩,(by first|omega|(dsimp only;omega))⟩
       ·replace h7:=ne_of_beq_false h7
        refine jB<|kx [(103,(vb ((t.getD k tz).op == ((5:Nat):Int))))] [] (zE xU<|zM<|zZ) ?_
        refine jE (b:=((t.getD k tz).op == ((5:Nat):Int))) rfl (fun h8=>?_) (fun h8=>?_)
        ·replace h8:=eq_of_beq h8
         have hop:=h8
         obtain ⟨⟨a1,a2⟩,b1,b2⟩:=hN.bin (.inr (.inr (.inr h8)))
         refine jB ?_
         rcases hlt0:(decide (k<k0)) with _ | _
         ·refine kd [(11,(.ref 4 0)),(12,(vi (divC ((vU xs t k).getD ((t.getD k tz).b.toNat) 0))))] [(4,some (bx (jG (divR ((vU xs t k).getD ((t.getD k tz).a.toNat) 0) ((vU xs t k).getD ((t.getD k tz).b.toNat) 0)))))] mo (wM<|wE (kI kV)<|wR (qH qZ)<|wE (fK qF (((t.getD k tz).a).toNat))<|wR (mR (jG (o.getD (((t.getD k tz).a).toNat) y2)) (jG (jM ((vU xs t k).getD ((t.getD k tz).a.toNat) 0))) (oLA jT (((t.getD k tz).a).toNat) y2) (by exact (congrArg jG (hget _ (show (t.getD k tz).a.toNat<k by omega)))))<|wM<|wE (kI qW)<|wR (qH qZ)<|wE (fK qF (((t.getD k tz).b).toNat))<|wR (mR (jG (o.getD (((t.getD k tz).b).toNat) y2)) (jG (jM ((vU xs t k).getD ((t.getD k tz).b.toNat) 0))) (oLA jT (((t.getD k tz).b).toNat) y2) (by exact (congrArg jG (hget _ (show (t.getD k tz).b.toNat<k by omega)))))<|wE (jY (g_divide (jM ((vU xs t k).getD ((t.getD k tz).a.toNat) 0)) (jM ((vU xs t k).getD ((t.getD k tz).b.toNat) 0)) ((vU xs t k).getD ((t.getD k tz).a.toNat) 0) ((vU xs t k).getD ((t.getD k tz).b.toNat) 0) (jW (kC (qlg hVq (by decide) ((t.getD k tz).a.toNat)))) (jW (kC (qlg hVq (by decide) ((t.getD k tz).b.toNat))))))<|wM<|wE xJ<|wE xJ<|wH (hc:=by kernel_rfl) (vH 4 qY uJ)<|wT (qJ jT)<|wM<|wZ) ?_
          refine jB<|jB<|kx [(120,(vb true))] [] (zM<|zE (vS true cK (by exact bne_iff_ne.2 (by rw[divC_zero (hf.at hk (show k<t.length by omega) hlt0)];decide)))<|zZ) ?_
          refine xQ ?_
          refine jB<|kx [(5,(vi (divC ((vU xs t k).getD ((t.getD k tz).b.toNat) 0))))] [(0,some y1)] (zE (oBd pl32 qY uJ)<|zM<|zT (qJ jT)<|zM<|zZ) ?_
          refine jF ⟨_,(kR (cs:=(bx (jG uG))) (d:=(jG uG)) rfl rfl jT rfl rfl (.tmp (d:=(.val (.int .i64 ((divC ((vU xs t k).getD ((t.getD k tz).b.toNat) 0)))))) rfl .nil)),?_⟩
          obtain ⟨e1,e2⟩:=hf.no hk (show k<t.length by omega) hlt0 (xs:=xs)
          rw[divC_zero (hf.at hk (show k<t.length by omega) hlt0),e1,e2];rfl
         ·refine kd [(11,(.ref 4 0)),(12,(vi 0))] [(4,some (bx (jG (jM (((vU xs t k).getD ((t.getD k tz).a.toNat) 0) / ((vU xs t k).getD ((t.getD k tz).b.toNat) 0))))))] mo (wM<|wE (kI kV)<|wR (qH qZ)<|wE (fK qF (((t.getD k tz).a).toNat))<|wR (mR (jG (o.getD (((t.getD k tz).a).toNat) y2)) (jG (jM ((vU xs t k).getD ((t.getD k tz).a.toNat) 0))) (oLA jT (((t.getD k tz).a).toNat) y2) (by exact (congrArg jG (hget _ (show (t.getD k tz).a.toNat<k by omega)))))<|wM<|wE (kI qW)<|wR (qH qZ)<|wE (fK qF (((t.getD k tz).b).toNat))<|wR (mR (jG (o.getD (((t.getD k tz).b).toNat) y2)) (jG (jM ((vU xs t k).getD ((t.getD k tz).b.toNat) 0))) (oLA jT (((t.getD k tz).b).toNat) y2) (by exact (congrArg jG (hget _ (show (t.getD k tz).b.toNat<k by omega)))))<|wE (jY (by have h:=g_divide (jM ((vU xs t k).getD ((t.getD k tz).a.toNat) 0)) (jM ((vU xs t k).getD ((t.getD k tz).b.toNat) 0)) ((vU xs t k).getD ((t.getD k tz).a.toNat) 0) ((vU xs t k).getD ((t.getD k tz).b.toNat) 0) (jW (kC (qlg hVq (by decide) ((t.getD k tz).a.toNat)))) (jW (kC (qlg hVq (by decide) ((t.getD k tz).b.toNat))));rw[divR_ne (hf.up.dz k (vY hlt0) hop),divC_ne (hf.up.dz k (vY hlt0) hop)] at h;exact h))<|wM<|wE xJ<|wE xJ<|wH (hc:=by kernel_rfl) (vH 4 qY uJ)<|wT (qJ jT)<|wM<|wZ) ?_
          refine jB<|jB<|kx [(120,(vb false))] [] (zM<|zE (vS false cK)<|zZ) ?_
          refine qE ?_
          refine jD<|kx [] [(3,some (bx (jG (jM (((vU xs t k).getD ((t.getD k tz).a.toNat) 0) / ((vU xs t k).getD ((t.getD k tz).b.toNat) 0))))))] (zR (kP jT)<|zT (qJ jT)<|zZ) ?_
          refine qG (wk (l:=[(1,(vl 32 4 jG (List.map jM xs))),(4,(.ref 0 0)),(7,(.own 1 32 4 o.length)),(10,(.ref 3 0)),(26,(vl 72 7 jK t)),(27,(kF t.length)),(28,(kF k))]) (b:=[(0,some y1),(1,some (uK jG o)),(3,some (bx (jG (jM (((vU xs t k).getD ((t.getD k tz).a.toNat) 0) / ((vU xs t k).getD ((t.getD k tz).b.toNat) 0))))))])) ?_
          refine kf [(7,(.own 1 32 4 ((o++[(jM (((vU xs t k).getD ((t.getD k tz).a.toNat) 0) / ((vU xs t k).getD ((t.getD k tz).b.toNat) 0)))]).length)))] [(1,some (uK jG (o++[(jM (((vU xs t k).getD ((t.getD k tz).a.toNat) 0) / ((vU xs t k).getD ((t.getD k tz).b.toNat) 0)))])))] (zM<|zR (kP jT)<|zE (eY qF qY uJ)<|zAS jG o [(jM (((vU xs t k).getD ((t.getD k tz).a.toNat) 0) / ((vU xs t k).getD ((t.getD k tz).b.toNat) 0)))] rfl qF qY by32<|zM<|zF) ?_
          refine kx [(28,(kF (k+1)))] [] (zE (vT (k+1))<|zM<|zZ) ?_
          exact ⟨(k+1,o++[jM (((vU xs t k).getD ((t.getD k tz).a.toNat) 0) / ((vU xs t k).getD ((t.getD k tz).b.toNat) 0))]),wk,⟨by have:=vY hlt0;omega,by rw[ho];exact aZ (vV_5 hop)⟩,(by first|omega|(dsimp only;omega))⟩
        ·replace h8:=ne_of_beq_false h8
         have hop:(t.getD k tz).op=0:=by
          have:=hN.op
          omega
         have hlt:=hf.lt hk (show k<t.length by omega) (by rw[hop];decide)
         refine jD<|kf [(7,(.own 1 32 4 ((o++[(t.getD k tz).n]).length)))] [(1,some (uK jG (o++[(t.getD k tz).n])))] (zM<|zR (kP jT)<|zE (eY qF qY uJ)<|zAS jG o [(t.getD k tz).n] rfl qF qY by32<|zM<|zF) ?_
         refine kx [(28,(kF (k+1)))] [] (zE (vT (k+1))<|zM<|zZ) ?_
         exact ⟨(k+1,o++[(t.getD k tz).n]),wk,⟨by omega,by rw[ho];exact vU_nc (vV_0 hop) (hN.con hop)⟩,(by first|omega|(dsimp only;omega))⟩
 ·replace h1:=xC h1
  refine kL<|jB<|kx [(5,(kF 0))] [(0,some (bx (jG (o.getD (o.length-1) y2))))] (zM<|zM<|zE (oLo qF)<|zE (oSb (o.length-1))<|zE (fK qF (o.length-1))<|zR (oLA jT (o.length-1) y2)<|zT (qJ jT)<|zM<|zZ) ?_
  refine jF ⟨_,(kR (cs:=(bx (jG (o.getD (o.length-1) uG)))) (d:=(jG (o.getD (o.length-1) uG))) rfl rfl jT rfl rfl (.tmp (d:=(.val (.int .i64 (((0:Nat):Int))))) rfl .nil)),?_⟩
  obtain rfl:k=t.length:=by omega
  obtain rfl:k0=t.length:=by omega
  rw[hol,hget _ (show t.length-1<t.length by omega),vlR_y,vlC_y];rfl
theorem u_val(t:List jO)(ht:uL 1048576 t)(xs:List Rat)(hx:∀ q∈xs,QL q 1048576)(hr:iB xs t)(hxb:xs.length<=1000000):jQ Tryz.prog 12 [(.sl 72 7 (List.map jK t)),(.sl 32 4 (List.map jG (List.map jM xs)))] (.tup [(jG (jM (xA xs t))),(.val (.int .i64 (((0:Nat):Int))))]):=by
 have h:=u_valU t ht xs hx t.length hr.fin hxb
 rw[vlR_y,vlC_y] at h
 exact h
theorem u_valF(t:List jO)(ht:uL 1048576 t)(xs:List Rat)(hx:∀ q∈xs,QL q 1048576)(hfe:∃ k,VFail xs t k)(hxb:xs.length<=1000000):jQ Tryz.prog 12 [(.sl 72 7 (List.map jK t)),(.sl 32 4 (List.map jG (List.map jM xs)))] (.tup [(jG uG),(.val (.int .i64 (((14:Nat):Int))))]):=by
 obtain ⟨k,hf⟩:=hfe
 have h:=u_valU t ht xs hx k hf.fin hxb
 rw[(hf.fin.no2 hf.hk).1,(hf.fin.no2 hf.hk).2] at h
 exact h
def brX(x:kT):Bool:=if (decide (1<((x.num.gs.length:Nat):Int))||decide (1<((x.den.gs.length:Nat):Int)))=true then false else
 ((((x.num.gs.length:Nat):Int) == 0)||decide (((x.num.gs.getD 0 0:Nat):Int)<100000))&&((((x.den.gs.length:Nat):Int) == 0)||decide (((x.den.gs.getD 0 0:Nat):Int)<=100))
def shX(n:Nat)(x:kT):Bool:=!(decide (((n:Nat):Int)<((digR x:Nat):Int))||(decide (((n:Nat):Int)<=6)&&!(brX x)))
theorem shX_t{n:Nat}{x:kT}(h:(decide (((n:Nat):Int)<((digR x:Nat):Int))||(decide (((n:Nat):Int)<=6)&&!(brX x)))=true):shX n x=false:=by unfold shX;rw[h];rfl
theorem shX_f{n:Nat}{x:kT}(h:(decide (((n:Nat):Int)<((digR x:Nat):Int))||(decide (((n:Nat):Int)<=6)&&!(brX x)))=false):shX n x=true:=by unfold shX;rw[h];rfl
theorem shX_le{n:Nat}{x:kT}(h:shX n x=true):digR x<=n:=by
 unfold shX at h
 rw[Bool.not_eq_true',Bool.or_eq_false_iff,decide_eq_false_iff_not] at h
 omega
def shR(c n:Nat)(l:List kT):Bool:=decide (l.length<=c)&&l.all (shX n)
theorem all_up{α:Type}{f:α->Bool}{l:List α}{i:Nat}{d:α}(h:i<l.length)(ha:(l.take i).all f=true)(hf:f (l.getD i d)=true):(l.take (i+1)).all f=true:=by
 rw[take_all (d:=d) h,ha,hf];rfl
theorem all_no{α:Type}{f:α->Bool}{l:List α}{i:Nat}{d:α}(h:i<l.length)(hf:f (l.getD i d)=false):l.all f=false:=by
 cases hb:l.all f with
 |false=>rfl
 |true=>
  rw[List.getD_eq_getElem?_getD,List.getElem?_eq_getElem h,Option.getD_some,List.all_eq_true.1 hb _ (List.getElem_mem h)] at hf;cases hf
theorem shR_long{c n:Nat}{l:List kT}(h:((c:Nat):Int)<((l.length:Nat):Int)):shR c n l=false:=by unfold shR;rw[decide_eq_false (by omega)];rfl
theorem shR_no{c n:Nat}{l:List kT}(h:(l.all (shX n))=false):shR c n l=false:=by unfold shR;rw[h,Bool.and_false]
theorem shR_yes{c n:Nat}{l:List kT}(h0:¬ ((c:Nat):Int)<((l.length:Nat):Int))(h:(l.all (shX n))=true):shR c n l=true:=by unfold shR;rw[decide_eq_true (by omega),h];rfl
section
variable {A B C r l:Rat}
end
theorem cJ{α:Type}{o V:List α}{k:Nat}{v:α}(h:o.take k=V)(hk:k<o.length):(o.set k v).take (k+1)=V++[v]:=by
 rw[List.take_succ_eq_append_getElem (by rw[List.length_set];omega),List.getElem_set_self,List.take_set_of_le (Nat.le_refl k),h]
theorem p_valU(t:List jO)(ht:uL 1048576 t)(xs:List Rat)(hx:∀ q∈xs,QL q 1048576)(k0:Nat)(hf:VEnd xs t k0)(hxb:xs.length<=1000000):jQ Tryz.prog 11 [(.sl 72 7 (List.map jK t)),(.sl 32 4 (List.map jG (List.map jM xs)))] (.tup [(jG (vlR xs t k0)),(.val (.int .i64 ((vlC t k0))))]):=by
 have hxn:((List.map jM xs).length)=xs.length:=List.length_map _
 have h0:=mQ hf.c0
 have hk9:=hf.hk
 let y2:=uG
 let y1:=(bx (jG y2))
 refine uR Tryz.func11 ?_
 refine jB<|kx [(4,(.ref 0 0))] [(0,some y1)] (zN (vH 0 qY uJ)<|zM<|zZ) ?_
 refine jB<|jB<|kx [(13,(vl 32 4 jG (List.map jM xs))),(14,(kF xs.length)),(15,(kF 0))] [] (zM<|zE (oLn qF xs.length)<|zM<|zZ) ?_
 refine jH<|kO (α:=Nat) (fun i=>⟨[(0,(vl 72 7 jK t)),(1,(vl 32 4 jG (List.map jM xs))),(4,(.ref 0 0)),(13,(vl 32 4 jG (List.map jM xs))),(14,(kF xs.length)),(15,(kF i))],[(0,some y1)]⟩) (fun i=>i<=xs.length) (fun i=>xs.length-i) 0 wk (Nat.zero_le _) ?_
 rintro i hi
 refine jB<|kx [(16,(vb (decide (((i:Nat):Int)<((xs.length:Nat):Int)))))] [] (zE gZ<|zZ) ?_
 refine jB<|jE rfl (fun h1=>?_) (fun h1=>?_)
 ·replace h1:=vY h1
  refine jD<|jB<|jH<|jB<|kx [(7,(.ref 1 0))] [(1,some (bx (jG (jM (xs.getD i 0)))))] (zE (oXm qF jM i 0 (hj:=by first | omega | (dsimp only;omega)) (h1:=by first | omega | (dsimp only;omega)))<|zE (eJ jT)<|zN (vH 1 qY uJ)<|zT (qJ jT)<|zZ) ?_
  refine jB<|kx [(21,(vb (!(kM (jM (xs.getD i 0))))))] [] (zR (kP jT)<|zE (jY (f_valid (jM (xs.getD i 0)) (xs.getD i 0) (jW (kC (ql_getD hx (by decide) i)))))<|zE yT<|zZ) ?_
  refine jE (b:=!(kM (jM (xs.getD i 0)))) rfl (fun h2=>?_) (fun h2=>?_)
  ·exact absurd h2 (by rw[cH];decide)
  ·refine jD<|kx [(15,(kF (i+1)))] [] (zE (vT (i+1))<|zM<|zZ) ?_
   exact ⟨(i+1),wk,(by omega),(by first|omega|(dsimp only;omega))⟩
 ·replace h1:=xC h1
  refine kL<|jB<|jB<|kx [(8,(kF (zP ((xs.length:Nat):Int) t)))] [] (zM<|zM<|zE (oLn qF xs.length)<|zE (jY (j_chk t ht ((xs.length:Nat):Int)))<|zM<|zZ) ?_
  refine jB<|kx [(29,(vb false))] [] (zM<|zE (vS false cK (by exact bne_eq_false_iff_eq.2 (by rw[show (zP ((xs.length:Nat):Int) t)=0 from hf.c0]<;>rfl)))<|zZ) ?_
  refine qE ?_
  refine jD<|jB<|kx [(9,(.own 2 32 4 t.length))] [(2,some (uK jG (List.replicate t.length y2)))] (zM<|zE (xW vE)<|zN (oMkS 2 jG y2 t.length t.length qF qY uJ by32 (hlN:=by first | omega | (dsimp only;omega)) (hcM:=by first | omega | (dsimp only;omega)) (hnm:=by first | omega | (dsimp only;omega)) (hb:=by first | omega | (dsimp only;omega)))<|zM<|zZ) ?_
  refine jB<|jB<|kx [(35,(vl 72 7 jK t)),(36,(kF t.length)),(37,(kF 0))] [] (zM<|zE (xW vE)<|zM<|zZ) ?_
  refine jH<|kO (α:=Nat × List kT) (fun (k,o)=>⟨[(1,(vl 32 4 jG (List.map jM xs))),(4,(.ref 0 0)),(9,(.own 2 32 4 t.length)),(35,(vl 72 7 jK t)),(36,(kF t.length)),(37,(kF k))],[(0,some y1),(2,some (uK jG o))]⟩) (fun (k,o)=>k<=k0/\o.length=t.length/\o.take k=List.map jM (vU xs t k)) (fun (k,o)=>t.length-k) (0,List.replicate t.length y2) wk ⟨Nat.zero_le _,List.length_replicate,rfl⟩ ?_
  rintro ⟨k,o⟩ ⟨hk,hol,ho⟩
  have hget:∀ j,j<k->o.getD j uG=jM ((vU xs t k).getD j 0):=fun j hj=>by rw[<- take_getDr o _ hj,ho];exact map_getD jM _ 0 _ (by rw[eU];exact hj)
  have hVq:=(hf.up.le hk).all
  refine jB<|kx [(38,(vb (decide (((k:Nat):Int)<((t.length:Nat):Int)))))] [] (zE gZ<|zZ) ?_
  refine jB<|jE rfl (fun h3=>?_) (fun h3=>?_)
  ·replace h3:=vY h3
   have hN:=nd_at hf.c0 (show k<t.length by omega)
   refine jD<|jB<|jH<|jB<|kx [(10,(kF k)),(11,(.ref 3 0))] [(3,some (bx (jK (t.getD k tz))))] (zM<|zE (cT vE k (tz:jO) (hj:=by first | omega | (dsimp only;omega)) (h1:=by first | omega | (dsimp only;omega)))<|zE (eJ cN)<|zH (vH 3 mD dH)<|zM<|zT (qJ cN)<|zZ) ?_
   refine jB<|kx [(43,(vi ((t.getD k tz).op)))] [] (zE (kI xV)<|zR (qH dG)<|zZ) ?_
   refine jH<|jB<|kx [(64,(vb ((t.getD k tz).op == ((0:Nat):Int))))] [] (zE xU<|zM<|zZ) ?_
   refine jE (b:=((t.getD k tz).op == ((0:Nat):Int))) rfl (fun h4=>?_) (fun h4=>?_)
   ·replace h4:=eq_of_beq h4
    have hop:=h4
    have hlt:=hf.lt hk (show k<t.length by omega) (by rw[hop];decide)
    refine kx [] [(2,some (uK jG (o.set k ((t.getD k tz).n))))] (zM<|zM<|zE (kI nR)<|zR (kP jT)<|zE (fK qF k (hj:=by first | omega | (dsimp only;omega)) (h1:=by first | omega | (dsimp only;omega)))<|zT (oSA jT k ((t.getD k tz).n))<|zZ) ?_
    refine kx [(37,(kF (k+1)))] [] (zE (vT (k+1))<|zM<|zZ) ?_
    exact ⟨(k+1,o.set k (t.getD k tz).n),wk,⟨by omega,by rw[List.length_set];exact hol,by rw[cJ ho (by omega)];exact vU_nc (vV_0 hop) (hN.con hop)⟩,(by first|omega|(dsimp only;omega))⟩
   ·replace h4:=ne_of_beq_false h4
    refine jB<|kx [(71,(vb ((t.getD k tz).op == ((1:Nat):Int))))] [] (zE xU<|zM<|zZ) ?_
    refine jE (b:=((t.getD k tz).op == ((1:Nat):Int))) rfl (fun h5=>?_) (fun h5=>?_)
    ·replace h5:=eq_of_beq h5
     have hop:=h5
     obtain ⟨a1,a2⟩:=hN.var h5
     have hlt:=hf.lt hk (show k<t.length by omega) (by rw[hop];decide)
     refine kx [] [(2,some (uK jG (o.set k (jM (xs.getD (((t.getD k tz).a).toNat) 0)))))] (zM<|zM<|zM<|zE (kI kV)<|zR (qH qZ)<|zE (oXm qF jM (((t.getD k tz).a).toNat) 0 (hj:=by first | omega | (dsimp only;omega)) (h1:=by first | omega | (dsimp only;omega)))<|zE (eJ jT)<|zE (fK qF k (hj:=by first | omega | (dsimp only;omega)) (h1:=by first | omega | (dsimp only;omega)))<|zT (oSA jT k (jM (xs.getD (((t.getD k tz).a).toNat) 0)))<|zZ) ?_
     refine kx [(37,(kF (k+1)))] [] (zE (vT (k+1))<|zM<|zZ) ?_
     exact ⟨(k+1,o.set k (jM (xs.getD ((t.getD k tz).a.toNat) 0))),wk,⟨by omega,by rw[List.length_set];exact hol,by rw[cJ ho (by omega)];exact aZ (vV_1 hop)⟩,(by first|omega|(dsimp only;omega))⟩
    ·replace h5:=ne_of_beq_false h5
     refine jB<|kx [(81,(vb ((t.getD k tz).op == ((6:Nat):Int))))] [] (zE xU<|zM<|zZ) ?_
     refine jE (b:=((t.getD k tz).op == ((6:Nat):Int))) rfl (fun h6=>?_) (fun h6=>?_)
     ·replace h6:=eq_of_beq h6
      have hop:=h6
      obtain ⟨a1,a2⟩:=hN.un (.inl h6)
      have hlt:=hf.lt hk (show k<t.length by omega) (by rw[hop];decide)
      refine kx [] [(2,some (uK jG (o.set k (jM (-((vU xs t k).getD ((t.getD k tz).a.toNat) 0))))))] (zM<|zM<|zM<|zE (kI kV)<|zR (qH qZ)<|zE (fK qF (((t.getD k tz).a).toNat) (hj:=by first | omega | (dsimp only;omega)) (h1:=by first | omega | (dsimp only;omega)))<|zR (mR (jG (o.getD (((t.getD k tz).a).toNat) y2)) (jG (jM ((vU xs t k).getD ((t.getD k tz).a.toNat) 0))) (oLA jT (((t.getD k tz).a).toNat) y2 (h1:=by first | omega | (dsimp only;omega))) (by exact (congrArg jG (hget _ (show (t.getD k tz).a.toNat<k by omega)))))<|zE (jY (f_neg (jM ((vU xs t k).getD ((t.getD k tz).a.toNat) 0)) ((vU xs t k).getD ((t.getD k tz).a.toNat) 0) (jW (kC (qlg hVq (by decide) ((t.getD k tz).a.toNat))))))<|zE (fK qF k (hj:=by first | omega | (dsimp only;omega)) (h1:=by first | omega | (dsimp only;omega)))<|zT (oSA jT k (jM (-((vU xs t k).getD ((t.getD k tz).a.toNat) 0))))<|zZ) ?_
      refine kx [(37,(kF (k+1)))] [] (zE (vT (k+1))<|zM<|zZ) ?_
      exact ⟨(k+1,o.set k (jM (-((vU xs t k).getD ((t.getD k tz).a.toNat) 0)))),wk,⟨by omega,by rw[List.length_set];exact hol,by rw[cJ ho (by omega)];exact aZ (vV_6 hop)⟩,(by first|omega|(dsimp only;omega))⟩
     ·replace h6:=ne_of_beq_false h6
      refine jB<|kx [(92,(vb ((t.getD k tz).op == ((7:Nat):Int))))] [] (zE xU<|zM<|zZ) ?_
      refine jE (b:=((t.getD k tz).op == ((7:Nat):Int))) rfl (fun h7=>?_) (fun h7=>?_)
      ·replace h7:=eq_of_beq h7
       have hop:=h7
       obtain ⟨a1,a2⟩:=hN.un (.inr h7)
       have hlt:=hf.lt hk (show k<t.length by omega) (by rw[hop];decide)
       refine kd [] [(2,some (uK jG (o.set k (jM (((vU xs t k).getD ((t.getD k tz).a.toNat) 0)*((vU xs t k).getD ((t.getD k tz).a.toNat) 0))))))] mo (wM<|wM<|wM<|wE (kI kV)<|wR (qH qZ)<|wE (fK qF (((t.getD k tz).a).toNat) (hj:=by first | omega | (dsimp only;omega)) (h1:=by first | omega | (dsimp only;omega)))<|wR (mR (jG (o.getD (((t.getD k tz).a).toNat) y2)) (jG (jM ((vU xs t k).getD ((t.getD k tz).a.toNat) 0))) (oLA jT (((t.getD k tz).a).toNat) y2 (h1:=by first | omega | (dsimp only;omega))) (by exact (congrArg jG (hget _ (show (t.getD k tz).a.toNat<k by omega)))))<|wM<|wE (kI kV)<|wR (qH qZ)<|wE (fK qF (((t.getD k tz).a).toNat) (hj:=by first | omega | (dsimp only;omega)) (h1:=by first | omega | (dsimp only;omega)))<|wR (mR (jG (o.getD (((t.getD k tz).a).toNat) y2)) (jG (jM ((vU xs t k).getD ((t.getD k tz).a.toNat) 0))) (oLA jT (((t.getD k tz).a).toNat) y2 (h1:=by first | omega | (dsimp only;omega))) (by exact (congrArg jG (hget _ (show (t.getD k tz).a.toNat<k by omega)))))<|wE (jY (f_mul (jM ((vU xs t k).getD ((t.getD k tz).a.toNat) 0)) (jM ((vU xs t k).getD ((t.getD k tz).a.toNat) 0)) ((vU xs t k).getD ((t.getD k tz).a.toNat) 0) ((vU xs t k).getD ((t.getD k tz).a.toNat) 0) (jW (kC (qlg hVq (by decide) ((t.getD k tz).a.toNat)))) (jW (kC (qlg hVq (by decide) ((t.getD k tz).a.toNat))))))<|wE (fK qF k (hj:=by first | omega | (dsimp only;omega)) (h1:=by first | omega | (dsimp only;omega)))<|wT (oSA jT k (jM (((vU xs t k).getD ((t.getD k tz).a.toNat) 0)*((vU xs t k).getD ((t.getD k tz).a.toNat) 0))))<|wZ) ?_
       refine kx [(37,(kF (k+1)))] [] (zE (vT (k+1))<|zM<|zZ) ?_
       exact ⟨(k+1,o.set k (jM (((vU xs t k).getD ((t.getD k tz).a.toNat) 0)*((vU xs t k).getD ((t.getD k tz).a.toNat) 0)))),wk,⟨by omega,by rw[List.length_set];exact hol,by rw[cJ ho (by omega)];exact aZ (vV_7 hop)⟩,(by first|omega|(dsimp only;omega))⟩
      ·replace h7:=ne_of_beq_false h7
       refine jB<|kx [(108,(vb ((t.getD k tz).op == ((2:Nat):Int))))] [] (zE xU<|zM<|zZ) ?_
       refine jE (b:=((t.getD k tz).op == ((2:Nat):Int))) rfl (fun h8=>?_) (fun h8=>?_)
       ·replace h8:=eq_of_beq h8
        have hop:=h8
        obtain ⟨⟨a1,a2⟩,b1,b2⟩:=hN.bin (.inl h8)
        have hlt:=hf.lt hk (show k<t.length by omega) (by rw[hop];decide)
        refine kd [] [(2,some (uK jG (o.set k (jM (((vU xs t k).getD ((t.getD k tz).a.toNat) 0)+((vU xs t k).getD ((t.getD k tz).b.toNat) 0))))))] mo (wM<|wM<|wM<|wE (kI kV)<|wR (qH qZ)<|wE (fK qF (((t.getD k tz).a).toNat) (hj:=by first | omega | (dsimp only;omega)) (h1:=by first | omega | (dsimp only;omega)))<|wR (mR (jG (o.getD (((t.getD k tz).a).toNat) y2)) (jG (jM ((vU xs t k).getD ((t.getD k tz).a.toNat) 0))) (oLA jT (((t.getD k tz).a).toNat) y2 (h1:=by first | omega | (dsimp only;omega))) (by exact (congrArg jG (hget _ (show (t.getD k tz).a.toNat<k by omega)))))<|wM<|wE (kI qW)<|wR (qH qZ)<|wE (fK qF (((t.getD k tz).b).toNat) (hj:=by first | omega | (dsimp only;omega)) (h1:=by first | omega | (dsimp only;omega)))<|wR (mR (jG (o.getD (((t.getD k tz).b).toNat) y2)) (jG (jM ((vU xs t k).getD ((t.getD k tz).b.toNat) 0))) (oLA jT (((t.getD k tz).b).toNat) y2 (h1:=by first | omega | (dsimp only;omega))) (by exact (congrArg jG (hget _ (show (t.getD k tz).b.toNat<k by omega)))))<|wE (jY (f_add (jM ((vU xs t k).getD ((t.getD k tz).a.toNat) 0)) (jM ((vU xs t k).getD ((t.getD k tz).b.toNat) 0)) ((vU xs t k).getD ((t.getD k tz).a.toNat) 0) ((vU xs t k).getD ((t.getD k tz).b.toNat) 0) (jW (kC (qlg hVq (by decide) ((t.getD k tz).a.toNat)))) (jW (kC (qlg hVq (by decide) ((t.getD k tz).b.toNat))))))<|wE (fK qF k (hj:=by first | omega | (dsimp only;omega)) (h1:=by first | omega | (dsimp only;omega)))<|wT (oSA jT k (jM (((vU xs t k).getD ((t.getD k tz).a.toNat) 0)+((vU xs t k).getD ((t.getD k tz).b.toNat) 0))))<|wZ) ?_
        refine kx [(37,(kF (k+1)))] [] (zE (vT (k+1))<|zM<|zZ) ?_
        exact ⟨(k+1,o.set k (jM (((vU xs t k).getD ((t.getD k tz).a.toNat) 0)+((vU xs t k).getD ((t.getD k tz).b.toNat) 0)))),wk,⟨by omega,by rw[List.length_set];exact hol,by rw[cJ ho (by omega)];exact aZ (vV_2 hop)⟩,(by first|omega|(dsimp only;omega))⟩
       ·replace h8:=ne_of_beq_false h8
        refine jB<|kx [(124,(vb ((t.getD k tz).op == ((3:Nat):Int))))] [] (zE xU<|zM<|zZ) ?_
        refine jE (b:=((t.getD k tz).op == ((3:Nat):Int))) rfl (fun h9=>?_) (fun h9=>?_)
        ·replace h9:=eq_of_beq h9
         have hop:=h9
         obtain ⟨⟨a1,a2⟩,b1,b2⟩:=hN.bin (.inr (.inl h9))
         have hlt:=hf.lt hk (show k<t.length by omega) (by rw[hop];decide)
         refine kd [] [(2,some (uK jG (o.set k (jM (((vU xs t k).getD ((t.getD k tz).a.toNat) 0)-((vU xs t k).getD ((t.getD k tz).b.toNat) 0))))))] mo (wM<|wM<|wM<|wE (kI kV)<|wR (qH qZ)<|wE (fK qF (((t.getD k tz).a).toNat) (hj:=by first | omega | (dsimp only;omega)) (h1:=by first | omega | (dsimp only;omega)))<|wR (mR (jG (o.getD (((t.getD k tz).a).toNat) y2)) (jG (jM ((vU xs t k).getD ((t.getD k tz).a.toNat) 0))) (oLA jT (((t.getD k tz).a).toNat) y2 (h1:=by first | omega | (dsimp only;omega))) (by exact (congrArg jG (hget _ (show (t.getD k tz).a.toNat<k by omega)))))<|wM<|wE (kI qW)<|wR (qH qZ)<|wE (fK qF (((t.getD k tz).b).toNat) (hj:=by first | omega | (dsimp only;omega)) (h1:=by first | omega | (dsimp only;omega)))<|wR (mR (jG (o.getD (((t.getD k tz).b).toNat) y2)) (jG (jM ((vU xs t k).getD ((t.getD k tz).b.toNat) 0))) (oLA jT (((t.getD k tz).b).toNat) y2 (h1:=by first | omega | (dsimp only;omega))) (by exact (congrArg jG (hget _ (show (t.getD k tz).b.toNat<k by omega)))))<|wE (jY (f_sub (jM ((vU xs t k).getD ((t.getD k tz).a.toNat) 0)) (jM ((vU xs t k).getD ((t.getD k tz).b.toNat) 0)) ((vU xs t k).getD ((t.getD k tz).a.toNat) 0) ((vU xs t k).getD ((t.getD k tz).b.toNat) 0) (jW (kC (qlg hVq (by decide) ((t.getD k tz).a.toNat)))) (jW (kC (qlg hVq (by decide) ((t.getD k tz).b.toNat))))))<|wE (fK qF k (hj:=by first | omega | (dsimp only;omega)) (h1:=by first | omega | (dsimp only;omega)))<|wT (oSA jT k (jM (((vU xs t k).getD ((t.getD k tz).a.toNat) 0)-((vU xs t k).getD ((t.getD k tz).b.toNat) 0))))<|wZ) ?_
         refine kx [(37,(kF (k+1)))] [] (zE (vT (k+1))<|zM<|zZ) ?_
         exact ⟨(k+1,o.set k (jM (((vU xs t k).getD ((t.getD k tz).a.toNat) 0)-((vU xs t k).getD ((t.getD k tz).b.toNat) 0)))),wk,⟨by omega,by rw[List.length_set];exact hol,by rw[cJ ho (by omega)];exact aZ (vV_3 hop)⟩,(by first|omega|(dsimp only;omega))⟩
        ·replace h9:=ne_of_beq_false h9
         refine jB<|kx [(140,(vb ((t.getD k tz).op == ((4:Nat):Int))))] [] (zE xU<|zM<|zZ) ?_
         refine jE (b:=((t.getD k tz).op == ((4:Nat):Int))) rfl (fun h10=>?_) (fun h10=>?_)
         ·replace h10:=eq_of_beq h10
          have hop:=h10
          obtain ⟨⟨a1,a2⟩,b1,b2⟩:=hN.bin (.inr (.inr (.inl h10)))
          have hlt:=hf.lt hk (show k<t.length by omega) (by rw[hop];decide)
          refine kd [] [(2,some (uK jG (o.set k (jM (((vU xs t k).getD ((t.getD k tz).a.toNat) 0)*((vU xs t k).getD ((t.getD k tz).b.toNat) 0))))))] mo (wM<|wM<|wM<|wE (kI kV)<|wR (qH qZ)<|wE (fK qF (((t.getD k tz).a).toNat) (hj:=by first | omega | (dsimp only;omega)) (h1:=by first | omega | (dsimp only;omega)))<|wR (mR (jG (o.getD (((t.getD k tz).a).toNat) y2)) (jG (jM ((vU xs t k).getD ((t.getD k tz).a.toNat) 0))) (oLA jT (((t.getD k tz).a).toNat) y2 (h1:=by first | omega | (dsimp only;omega))) (by exact (congrArg jG (hget _ (show (t.getD k tz).a.toNat<k by omega)))))<|wM<|wE (kI qW)<|wR (qH qZ)<|wE (fK qF (((t.getD k tz).b).toNat) (hj:=by first | omega | (dsimp only;omega)) (h1:=by first | omega | (dsimp only;omega)))<|wR (mR (jG (o.getD (((t.getD k tz).b).toNat) y2)) (jG (jM ((vU xs t k).getD ((t.getD k tz).b.toNat) 0))) (oLA jT (((t.getD k tz).b).toNat) y2 (h1:=by first | omega | (dsimp only;omega))) (by exact (congrArg jG (hget _ (show (t.getD k tz).b.toNat<k by omega)))))<|wE (jY (f_mul (jM ((vU xs t k).getD ((t.getD k tz).a.toNat) 0)) (jM ((vU xs t k).getD ((t.getD k tz).b.toNat) 0)) ((vU xs t k).getD ((t.getD k tz).a.toNat) 0) ((vU xs t k).getD ((t.getD k tz).b.toNat) 0) (jW (kC (qlg hVq (by decide) ((t.getD k tz).a.toNat)))) (jW (kC (qlg hVq (by decide) ((t.getD k tz).b.toNat))))))<|wE (fK qF k (hj:=by first | omega | (dsimp only;omega)) (h1:=by first | omega | (dsimp only;omega)))<|wT (oSA jT k (jM (((vU xs t k).getD ((t.getD k tz).a.toNat) 0)*((vU xs t k).getD ((t.getD k tz).b.toNat) 0))))<|wZ) ?_
          refine kx [(37,(kF (k+1)))] [] (zE (vT (k+1))<|zM<|zZ) ?_
          exact ⟨(k+1,o.set k (jM (((vU xs t k).getD ((t.getD k tz).a.toNat) 0)*((vU xs t k).getD ((t.getD k tz).b.toNat) 0)))),wk,⟨by omega,by rw[List.length_set];exact hol,by rw[cJ ho (by omega)];exact aZ (vV_4 hop)⟩,(by first|omega|(dsimp only;omega))⟩
         ·replace h10:=ne_of_beq_false h10
          have hop:(t.getD k tz).op=5:=by have h9:=hN.op;omega
          obtain ⟨⟨a1,a2⟩,b1,b2⟩:=hN.bin (.inr (.inr (.inr hop)))
          refine jB<|kx [] [] (zM<|zZ) ?_
          refine jB ?_
          rcases hlt0:(decide (k<k0)) with _ | _
          ·refine kd [(12,(vi (divC ((vU xs t k).getD ((t.getD k tz).b.toNat) 0))))] [(2,some (uK jG (o.set k (divR ((vU xs t k).getD ((t.getD k tz).a.toNat) 0) ((vU xs t k).getD ((t.getD k tz).b.toNat) 0)))))] mo (wM<|wM<|wM<|wE (kI kV)<|wR (qH qZ)<|wE (fK qF (((t.getD k tz).a).toNat) (hj:=by first | omega | (dsimp only;omega)) (h1:=by first | omega | (dsimp only;omega)))<|wR (mR (jG (o.getD (((t.getD k tz).a).toNat) y2)) (jG (jM ((vU xs t k).getD ((t.getD k tz).a.toNat) 0))) (oLA jT (((t.getD k tz).a).toNat) y2 (h1:=by first | omega | (dsimp only;omega))) (by exact (congrArg jG (hget _ (show (t.getD k tz).a.toNat<k by omega)))))<|wM<|wE (kI qW)<|wR (qH qZ)<|wE (fK qF (((t.getD k tz).b).toNat) (hj:=by first | omega | (dsimp only;omega)) (h1:=by first | omega | (dsimp only;omega)))<|wR (mR (jG (o.getD (((t.getD k tz).b).toNat) y2)) (jG (jM ((vU xs t k).getD ((t.getD k tz).b.toNat) 0))) (oLA jT (((t.getD k tz).b).toNat) y2 (h1:=by first | omega | (dsimp only;omega))) (by exact (congrArg jG (hget _ (show (t.getD k tz).b.toNat<k by omega)))))<|wE (jY (f_divide (jM ((vU xs t k).getD ((t.getD k tz).a.toNat) 0)) (jM ((vU xs t k).getD ((t.getD k tz).b.toNat) 0)) ((vU xs t k).getD ((t.getD k tz).a.toNat) 0) ((vU xs t k).getD ((t.getD k tz).b.toNat) 0) (jW (kC (qlg hVq (by decide) ((t.getD k tz).a.toNat)))) (jW (kC (qlg hVq (by decide) ((t.getD k tz).b.toNat))))))<|wM<|wE xJ<|wE xJ<|wE (fK qF k (hj:=by first | omega | (dsimp only;omega)) (h1:=by first | omega | (dsimp only;omega)))<|wT (oSA jT k (divR ((vU xs t k).getD ((t.getD k tz).a.toNat) 0) ((vU xs t k).getD ((t.getD k tz).b.toNat) 0)))<|wM<|wZ) ?_
           refine jB<|kx [(62,(vb true))] [] (zM<|zE (vS true cK (by exact bne_iff_ne.2 (by rw[divC_zero (hf.at hk (show k<t.length by omega) hlt0)];decide)))<|zZ) ?_
           refine xQ ?_
           refine jB<|kx [(5,(kF 14))] [(0,some y1)] (zE (oBd pl32 qY uJ)<|zT (qJ jT)<|zM<|zZ) ?_
           refine jF ⟨_,(kR (cs:=y1) (d:=(jG y2)) rfl rfl jT rfl rfl (.tmp (d:=(.val (.int .i64 (((14:Nat):Int))))) rfl .nil)),?_⟩
           obtain ⟨e1,e2⟩:=hf.no hk (show k<t.length by omega) hlt0 (xs:=xs)
           rw[e1,e2];rfl
          ·refine kd [(12,(vi 0))] [(2,some (uK jG (o.set k (jM (((vU xs t k).getD ((t.getD k tz).a.toNat) 0) / ((vU xs t k).getD ((t.getD k tz).b.toNat) 0))))))] mo (wM<|wM<|wM<|wE (kI kV)<|wR (qH qZ)<|wE (fK qF (((t.getD k tz).a).toNat) (hj:=by first | omega | (dsimp only;omega)) (h1:=by first | omega | (dsimp only;omega)))<|wR (mR (jG (o.getD (((t.getD k tz).a).toNat) y2)) (jG (jM ((vU xs t k).getD ((t.getD k tz).a.toNat) 0))) (oLA jT (((t.getD k tz).a).toNat) y2 (h1:=by first | omega | (dsimp only;omega))) (by exact (congrArg jG (hget _ (show (t.getD k tz).a.toNat<k by omega)))))<|wM<|wE (kI qW)<|wR (qH qZ)<|wE (fK qF (((t.getD k tz).b).toNat) (hj:=by first | omega | (dsimp only;omega)) (h1:=by first | omega | (dsimp only;omega)))<|wR (mR (jG (o.getD (((t.getD k tz).b).toNat) y2)) (jG (jM ((vU xs t k).getD ((t.getD k tz).b.toNat) 0))) (oLA jT (((t.getD k tz).b).toNat) y2 (h1:=by first | omega | (dsimp only;omega))) (by exact (congrArg jG (hget _ (show (t.getD k tz).b.toNat<k by omega)))))<|wE (jY (by have h:=f_divide (jM ((vU xs t k).getD ((t.getD k tz).a.toNat) 0)) (jM ((vU xs t k).getD ((t.getD k tz).b.toNat) 0)) ((vU xs t k).getD ((t.getD k tz).a.toNat) 0) ((vU xs t k).getD ((t.getD k tz).b.toNat) 0) (jW (kC (qlg hVq (by decide) ((t.getD k tz).a.toNat)))) (jW (kC (qlg hVq (by decide) ((t.getD k tz).b.toNat))));rw[divR_ne (hf.up.dz k (vY hlt0) hop),divC_ne (hf.up.dz k (vY hlt0) hop)] at h;exact h))<|wM<|wE xJ<|wE xJ<|wE (fK qF k (hj:=by first | omega | (dsimp only;omega)) (h1:=by first | omega | (dsimp only;omega)))<|wT (oSA jT k (jM (((vU xs t k).getD ((t.getD k tz).a.toNat) 0) / ((vU xs t k).getD ((t.getD k tz).b.toNat) 0))))<|wM<|wZ) ?_
           refine jB<|kx [(62,(vb false))] [] (zM<|zE (vS false cK)<|zZ) ?_
           refine qE ?_
           refine jD<|kx [(37,(kF (k+1)))] [] (zE (vT (k+1))<|zM<|zZ) ?_
           exact ⟨(k+1,o.set k (jM (((vU xs t k).getD ((t.getD k tz).a.toNat) 0) / ((vU xs t k).getD ((t.getD k tz).b.toNat) 0)))),wk,⟨by have:=vY hlt0;omega,by rw[List.length_set];exact hol,by rw[cJ ho (by omega)];exact aZ (vV_5 hop)⟩,(by first|omega|(dsimp only;omega))⟩
  ·replace h3:=xC h3
   refine kL<|jB<|kx [(5,(kF 0))] [(0,some (bx (jG (o.getD (t.length-1) y2))))] (zM<|zM<|zE (oLo qF)<|zE (oSb (t.length-1))<|zE (fK qF (t.length-1) (hj:=by first | omega | (dsimp only;omega)) (h1:=by first | omega | (dsimp only;omega)))<|zR (oLA jT (t.length-1) y2 (h1:=by first | omega | (dsimp only;omega)))<|zT (qJ jT)<|zM<|zZ) ?_
   refine jF ⟨_,(kR (cs:=(bx (jG (o.getD (t.length-1) y2)))) (d:=(jG (o.getD (t.length-1) y2))) rfl rfl jT rfl rfl (.tmp (d:=(.val (.int .i64 (((0:Nat):Int))))) rfl .nil)),?_⟩
   obtain rfl:k=t.length:=by omega
   obtain rfl:k0=t.length:=by omega
   rw[hget _ (show t.length-1<t.length by omega),vlR_y,vlC_y];rfl
theorem p_val(t:List jO)(ht:uL 1048576 t)(xs:List Rat)(hx:∀ q∈xs,QL q 1048576)(hr:iB xs t)(hxb:xs.length<=1000000):jQ Tryz.prog 11 [(.sl 72 7 (List.map jK t)),(.sl 32 4 (List.map jG (List.map jM xs)))] (.tup [(jG (jM (xA xs t))),(.val (.int .i64 (((0:Nat):Int))))]):=by
 have h:=p_valU t ht xs hx t.length hr.fin hxb
 rw[vlR_y,vlC_y] at h
 exact h
end Go.Proofs.YtckccjhflbljgaaGreatDoor
