/- Part 31 of a proof: rules, plain facts, and functions walked. -/
import Derived.Test.YtnajallgoaiahaaGreatDoorM30
import Derived.Test.YtnajallgoaiahaaGreatDoorM28
import Derived.Test.YtnajallgoaiahaaGreatDoorM20
import Derived.Test.YtnajallgoaiahaaGreatDoorM23
import Derived.Test.YtnajallgoaiahaaGreatDoorM29
set_option linter.all false
set_option maxRecDepth 4000
namespace Go.Proofs.YtnajallgoaiahaaGreatDoor
open Go.Fid
theorem j_jetsF0(t:List qB)(ht:zL 1048576 t)(bv:List R2)(hbx:∀ x∈bv,GL 1048576 x)(k0:Nat)(hr:JFailP bv t k0):jO Tryz.prog 67 [(.sl 83 7 (List.map kS t)),(.sl 61 8 (List.map jF (List.map jY bv))),(.val (.int .i64 (((1:Nat):Int)))),(.val (.int .i64 (-1)))] (.tup [(jI (vX.mk (jL.mk kH kH) [] [])),(.val (.int .i64 (((14:Nat):Int))))]):=by
 have h0:=tm_0 hr.c0
 have hlt:=hr.lt
 let y3:=(jL.mk kH kH)
 let y2:=(bx (jI (vX.mk y3 [] [])))
 let y1:=(bx (.agg [(.val (.int .i64 (((bv.length:Nat):Int)))),(.val (.int .i64 (((1:Nat):Int)))),(.val (.int .i64 (-1))),(.val (.slice none 0 0)),(.val (.bool (false)))]))
 refine qY Tryz.func67 ?_
 refine jB<|kx [(8,(.ref 0 0))] [(0,some y2)] (zN (qR 0 mE cG)<|zM<|zZ) ?_
 refine jB<|jB<|kx [(16,(vl 61 8 jF (List.map jY bv))),(17,(jS bv.length)),(18,(jS 0))] [] (zM<|zE (fO uA bv.length)<|zM<|zZ) ?_
 refine jH<|kF (α:=Nat) (fun i=>⟨[(0,(vl 83 7 kS t)),(1,(vl 61 8 jF (List.map jY bv))),(2,(jS 1)),(3,(vi (-1))),(8,(.ref 0 0)),(16,(vl 61 8 jF (List.map jY bv))),(17,(jS bv.length)),(18,(jS i))],[(0,some y2)]⟩) (fun i=>i<=bv.length) (fun i=>bv.length-i) 0 wk (Nat.zero_le _) ?_
 rintro i hi
 refine jB<|kx [(19,(vb (decide (((i:Nat):Int)<((bv.length:Nat):Int)))))] [] (zE xK<|zZ) ?_
 refine jB<|jG rfl (fun h1=>?_) (fun h1=>?_)
 ·replace h1:=uV h1
  refine jC<|jB<|jH<|jB<|kx [(11,(.ref 1 0))] [(1,some (bx (jF (jY (bv.getD i z2)))))] (zE (bC uA jY i z2)<|zE (yJ jP)<|zN (qR 1 qJ qL)<|zT (qA jP)<|zZ) ?_
  refine jB<|kx [(24,(vb false))] [] (zR (kJ jP)<|zE (jV (by have h:=lP (jY (bv.getD i z2)) (zU (⟨qQ (jM (jW (kZ hbx (by decide) i).1) (by decide:1048576<=1048576)),qQ (jM (jW (kZ hbx (by decide) i).2.1) (by decide:1048576<=1048576))⟩));rw[show uJ (jY (bv.getD i z2))=true from zW (kZ hbx (by decide) i).2.2] at h;exact h))<|zE gD<|zZ) ?_
  refine kM ?_
  refine jC<|kx [(18,(jS (i+1)))] [] (zE (vO (i+1))<|zM<|zZ) ?_
  exact ⟨i+1,wk,(by omega),(by first|omega|(dsimp only;omega))⟩
 ·replace h1:=vB h1
  refine kD<|jB<|jB<|kx [(36,(vb false))] [] (zM<|zE (uP false xK)<|zM<|zM<|zE (uP false hH)<|zE xQ<|zM<|zM<|zE (uP false hH)<|zE xQ<|zZ) ?_
  refine kM ?_
  refine jC<|jB<|jB<|kx [(12,(jS (gK ((bv.length:Nat):Int) t)))] [] (zM<|zM<|zE (fO uA bv.length)<|zE (jV (j_chk t ht ((bv.length:Nat):Int)))<|zM<|zZ) ?_
  refine jB<|kx [(43,(vb false))] [] (zM<|zE (uP false mF (by exact bne_eq_false_iff_eq.2 (by rw[show (gK ((bv.length:Nat):Int) t)=0 from hr.c0]<;>rfl)))<|zZ) ?_
  refine kM ?_
  refine jC<|jB<|kx [(13,(.ref 2 0))] [(2,some y1)] (zM<|zE (fO uA bv.length)<|zM<|zM<|zE (eD pl161 ze161 zn161)<|zN (uU 2)<|zM<|zZ) ?_
  refine jB<|jB<|bN 2 3 3 95 10 (cs:=y1) (h:=?_)
  refine kU (wk (l:=[(0,(vl 83 7 kS t)),(1,(vl 61 8 jF (List.map jY bv))),(8,(.ref 0 0)),(13,(.ref 2 0))]) (b:=[(0,some y2),(2,some [(jS bv.length),(jS 1),(vi (-1)),(.own 3 95 10 0),(vb false)]),(3,some (yU jI []))])) ?_
  refine kx [(52,(vl 83 7 kS t)),(53,(jS t.length)),(54,(jS 0))] [] (zM<|zE (vP iW)<|zM<|zZ) ?_
  refine jH<|kF (α:=Nat) (fun k=>⟨[(1,(vl 61 8 jF (List.map jY bv))),(8,(.ref 0 0)),(13,(.ref 2 0)),(52,(vl 83 7 kS t)),(53,(jS t.length)),(54,(jS k))],[(0,some y2),(2,some (xZ bv.length 3 (jU bv t k) false)),(3,some (yA (jU bv t k)))]⟩) (fun k=>k<=k0) (fun k=>t.length-k) 0 wk (Nat.zero_le _) ?_
  rintro k hk
  have hju:=cX bv t k
  have hjm:(List.map qW (jU bv t k)).length=k:=by rw[List.length_map,hju]
  refine jB<|kx [(55,(vb (decide (((k:Nat):Int)<((t.length:Nat):Int)))))] [] (zE xK<|zZ) ?_
  refine jB<|jG rfl (fun h2=>?_) (fun h2=>?_)
  ·replace h2:=uV h2
   refine jC<|jB<|jH<|jB<|kx [(15,(.ref 4 0))] [(4,some (bx (kS (t.getD k tz))))] (zE (yE iW k (tz:qB))<|zE (yJ iR)<|zH (qR 4 ze83 zo83)<|zT (qA iR)<|zZ) ?_
   refine jB ?_
   rcases hlt0:(decide (k<k0)) with _ | _
   ·refine kf [] [(2,some (xZ bv.length 21 ((jU bv t k)++[(jk (gw 0) (fun _=>gw 0) bv.length)]) true)),(21,some (yA ((jU bv t k)++[(jk (gw 0) (fun _=>gw 0) bv.length)]))),(10,none),(11,none),(12,none),(13,none),(14,none),(15,none),(16,none),(17,none),(18,none),(19,none),(20,none),(3,none),(5,none),(6,none),(7,none),(8,none),(9,none)] (zM<|zR (kJ iR)<|zM<|zSe (B2:=[(2,some (xZ bv.length 3 (jU bv t k) false)),(3,some (yA (jU bv t k)))]) (B2':=[(2,some (xZ bv.length 21 ((jU bv t k)++[(jk (gw 0) (fun _=>gw 0) bv.length)]) true)),(21,some (yA ((jU bv t k)++[(jk (gw 0) (fun _=>gw 0) bv.length)])))]) [2,3,5,6,7,8,9,10,11,12,13,14,15,16,17,18,19,20,21] [2] (f_step (t.getD k tz) bv hbx (jU bv t k) ((show k0=k by have:=vB hlt0;omega)▸hr.fl))<|zF) ?_
    refine kU (wk (l:=[(1,(vl 61 8 jF (List.map jY bv))),(8,(.ref 0 0)),(13,(.ref 2 0)),(52,(vl 83 7 kS t)),(53,(jS t.length)),(54,(jS k))]) (b:=[(0,some y2),(2,some (xZ bv.length 21 ((jU bv t k)++[(jk (gw 0) (fun _=>gw 0) bv.length)]) true)),(21,some (yA ((jU bv t k)++[(jk (gw 0) (fun _=>gw 0) bv.length)])))])) ?_
    refine kU (iY (S':=[(1,(vl 61 8 jF (List.map jY bv))),(8,(.ref 0 0)),(13,(.ref 2 0)),(52,(vl 83 7 kS t)),(53,(jS t.length)),(54,(jS k))]) (B':=[(0,some y2),(2,some (xZ bv.length 3 ((jU bv t k)++[(jk (gw 0) (fun _=>gw 0) bv.length)]) true)),(3,some (yA ((jU bv t k)++[(jk (gw 0) (fun _=>gw 0) bv.length)])))]) 3 21 2) ?_
    refine jB<|kx [(65,(vb true))] [] (zM<|zE oNc<|zE (kV fo161_4)<|zR (uE iP)<|zZ) ?_
    refine uI ?_
    refine jB<|kx [(9,(jS 14))] [(0,some y2)] (zE (eD pl95 mE cG)<|zT (qA gU)<|zM<|zZ) ?_
    refine jE ⟨_,(kI (cs:=y2) (d:=(jI (vX.mk y3 [] []))) rfl rfl gU rfl rfl (.tmp (d:=(.val (.int .i64 (((14:Nat):Int))))) rfl .nil)),?_⟩
    first | rfl | exact absurd hlt (by omega)
   ·refine kf [] [(2,some (xZ bv.length 21 ((jU bv t k)++[(nJ bv (jU bv t k) (t.getD k tz))]) false)),(21,some (yA ((jU bv t k)++[(nJ bv (jU bv t k) (t.getD k tz))]))),(10,none),(11,none),(12,none),(13,none),(14,none),(15,none),(16,none),(17,none),(18,none),(19,none),(20,none),(3,none),(5,none),(6,none),(7,none),(8,none),(9,none)] (zM<|zR (kJ iR)<|zM<|zSe (B2:=[(2,some (xZ bv.length 3 (jU bv t k) false)),(3,some (yA (jU bv t k)))]) (B2':=[(2,some (xZ bv.length 21 ((jU bv t k)++[(nJ bv (jU bv t k) (t.getD k tz))]) false)),(21,some (yA ((jU bv t k)++[(nJ bv (jU bv t k) (t.getD k tz))])))]) [2,3,5,6,7,8,9,10,11,12,13,14,15,16,17,18,19,20,21] [2] (e_step (t.getD k tz) bv hbx (jU bv t k) (hr.st k (uV hlt0)))<|zF) ?_
    refine kU (wk (l:=[(1,(vl 61 8 jF (List.map jY bv))),(8,(.ref 0 0)),(13,(.ref 2 0)),(52,(vl 83 7 kS t)),(53,(jS t.length)),(54,(jS k))]) (b:=[(0,some y2),(2,some (xZ bv.length 21 ((jU bv t k)++[(nJ bv (jU bv t k) (t.getD k tz))]) false)),(21,some (yA ((jU bv t k)++[(nJ bv (jU bv t k) (t.getD k tz))])))])) ?_
    refine kU (iY (S':=[(1,(vl 61 8 jF (List.map jY bv))),(8,(.ref 0 0)),(13,(.ref 2 0)),(52,(vl 83 7 kS t)),(53,(jS t.length)),(54,(jS k))]) (B':=[(0,some y2),(2,some (xZ bv.length 3 ((jU bv t k)++[(nJ bv (jU bv t k) (t.getD k tz))]) false)),(3,some (yA ((jU bv t k)++[(nJ bv (jU bv t k) (t.getD k tz))])))]) 3 21 2) ?_
    refine jB<|kx [(65,(vb false))] [] (zM<|zE oNc<|zE (kV fo161_4)<|zR (uE iP)<|zZ) ?_
    refine kM ?_
    refine jC<|kx [(54,(jS (k+1)))] [] (zE (vO (k+1))<|zM<|zZ) ?_
    exact ⟨k+1,wk,(by have:=uV hlt0;omega),(by first|omega|(dsimp only;omega))⟩
  ·replace h2:=vB h2
   refine kD<|jB<|kd [(9,(jS 0))] [(0,some (bx (jI ((List.map qW (jU bv t k)).getD ((List.map qW (jU bv t k)).length-1) (vX.mk y3 [] [])))))] mo (wM<|wE oNc<|wE (kV cU)<|wR (uE sh143)<|wM<|wE oNc<|wE (kV cU)<|wR (uE sh143)<|wE (oLo dY)<|wE (oSb ((List.map qW (jU bv t k)).length-1))<|wE (oXO dY ((List.map qW (jU bv t k)).length-1))<|wR (oLA gU ((List.map qW (jU bv t k)).length-1) (vX.mk y3 [] []))<|wT (qA gU)<|wM<|wZ) ?_
   refine jE ⟨_,(kI (cs:=(bx (jI ((List.map qW (jU bv t k)).getD ((List.map qW (jU bv t k)).length-1) (vX.mk y3 [] []))))) (d:=(jI ((List.map qW (jU bv t k)).getD ((List.map qW (jU bv t k)).length-1) (vX.mk y3 [] [])))) rfl rfl gU rfl rfl (.tmp (d:=(.val (.int .i64 (((0:Nat):Int))))) rfl .nil)),?_⟩
   first | rfl | exact absurd hlt (by omega)
theorem j_jetsF(t:List qB)(ht:zL 1048576 t)(bv:List R2)(hbx:∀ x∈bv,GL 1048576 x)(hfe:∃ k,JFailP bv t k):jO Tryz.prog 67 [(.sl 83 7 (List.map kS t)),(.sl 61 8 (List.map jF (List.map jY bv))),(.val (.int .i64 (((1:Nat):Int)))),(.val (.int .i64 (-1)))] (.tup [(jI (vX.mk (jL.mk kH kH) [] [])),(.val (.int .i64 (((14:Nat):Int))))]):=by
 obtain ⟨k,hk⟩:=hfe
 exact j_jetsF0 t ht bv hbx k hk
theorem u_add(a:R2)(ha:GL 67108864 a)(b:R2)(hb:GL 67108864 b):jO Tryz.prog 39 [(jF (jY a)),(jF (jY b))] (jF (jY (vJ a b))):=h_add (jY a) a.1 a.2 (jM (jW ha.1)) (jM (jW ha.2.1)) (jY b) b.1 b.2 (jM (jW hb.1)) (jM (jW hb.2.1))
theorem u_sub(a:R2)(ha:GL 67108864 a)(b:R2)(hb:GL 67108864 b):jO Tryz.prog 40 [(jF (jY a)),(jF (jY b))] (jF (jY (uR a b))):=h_sub (jY a) a.1 a.2 (jM (jW ha.1)) (jM (jW ha.2.1)) (jY b) b.1 b.2 (jM (jW hb.1)) (jM (jW hb.2.1))
theorem u_mul(a:R2)(ha:GL 67108864 a)(b:R2)(hb:GL 67108864 b):jO Tryz.prog 114 [(jF (jY a)),(jF (jY b))] (jF (jY (qP a b))):=h_mul (jY a) a.1 a.2 (jM (jW ha.1)) (jM (jW ha.2.1)) (jY b) b.1 b.2 (jM (jW hb.1)) (jM (jW hb.2.1))
theorem u_sq(a:R2)(ha:GL 67108864 a):jO Tryz.prog 115 [(jF (jY a))] (jF (jY (gsq a))):=h_square (jY a) a.1 a.2 (jM (jW ha.1)) (jM (jW ha.2.1))
theorem u_neg(a:R2)(ha:GL 67108864 a):jO Tryz.prog 100 [(jF (jY a))] (jF (jY (gneg a))):=h_neg (jY a) a.1 a.2 (jM (jW ha.1)) (jM (jW ha.2.1))
theorem u_div(a:R2)(ha:GL 67108864 a)(b:R2)(hb:GL 67108864 b)(hz:xH b.1 b.2=false):jO Tryz.prog 167 [(jF (jY a)),(jF (jY b))] (.tup [(jF (jY (mN a b))),(.val (.int .i64 (((0:Nat):Int))))]):=h_divide a.1 a.2 (qG ha.1) (qG ha.2.1) ha.2.2 b.1 b.2 (qG hb.1) (qG hb.2.1) hb.2.2 hz
theorem u_none :jO Tryz.prog 172 [] (jF (jY (gw 0))):=by
 refine qY Tryz.func172 ?_
 refine jB<|kx [(0,(.ref 0 0))] [(0,some (bx (jF (jL.mk kH kH))))] (zN (qR 0 qJ qL)<|zZ) ?_
 refine jB<|kx [] [(0,some (bx (jF (jL.mk (jN ((0:Int):Rat)) (jN ((0:Int):Rat))))))] (zE (jV (h_whole 0 0))<|zT (qA jP)<|zZ) ?_
 refine jE ⟨_,(kI (cs:=(bx (jF (jL.mk (jN ((0:Int):Rat)) (jN ((0:Int):Rat)))))) (d:=(jF (jL.mk (jN ((0:Int):Rat)) (jN ((0:Int):Rat))))) rfl rfl jP rfl rfl .nil),?_⟩
 rfl
theorem u_one :jO Tryz.prog 169 [] (jF (jY (gw 1))):=by
 refine qY Tryz.func169 ?_
 refine jB<|kx [(0,(.ref 0 0))] [(0,some (bx (jF (jL.mk kH kH))))] (zN (qR 0 qJ qL)<|zZ) ?_
 refine jB<|kx [] [(0,some (bx (jF (jL.mk (jN ((1:Int):Rat)) (jN ((1:Int):Rat))))))] (zE (jV (h_whole 1 1))<|zT (qA jP)<|zZ) ?_
 refine jE ⟨_,(kI (cs:=(bx (jF (jL.mk (jN ((1:Int):Rat)) (jN ((1:Int):Rat)))))) (d:=(jF (jL.mk (jN ((1:Int):Rat)) (jN ((1:Int):Rat))))) rfl rfl jP rfl rfl .nil),?_⟩
 rfl
theorem u_twice(a:R2)(ha:GL 67108864 a):jO Tryz.prog 171 [(jF (jY a))] (jF (jY (qP (gw 2) a))):=by
 refine qY Tryz.func171 ?_
 refine jB<|kx [(1,(.ref 0 0)),(2,(.ref 1 0))] [(0,some (bx (jF (jY a)))),(1,some (bx (jF (jL.mk kH kH))))] (zN (uU 0)<|zN (qR 1 qJ qL)<|zZ) ?_
 refine jB<|kd [] [(1,some (bx (jF (jY (qP (((2:Int):Rat),((2:Int):Rat)) a)))))] mo (wE (jV (h_whole 2 2))<|wR (kJ jP)<|wE (jV (u_mul (((2:Int):Rat),((2:Int):Rat)) (kW (⟨(vS (z:=2) (vF)),(vS (z:=2) (vF)),(by decide:((2:Int):Rat)<=((2:Int):Rat))⟩)) a ha))<|wT (qA jP)<|wZ) ?_
 refine jE ⟨_,(kI (cs:=(bx (jF (jY (qP (((2:Int):Rat),((2:Int):Rat)) a))))) (d:=(jF (jY (qP (((2:Int):Rat),((2:Int):Rat)) a)))) rfl rfl jP rfl rfl .nil),?_⟩
 rfl
theorem u_held(a:R2)(ha:GL 67108864 a):jO Tryz.prog 111 [(jF (jY a)),(.val (.int .i64 (-1)))] (jF (jY a)):=by
 refine qY Tryz.func111 ?_
 refine jB<|kx [(2,(.ref 0 0)),(4,(.ref 1 0))] [(0,some (bx (jF (jY a)))),(1,some (bx (jF (jL.mk kH kH))))] (zN (uU 0)<|zN (qR 1 qJ qL)<|zZ) ?_
 refine jB<|jB<|kx [(8,(vb true))] [] (zM<|zE (uP true xK)<|zZ) ?_
 refine uI ?_
 refine jB<|kx [] [(1,some (bx (jF (jY a))))] (zR (kJ jP)<|zT (qA jP)<|zZ) ?_
 refine jE ⟨_,(kI (cs:=(bx (jF (jY a)))) (d:=(jF (jY a))) rfl rfl jP rfl rfl .nil),?_⟩
 rfl
theorem u_pair(l0:R2)(l1:R2)(l2:R2)(l3:R2)(hl0:GL 16777216 l0)(hl1:GL 16777216 l1)(hl2:GL 16777216 l2)(hl3:GL 16777216 l3):jO Tryz.prog 170 [(.sl 61 8 (List.map jF [(jY l0),(jY l1),(jY l2),(jY l3)]))] (jF (jY (vJ (qP l0 l1) (qP l2 l3)))):=by
 refine qY Tryz.func170 ?_
 refine jB<|kx [(2,(.ref 0 0))] [(0,some (bx (jF (jL.mk kH kH))))] (zN (qR 0 qJ qL)<|zZ) ?_
 refine jB<|kx [(3,(.ref 1 0))] [(1,some (bx (jF (jY (gw 0)))))] (zE (jV u_none)<|zN (qR 1 qJ qL)<|zT (qA jP)<|zZ) ?_
 refine jB<|jB<|kx [(4,(jS 0))] [] (zM<|zZ) ?_
 refine jH<|pwp_rounds 3 ?_
 refine pwp_round<|jB<|jB<|kx [(10,(vb true))] [] (zM<|zE (vO 1 (hr:=by decide))<|zM<|zE (fO uA 4)<|zE (uP true xK)<|zZ) ?_
 refine uI ?_
 refine jC<|jB<|jH<|kd [] [(1,some (bx (jF (jY (vJ (gw 0) (qP l0 l1))))))] mo (wR (kJ jP)<|wM<|wM<|wE (oXs uA 0)<|wE (yJ jP)<|wM<|wM<|wE (vO 1 (hr:=by decide))<|wE (oXs uA 1)<|wE (yJ jP)<|wE (jV (u_mul l0 (kW hl0) l1 (kW hl1)))<|wE (jV (u_add (gw 0) (kW (gl_w (z:=0) (by omega) (by omega))) (qP l0 l1) (kW (xJ (k:=33554432) hl0 hl1))))<|wT (qA jP)<|wZ) ?_
 refine kx [(4,(jS 2))] [] (zM<|zE (vO 2 (hr:=by decide))<|zM<|zZ) ?_
 refine aG (vG.refl _) ?_
 refine jB<|jB<|kx [(10,(vb true))] [] (zM<|zE (vO 3 (hr:=by decide))<|zM<|zE (fO uA 4)<|zE (uP true xK)<|zZ) ?_
 refine uI ?_
 refine jC<|jB<|jH<|kd [] [(1,some (bx (jF (jY (vJ (vJ (gw 0) (qP l0 l1)) (qP l2 l3))))))] mo (wR (kJ jP)<|wM<|wM<|wE (oXs uA 2)<|wE (yJ jP)<|wM<|wM<|wE (vO 3 (hr:=by decide))<|wE (oXs uA 3)<|wE (yJ jP)<|wE (jV (u_mul l2 (kW hl2) l3 (kW hl3)))<|wE (jV (u_add (vJ (gw 0) (qP l0 l1)) (kW (lY (k:=33554436) (gl_w (z:=0) (by omega) (by omega)) (xJ (k:=33554432) hl0 hl1))) (qP l2 l3) (kW (xJ (k:=33554432) hl2 hl3))))<|wT (qA jP)<|wZ) ?_
 refine kx [(4,(jS 4))] [] (zM<|zE (vO 4 (hr:=by decide))<|zM<|zZ) ?_
 refine aG (vG.refl _) ?_
 refine jB<|jB<|kx [(10,(vb false))] [] (zM<|zE (vO 5 (hr:=by decide))<|zM<|zE (fO uA 4)<|zE (uP false xK)<|zZ) ?_
 refine kM ?_
 refine kD<|jB<|kx [] [(0,some (bx (jF (jY (vJ (vJ (gw 0) (qP l0 l1)) (qP l2 l3))))))] (zR (kJ jP)<|zT (qA jP)<|zZ) ?_
 refine jE ⟨_,(kI (cs:=(bx (jF (jY (vJ (vJ (gw 0) (qP l0 l1)) (qP l2 l3)))))) (d:=(jF (jY (vJ (vJ (gw 0) (qP l0 l1)) (qP l2 l3))))) rfl rfl jP rfl rfl .nil),?_⟩
 rw[ga0];rfl
theorem u_w(x:qB)(y:jL)(z:jL)(bv:List R2)(hbx:∀ x∈bv,GL 1048576 x)(L:List JV)(hbl:bv.length<=1000000)(hn:aA bv.length L x)(hLk:∀ e9∈L,nZ 1048576 bv.length e9)(hJ:nZ 1048576 bv.length (nJ bv L x))(hy:1<=xG x.op->y=jY (jA L x.a).v)(hz:xG x.op=2->z=jY (jA L x.b).v):jO Tryz.prog 110 [(kS x),(jF y),(jF z),(.sl 61 8 (List.map jF (List.map jY bv)))] (.tup [(jF (jY (nV bv L x))),(.val (.int .i64 (((0:Nat):Int))))]):=by
 have hS:StOk bv.length L x:=.inl hn
 refine qY Tryz.func110 ?_
 refine jB<|kx [(4,(.ref 0 0)),(5,(.ref 1 0)),(6,(.ref 2 0)),(8,(.ref 3 0))] [(0,some (bx (kS x))),(1,some (bx (jF y))),(2,some (bx (jF z))),(3,some (bx (jF (jL.mk kH kH))))] (zN (uU 0)<|zN (uU 1)<|zN (uU 2)<|zN (qR 3 qJ qL)<|zM<|zZ) ?_
 refine jB<|jB<|kx [(11,(vi x.op))] [] (zE (kV gB)<|zR (uE fM)<|zZ) ?_
 refine jH<|jB<|kx [(12,(vb (x.op == 1)))] [] (zE xR<|zM<|zZ) ?_
 refine jG (b:=(x.op == 1)) rfl (fun h1=>?_) (fun h1=>?_)
 ·replace h1:=eq_of_beq h1
  have hop:=h1
  obtain ⟨a1,a2⟩:=hn.var hop
  refine jB<|kx [(9,(jS 0))] [(3,some (bx (jF (jY (bv.getD ((x.a).toNat) z2)))))] (zM<|zE (kV gS)<|zR (uE cL)<|zE (bC uA jY ((x.a).toNat) z2)<|zE (yJ jP)<|zT (qA jP)<|zM<|zZ) ?_
  refine jE ⟨_,(kI (cs:=(bx (jF (jY (bv.getD ((x.a).toNat) z2))))) (d:=(jF (jY (bv.getD ((x.a).toNat) z2)))) rfl rfl jP rfl rfl (.tmp (d:=(.val (.int .i64 (0)))) rfl .nil)),?_⟩
  rw[nV_1 hop];rfl
 ·replace h1:=ne_of_beq_false h1
  refine jB<|kx [(19,(vb (x.op == 2)))] [] (zE xR<|zM<|zZ) ?_
  refine jG (b:=(x.op == 2)) rfl (fun h2=>?_) (fun h2=>?_)
  ·replace h2:=eq_of_beq h2
   have hk2:xG x.op=2:=by rw[h2];rfl
   have hop:=h2
   obtain ⟨a1,a2⟩:=hS.a (by omega)
   obtain ⟨b1,b2⟩:=hS.b hk2
   have hy2:=hy (by omega)
   have hz2:=hz hk2
   have hu:=hLk _ (vA (d:=jz) a2)
   have hv:=hLk _ (vA (d:=jz) b2)
   have hul:(jA L x.a).g.length=bv.length:=hu.2.2
   have hvl:(jA L x.b).g.length=bv.length:=hv.2.2
   refine jB<|kx [(9,(jS 0))] [(3,some (bx (jF (jY (vJ ((jA L x.a).v) ((jA L x.b).v))))))] (zR (oQr (jF y) (jF (jY ((jA L x.a).v))) (kJ jP) (by exact (congrArg jF hy2)))<|zR (oQr (jF z) (jF (jY ((jA L x.b).v))) (kJ jP) (by exact (congrArg jF hz2)))<|zE (jV (u_add ((jA L x.a).v) (kW hu.1) ((jA L x.b).v) (kW hv.1)))<|zT (qA jP)<|zM<|zZ) ?_
   refine jE ⟨_,(kI (cs:=(bx (jF (jY (vJ ((jA L x.a).v) ((jA L x.b).v)))))) (d:=(jF (jY (vJ ((jA L x.a).v) ((jA L x.b).v))))) rfl rfl jP rfl rfl (.tmp (d:=(.val (.int .i64 (0)))) rfl .nil)),?_⟩
   rw[nV_2 hop];rfl
  ·replace h2:=ne_of_beq_false h2
   refine jB<|kx [(24,(vb (x.op == 3)))] [] (zE xR<|zM<|zZ) ?_
   refine jG (b:=(x.op == 3)) rfl (fun h3=>?_) (fun h3=>?_)
   ·replace h3:=eq_of_beq h3
    have hk2:xG x.op=2:=by rw[h3];rfl
    have hop:=h3
    obtain ⟨a1,a2⟩:=hS.a (by omega)
    obtain ⟨b1,b2⟩:=hS.b hk2
    have hy2:=hy (by omega)
    have hz2:=hz hk2
    have hu:=hLk _ (vA (d:=jz) a2)
    have hv:=hLk _ (vA (d:=jz) b2)
    have hul:(jA L x.a).g.length=bv.length:=hu.2.2
    have hvl:(jA L x.b).g.length=bv.length:=hv.2.2
    refine jB<|kx [(9,(jS 0))] [(3,some (bx (jF (jY (uR ((jA L x.a).v) ((jA L x.b).v))))))] (zR (oQr (jF y) (jF (jY ((jA L x.a).v))) (kJ jP) (by exact (congrArg jF hy2)))<|zR (oQr (jF z) (jF (jY ((jA L x.b).v))) (kJ jP) (by exact (congrArg jF hz2)))<|zE (jV (u_sub ((jA L x.a).v) (kW hu.1) ((jA L x.b).v) (kW hv.1)))<|zT (qA jP)<|zM<|zZ) ?_
    refine jE ⟨_,(kI (cs:=(bx (jF (jY (uR ((jA L x.a).v) ((jA L x.b).v)))))) (d:=(jF (jY (uR ((jA L x.a).v) ((jA L x.b).v))))) rfl rfl jP rfl rfl (.tmp (d:=(.val (.int .i64 (0)))) rfl .nil)),?_⟩
    rw[nV_3 hop];rfl
   ·replace h3:=ne_of_beq_false h3
    refine jB<|kx [(29,(vb (x.op == 4)))] [] (zE xR<|zM<|zZ) ?_
    refine jG (b:=(x.op == 4)) rfl (fun h4=>?_) (fun h4=>?_)
    ·replace h4:=eq_of_beq h4
     have hk2:xG x.op=2:=by rw[h4];rfl
     have hop:=h4
     obtain ⟨a1,a2⟩:=hS.a (by omega)
     obtain ⟨b1,b2⟩:=hS.b hk2
     have hy2:=hy (by omega)
     have hz2:=hz hk2
     have hu:=hLk _ (vA (d:=jz) a2)
     have hv:=hLk _ (vA (d:=jz) b2)
     have hul:(jA L x.a).g.length=bv.length:=hu.2.2
     have hvl:(jA L x.b).g.length=bv.length:=hv.2.2
     refine jB<|kx [(9,(jS 0))] [(3,some (bx (jF (jY (qP ((jA L x.a).v) ((jA L x.b).v))))))] (zR (oQr (jF y) (jF (jY ((jA L x.a).v))) (kJ jP) (by exact (congrArg jF hy2)))<|zR (oQr (jF z) (jF (jY ((jA L x.b).v))) (kJ jP) (by exact (congrArg jF hz2)))<|zE (jV (u_mul ((jA L x.a).v) (kW hu.1) ((jA L x.b).v) (kW hv.1)))<|zT (qA jP)<|zM<|zZ) ?_
     refine jE ⟨_,(kI (cs:=(bx (jF (jY (qP ((jA L x.a).v) ((jA L x.b).v)))))) (d:=(jF (jY (qP ((jA L x.a).v) ((jA L x.b).v))))) rfl rfl jP rfl rfl (.tmp (d:=(.val (.int .i64 (0)))) rfl .nil)),?_⟩
     rw[nV_4 hop];rfl
    ·replace h4:=ne_of_beq_false h4
     refine jB<|kx [(34,(vb (x.op == 5)))] [] (zE xR<|zM<|zZ) ?_
     refine jG (b:=(x.op == 5)) rfl (fun h5=>?_) (fun h5=>?_)
     ·replace h5:=eq_of_beq h5
      have hk2:xG x.op=2:=by rw[h5];rfl
      have hop:=h5
      obtain ⟨a1,a2⟩:=hS.a (by omega)
      obtain ⟨b1,b2⟩:=hS.b hk2
      have hy2:=hy (by omega)
      have hz2:=hz hk2
      have hu:=hLk _ (vA (d:=jz) a2)
      have hv:=hLk _ (vA (d:=jz) b2)
      have hul:(jA L x.a).g.length=bv.length:=hu.2.2
      have hvl:(jA L x.b).g.length=bv.length:=hv.2.2
      refine jB<|kx [(9,(jS 0))] [(3,some (bx (jF (jY (mN ((jA L x.a).v) ((jA L x.b).v))))))] (zR (oQr (jF y) (jF (jY ((jA L x.a).v))) (kJ jP) (by exact (congrArg jF hy2)))<|zR (oQr (jF z) (jF (jY ((jA L x.b).v))) (kJ jP) (by exact (congrArg jF hz2)))<|zE (jV (u_div ((jA L x.a).v) (kW hu.1) ((jA L x.b).v) (kW hv.1) (hn.zf hop)))<|zE uX<|zE uX<|zT (qA jP)<|zM<|zZ) ?_
      refine jE ⟨_,(kI (cs:=(bx (jF (jY (mN ((jA L x.a).v) ((jA L x.b).v)))))) (d:=(jF (jY (mN ((jA L x.a).v) ((jA L x.b).v))))) rfl rfl jP rfl rfl (.tmp (d:=(.val (.int .i64 (((0:Nat):Int))))) rfl .nil)),?_⟩
      rw[nV_5 hop];rfl
     ·replace h5:=ne_of_beq_false h5
      refine jB<|kx [(41,(vb (x.op == 6)))] [] (zE xR<|zM<|zZ) ?_
      refine jG (b:=(x.op == 6)) rfl (fun h6=>?_) (fun h6=>?_)
      ·replace h6:=eq_of_beq h6
       have hk1:xG x.op=1:=by rw[h6];rfl
       have hop:=h6
       obtain ⟨a1,a2⟩:=hS.a (by omega)
       have hy2:=hy (by omega)
       have hu:=hLk _ (vA (d:=jz) a2)
       have hul:(jA L x.a).g.length=bv.length:=hu.2.2
       refine jB<|kx [(9,(jS 0))] [(3,some (bx (jF (jY (gneg ((jA L x.a).v))))))] (zR (oQr (jF y) (jF (jY ((jA L x.a).v))) (kJ jP) (by exact (congrArg jF hy2)))<|zE (jV (u_neg ((jA L x.a).v) (kW hu.1)))<|zT (qA jP)<|zM<|zZ) ?_
       refine jE ⟨_,(kI (cs:=(bx (jF (jY (gneg ((jA L x.a).v)))))) (d:=(jF (jY (gneg ((jA L x.a).v))))) rfl rfl jP rfl rfl (.tmp (d:=(.val (.int .i64 (0)))) rfl .nil)),?_⟩
       rw[nV_6 hop];rfl
      ·replace h6:=ne_of_beq_false h6
       refine jB<|kx [(45,(vb (x.op == 7)))] [] (zE xR<|zM<|zZ) ?_
       refine jG (b:=(x.op == 7)) rfl (fun h7=>?_) (fun h7=>?_)
       ·replace h7:=eq_of_beq h7
        have hk1:xG x.op=1:=by rw[h7];rfl
        have hop:=h7
        obtain ⟨a1,a2⟩:=hS.a (by omega)
        have hy2:=hy (by omega)
        have hu:=hLk _ (vA (d:=jz) a2)
        have hul:(jA L x.a).g.length=bv.length:=hu.2.2
        refine jB<|kx [(9,(jS 0))] [(3,some (bx (jF (jY (gsq ((jA L x.a).v))))))] (zR (oQr (jF y) (jF (jY ((jA L x.a).v))) (kJ jP) (by exact (congrArg jF hy2)))<|zE (jV (u_sq ((jA L x.a).v) (kW hu.1)))<|zT (qA jP)<|zM<|zZ) ?_
        refine jE ⟨_,(kI (cs:=(bx (jF (jY (gsq ((jA L x.a).v)))))) (d:=(jF (jY (gsq ((jA L x.a).v))))) rfl rfl jP rfl rfl (.tmp (d:=(.val (.int .i64 (0)))) rfl .nil)),?_⟩
        rw[nV_7 hop];rfl
       ·replace h7:=ne_of_beq_false h7
        have hop:x.op=0:=by have:=hn.op;omega
        have hc9:=hn.con hop
        refine jC<|jB<|kx [(9,(jS 0))] [(3,some (bx (jF (jL.mk (jN (qS x.n)) (jN (qS x.n))))))] (zE (kV dP)<|zR (oQr (jJ x.n) (jJ (jN (qS x.n))) (kJ jQ) (by exact (congrArg jJ hc9.1)))<|zE (jV (h_point (qS x.n) (qG hc9.2)))<|zT (qA jP)<|zM<|zZ) ?_
        refine jE ⟨_,(kI (cs:=(bx (jF (jL.mk (jN (qS x.n)) (jN (qS x.n)))))) (d:=(jF (jL.mk (jN (qS x.n)) (jN (qS x.n))))) rfl rfl jP rfl rfl (.tmp (d:=(.val (.int .i64 (0)))) rfl .nil)),?_⟩
        rw[nV_0 hop];rfl
theorem u_vF(a:Nat)(b:Nat)(u:R2)(hu:GL 1048576 u)(v:R2)(hv:GL 1048576 v)(b_:jZ)(hz:xH v.1 v.2=true):jO Tryz.prog 110 [(kS (qB.mk 5 ((a:Nat):Int) ((b:Nat):Int) kH)),(jF (jY u)),(jF (jY v)),(b_)] (.tup [(jF (jL.mk kH kH)),(.val (.int .i64 (((14:Nat):Int))))]):=by
 let y2:=kH
 let y1:=(bx (jF (jL.mk y2 y2)))
 refine qY Tryz.func110 ?_
 refine jB<|kx [(4,(.ref 0 0)),(5,(.ref 1 0)),(6,(.ref 2 0)),(8,(.ref 3 0))] [(0,some (bx (kS (qB.mk 5 ((a:Nat):Int) ((b:Nat):Int) y2)))),(1,some (bx (jF (jY u)))),(2,some (bx (jF (jY v)))),(3,some y1)] (zN (uU 0)<|zN (uU 1)<|zN (uU 2)<|zN (qR 3 qJ qL)<|zM<|zZ) ?_
 refine jB<|jB<|kx [(11,(vi 5))] [] (zE (kV gB)<|zR (uE fM)<|zZ) ?_
 refine jH<|jB<|kx [(12,(vb false))] [] (zE (uP false xR)<|zM<|zZ) ?_
 refine kM ?_
 refine jB<|kx [(19,(vb false))] [] (zE (uP false xR)<|zM<|zZ) ?_
 refine kM ?_
 refine jB<|kx [(24,(vb false))] [] (zE (uP false xR)<|zM<|zZ) ?_
 refine kM ?_
 refine jB<|kx [(29,(vb false))] [] (zE (uP false xR)<|zM<|zZ) ?_
 refine kM ?_
 refine jB<|kx [(34,(vb true))] [] (zE (uP true xR)<|zM<|zZ) ?_
 refine uI ?_
 refine jB<|kx [(9,(vi 14))] [(3,some y1)] (zR (kJ jP)<|zR (kJ jP)<|zE (jV (h_divideZ u.1 u.2 (qG hu.1) (qG hu.2.1) hu.2.2 v.1 v.2 (qG hv.1) (qG hv.2.1) hv.2.2 hz))<|zE uX<|zE uX<|zT (qA jP)<|zM<|zZ) ?_
 refine jE ⟨_,(kI (cs:=y1) (d:=(jF (jL.mk y2 y2))) rfl rfl jP rfl rfl (.tmp (d:=(.val (.int .i64 (14)))) rfl .nil)),?_⟩
 rfl
theorem u_x(x:qB)(y:vX)(z:vX)(w:jL)(i:Nat)(bv:List R2)(L:List JV)(hn:aA bv.length L x)(hLk:∀ e9∈L,nZ 1048576 bv.length e9)(hJ:nZ 1048576 bv.length (nJ bv L x))(hi:i<bv.length)(hy:1<=xG x.op->y=qW (jA L x.a))(hz:xG x.op=2->z=qW (jA L x.b))(hw:w=jY (nV bv L x)):jO Tryz.prog 112 [(kS x),(jI y),(jI z),(jF w),(.val (.int .i64 (((i:Nat):Int))))] (jF (jY (nG bv L x i))):=by
 have hS:StOk bv.length L x:=.inl hn
 let y3:=(List.map jF (List.map jY ((jA L x.a).g)))
 let y2:=(jF (jY (vJ (qP ((jA L x.a).v) (((jA L x.b).g).getD i z2)) (qP ((jA L x.b).v) (((jA L x.a).g).getD i z2)))))
 let y1:=(bx (jF (jY (mN (uR (((jA L x.a).g).getD i z2) (qP (nV bv L x) (((jA L x.b).g).getD i z2))) ((jA L x.b).v)))))
 refine qY Tryz.func112 ?_
 refine jB<|kx [(5,(.ref 0 0)),(6,(.ref 1 0)),(7,(.ref 2 0)),(8,(.ref 3 0)),(10,(.ref 4 0))] [(0,some (bx (kS x))),(1,some (bx (jI y))),(2,some (bx (jI z))),(3,some (bx (jF w))),(4,some (bx (jF (jL.mk kH kH))))] (zN (uU 0)<|zN (uU 1)<|zN (uU 2)<|zN (uU 3)<|zN (qR 4 qJ qL)<|zZ) ?_
 refine jB<|jB<|kx [(14,(vi x.op))] [] (zE (kV gB)<|zR (uE fM)<|zZ) ?_
 refine jH<|jB<|kx [(15,(vb (x.op == 1)))] [] (zE xR<|zM<|zZ) ?_
 refine jG (b:=(x.op == 1)) rfl (fun h1=>?_) (fun h1=>?_)
 ·replace h1:=eq_of_beq h1
  have hop:=h1
  refine jB<|kx [(20,(vb (((i:Nat):Int) == x.a)))] [] (zM<|zE (kV gS)<|zR (uE cL)<|zE xR<|zZ) ?_
  refine jG (b:=(((i:Nat):Int) == x.a)) rfl (fun h2=>?_) (fun h2=>?_)
  ·replace h2:=eq_of_beq h2
   refine jB<|kx [] [(4,some (bx (jF (jY (gw 1)))))] (zE (jV u_one)<|zT (qA jP)<|zZ) ?_
   refine jE ⟨_,(kI (cs:=(bx (jF (jY (gw 1))))) (d:=(jF (jY (gw 1)))) rfl rfl jP rfl rfl .nil),?_⟩
   rw[nG_1 hop,if_pos h2];rfl
  ·replace h2:=ne_of_beq_false h2
   refine jC<|jB<|kx [] [(4,some (bx (jF (jY (gw 0)))))] (zE (jV u_none)<|zT (qA jP)<|zZ) ?_
   refine jE ⟨_,(kI (cs:=(bx (jF (jY (gw 0))))) (d:=(jF (jY (gw 0)))) rfl rfl jP rfl rfl .nil),?_⟩
   rw[nG_1 hop,if_neg h2];rfl
 ·replace h1:=ne_of_beq_false h1
  refine jB<|kx [(22,(vb (x.op == 2)))] [] (zE xR<|zM<|zZ) ?_
  refine jG (b:=(x.op == 2)) rfl (fun h3=>?_) (fun h3=>?_)
  ·replace h3:=eq_of_beq h3
   have hk2:xG x.op=2:=by rw[h3];rfl
   have hop:=h3
   obtain ⟨a1,a2⟩:=hS.a (by omega)
   obtain ⟨b1,b2⟩:=hS.b hk2
   have hy2:=hy (by omega)
   have hz2:=hz hk2
   have hu:=hLk _ (vA (d:=jz) a2)
   have hv:=hLk _ (vA (d:=jz) b2)
   have hul:(jA L x.a).g.length=bv.length:=hu.2.2
   have hvl:(jA L x.b).g.length=bv.length:=hv.2.2
   refine jB<|kd [] [(4,some (bx (jF (jY (vJ (((jA L x.a).g).getD i z2) (((jA L x.b).g).getD i z2))))))] mo (wE (kV xO)<|wR (oQr (.sl 61 8 (List.map jF y.grad)) (.sl 61 8 y3) (uE cB) (by exact (by rw[hy2];rfl)))<|wM<|wE (bC uA jY i z2)<|wE (yJ jP)<|wE (kV xO)<|wR (oQr (.sl 61 8 (List.map jF z.grad)) (.sl 61 8 (List.map jF (List.map jY ((jA L x.b).g)))) (uE cB) (by exact (by rw[hz2];rfl)))<|wM<|wE (bC uA jY i z2)<|wE (yJ jP)<|wE (jV (u_add (((jA L x.a).g).getD i z2) (kW (kZ hu.2.1 (by decide) i)) (((jA L x.b).g).getD i z2) (kW (kZ hv.2.1 (by decide) i))))<|wT (qA jP)<|wZ) ?_
   refine jE ⟨_,(kI (cs:=(bx (jF (jY (vJ (((jA L x.a).g).getD i z2) (((jA L x.b).g).getD i z2)))))) (d:=(jF (jY (vJ (((jA L x.a).g).getD i z2) (((jA L x.b).g).getD i z2))))) rfl rfl jP rfl rfl .nil),?_⟩
   rw[nG_2 hop];rfl
  ·replace h3:=ne_of_beq_false h3
   refine jB<|kx [(35,(vb (x.op == 3)))] [] (zE xR<|zM<|zZ) ?_
   refine jG (b:=(x.op == 3)) rfl (fun h4=>?_) (fun h4=>?_)
   ·replace h4:=eq_of_beq h4
    have hk2:xG x.op=2:=by rw[h4];rfl
    have hop:=h4
    obtain ⟨a1,a2⟩:=hS.a (by omega)
    obtain ⟨b1,b2⟩:=hS.b hk2
    have hy2:=hy (by omega)
    have hz2:=hz hk2
    have hu:=hLk _ (vA (d:=jz) a2)
    have hv:=hLk _ (vA (d:=jz) b2)
    have hul:(jA L x.a).g.length=bv.length:=hu.2.2
    have hvl:(jA L x.b).g.length=bv.length:=hv.2.2
    refine jB<|kd [] [(4,some (bx (jF (jY (uR (((jA L x.a).g).getD i z2) (((jA L x.b).g).getD i z2))))))] mo (wE (kV xO)<|wR (oQr (.sl 61 8 (List.map jF y.grad)) (.sl 61 8 y3) (uE cB) (by exact (by rw[hy2];rfl)))<|wM<|wE (bC uA jY i z2)<|wE (yJ jP)<|wE (kV xO)<|wR (oQr (.sl 61 8 (List.map jF z.grad)) (.sl 61 8 (List.map jF (List.map jY ((jA L x.b).g)))) (uE cB) (by exact (by rw[hz2];rfl)))<|wM<|wE (bC uA jY i z2)<|wE (yJ jP)<|wE (jV (u_sub (((jA L x.a).g).getD i z2) (kW (kZ hu.2.1 (by decide) i)) (((jA L x.b).g).getD i z2) (kW (kZ hv.2.1 (by decide) i))))<|wT (qA jP)<|wZ) ?_
    refine jE ⟨_,(kI (cs:=(bx (jF (jY (uR (((jA L x.a).g).getD i z2) (((jA L x.b).g).getD i z2)))))) (d:=(jF (jY (uR (((jA L x.a).g).getD i z2) (((jA L x.b).g).getD i z2))))) rfl rfl jP rfl rfl .nil),?_⟩
    rw[nG_3 hop];rfl
   ·replace h4:=ne_of_beq_false h4
    refine jB<|kx [(48,(vb (x.op == 6)))] [] (zE xR<|zM<|zZ) ?_
    refine jG (b:=(x.op == 6)) rfl (fun h5=>?_) (fun h5=>?_)
    ·replace h5:=eq_of_beq h5
     have hk1:xG x.op=1:=by rw[h5];rfl
     have hop:=h5
     obtain ⟨a1,a2⟩:=hS.a (by omega)
     have hy2:=hy (by omega)
     have hu:=hLk _ (vA (d:=jz) a2)
     have hul:(jA L x.a).g.length=bv.length:=hu.2.2
     refine jB<|kx [] [(4,some (bx (jF (jY (gneg (((jA L x.a).g).getD i z2))))))] (zE (kV xO)<|zR (oQr (.sl 61 8 (List.map jF y.grad)) (.sl 61 8 y3) (uE cB) (by exact (by rw[hy2];rfl)))<|zM<|zE (bC uA jY i z2)<|zE (yJ jP)<|zE (jV (u_neg (((jA L x.a).g).getD i z2) (kW (kZ hu.2.1 (by decide) i))))<|zT (qA jP)<|zZ) ?_
     refine jE ⟨_,(kI (cs:=(bx (jF (jY (gneg (((jA L x.a).g).getD i z2)))))) (d:=(jF (jY (gneg (((jA L x.a).g).getD i z2))))) rfl rfl jP rfl rfl .nil),?_⟩
     rw[nG_6 hop];rfl
    ·replace h5:=ne_of_beq_false h5
     refine jB<|kx [(56,(vb (x.op == 4)))] [] (zE xR<|zM<|zZ) ?_
     refine jG (b:=(x.op == 4)) rfl (fun h6=>?_) (fun h6=>?_)
     ·replace h6:=eq_of_beq h6
      have hk2:xG x.op=2:=by rw[h6];rfl
      have hop:=h6
      obtain ⟨a1,a2⟩:=hS.a (by omega)
      obtain ⟨b1,b2⟩:=hS.b hk2
      have hy2:=hy (by omega)
      have hz2:=hz hk2
      have hu:=hLk _ (vA (d:=jz) a2)
      have hv:=hLk _ (vA (d:=jz) b2)
      have hul:(jA L x.a).g.length=bv.length:=hu.2.2
      have hvl:(jA L x.b).g.length=bv.length:=hv.2.2
      refine jB<|kd [] [(4,some (bx y2))] mo (wE (kV zJ)<|wR (oQr (jF y.value) (jF (jY ((jA L x.a).v))) (kJ jP) (by exact (by rw[hy2];rfl)))<|wE (kV xO)<|wR (oQr (.sl 61 8 (List.map jF z.grad)) (.sl 61 8 (List.map jF (List.map jY ((jA L x.b).g)))) (uE cB) (by exact (by rw[hz2];rfl)))<|wM<|wE (bC uA jY i z2)<|wE (yJ jP)<|wE (kV zJ)<|wR (oQr (jF z.value) (jF (jY ((jA L x.b).v))) (kJ jP) (by exact (by rw[hz2];rfl)))<|wE (kV xO)<|wR (oQr (.sl 61 8 (List.map jF y.grad)) (.sl 61 8 y3) (uE cB) (by exact (by rw[hy2];rfl)))<|wM<|wE (bC uA jY i z2)<|wE (yJ jP)<|wE (eE uA qJ qL)<|wE (jV (u_pair ((jA L x.a).v) (((jA L x.b).g).getD i z2) ((jA L x.b).v) (((jA L x.a).g).getD i z2) (kW hu.1) (kW (kZ hv.2.1 (by decide) i)) (kW hv.1) (kW (kZ hu.2.1 (by decide) i))))<|wT (qA jP)<|wZ) ?_
      refine jE ⟨_,(kI (cs:=(bx y2)) (d:=y2) rfl rfl jP rfl rfl .nil),?_⟩
      rw[nG_4 hop];rfl
     ·replace h6:=ne_of_beq_false h6
      refine jB<|kx [(74,(vb (x.op == 7)))] [] (zE xR<|zM<|zZ) ?_
      refine jG (b:=(x.op == 7)) rfl (fun h7=>?_) (fun h7=>?_)
      ·replace h7:=eq_of_beq h7
       have hk1:xG x.op=1:=by rw[h7];rfl
       have hop:=h7
       obtain ⟨a1,a2⟩:=hS.a (by omega)
       have hy2:=hy (by omega)
       have hu:=hLk _ (vA (d:=jz) a2)
       have hul:(jA L x.a).g.length=bv.length:=hu.2.2
       refine jB<|kd [] [(4,some (bx (jF (jY (qP (gw 2) (qP ((jA L x.a).v) (((jA L x.a).g).getD i z2)))))))] mo (wE (kV zJ)<|wR (oQr (jF y.value) (jF (jY ((jA L x.a).v))) (kJ jP) (by exact (by rw[hy2];rfl)))<|wE (kV xO)<|wR (oQr (.sl 61 8 (List.map jF y.grad)) (.sl 61 8 y3) (uE cB) (by exact (by rw[hy2];rfl)))<|wM<|wE (bC uA jY i z2)<|wE (yJ jP)<|wE (jV (u_mul ((jA L x.a).v) (kW hu.1) (((jA L x.a).g).getD i z2) (kW (kZ hu.2.1 (by decide) i))))<|wE (jV (u_twice (qP ((jA L x.a).v) (((jA L x.a).g).getD i z2)) (kW (xJ (k:=2097152) hu.1 (kZ hu.2.1 (by decide) i)))))<|wT (qA jP)<|wZ) ?_
       refine jE ⟨_,(kI (cs:=(bx (jF (jY (qP (gw 2) (qP ((jA L x.a).v) (((jA L x.a).g).getD i z2))))))) (d:=(jF (jY (qP (gw 2) (qP ((jA L x.a).v) (((jA L x.a).g).getD i z2)))))) rfl rfl jP rfl rfl .nil),?_⟩
       rw[nG_7 hop];rfl
      ·replace h7:=ne_of_beq_false h7
       refine jB<|kx [(85,(vb (x.op == 5)))] [] (zE xR<|zM<|zZ) ?_
       refine jG (b:=(x.op == 5)) rfl (fun h8=>?_) (fun h8=>?_)
       ·replace h8:=eq_of_beq h8
        have hk2:xG x.op=2:=by rw[h8];rfl
        have hop:=h8
        obtain ⟨a1,a2⟩:=hS.a (by omega)
        obtain ⟨b1,b2⟩:=hS.b hk2
        have hy2:=hy (by omega)
        have hz2:=hz hk2
        have hu:=hLk _ (vA (d:=jz) a2)
        have hv:=hLk _ (vA (d:=jz) b2)
        have hul:(jA L x.a).g.length=bv.length:=hu.2.2
        have hvl:(jA L x.b).g.length=bv.length:=hv.2.2
        refine jB<|kd [(11,(.ref 5 0))] [(5,some y1)] mo (wE (kV xO)<|wR (oQr (.sl 61 8 (List.map jF y.grad)) (.sl 61 8 y3) (uE cB) (by exact (by rw[hy2];rfl)))<|wM<|wE (bC uA jY i z2)<|wE (yJ jP)<|wR (oQr (jF w) (jF (jY (nV bv L x))) (kJ jP) (by exact (congrArg jF hw)))<|wE (kV xO)<|wR (oQr (.sl 61 8 (List.map jF z.grad)) (.sl 61 8 (List.map jF (List.map jY ((jA L x.b).g)))) (uE cB) (by exact (by rw[hz2];rfl)))<|wM<|wE (bC uA jY i z2)<|wE (yJ jP)<|wE (jV (u_mul (nV bv L x) (kW hJ.1) (((jA L x.b).g).getD i z2) (kW (kZ hv.2.1 (by decide) i))))<|wE (jV (u_sub (((jA L x.a).g).getD i z2) (kW (kZ hu.2.1 (by decide) i)) (qP (nV bv L x) (((jA L x.b).g).getD i z2)) (kW (xJ (k:=2097152) hJ.1 (kZ hv.2.1 (by decide) i)))))<|wE (kV zJ)<|wR (oQr (jF z.value) (jF (jY ((jA L x.b).v))) (kJ jP) (by exact (by rw[hz2];rfl)))<|wE (jV (u_div (uR (((jA L x.a).g).getD i z2) (qP (nV bv L x) (((jA L x.b).g).getD i z2))) (kW (aY (k:=3145729) (kZ hu.2.1 (by decide) i) (xJ (k:=2097152) hJ.1 (kZ hv.2.1 (by decide) i)))) ((jA L x.b).v) (kW hv.1) (hn.zf hop)))<|wM<|wE uX<|wE uX<|wN (qR 5 qJ qL)<|wT (qA jP)<|wM<|wZ) ?_
        refine jB<|kx [] [(4,some y1)] (zR (kJ jP)<|zT (qA jP)<|zZ) ?_
        refine jE ⟨_,(kI (cs:=y1) (d:=(jF (jY (mN (uR (((jA L x.a).g).getD i z2) (qP (nV bv L x) (((jA L x.b).g).getD i z2))) ((jA L x.b).v))))) rfl rfl jP rfl rfl .nil),?_⟩
        rw[nG_5 hop];rfl
       ·replace h8:=ne_of_beq_false h8
        have hop:x.op=0:=by have:=hn.op;omega
        have hc9:=hn.con hop
        refine jC<|jB<|kx [] [(4,some (bx (jF (jY (gw 0)))))] (zE (jV u_none)<|zT (qA jP)<|zZ) ?_
        refine jE ⟨_,(kI (cs:=(bx (jF (jY (gw 0))))) (d:=(jF (jY (gw 0)))) rfl rfl jP rfl rfl .nil),?_⟩
        rw[nG_0 hop];rfl
theorem pl83:eW Tryz.prog 83=some [(0,1),(1,1),(2,1),(3,4)]:=by kernel_rfl
end Go.Proofs.YtnajallgoaiahaaGreatDoor
namespace Go.Fid
def vV(xs L:List Rat)(x:qB):Rat :=
 if x.op=1 then xs.getD x.a.toNat 0
 else if x.op=2 then L.getD x.a.toNat 0+L.getD x.b.toNat 0
 else if x.op=3 then L.getD x.a.toNat 0-L.getD x.b.toNat 0
 else if x.op=4 then L.getD x.a.toNat 0*L.getD x.b.toNat 0
 else if x.op=6 then -(L.getD x.a.toNat 0)
 else if x.op=7 then L.getD x.a.toNat 0*L.getD x.a.toNat 0
 else if x.op=5 then L.getD x.a.toNat 0 / L.getD x.b.toNat 0
 else qS x.n
def vU(xs:List Rat)(t:List qB):Nat->List Rat
 |0=>[]
 |k+1=>vU xs t k++[vV xs (vU xs t k) (t.getD k tz)]
theorem vU_len(xs:List Rat)(t:List qB):∀ k,(vU xs t k).length=k
 |0=>rfl
 |k+1=>by rw[vU,List.length_append,vU_len xs t k];rfl
structure VUp (xs:List Rat) (t:List qB) (k:Nat):Prop where
 ok:∀ i,i<k->QL (vV xs (vU xs t i) (t.getD i tz)) 1048576
 dz:∀ i,i<k->(t.getD i tz).op=5->(vU xs t i).getD (t.getD i tz).b.toNat 0≠0
structure VRun (xs:List Rat) (t:List qB):Prop where
 c0:gK ((xs.length:Nat):Int) t=0
 up:VUp xs t t.length
structure VFail (xs:List Rat) (t:List qB) (k:Nat):Prop where
 c0:gK ((xs.length:Nat):Int) t=0
 hk:k<t.length
 up:VUp xs t k
 op:(t.getD k tz).op=5
 z:(vU xs t k).getD (t.getD k tz).b.toNat 0=0
theorem VUp.le{xs:List Rat}{t:List qB}{k j:Nat}(h:VUp xs t k)(hj:j<=k):VUp xs t j:=⟨fun i hi=>h.ok i (by omega),fun i hi=>h.dz i (by omega)⟩
theorem VUp.all{xs:List Rat}{t:List qB}:∀ {k},VUp xs t k->∀ q∈vU xs t k,QL q 1048576
 |0,_,q,hq=>by simp [vU] at hq
 |k+1,h,q,hq=>by
  rw[vU,List.mem_append] at hq
  rcases hq with hq | hq
  ·exact (h.le (Nat.le_succ k)).all q hq
  ·rw[List.mem_singleton] at hq;subst hq
   exact h.ok k (by omega)
def lastV(xs:List Rat)(t:List qB):Rat:=(vU xs t t.length).getD (t.length-1) 0
theorem qlg{l:List Rat}{n:Nat}(h:∀ q∈l,QL q n)(h1:1<=n)(j:Nat):QL (l.getD j 0) n:=by
 rcases Nat.lt_or_ge j l.length with hj | hj
 ·rw[List.getD_eq_getElem?_getD,List.getElem?_eq_getElem hj];exact h _ (List.getElem_mem _)
 ·rw[List.getD_eq_getElem?_getD,List.getElem?_eq_none (by omega)];exact qG mX h1
theorem VRun.last{xs:List Rat}{t:List qB}(h:VRun xs t):QL (lastV xs t) 1048576:=qlg h.up.all (by decide) _
def szs(t:List qB):List Int:=cW t t.length
def evs(xs:List Rat)(t:List qB):List Rat:=vU xs t t.length
theorem szU_app(t:List qB)(x:qB):∀ k,k<=t.length->cW (t++[x]) k=cW t k
 |0,_=>rfl
 |k+1,h=>by
  rw[cW,cW,szU_app t x k (by omega)]
  rw[show (t++[x]).getD k tz=t.getD k tz by rw[List.getD_eq_getElem?_getD,List.getElem?_append_left (by omega),<- List.getD_eq_getElem?_getD]]
theorem vU_app(xs:List Rat)(t:List qB)(x:qB):∀ k,k<=t.length->vU xs (t++[x]) k=vU xs t k
 |0,_=>rfl
 |k+1,h=>by
  rw[vU,vU,vU_app xs t x k (by omega)]
  rw[show (t++[x]).getD k tz=t.getD k tz by rw[List.getD_eq_getElem?_getD,List.getElem?_append_left (by omega),<- List.getD_eq_getElem?_getD]]
theorem snoc_get(t:List qB)(x:qB):(t++[x]).getD t.length tz=x:=by
 rw[List.getD_eq_getElem?_getD,List.getElem?_append_right (Nat.le_refl _),Nat.sub_self];rfl
theorem snoc_old(t:List qB)(x:qB){k:Nat}(h:k<t.length):(t++[x]).getD k tz=t.getD k tz:=by
 rw[List.getD_eq_getElem?_getD,List.getElem?_append_left h,<- List.getD_eq_getElem?_getD]
theorem szs_snoc(t:List qB)(x:qB):szs (t++[x])=szs t++[szN (szs t) x]:=by
 unfold szs
 rw[List.length_append,List.length_singleton,cW,szU_app t x _ (Nat.le_refl _),snoc_get]
theorem evs_snoc(xs:List Rat)(t:List qB)(x:qB):evs xs (t++[x])=evs xs t++[vV xs (evs xs t) x]:=by
 unfold evs
 rw[List.length_append,List.length_singleton,vU,vU_app xs t x _ (Nat.le_refl _),snoc_get]
theorem szs_len(t:List qB):(szs t).length=t.length:=gY _ _
theorem evs_len(xs:List Rat)(t:List qB):(evs xs t).length=t.length:=vU_len _ _ _
structure GT (xs:List Rat) (z:Int) (t:List qB):Prop where
 nd:lT z t t.length
 up:VUp xs t t.length
theorem GT.nil(xs:List Rat)(z:Int):GT xs z []:=⟨fun i h=>absurd h (Nat.not_lt_zero i),⟨fun i h=>absurd h (Nat.not_lt_zero i),fun i h=>absurd h (Nat.not_lt_zero i)⟩⟩
theorem nd_snoc{z:Int}{t:List qB}{x:qB}(h:lT z t t.length)(hn:ndC z (szs t) x=0):lT z (t++[x]) (t++[x]).length:=fun i hi=>by
 rw[List.length_append,List.length_singleton] at hi
 rw[szU_app t x i (by omega)]
 rcases Nat.lt_or_ge i t.length with h1 | h1
 ·rw[snoc_old t x h1];exact h i h1
 ·obtain rfl:i=t.length:=by omega
  rw[snoc_get];exact hn
theorem up_snoc{xs:List Rat}{t:List qB}{x:qB}(h:VUp xs t t.length):VUp xs (t++[x]) t.length:=⟨fun i hi=>by
  rw[vU_app xs t x i (by omega),snoc_old t x hi];exact h.ok i hi,fun i hi=>by
  rw[vU_app xs t x i (by omega),snoc_old t x hi];exact h.dz i hi⟩
theorem GT.snoc{xs:List Rat}{z:Int}{t:List qB}{x:qB}(h:GT xs z t)(hn:ndC z (szs t) x=0)(hq:QL (vV xs (evs xs t) x) 1048576)(hz:x.op=5->(evs xs t).getD x.b.toNat 0≠0):GT xs z (t++[x]) :=
 ⟨nd_snoc h.nd hn,⟨fun i hi=>by
  rw[List.length_append,List.length_singleton] at hi
  rcases Nat.lt_or_ge i t.length with h1 | h1
  ·exact (up_snoc h.up).ok i h1
  ·obtain rfl:i=t.length:=by omega
   rw[snoc_get,vU_app xs t x _ (Nat.le_refl _)];exact hq,fun i hi=>by
  rw[List.length_append,List.length_singleton] at hi
  rcases Nat.lt_or_ge i t.length with h1 | h1
  ·exact (up_snoc h.up).dz i h1
  ·obtain rfl:i=t.length:=by omega
   rw[snoc_get,vU_app xs t x _ (Nat.le_refl _)];exact hz⟩⟩
structure NdV (xs:List Rat) (t:List qB) (i:Int) (v:Rat) (s:Int) (n:Nat):Prop where
 lo:0<=i
 hi:i<t.length
 vl:(evs xs t).getD i.toNat 0=v
 s1:1<=(szs t).getD i.toNat 0
 sb:(szs t).getD i.toNat 0<=s
 qb:QL v n
theorem NdV.snoc{xs:List Rat}{t:List qB}{i:Int}{v:Rat}{s:Int}{n:Nat}(h:NdV xs t i v s n)(x:qB):NdV xs (t++[x]) i v s n:=by
 have h1:=h.lo;have h2:=h.hi
 refine ⟨h1,by rw[List.length_append];omega,?_,?_,?_,h.qb⟩
 ·rw[evs_snoc,List.getD_eq_getElem?_getD,List.getElem?_append_left (by rw[evs_len];omega),<- List.getD_eq_getElem?_getD];exact h.vl
 ·rw[szs_snoc,List.getD_eq_getElem?_getD,List.getElem?_append_left (by rw[szs_len];omega),<- List.getD_eq_getElem?_getD];exact h.s1
 ·rw[szs_snoc,List.getD_eq_getElem?_getD,List.getElem?_append_left (by rw[szs_len];omega),<- List.getD_eq_getElem?_getD];exact h.sb
theorem NdV.up{xs:List Rat}{t:List qB}{i:Int}{v:Rat}{s s':Int}{n n':Nat}(h:NdV xs t i v s n)(hs:s<=s')(hn:n<=n'):NdV xs t i v s' n':=⟨h.lo,h.hi,h.vl,h.s1,Int.le_trans h.sb hs,qG h.qb hn⟩
abbrev tn1 (o a b:Int):qB:=⟨o,a,b,zr⟩
def opT(o:Int)(L:List qB)(a b:Nat->Int):Nat->List qB
 |0=>L
 |i+1=>opT o L a b i++[tn1 o (a i) (b i)]
def opI(m n:Nat):List Int:=(List.range n).map fun i=>((m+i:Nat):Int)
def smI(m:Nat)(f:Int)(i:Nat):Int:=if i=0 then f else ((m+i-1:Nat):Int)
def smT(L:List qB)(f:Int)(r:List Int)(n:Nat):List qB:=opT 2 L (smI L.length f) (fun i=>r.getD i 0) n
def sqT(L:List qB)(l:List Int):List qB:=opT 7 L (fun i=>l.getD i 0) (fun _=>0) l.length
def pdT(L:List qB)(a b:List Int):List qB:=opT 4 L (fun i=>a.getD i 0) (fun i=>b.getD i 0) a.length
def ssT(L:List qB)(l:List Int):List qB:=smT (sqT L l) ((opI L.length l.length).getD 0 0) ((opI L.length l.length).drop 1) (l.length-1)
def spT(L:List qB)(a b:List Int):List qB:=smT (pdT L a b) ((opI L.length a.length).getD 0 0) ((opI L.length a.length).drop 1) (a.length-1)
theorem NdV.op{xs:List Rat}{t:List qB}{j:Int}{v:Rat}{s:Int}{n:Nat}(h:NdV xs t j v s n)(o:Int)(a b:Nat->Int):∀ i,NdV xs (opT o t a b i) j v s n
 |0=>h
 |i+1=>(h.op o a b i).snoc _
theorem NdV.ss{xs:List Rat}{t:List qB}{j:Int}{v:Rat}{s:Int}{n:Nat}(h:NdV xs t j v s n)(l:List Int):NdV xs (ssT t l) j v s n:=(h.op _ _ _ _).op _ _ _ _
theorem NdV.sp{xs:List Rat}{t:List qB}{j:Int}{v:Rat}{s:Int}{n:Nat}(h:NdV xs t j v s n)(a b:List Int):NdV xs (spT t a b) j v s n:=(h.op _ _ _ _).op _ _ _ _
theorem GT.c0{xs:List Rat}{z:Int}{t:List qB}(h:GT xs z t)(hz:0<=z/\z<=64)(h1:t.length≠0)(h4:t.length<=400):gK z t=0:=(tm_yes (by omega) h1 (by omega) h.nd).1
theorem GT.run{xs:List Rat}{t:List qB}(h:GT xs ((xs.length:Nat):Int) t)(hz:xs.length<=64)(h1:t.length≠0)(h4:t.length<=400):VRun xs t:=⟨h.c0 (by omega) h1 h4,h.up⟩
def okL(z:Int)(n:Nat)(a:List Int):Prop:=a.length=n/\∀ j,j<n->0<=a.getD j 0/\a.getD j 0<z
def crK(k:Int):Bool:=decide (k<0)||decide (64<=k)
theorem crK_of{a:List Int}(h:a.any crK=false){j:Nat}(hj:j<a.length):0<=a.getD j 0/\a.getD j 0<64:=by
 have:=List.any_eq_false.1 h (a.getD j 0) (by rw[List.getD_eq_getElem?_getD,List.getElem?_eq_getElem hj];exact List.getElem_mem _)
 unfold crK at this
 rw[Bool.not_eq_true,Bool.or_eq_false_iff,decide_eq_false_iff_not,decide_eq_false_iff_not] at this
 omega
structure CrOk (ls:List (List Int)) (n:Nat):Prop where
 n1:1<=n
 n3:n<=3
 all:∀ a∈ls,a.length=n/\a.any crK=false
theorem CrOk.le{ls:List (List Int)}{n:Nat}(h:CrOk ls n){a:List Int}(ha:a∈ls){z:Int}(hb:∀ k∈a,¬ (8<k/\k<64))(hz:z=9):okL z n a:=by
 obtain ⟨h1,h2⟩:=h.all a ha
 refine ⟨h1,fun j hj=>?_⟩
 have:=crK_of h2 (j:=j) (by omega)
 have:=hb (a.getD j 0) (by rw[List.getD_eq_getElem?_getD,List.getElem?_eq_getElem (by omega)];exact List.getElem_mem _)
 omega
end Go.Fid
namespace Go.Proofs.YtnajallgoaiahaaGreatDoor
open Go.Fid
end Go.Proofs.YtnajallgoaiahaaGreatDoor
