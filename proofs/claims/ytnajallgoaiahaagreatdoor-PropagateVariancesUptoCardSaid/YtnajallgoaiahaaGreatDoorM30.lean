/- Part 30 of a proof: rules, plain facts, and functions walked. -/
import Derived.Test.YtnajallgoaiahaaGreatDoorM29
import Derived.Test.YtnajallgoaiahaaGreatDoorM27
import Derived.Test.YtnajallgoaiahaaGreatDoorM19
import Derived.Test.YtnajallgoaiahaaGreatDoorM22
set_option linter.all false
set_option maxRecDepth 4000
namespace Go.Proofs.YtnajallgoaiahaaGreatDoor
open Go.Fid
theorem j_jetsF0(t:List kV)(ht:vR 1048576 t)(bv:List R2)(hbx:∀ x∈bv,GL 1048576 x)(k0:Nat)(hr:JFailP bv t k0):jR Tryz.prog 67 [(.sl 83 7 (List.map kM t)),(.sl 61 8 (List.map jF (List.map kC bv))),(.val (.int .i64 (((1:Nat):Int)))),(.val (.int .i64 (-1)))] (.tup [(jL (xL.mk (jV.mk kZ kZ) [] [])),(.val (.int .i64 (((14:Nat):Int))))]):=by
 have h0:=tm_0 hr.c0
 have hlt:=hr.lt
 let y3:=(jV.mk kZ kZ)
 let y2:=(bx (jL (xL.mk y3 [] [])))
 let y1:=(bx (.agg [(.val (.int .i64 (((bv.length:Nat):Int)))),(.val (.int .i64 (((1:Nat):Int)))),(.val (.int .i64 (-1))),(.val (.slice none 0 0)),(.val (.bool (false)))]))
 refine jJ Tryz.func67 rfl cb67 rfl ?_
 show qG _ _ _ _ ⟨[(0,(vl 83 7 kM t)),(1,(vl 61 8 jF (List.map kC bv))),(2,(jP 1)),(3,(vi (-1)))],[]⟩
 refine jB<|kx [(8,(.ref 0 0))] [(0,some y2)] (zN (qV 0 cZ fK)<|zM<|zZ) ?_
 refine jB<|jB<|kx [(16,(vl 61 8 jF (List.map kC bv))),(17,(jP bv.length)),(18,(jP 0))] [] (zM<|zE (oLn xI bv.length)<|zM<|zZ) ?_
 refine jH<|kA (α:=Nat) (fun i=>⟨[(0,(vl 83 7 kM t)),(1,(vl 61 8 jF (List.map kC bv))),(2,(jP 1)),(3,(vi (-1))),(8,(.ref 0 0)),(16,(vl 61 8 jF (List.map kC bv))),(17,(jP bv.length)),(18,(jP i))],[(0,some y2)]⟩) (fun i=>i≤bv.length) (fun i=>bv.length-i) 0 wk (Nat.zero_le _) ?_
 rintro i hi
 refine jB<|kx [(19,(vb (decide (((i:Nat):Int)<((bv.length:Nat):Int)))))] [] (zE xK<|zZ) ?_
 refine jB<|jG rfl (fun h1=>?_) (fun h1=>?_)
 ·replace h1:=uP h1
  refine jD<|jB<|jH<|jB<|kx [(11,(.ref 1 0))] [(1,some (bx (jF (kC (bv.getD i z2)))))] (zE (oXm xI kC i z2)<|zE (gE jW)<|zN (qV 1 qO qS)<|zT (qA jW)<|zZ) ?_
  refine jB<|kx [(24,(vb false))] [] (zR (kK jW)<|zE (jY (by have h:=iH (kC (bv.getD i z2)) (hZ (⟨qR (jO (jZ (uU hbx (by decide) i).1) (by decide:1048576≤1048576)),qR (jO (jZ (uU hbx (by decide) i).2.1) (by decide:1048576≤1048576))⟩) (by decide));rw[show uK (kC (bv.getD i z2))=true from zU (uU hbx (by decide) i).2.2] at h;exact h))<|zE mD<|zZ) ?_
  refine kU ?_
  refine jD<|kx [(18,(jP (i+1)))] [] (zE (vC (i+1))<|zM<|zZ) ?_
  exact ⟨i+1,wk,(by omega),(by first|omega|(dsimp only;omega))⟩
 ·replace h1:=uR h1
  refine kB<|jB<|jB<|kx [(36,(vb false))] [] (zM<|zE (vW false xK)<|zM<|zM<|zE (vW false mL)<|zE yP<|zM<|zM<|zE (vW false mL)<|zE yP<|zZ) ?_
  refine kU ?_
  refine jD<|jB<|jB<|kx [(12,(jP (nY ((bv.length:Nat):Int) t)))] [] (zM<|zM<|zE (oLn xI bv.length)<|zE (jY (j_chk t ht ((bv.length:Nat):Int)))<|zM<|zZ) ?_
  refine jB<|kx [(43,(vb false))] [] (zM<|zE (vW false nW (by exact bne_eq_false_iff_eq.2 (by rw[show (nY ((bv.length:Nat):Int) t)=0 from hr.c0]<;>rfl)))<|zZ) ?_
  refine kU ?_
  refine jD<|jB<|kx [(13,(.ref 2 0))] [(2,some y1)] (zM<|zE (oLn xI bv.length)<|zM<|zM<|zE (eX pl161 ze161 zn161)<|zN (vA 2)<|zM<|zZ) ?_
  refine jB<|jB<|aI 2 3 3 95 10 (cs:=y1) (h:=?_)
  refine kS (wk (l:=[(0,(vl 83 7 kM t)),(1,(vl 61 8 jF (List.map kC bv))),(8,(.ref 0 0)),(13,(.ref 2 0))]) (b:=[(0,some y2),(2,some [(jP bv.length),(jP 1),(vi (-1)),(.own 3 95 10 0),(vb false)]),(3,some (yG jL []))])) ?_
  refine kx [(52,(vl 83 7 kM t)),(53,(jP t.length)),(54,(jP 0))] [] (zM<|zE (uW iB)<|zM<|zZ) ?_
  refine jH<|kA (α:=Nat) (fun k=>⟨[(1,(vl 61 8 jF (List.map kC bv))),(8,(.ref 0 0)),(13,(.ref 2 0)),(52,(vl 83 7 kM t)),(53,(jP t.length)),(54,(jP k))],[(0,some y2),(2,some (xP bv.length 3 (jU bv t k) false)),(3,some (xY (jU bv t k)))]⟩) (fun k=>k≤k0) (fun k=>t.length-k) 0 wk (Nat.zero_le _) ?_
  rintro k hk
  have hju:=dP bv t k
  have hjm:(List.map qJ (jU bv t k)).length=k:=by rw[List.length_map,hju]
  refine jB<|kx [(55,(vb (decide (((k:Nat):Int)<((t.length:Nat):Int)))))] [] (zE xK<|zZ) ?_
  refine jB<|jG rfl (fun h2=>?_) (fun h2=>?_)
  ·replace h2:=uP h2
   refine jD<|jB<|jH<|jB<|kx [(15,(.ref 4 0))] [(4,some (bx (kM (t.getD k tz))))] (zE (xX iB k (tz:kV))<|zE (gE bM)<|zH (qV 4 ze83 zo83)<|zT (qA bM)<|zZ) ?_
   refine jB ?_
   rcases hlt0:(decide (k<k0)) with _ | _
   ·refine kf [] [(2,some (xP bv.length 21 ((jU bv t k)++[(jk (gw 0) (fun _=>gw 0) bv.length)]) true)),(21,some (xY ((jU bv t k)++[(jk (gw 0) (fun _=>gw 0) bv.length)]))),(10,none),(11,none),(12,none),(13,none),(14,none),(15,none),(16,none),(17,none),(18,none),(19,none),(20,none),(3,none),(5,none),(6,none),(7,none),(8,none),(9,none)] (zM<|zR (kK bM)<|zM<|zSe (B2:=[(2,some (xP bv.length 3 (jU bv t k) false)),(3,some (xY (jU bv t k)))]) (B2':=[(2,some (xP bv.length 21 ((jU bv t k)++[(jk (gw 0) (fun _=>gw 0) bv.length)]) true)),(21,some (xY ((jU bv t k)++[(jk (gw 0) (fun _=>gw 0) bv.length)])))]) [2,3,5,6,7,8,9,10,11,12,13,14,15,16,17,18,19,20,21] [2] (f_step (t.getD k tz) bv hbx (jU bv t k) ((show k0=k by have:=uR hlt0;omega)▸hr.fl))<|zF) ?_
    refine kS (wk (l:=[(1,(vl 61 8 jF (List.map kC bv))),(8,(.ref 0 0)),(13,(.ref 2 0)),(52,(vl 83 7 kM t)),(53,(jP t.length)),(54,(jP k))]) (b:=[(0,some y2),(2,some (xP bv.length 21 ((jU bv t k)++[(jk (gw 0) (fun _=>gw 0) bv.length)]) true)),(21,some (xY ((jU bv t k)++[(jk (gw 0) (fun _=>gw 0) bv.length)])))])) ?_
    refine kS (bN (S':=[(1,(vl 61 8 jF (List.map kC bv))),(8,(.ref 0 0)),(13,(.ref 2 0)),(52,(vl 83 7 kM t)),(53,(jP t.length)),(54,(jP k))]) (B':=[(0,some y2),(2,some (xP bv.length 3 ((jU bv t k)++[(jk (gw 0) (fun _=>gw 0) bv.length)]) true)),(3,some (xY ((jU bv t k)++[(jk (gw 0) (fun _=>gw 0) bv.length)])))]) 3 21 2) ?_
    refine jB<|kx [(65,(vb true))] [] (zM<|zE oNc<|zE (kY fo161_4)<|zR (uM aX)<|zZ) ?_
    refine uY ?_
    refine jB<|kx [(9,(jP 14))] [(0,some y2)] (zE (eX pl95 cZ fK)<|zT (qA nL)<|zM<|zZ) ?_
    refine jE ⟨_,(kH (cs:=y2) (d:=(jL (xL.mk y3 [] []))) rfl rfl nL rfl rfl (.tmp (d:=(.val (.int .i64 (((14:Nat):Int))))) rfl .nil)),?_⟩
    first | rfl | exact absurd hlt (by omega)
   ·refine kf [] [(2,some (xP bv.length 21 ((jU bv t k)++[(nJ bv (jU bv t k) (t.getD k tz))]) false)),(21,some (xY ((jU bv t k)++[(nJ bv (jU bv t k) (t.getD k tz))]))),(10,none),(11,none),(12,none),(13,none),(14,none),(15,none),(16,none),(17,none),(18,none),(19,none),(20,none),(3,none),(5,none),(6,none),(7,none),(8,none),(9,none)] (zM<|zR (kK bM)<|zM<|zSe (B2:=[(2,some (xP bv.length 3 (jU bv t k) false)),(3,some (xY (jU bv t k)))]) (B2':=[(2,some (xP bv.length 21 ((jU bv t k)++[(nJ bv (jU bv t k) (t.getD k tz))]) false)),(21,some (xY ((jU bv t k)++[(nJ bv (jU bv t k) (t.getD k tz))])))]) [2,3,5,6,7,8,9,10,11,12,13,14,15,16,17,18,19,20,21] [2] (e_step (t.getD k tz) bv hbx (jU bv t k) (hr.st k (uP hlt0)))<|zF) ?_
    refine kS (wk (l:=[(1,(vl 61 8 jF (List.map kC bv))),(8,(.ref 0 0)),(13,(.ref 2 0)),(52,(vl 83 7 kM t)),(53,(jP t.length)),(54,(jP k))]) (b:=[(0,some y2),(2,some (xP bv.length 21 ((jU bv t k)++[(nJ bv (jU bv t k) (t.getD k tz))]) false)),(21,some (xY ((jU bv t k)++[(nJ bv (jU bv t k) (t.getD k tz))])))])) ?_
    refine kS (bN (S':=[(1,(vl 61 8 jF (List.map kC bv))),(8,(.ref 0 0)),(13,(.ref 2 0)),(52,(vl 83 7 kM t)),(53,(jP t.length)),(54,(jP k))]) (B':=[(0,some y2),(2,some (xP bv.length 3 ((jU bv t k)++[(nJ bv (jU bv t k) (t.getD k tz))]) false)),(3,some (xY ((jU bv t k)++[(nJ bv (jU bv t k) (t.getD k tz))])))]) 3 21 2) ?_
    refine jB<|kx [(65,(vb false))] [] (zM<|zE oNc<|zE (kY fo161_4)<|zR (uM aX)<|zZ) ?_
    refine kU ?_
    refine jD<|kx [(54,(jP (k+1)))] [] (zE (vC (k+1))<|zM<|zZ) ?_
    exact ⟨k+1,wk,(by have:=uP hlt0;omega),(by first|omega|(dsimp only;omega))⟩
  ·replace h2:=uR h2
   refine kB<|jB<|kd [(9,(jP 0))] [(0,some (bx (jL ((List.map qJ (jU bv t k)).getD ((List.map qJ (jU bv t k)).length-1) (xL.mk y3 [] [])))))] mo (wM<|wE oNc<|wE (kY cM)<|wR (uM sh143)<|wM<|wE oNc<|wE (kY cM)<|wR (uM sh143)<|wE (oLo dR)<|wE (oSb ((List.map qJ (jU bv t k)).length-1))<|wE (oXO dR ((List.map qJ (jU bv t k)).length-1))<|wR (oLA nL ((List.map qJ (jU bv t k)).length-1) (xL.mk y3 [] []))<|wT (qA nL)<|wM<|wZ) ?_
   refine jE ⟨_,(kH (cs:=(bx (jL ((List.map qJ (jU bv t k)).getD ((List.map qJ (jU bv t k)).length-1) (xL.mk y3 [] []))))) (d:=(jL ((List.map qJ (jU bv t k)).getD ((List.map qJ (jU bv t k)).length-1) (xL.mk y3 [] [])))) rfl rfl nL rfl rfl (.tmp (d:=(.val (.int .i64 (((0:Nat):Int))))) rfl .nil)),?_⟩
   first | rfl | exact absurd hlt (by omega)
theorem j_jetsF(t:List kV)(ht:vR 1048576 t)(bv:List R2)(hbx:∀ x∈bv,GL 1048576 x)(hfe:∃ k,JFailP bv t k):jR Tryz.prog 67 [(.sl 83 7 (List.map kM t)),(.sl 61 8 (List.map jF (List.map kC bv))),(.val (.int .i64 (((1:Nat):Int)))),(.val (.int .i64 (-1)))] (.tup [(jL (xL.mk (jV.mk kZ kZ) [] [])),(.val (.int .i64 (((14:Nat):Int))))]):=by
 obtain ⟨k,hk⟩:=hfe
 exact j_jetsF0 t ht bv hbx k hk
theorem p_grdF(t:List kV)(ht:vR 1048576 t)(xs:List Rat)(hx:∀ q∈xs,QL q 1048576)(hfe:∃ k,JFailP (List.map yF xs) t k)(hxb:xs.length≤1000000):jR Tryz.prog 13 [(.sl 83 7 (List.map kM t)),(.sl 45 4 (List.map jK (List.map jN xs)))] (.tup [(.sl 45 4 (List.map jK [])),(.val (.int .i64 (((14:Nat):Int))))]):=by
 refine jJ Tryz.func13 rfl cb13 rfl ?_
 show qG _ _ _ _ ⟨[(0,(vl 83 7 kM t)),(1,(vl 45 4 jK (List.map jN xs)))],[]⟩
 refine jB<|kx [] [] (zE (dD 45 4)<|zM<|zZ) ?_
 refine jB<|kx [(6,(.ref 0 0)),(7,(jP 14))] [(0,some (bx (jL (xL.mk (jV.mk kZ kZ) [] []))))] (zM<|zM<|zE (jY (p_pts xs hx hxb))<|zE (jY (j_jetsF t ht (List.map yF xs) (pts_gl hx) hfe))<|zM<|zE uT<|zE uT<|zN (qV 0 cZ fK)<|zT (qA nL)<|zM<|zZ) ?_
 refine jB<|jB<|kx [(19,(vb true))] [] (zM<|zE (vW true nW)<|zZ) ?_
 refine uY ?_
 refine jB<|kx [(4,(vl 45 4 jK [])),(5,(jP 14))] [] (zM<|zE (dD 45 4)<|zM<|zZ) ?_
 refine jE ⟨_,(.tmp (d:=(.sl 45 4 (List.map jK []))) rfl (.tmp (d:=(.val (.int .i64 (((14:Nat):Int))))) rfl .nil)),?_⟩
 rfl
theorem p_ptsR(l:List jQ)(hl:vG 1048576 l)(hxb:l.length≤1048576):jR Tryz.prog 68 [(.sl 45 4 (List.map jK l))] (.sl 61 8 (List.map jF (List.map (fun x=>jV.mk x x) l))):=by
 have hlb:=hl.2
 let y1:=kZ
 refine jJ Tryz.func68 rfl cb68 rfl ?_
 show qG _ _ _ _ ⟨[(0,(vl 45 4 jK l))],[]⟩
 refine jB<|kx [] [] (zE (dD 61 8)<|zZ) ?_
 refine jB<|kx [(3,(.own 0 61 8 0))] [(0,some (yG jF []))] (zO 0 61 8<|zZ) ?_
 refine jB<|jB<|kx [(6,(vl 45 4 jK l)),(7,(jP l.length)),(8,(jP 0))] [] (zM<|zE (uW uE)<|zM<|zZ) ?_
 refine jH<|kA (α:=Nat × List jV) (fun (i,o)=>⟨[(3,(.own 0 61 8 o.length)),(6,(vl 45 4 jK l)),(7,(jP l.length)),(8,(jP i))],[(0,some (yG jF o))]⟩) (fun (i,o)=>i≤l.length∧o=(l.take i).map (fun x=>jV.mk x x)) (fun (i,o)=>l.length-i) (0,[]) wk ⟨Nat.zero_le _,by simp⟩ ?_
 rintro ⟨i,o⟩ ⟨hi,ho⟩
 have hol:o.length=i:=by rw[ho,List.length_map,List.length_take];omega
 refine jB<|kx [(9,(vb (decide (((i:Nat):Int)<((l.length:Nat):Int)))))] [] (zE xK<|zZ) ?_
 refine jB<|jG rfl (fun h1=>?_) (fun h1=>?_)
 ·replace h1:=uP h1
  refine jD<|jB<|jH<|jB<|kx [(5,(.ref 1 0))] [(1,some (bx (jK (l.getD i y1))))] (zE (xX uE i y1)<|zE (gE jS)<|zH (qV 1 qU qY)<|zT (qA jS)<|zZ) ?_
  refine kf [(3,(.own 0 61 8 ((o++[(jV.mk (l.getD i y1) (l.getD i y1))]).length)))] [(0,some (yG jF (o++[(jV.mk (l.getD i y1) (l.getD i y1))])))] (zM<|zR (kK jS)<|zR (kK jS)<|zE (eX pl61 qO qS)<|zE (cN xI qO qS)<|zAS jF o [(jV.mk (l.getD i y1) (l.getD i y1))] rfl xI qO by61<|zM<|zF) ?_
  refine kx [(8,(jP (i+1)))] [] (zE (vC (i+1))<|zM<|zZ) ?_
  exact ⟨(i+1,o++[jV.mk (l.getD i kZ) (l.getD i kZ)]),wk,⟨by omega,by rw[ho];exact mS (f:=fun x=>jV.mk x x) (by omega)⟩,(by first|omega|(dsimp only;omega))⟩
 ·replace h1:=uR h1
  refine kB<|jB<|kx [(2,(.own 0 61 8 o.length))] [] (zM<|zM<|zZ) ?_
  refine kS (vD (t:=2) (k:=0) (es:=List.map jF o) rfl rfl (zL _ _ (fun _=>rfl)) (uJ _ _ rfl) (yS jF o (fun _=>rfl) rfl)) ?_
  refine jE ⟨_,(.tmp (d:=(.sl 61 8 (List.map jF o))) rfl .nil),?_⟩
  rw[ho,show i=l.length by omega,List.take_length];rfl
theorem cb110:callB Tryz.prog 110=true:=by kernel_rfl
theorem cb111:callB Tryz.prog 111=true:=by kernel_rfl
theorem cb112:callB Tryz.prog 112=true:=by kernel_rfl
theorem cb169:callB Tryz.prog 169=true:=by kernel_rfl
theorem cb170:callB Tryz.prog 170=true:=by kernel_rfl
theorem cb171:callB Tryz.prog 171=true:=by kernel_rfl
theorem cb172:callB Tryz.prog 172=true:=by kernel_rfl
theorem u_add(a:R2)(ha:GL 67108864 a)(b:R2)(hb:GL 67108864 b):jR Tryz.prog 39 [(jF (kC a)),(jF (kC b))] (jF (kC (xO a b))):=h_add (kC a) a.1 a.2 (jO (jZ ha.1) (by decide)) (jO (jZ ha.2.1) (by decide)) (kC b) b.1 b.2 (jO (jZ hb.1) (by decide)) (jO (jZ hb.2.1) (by decide))
theorem u_sub(a:R2)(ha:GL 67108864 a)(b:R2)(hb:GL 67108864 b):jR Tryz.prog 40 [(jF (kC a)),(jF (kC b))] (jF (kC (uO a b))):=h_sub (kC a) a.1 a.2 (jO (jZ ha.1) (by decide)) (jO (jZ ha.2.1) (by decide)) (kC b) b.1 b.2 (jO (jZ hb.1) (by decide)) (jO (jZ hb.2.1) (by decide))
theorem u_mul(a:R2)(ha:GL 67108864 a)(b:R2)(hb:GL 67108864 b):jR Tryz.prog 114 [(jF (kC a)),(jF (kC b))] (jF (kC (uF a b))):=h_mul (kC a) a.1 a.2 (jO (jZ ha.1) (by decide)) (jO (jZ ha.2.1) (by decide)) (kC b) b.1 b.2 (jO (jZ hb.1) (by decide)) (jO (jZ hb.2.1) (by decide))
theorem u_sq(a:R2)(ha:GL 67108864 a):jR Tryz.prog 115 [(jF (kC a))] (jF (kC (gsq a))):=h_square (kC a) a.1 a.2 (jO (jZ ha.1) (by decide)) (jO (jZ ha.2.1) (by decide))
theorem u_neg(a:R2)(ha:GL 67108864 a):jR Tryz.prog 100 [(jF (kC a))] (jF (kC (gneg a))):=h_neg (kC a) a.1 a.2 (jO (jZ ha.1) (by decide)) (jO (jZ ha.2.1) (by decide))
theorem u_div(a:R2)(ha:GL 67108864 a)(b:R2)(hb:GL 67108864 b)(hz:yV b.1 b.2=false):jR Tryz.prog 167 [(jF (kC a)),(jF (kC b))] (.tup [(jF (kC (mY a b))),(.val (.int .i64 (((0:Nat):Int))))]):=h_divide a.1 a.2 (qu ha.1) (qu ha.2.1) ha.2.2 b.1 b.2 (qu hb.1) (qu hb.2.1) hb.2.2 hz
theorem u_none :jR Tryz.prog 172 [] (jF (kC (gw 0))):=by
 refine jJ Tryz.func172 rfl cb172 rfl ?_
 show qG _ _ _ _ ⟨[],[]⟩
 refine jB<|kx [(0,(.ref 0 0))] [(0,some (bx (jF (jV.mk kZ kZ))))] (zN (qV 0 qO qS)<|zZ) ?_
 refine jB<|kx [] [(0,some (bx (jF (jV.mk (jN ((0:Int):Rat)) (jN ((0:Int):Rat))))))] (zE (jY (h_whole 0 0 (by decide) (by decide) (by decide) (by decide)))<|zT (qA jW)<|zZ) ?_
 refine jE ⟨_,(kH (cs:=(bx (jF (jV.mk (jN ((0:Int):Rat)) (jN ((0:Int):Rat)))))) (d:=(jF (jV.mk (jN ((0:Int):Rat)) (jN ((0:Int):Rat))))) rfl rfl jW rfl rfl .nil),?_⟩
 rfl
theorem u_one :jR Tryz.prog 169 [] (jF (kC (gw 1))):=by
 refine jJ Tryz.func169 rfl cb169 rfl ?_
 show qG _ _ _ _ ⟨[],[]⟩
 refine jB<|kx [(0,(.ref 0 0))] [(0,some (bx (jF (jV.mk kZ kZ))))] (zN (qV 0 qO qS)<|zZ) ?_
 refine jB<|kx [] [(0,some (bx (jF (jV.mk (jN ((1:Int):Rat)) (jN ((1:Int):Rat))))))] (zE (jY (h_whole 1 1 (by decide) (by decide) (by decide) (by decide)))<|zT (qA jW)<|zZ) ?_
 refine jE ⟨_,(kH (cs:=(bx (jF (jV.mk (jN ((1:Int):Rat)) (jN ((1:Int):Rat)))))) (d:=(jF (jV.mk (jN ((1:Int):Rat)) (jN ((1:Int):Rat))))) rfl rfl jW rfl rfl .nil),?_⟩
 rfl
theorem u_twice(a:R2)(ha:GL 67108864 a):jR Tryz.prog 171 [(jF (kC a))] (jF (kC (uF (gw 2) a))):=by
 refine jJ Tryz.func171 rfl cb171 rfl ?_
 show qG _ _ _ _ ⟨[(0,(.d (jF (kC a))))],[]⟩
 refine jB<|kx [(1,(.ref 0 0)),(2,(.ref 1 0))] [(0,some (bx (jF (kC a)))),(1,some (bx (jF (jV.mk kZ kZ))))] (zN (vA 0)<|zN (qV 1 qO qS)<|zZ) ?_
 refine jB<|kd [] [(1,some (bx (jF (kC (uF (((2:Int):Rat),((2:Int):Rat)) a)))))] mo (wE (jY (h_whole 2 2 (by decide) (by decide) (by decide) (by decide)))<|wR (kK jW)<|wE (jY (u_mul (((2:Int):Rat),((2:Int):Rat)) (qD (⟨(xT (z:=2) (vP (by decide)) (by decide)),(xT (z:=2) (vP (by decide)) (by decide)),(by decide:((2:Int):Rat)≤((2:Int):Rat))⟩) (by decide)) a ha))<|wT (qA jW)<|wZ) ?_
 refine jE ⟨_,(kH (cs:=(bx (jF (kC (uF (((2:Int):Rat),((2:Int):Rat)) a))))) (d:=(jF (kC (uF (((2:Int):Rat),((2:Int):Rat)) a)))) rfl rfl jW rfl rfl .nil),?_⟩
 rfl
theorem u_held(a:R2)(ha:GL 67108864 a):jR Tryz.prog 111 [(jF (kC a)),(.val (.int .i64 (-1)))] (jF (kC a)):=by
 refine jJ Tryz.func111 rfl cb111 rfl ?_
 show qG _ _ _ _ ⟨[(0,(.d (jF (kC a)))),(1,(vi (-1)))],[]⟩
 refine jB<|kx [(2,(.ref 0 0)),(4,(.ref 1 0))] [(0,some (bx (jF (kC a)))),(1,some (bx (jF (jV.mk kZ kZ))))] (zN (vA 0)<|zN (qV 1 qO qS)<|zZ) ?_
 refine jB<|jB<|kx [(8,(vb true))] [] (zM<|zE (vW true xK)<|zZ) ?_
 refine uY ?_
 refine jB<|kx [] [(1,some (bx (jF (kC a))))] (zR (kK jW)<|zT (qA jW)<|zZ) ?_
 refine jE ⟨_,(kH (cs:=(bx (jF (kC a)))) (d:=(jF (kC a))) rfl rfl jW rfl rfl .nil),?_⟩
 rfl
theorem u_pair(l0:R2)(l1:R2)(l2:R2)(l3:R2)(hl0:GL 16777216 l0)(hl1:GL 16777216 l1)(hl2:GL 16777216 l2)(hl3:GL 16777216 l3):jR Tryz.prog 170 [(.sl 61 8 (List.map jF [(kC l0),(kC l1),(kC l2),(kC l3)]))] (jF (kC (xO (uF l0 l1) (uF l2 l3)))):=by
 refine jJ Tryz.func170 rfl cb170 rfl ?_
 show qG _ _ _ _ ⟨[(0,(vl 61 8 jF [(kC l0),(kC l1),(kC l2),(kC l3)]))],[]⟩
 refine jB<|kx [(2,(.ref 0 0))] [(0,some (bx (jF (jV.mk kZ kZ))))] (zN (qV 0 qO qS)<|zZ) ?_
 refine jB<|kx [(3,(.ref 1 0))] [(1,some (bx (jF (kC (gw 0)))))] (zE (jY u_none)<|zN (qV 1 qO qS)<|zT (qA jW)<|zZ) ?_
 refine jB<|jB<|kx [(4,(jP 0))] [] (zM<|zZ) ?_
 refine jH<|pwp_rounds 3 ?_
 refine pwp_round<|jB<|jB<|kx [(10,(vb true))] [] (zM<|zE (vC 1 (hr:=by decide))<|zM<|zE (oLn xI 4)<|zE (vW true xK)<|zZ) ?_
 refine uY ?_
 refine jD<|jB<|jH<|kd [] [(1,some (bx (jF (kC (xO (gw 0) (uF l0 l1))))))] mo (wR (kK jW)<|wM<|wM<|wE (oXs xI 0)<|wE (gE jW)<|wM<|wM<|wE (vC 1 (hr:=by decide))<|wE (oXs xI 1)<|wE (gE jW)<|wE (jY (u_mul l0 (qD hl0 (by decide)) l1 (qD hl1 (by decide))))<|wE (jY (u_add (gw 0) (qD (gl_w (z:=0) (by omega) (by omega)) (by decide)) (uF l0 l1) (qD (yY (k:=33554432) hl0 hl1 (by decide)) (by decide))))<|wT (qA jW)<|wZ) ?_
 refine kx [(4,(jP 2))] [] (zM<|zE (vC 2 (hr:=by decide))<|zM<|zZ) ?_
 refine fP (vB.refl _) ?_
 refine jB<|jB<|kx [(10,(vb true))] [] (zM<|zE (vC 3 (hr:=by decide))<|zM<|zE (oLn xI 4)<|zE (vW true xK)<|zZ) ?_
 refine uY ?_
 refine jD<|jB<|jH<|kd [] [(1,some (bx (jF (kC (xO (xO (gw 0) (uF l0 l1)) (uF l2 l3))))))] mo (wR (kK jW)<|wM<|wM<|wE (oXs xI 2)<|wE (gE jW)<|wM<|wM<|wE (vC 3 (hr:=by decide))<|wE (oXs xI 3)<|wE (gE jW)<|wE (jY (u_mul l2 (qD hl2 (by decide)) l3 (qD hl3 (by decide))))<|wE (jY (u_add (xO (gw 0) (uF l0 l1)) (qD (gl_add (k:=33554436) (gl_w (z:=0) (by omega) (by omega)) (yY (k:=33554432) hl0 hl1 (by decide)) (by decide)) (by decide)) (uF l2 l3) (qD (yY (k:=33554432) hl2 hl3 (by decide)) (by decide))))<|wT (qA jW)<|wZ) ?_
 refine kx [(4,(jP 4))] [] (zM<|zE (vC 4 (hr:=by decide))<|zM<|zZ) ?_
 refine fP (vB.refl _) ?_
 refine jB<|jB<|kx [(10,(vb false))] [] (zM<|zE (vC 5 (hr:=by decide))<|zM<|zE (oLn xI 4)<|zE (vW false xK)<|zZ) ?_
 refine kU ?_
 refine kB<|jB<|kx [] [(0,some (bx (jF (kC (xO (xO (gw 0) (uF l0 l1)) (uF l2 l3))))))] (zR (kK jW)<|zT (qA jW)<|zZ) ?_
 refine jE ⟨_,(kH (cs:=(bx (jF (kC (xO (xO (gw 0) (uF l0 l1)) (uF l2 l3)))))) (d:=(jF (kC (xO (xO (gw 0) (uF l0 l1)) (uF l2 l3))))) rfl rfl jW rfl rfl .nil),?_⟩
 rw[ga0];rfl
theorem u_w(x:kV)(y:jV)(z:jV)(bv:List R2)(hbx:∀ x∈bv,GL 1048576 x)(L:List JV)(hbl:bv.length≤1000000)(hn:fG bv.length L x)(hLk:∀ e9∈L,nQ 1048576 bv.length e9)(hJ:nQ 1048576 bv.length (nJ bv L x))(hy:1≤xM x.op→y=kC (jA L x.a).v)(hz:xM x.op=2→z=kC (jA L x.b).v):jR Tryz.prog 110 [(kM x),(jF y),(jF z),(.sl 61 8 (List.map jF (List.map kC bv)))] (.tup [(jF (kC (nV bv L x))),(.val (.int .i64 (((0:Nat):Int))))]):=by
 have hS:StOk bv.length L x:=.inl hn
 refine jJ Tryz.func110 rfl cb110 rfl ?_
 show qG _ _ _ _ ⟨[(0,(.d (kM x))),(1,(.d (jF y))),(2,(.d (jF z))),(3,(vl 61 8 jF (List.map kC bv)))],[]⟩
 refine jB<|kx [(4,(.ref 0 0)),(5,(.ref 1 0)),(6,(.ref 2 0)),(8,(.ref 3 0))] [(0,some (bx (kM x))),(1,some (bx (jF y))),(2,some (bx (jF z))),(3,some (bx (jF (jV.mk kZ kZ))))] (zN (vA 0)<|zN (vA 1)<|zN (vA 2)<|zN (qV 3 qO qS)<|zM<|zZ) ?_
 refine jB<|jB<|kx [(11,(vi x.op))] [] (zE (kY yW)<|zR (uM fC)<|zZ) ?_
 refine jH<|jB<|kx [(12,(vb (x.op == 1)))] [] (zE xR<|zM<|zZ) ?_
 refine jG (b:=(x.op == 1)) rfl (fun h1=>?_) (fun h1=>?_)
 ·replace h1:=eq_of_beq h1
  have hop:=h1
  obtain ⟨a1,a2⟩:=hn.var hop
  refine jB<|kx [(9,(jP 0))] [(3,some (bx (jF (kC (bv.getD ((x.a).toNat) z2)))))] (zM<|zE (kY gK)<|zR (uM cH)<|zE (oXm xI kC ((x.a).toNat) z2)<|zE (gE jW)<|zT (qA jW)<|zM<|zZ) ?_
  refine jE ⟨_,(kH (cs:=(bx (jF (kC (bv.getD ((x.a).toNat) z2))))) (d:=(jF (kC (bv.getD ((x.a).toNat) z2)))) rfl rfl jW rfl rfl (.tmp (d:=(.val (.int .i64 (0)))) rfl .nil)),?_⟩
  rw[nV_1 hop];rfl
 ·replace h1:=ne_of_beq_false h1
  refine jB<|kx [(19,(vb (x.op == 2)))] [] (zE xR<|zM<|zZ) ?_
  refine jG (b:=(x.op == 2)) rfl (fun h2=>?_) (fun h2=>?_)
  ·replace h2:=eq_of_beq h2
   have hk2:xM x.op=2:=by rw[h2];rfl
   have hop:=h2
   obtain ⟨a1,a2⟩:=hS.a (by omega)
   obtain ⟨b1,b2⟩:=hS.b hk2
   have hy2:=hy (by omega)
   have hz2:=hz hk2
   have hu:=hLk _ (xB (d:=jz) a2)
   have hv:=hLk _ (xB (d:=jz) b2)
   have hul:(jA L x.a).g.length=bv.length:=hu.2.2
   have hvl:(jA L x.b).g.length=bv.length:=hv.2.2
   refine jB<|kx [(9,(jP 0))] [(3,some (bx (jF (kC (xO ((jA L x.a).v) ((jA L x.b).v))))))] (zR (oQr (jF y) (jF (kC ((jA L x.a).v))) (kK jW) (by exact (congrArg jF hy2)))<|zR (oQr (jF z) (jF (kC ((jA L x.b).v))) (kK jW) (by exact (congrArg jF hz2)))<|zE (jY (u_add ((jA L x.a).v) (qD hu.1 (by decide)) ((jA L x.b).v) (qD hv.1 (by decide))))<|zT (qA jW)<|zM<|zZ) ?_
   refine jE ⟨_,(kH (cs:=(bx (jF (kC (xO ((jA L x.a).v) ((jA L x.b).v)))))) (d:=(jF (kC (xO ((jA L x.a).v) ((jA L x.b).v))))) rfl rfl jW rfl rfl (.tmp (d:=(.val (.int .i64 (0)))) rfl .nil)),?_⟩
   rw[nV_2 hop];rfl
  ·replace h2:=ne_of_beq_false h2
   refine jB<|kx [(24,(vb (x.op == 3)))] [] (zE xR<|zM<|zZ) ?_
   refine jG (b:=(x.op == 3)) rfl (fun h3=>?_) (fun h3=>?_)
   ·replace h3:=eq_of_beq h3
    have hk2:xM x.op=2:=by rw[h3];rfl
    have hop:=h3
    obtain ⟨a1,a2⟩:=hS.a (by omega)
    obtain ⟨b1,b2⟩:=hS.b hk2
    have hy2:=hy (by omega)
    have hz2:=hz hk2
    have hu:=hLk _ (xB (d:=jz) a2)
    have hv:=hLk _ (xB (d:=jz) b2)
    have hul:(jA L x.a).g.length=bv.length:=hu.2.2
    have hvl:(jA L x.b).g.length=bv.length:=hv.2.2
    refine jB<|kx [(9,(jP 0))] [(3,some (bx (jF (kC (uO ((jA L x.a).v) ((jA L x.b).v))))))] (zR (oQr (jF y) (jF (kC ((jA L x.a).v))) (kK jW) (by exact (congrArg jF hy2)))<|zR (oQr (jF z) (jF (kC ((jA L x.b).v))) (kK jW) (by exact (congrArg jF hz2)))<|zE (jY (u_sub ((jA L x.a).v) (qD hu.1 (by decide)) ((jA L x.b).v) (qD hv.1 (by decide))))<|zT (qA jW)<|zM<|zZ) ?_
    refine jE ⟨_,(kH (cs:=(bx (jF (kC (uO ((jA L x.a).v) ((jA L x.b).v)))))) (d:=(jF (kC (uO ((jA L x.a).v) ((jA L x.b).v))))) rfl rfl jW rfl rfl (.tmp (d:=(.val (.int .i64 (0)))) rfl .nil)),?_⟩
    rw[nV_3 hop];rfl
   ·replace h3:=ne_of_beq_false h3
    refine jB<|kx [(29,(vb (x.op == 4)))] [] (zE xR<|zM<|zZ) ?_
    refine jG (b:=(x.op == 4)) rfl (fun h4=>?_) (fun h4=>?_)
    ·replace h4:=eq_of_beq h4
     have hk2:xM x.op=2:=by rw[h4];rfl
     have hop:=h4
     obtain ⟨a1,a2⟩:=hS.a (by omega)
     obtain ⟨b1,b2⟩:=hS.b hk2
     have hy2:=hy (by omega)
     have hz2:=hz hk2
     have hu:=hLk _ (xB (d:=jz) a2)
     have hv:=hLk _ (xB (d:=jz) b2)
     have hul:(jA L x.a).g.length=bv.length:=hu.2.2
     have hvl:(jA L x.b).g.length=bv.length:=hv.2.2
     refine jB<|kx [(9,(jP 0))] [(3,some (bx (jF (kC (uF ((jA L x.a).v) ((jA L x.b).v))))))] (zR (oQr (jF y) (jF (kC ((jA L x.a).v))) (kK jW) (by exact (congrArg jF hy2)))<|zR (oQr (jF z) (jF (kC ((jA L x.b).v))) (kK jW) (by exact (congrArg jF hz2)))<|zE (jY (u_mul ((jA L x.a).v) (qD hu.1 (by decide)) ((jA L x.b).v) (qD hv.1 (by decide))))<|zT (qA jW)<|zM<|zZ) ?_
     refine jE ⟨_,(kH (cs:=(bx (jF (kC (uF ((jA L x.a).v) ((jA L x.b).v)))))) (d:=(jF (kC (uF ((jA L x.a).v) ((jA L x.b).v))))) rfl rfl jW rfl rfl (.tmp (d:=(.val (.int .i64 (0)))) rfl .nil)),?_⟩
     rw[nV_4 hop];rfl
    ·replace h4:=ne_of_beq_false h4
     refine jB<|kx [(34,(vb (x.op == 5)))] [] (zE xR<|zM<|zZ) ?_
     refine jG (b:=(x.op == 5)) rfl (fun h5=>?_) (fun h5=>?_)
     ·replace h5:=eq_of_beq h5
      have hk2:xM x.op=2:=by rw[h5];rfl
      have hop:=h5
      obtain ⟨a1,a2⟩:=hS.a (by omega)
      obtain ⟨b1,b2⟩:=hS.b hk2
      have hy2:=hy (by omega)
      have hz2:=hz hk2
      have hu:=hLk _ (xB (d:=jz) a2)
      have hv:=hLk _ (xB (d:=jz) b2)
      have hul:(jA L x.a).g.length=bv.length:=hu.2.2
      have hvl:(jA L x.b).g.length=bv.length:=hv.2.2
      refine jB<|kx [(9,(jP 0))] [(3,some (bx (jF (kC (mY ((jA L x.a).v) ((jA L x.b).v))))))] (zR (oQr (jF y) (jF (kC ((jA L x.a).v))) (kK jW) (by exact (congrArg jF hy2)))<|zR (oQr (jF z) (jF (kC ((jA L x.b).v))) (kK jW) (by exact (congrArg jF hz2)))<|zE (jY (u_div ((jA L x.a).v) (qD hu.1 (by decide)) ((jA L x.b).v) (qD hv.1 (by decide)) (hn.zf hop)))<|zE uT<|zE uT<|zT (qA jW)<|zM<|zZ) ?_
      refine jE ⟨_,(kH (cs:=(bx (jF (kC (mY ((jA L x.a).v) ((jA L x.b).v)))))) (d:=(jF (kC (mY ((jA L x.a).v) ((jA L x.b).v))))) rfl rfl jW rfl rfl (.tmp (d:=(.val (.int .i64 (((0:Nat):Int))))) rfl .nil)),?_⟩
      rw[nV_5 hop];rfl
     ·replace h5:=ne_of_beq_false h5
      refine jB<|kx [(41,(vb (x.op == 6)))] [] (zE xR<|zM<|zZ) ?_
      refine jG (b:=(x.op == 6)) rfl (fun h6=>?_) (fun h6=>?_)
      ·replace h6:=eq_of_beq h6
       have hk1:xM x.op=1:=by rw[h6];rfl
       have hop:=h6
       obtain ⟨a1,a2⟩:=hS.a (by omega)
       have hy2:=hy (by omega)
       have hu:=hLk _ (xB (d:=jz) a2)
       have hul:(jA L x.a).g.length=bv.length:=hu.2.2
       refine jB<|kx [(9,(jP 0))] [(3,some (bx (jF (kC (gneg ((jA L x.a).v))))))] (zR (oQr (jF y) (jF (kC ((jA L x.a).v))) (kK jW) (by exact (congrArg jF hy2)))<|zE (jY (u_neg ((jA L x.a).v) (qD hu.1 (by decide))))<|zT (qA jW)<|zM<|zZ) ?_
       refine jE ⟨_,(kH (cs:=(bx (jF (kC (gneg ((jA L x.a).v)))))) (d:=(jF (kC (gneg ((jA L x.a).v))))) rfl rfl jW rfl rfl (.tmp (d:=(.val (.int .i64 (0)))) rfl .nil)),?_⟩
       rw[nV_6 hop];rfl
      ·replace h6:=ne_of_beq_false h6
       refine jB<|kx [(45,(vb (x.op == 7)))] [] (zE xR<|zM<|zZ) ?_
       refine jG (b:=(x.op == 7)) rfl (fun h7=>?_) (fun h7=>?_)
       ·replace h7:=eq_of_beq h7
        have hk1:xM x.op=1:=by rw[h7];rfl
        have hop:=h7
        obtain ⟨a1,a2⟩:=hS.a (by omega)
        have hy2:=hy (by omega)
        have hu:=hLk _ (xB (d:=jz) a2)
        have hul:(jA L x.a).g.length=bv.length:=hu.2.2
        refine jB<|kx [(9,(jP 0))] [(3,some (bx (jF (kC (gsq ((jA L x.a).v))))))] (zR (oQr (jF y) (jF (kC ((jA L x.a).v))) (kK jW) (by exact (congrArg jF hy2)))<|zE (jY (u_sq ((jA L x.a).v) (qD hu.1 (by decide))))<|zT (qA jW)<|zM<|zZ) ?_
        refine jE ⟨_,(kH (cs:=(bx (jF (kC (gsq ((jA L x.a).v)))))) (d:=(jF (kC (gsq ((jA L x.a).v))))) rfl rfl jW rfl rfl (.tmp (d:=(.val (.int .i64 (0)))) rfl .nil)),?_⟩
        rw[nV_7 hop];rfl
       ·replace h7:=ne_of_beq_false h7
        have hop:x.op=0:=by have:=hn.op;omega
        have hc9:=hn.con hop
        refine jD<|jB<|kx [(9,(jP 0))] [(3,some (bx (jF (jV.mk (jN (qP x.n)) (jN (qP x.n))))))] (zE (kY dM)<|zR (oQr (jK x.n) (jK (jN (qP x.n))) (kK jS) (by exact (congrArg jK hc9.1)))<|zE (jY (h_point (qP x.n) (qu hc9.2)))<|zT (qA jW)<|zM<|zZ) ?_
        refine jE ⟨_,(kH (cs:=(bx (jF (jV.mk (jN (qP x.n)) (jN (qP x.n)))))) (d:=(jF (jV.mk (jN (qP x.n)) (jN (qP x.n))))) rfl rfl jW rfl rfl (.tmp (d:=(.val (.int .i64 (0)))) rfl .nil)),?_⟩
        rw[nV_0 hop];rfl
theorem u_vF(a:Nat)(b:Nat)(u:R2)(hu:GL 1048576 u)(v:R2)(hv:GL 1048576 v)(b_:jX)(hz:yV v.1 v.2=true):jR Tryz.prog 110 [(kM (kV.mk 5 ((a:Nat):Int) ((b:Nat):Int) kZ)),(jF (kC u)),(jF (kC v)),(b_)] (.tup [(jF (jV.mk kZ kZ)),(.val (.int .i64 (((14:Nat):Int))))]):=by
 let y2:=kZ
 let y1:=(bx (jF (jV.mk y2 y2)))
 refine jJ Tryz.func110 rfl cb110 rfl ?_
 show qG _ _ _ _ ⟨[(0,(.d (kM (kV.mk 5 ((a:Nat):Int) ((b:Nat):Int) y2)))),(1,(.d (jF (kC u)))),(2,(.d (jF (kC v)))),(3,(.d (b_)))],[]⟩
 refine jB<|kx [(4,(.ref 0 0)),(5,(.ref 1 0)),(6,(.ref 2 0)),(8,(.ref 3 0))] [(0,some (bx (kM (kV.mk 5 ((a:Nat):Int) ((b:Nat):Int) y2)))),(1,some (bx (jF (kC u)))),(2,some (bx (jF (kC v)))),(3,some y1)] (zN (vA 0)<|zN (vA 1)<|zN (vA 2)<|zN (qV 3 qO qS)<|zM<|zZ) ?_
 refine jB<|jB<|kx [(11,(vi 5))] [] (zE (kY yW)<|zR (uM fC)<|zZ) ?_
 refine jH<|jB<|kx [(12,(vb false))] [] (zE (vW false xR)<|zM<|zZ) ?_
 refine kU ?_
 refine jB<|kx [(19,(vb false))] [] (zE (vW false xR)<|zM<|zZ) ?_
 refine kU ?_
 refine jB<|kx [(24,(vb false))] [] (zE (vW false xR)<|zM<|zZ) ?_
 refine kU ?_
 refine jB<|kx [(29,(vb false))] [] (zE (vW false xR)<|zM<|zZ) ?_
 refine kU ?_
 refine jB<|kx [(34,(vb true))] [] (zE (vW true xR)<|zM<|zZ) ?_
 refine uY ?_
 refine jB<|kx [(9,(vi 14))] [(3,some y1)] (zR (kK jW)<|zR (kK jW)<|zE (jY (h_divideZ u.1 u.2 (qu hu.1) (qu hu.2.1) hu.2.2 v.1 v.2 (qu hv.1) (qu hv.2.1) hv.2.2 hz))<|zE uT<|zE uT<|zT (qA jW)<|zM<|zZ) ?_
 refine jE ⟨_,(kH (cs:=y1) (d:=(jF (jV.mk y2 y2))) rfl rfl jW rfl rfl (.tmp (d:=(.val (.int .i64 (14)))) rfl .nil)),?_⟩
 rfl
theorem u_x(x:kV)(y:xL)(z:xL)(w:jV)(i:Nat)(bv:List R2)(L:List JV)(hn:fG bv.length L x)(hLk:∀ e9∈L,nQ 1048576 bv.length e9)(hJ:nQ 1048576 bv.length (nJ bv L x))(hi:i<bv.length)(hy:1≤xM x.op→y=qJ (jA L x.a))(hz:xM x.op=2→z=qJ (jA L x.b))(hw:w=kC (nV bv L x)):jR Tryz.prog 112 [(kM x),(jL y),(jL z),(jF w),(.val (.int .i64 (((i:Nat):Int))))] (jF (kC (nG bv L x i))):=by
 have hS:StOk bv.length L x:=.inl hn
 let y3:=(List.map jF (List.map kC ((jA L x.a).g)))
 let y2:=(jF (kC (xO (uF ((jA L x.a).v) (((jA L x.b).g).getD i z2)) (uF ((jA L x.b).v) (((jA L x.a).g).getD i z2)))))
 let y1:=(bx (jF (kC (mY (uO (((jA L x.a).g).getD i z2) (uF (nV bv L x) (((jA L x.b).g).getD i z2))) ((jA L x.b).v)))))
 refine jJ Tryz.func112 rfl cb112 rfl ?_
 show qG _ _ _ _ ⟨[(0,(.d (kM x))),(1,(.d (jL y))),(2,(.d (jL z))),(3,(.d (jF w))),(4,(jP i))],[]⟩
 refine jB<|kx [(5,(.ref 0 0)),(6,(.ref 1 0)),(7,(.ref 2 0)),(8,(.ref 3 0)),(10,(.ref 4 0))] [(0,some (bx (kM x))),(1,some (bx (jL y))),(2,some (bx (jL z))),(3,some (bx (jF w))),(4,some (bx (jF (jV.mk kZ kZ))))] (zN (vA 0)<|zN (vA 1)<|zN (vA 2)<|zN (vA 3)<|zN (qV 4 qO qS)<|zZ) ?_
 refine jB<|jB<|kx [(14,(vi x.op))] [] (zE (kY yW)<|zR (uM fC)<|zZ) ?_
 refine jH<|jB<|kx [(15,(vb (x.op == 1)))] [] (zE xR<|zM<|zZ) ?_
 refine jG (b:=(x.op == 1)) rfl (fun h1=>?_) (fun h1=>?_)
 ·replace h1:=eq_of_beq h1
  have hop:=h1
  refine jB<|kx [(20,(vb (((i:Nat):Int) == x.a)))] [] (zM<|zE (kY gK)<|zR (uM cH)<|zE xR<|zZ) ?_
  refine jG (b:=(((i:Nat):Int) == x.a)) rfl (fun h2=>?_) (fun h2=>?_)
  ·replace h2:=eq_of_beq h2
   refine jB<|kx [] [(4,some (bx (jF (kC (gw 1)))))] (zE (jY u_one)<|zT (qA jW)<|zZ) ?_
   refine jE ⟨_,(kH (cs:=(bx (jF (kC (gw 1))))) (d:=(jF (kC (gw 1)))) rfl rfl jW rfl rfl .nil),?_⟩
   rw[nG_1 hop,if_pos h2];rfl
  ·replace h2:=ne_of_beq_false h2
   refine jD<|jB<|kx [] [(4,some (bx (jF (kC (gw 0)))))] (zE (jY u_none)<|zT (qA jW)<|zZ) ?_
   refine jE ⟨_,(kH (cs:=(bx (jF (kC (gw 0))))) (d:=(jF (kC (gw 0)))) rfl rfl jW rfl rfl .nil),?_⟩
   rw[nG_1 hop,if_neg h2];rfl
 ·replace h1:=ne_of_beq_false h1
  refine jB<|kx [(22,(vb (x.op == 2)))] [] (zE xR<|zM<|zZ) ?_
  refine jG (b:=(x.op == 2)) rfl (fun h3=>?_) (fun h3=>?_)
  ·replace h3:=eq_of_beq h3
   have hk2:xM x.op=2:=by rw[h3];rfl
   have hop:=h3
   obtain ⟨a1,a2⟩:=hS.a (by omega)
   obtain ⟨b1,b2⟩:=hS.b hk2
   have hy2:=hy (by omega)
   have hz2:=hz hk2
   have hu:=hLk _ (xB (d:=jz) a2)
   have hv:=hLk _ (xB (d:=jz) b2)
   have hul:(jA L x.a).g.length=bv.length:=hu.2.2
   have hvl:(jA L x.b).g.length=bv.length:=hv.2.2
   refine jB<|kd [] [(4,some (bx (jF (kC (xO (((jA L x.a).g).getD i z2) (((jA L x.b).g).getD i z2))))))] mo (wE (kY xV)<|wR (oQr (.sl 61 8 (List.map jF y.grad)) (.sl 61 8 y3) (uM cJ) (by exact (by rw[hy2];rfl)))<|wM<|wE (oXm xI kC i z2)<|wE (gE jW)<|wE (kY xV)<|wR (oQr (.sl 61 8 (List.map jF z.grad)) (.sl 61 8 (List.map jF (List.map kC ((jA L x.b).g)))) (uM cJ) (by exact (by rw[hz2];rfl)))<|wM<|wE (oXm xI kC i z2)<|wE (gE jW)<|wE (jY (u_add (((jA L x.a).g).getD i z2) (qD (uU hu.2.1 (by decide) i) (by decide)) (((jA L x.b).g).getD i z2) (qD (uU hv.2.1 (by decide) i) (by decide))))<|wT (qA jW)<|wZ) ?_
   refine jE ⟨_,(kH (cs:=(bx (jF (kC (xO (((jA L x.a).g).getD i z2) (((jA L x.b).g).getD i z2)))))) (d:=(jF (kC (xO (((jA L x.a).g).getD i z2) (((jA L x.b).g).getD i z2))))) rfl rfl jW rfl rfl .nil),?_⟩
   rw[nG_2 hop];rfl
  ·replace h3:=ne_of_beq_false h3
   refine jB<|kx [(35,(vb (x.op == 3)))] [] (zE xR<|zM<|zZ) ?_
   refine jG (b:=(x.op == 3)) rfl (fun h4=>?_) (fun h4=>?_)
   ·replace h4:=eq_of_beq h4
    have hk2:xM x.op=2:=by rw[h4];rfl
    have hop:=h4
    obtain ⟨a1,a2⟩:=hS.a (by omega)
    obtain ⟨b1,b2⟩:=hS.b hk2
    have hy2:=hy (by omega)
    have hz2:=hz hk2
    have hu:=hLk _ (xB (d:=jz) a2)
    have hv:=hLk _ (xB (d:=jz) b2)
    have hul:(jA L x.a).g.length=bv.length:=hu.2.2
    have hvl:(jA L x.b).g.length=bv.length:=hv.2.2
    refine jB<|kd [] [(4,some (bx (jF (kC (uO (((jA L x.a).g).getD i z2) (((jA L x.b).g).getD i z2))))))] mo (wE (kY xV)<|wR (oQr (.sl 61 8 (List.map jF y.grad)) (.sl 61 8 y3) (uM cJ) (by exact (by rw[hy2];rfl)))<|wM<|wE (oXm xI kC i z2)<|wE (gE jW)<|wE (kY xV)<|wR (oQr (.sl 61 8 (List.map jF z.grad)) (.sl 61 8 (List.map jF (List.map kC ((jA L x.b).g)))) (uM cJ) (by exact (by rw[hz2];rfl)))<|wM<|wE (oXm xI kC i z2)<|wE (gE jW)<|wE (jY (u_sub (((jA L x.a).g).getD i z2) (qD (uU hu.2.1 (by decide) i) (by decide)) (((jA L x.b).g).getD i z2) (qD (uU hv.2.1 (by decide) i) (by decide))))<|wT (qA jW)<|wZ) ?_
    refine jE ⟨_,(kH (cs:=(bx (jF (kC (uO (((jA L x.a).g).getD i z2) (((jA L x.b).g).getD i z2)))))) (d:=(jF (kC (uO (((jA L x.a).g).getD i z2) (((jA L x.b).g).getD i z2))))) rfl rfl jW rfl rfl .nil),?_⟩
    rw[nG_3 hop];rfl
   ·replace h4:=ne_of_beq_false h4
    refine jB<|kx [(48,(vb (x.op == 6)))] [] (zE xR<|zM<|zZ) ?_
    refine jG (b:=(x.op == 6)) rfl (fun h5=>?_) (fun h5=>?_)
    ·replace h5:=eq_of_beq h5
     have hk1:xM x.op=1:=by rw[h5];rfl
     have hop:=h5
     obtain ⟨a1,a2⟩:=hS.a (by omega)
     have hy2:=hy (by omega)
     have hu:=hLk _ (xB (d:=jz) a2)
     have hul:(jA L x.a).g.length=bv.length:=hu.2.2
     refine jB<|kx [] [(4,some (bx (jF (kC (gneg (((jA L x.a).g).getD i z2))))))] (zE (kY xV)<|zR (oQr (.sl 61 8 (List.map jF y.grad)) (.sl 61 8 y3) (uM cJ) (by exact (by rw[hy2];rfl)))<|zM<|zE (oXm xI kC i z2)<|zE (gE jW)<|zE (jY (u_neg (((jA L x.a).g).getD i z2) (qD (uU hu.2.1 (by decide) i) (by decide))))<|zT (qA jW)<|zZ) ?_
     refine jE ⟨_,(kH (cs:=(bx (jF (kC (gneg (((jA L x.a).g).getD i z2)))))) (d:=(jF (kC (gneg (((jA L x.a).g).getD i z2))))) rfl rfl jW rfl rfl .nil),?_⟩
     rw[nG_6 hop];rfl
    ·replace h5:=ne_of_beq_false h5
     refine jB<|kx [(56,(vb (x.op == 4)))] [] (zE xR<|zM<|zZ) ?_
     refine jG (b:=(x.op == 4)) rfl (fun h6=>?_) (fun h6=>?_)
     ·replace h6:=eq_of_beq h6
      have hk2:xM x.op=2:=by rw[h6];rfl
      have hop:=h6
      obtain ⟨a1,a2⟩:=hS.a (by omega)
      obtain ⟨b1,b2⟩:=hS.b hk2
      have hy2:=hy (by omega)
      have hz2:=hz hk2
      have hu:=hLk _ (xB (d:=jz) a2)
      have hv:=hLk _ (xB (d:=jz) b2)
      have hul:(jA L x.a).g.length=bv.length:=hu.2.2
      have hvl:(jA L x.b).g.length=bv.length:=hv.2.2
      refine jB<|kd [] [(4,some (bx y2))] mo (wE (kY zJ)<|wR (oQr (jF y.value) (jF (kC ((jA L x.a).v))) (kK jW) (by exact (by rw[hy2];rfl)))<|wE (kY xV)<|wR (oQr (.sl 61 8 (List.map jF z.grad)) (.sl 61 8 (List.map jF (List.map kC ((jA L x.b).g)))) (uM cJ) (by exact (by rw[hz2];rfl)))<|wM<|wE (oXm xI kC i z2)<|wE (gE jW)<|wE (kY zJ)<|wR (oQr (jF z.value) (jF (kC ((jA L x.b).v))) (kK jW) (by exact (by rw[hz2];rfl)))<|wE (kY xV)<|wR (oQr (.sl 61 8 (List.map jF y.grad)) (.sl 61 8 y3) (uM cJ) (by exact (by rw[hy2];rfl)))<|wM<|wE (oXm xI kC i z2)<|wE (gE jW)<|wE (cN xI qO qS)<|wE (jY (u_pair ((jA L x.a).v) (((jA L x.b).g).getD i z2) ((jA L x.b).v) (((jA L x.a).g).getD i z2) (qD hu.1 (by decide)) (qD (uU hv.2.1 (by decide) i) (by decide)) (qD hv.1 (by decide)) (qD (uU hu.2.1 (by decide) i) (by decide))))<|wT (qA jW)<|wZ) ?_
      refine jE ⟨_,(kH (cs:=(bx y2)) (d:=y2) rfl rfl jW rfl rfl .nil),?_⟩
      rw[nG_4 hop];rfl
     ·replace h6:=ne_of_beq_false h6
      refine jB<|kx [(74,(vb (x.op == 7)))] [] (zE xR<|zM<|zZ) ?_
      refine jG (b:=(x.op == 7)) rfl (fun h7=>?_) (fun h7=>?_)
      ·replace h7:=eq_of_beq h7
       have hk1:xM x.op=1:=by rw[h7];rfl
       have hop:=h7
       obtain ⟨a1,a2⟩:=hS.a (by omega)
       have hy2:=hy (by omega)
       have hu:=hLk _ (xB (d:=jz) a2)
       have hul:(jA L x.a).g.length=bv.length:=hu.2.2
       refine jB<|kd [] [(4,some (bx (jF (kC (uF (gw 2) (uF ((jA L x.a).v) (((jA L x.a).g).getD i z2)))))))] mo (wE (kY zJ)<|wR (oQr (jF y.value) (jF (kC ((jA L x.a).v))) (kK jW) (by exact (by rw[hy2];rfl)))<|wE (kY xV)<|wR (oQr (.sl 61 8 (List.map jF y.grad)) (.sl 61 8 y3) (uM cJ) (by exact (by rw[hy2];rfl)))<|wM<|wE (oXm xI kC i z2)<|wE (gE jW)<|wE (jY (u_mul ((jA L x.a).v) (qD hu.1 (by decide)) (((jA L x.a).g).getD i z2) (qD (uU hu.2.1 (by decide) i) (by decide))))<|wE (jY (u_twice (uF ((jA L x.a).v) (((jA L x.a).g).getD i z2)) (qD (yY (k:=2097152) hu.1 (uU hu.2.1 (by decide) i) (by decide)) (by decide))))<|wT (qA jW)<|wZ) ?_
       refine jE ⟨_,(kH (cs:=(bx (jF (kC (uF (gw 2) (uF ((jA L x.a).v) (((jA L x.a).g).getD i z2))))))) (d:=(jF (kC (uF (gw 2) (uF ((jA L x.a).v) (((jA L x.a).g).getD i z2)))))) rfl rfl jW rfl rfl .nil),?_⟩
       rw[nG_7 hop];rfl
      ·replace h7:=ne_of_beq_false h7
       refine jB<|kx [(85,(vb (x.op == 5)))] [] (zE xR<|zM<|zZ) ?_
       refine jG (b:=(x.op == 5)) rfl (fun h8=>?_) (fun h8=>?_)
       ·replace h8:=eq_of_beq h8
        have hk2:xM x.op=2:=by rw[h8];rfl
        have hop:=h8
        obtain ⟨a1,a2⟩:=hS.a (by omega)
        obtain ⟨b1,b2⟩:=hS.b hk2
        have hy2:=hy (by omega)
        have hz2:=hz hk2
        have hu:=hLk _ (xB (d:=jz) a2)
        have hv:=hLk _ (xB (d:=jz) b2)
        have hul:(jA L x.a).g.length=bv.length:=hu.2.2
        have hvl:(jA L x.b).g.length=bv.length:=hv.2.2
        refine jB<|kd [(11,(.ref 5 0))] [(5,some y1)] mo (wE (kY xV)<|wR (oQr (.sl 61 8 (List.map jF y.grad)) (.sl 61 8 y3) (uM cJ) (by exact (by rw[hy2];rfl)))<|wM<|wE (oXm xI kC i z2)<|wE (gE jW)<|wR (oQr (jF w) (jF (kC (nV bv L x))) (kK jW) (by exact (congrArg jF hw)))<|wE (kY xV)<|wR (oQr (.sl 61 8 (List.map jF z.grad)) (.sl 61 8 (List.map jF (List.map kC ((jA L x.b).g)))) (uM cJ) (by exact (by rw[hz2];rfl)))<|wM<|wE (oXm xI kC i z2)<|wE (gE jW)<|wE (jY (u_mul (nV bv L x) (qD hJ.1 (by decide)) (((jA L x.b).g).getD i z2) (qD (uU hv.2.1 (by decide) i) (by decide))))<|wE (jY (u_sub (((jA L x.a).g).getD i z2) (qD (uU hu.2.1 (by decide) i) (by decide)) (uF (nV bv L x) (((jA L x.b).g).getD i z2)) (qD (yY (k:=2097152) hJ.1 (uU hv.2.1 (by decide) i) (by decide)) (by decide))))<|wE (kY zJ)<|wR (oQr (jF z.value) (jF (kC ((jA L x.b).v))) (kK jW) (by exact (by rw[hz2];rfl)))<|wE (jY (u_div (uO (((jA L x.a).g).getD i z2) (uF (nV bv L x) (((jA L x.b).g).getD i z2))) (qD (fS (k:=3145729) (uU hu.2.1 (by decide) i) (yY (k:=2097152) hJ.1 (uU hv.2.1 (by decide) i) (by decide)) (by decide)) (by decide)) ((jA L x.b).v) (qD hv.1 (by decide)) (hn.zf hop)))<|wM<|wE uT<|wE uT<|wN (qV 5 qO qS)<|wT (qA jW)<|wM<|wZ) ?_
        refine jB<|kx [] [(4,some y1)] (zR (kK jW)<|zT (qA jW)<|zZ) ?_
        refine jE ⟨_,(kH (cs:=y1) (d:=(jF (kC (mY (uO (((jA L x.a).g).getD i z2) (uF (nV bv L x) (((jA L x.b).g).getD i z2))) ((jA L x.b).v))))) rfl rfl jW rfl rfl .nil),?_⟩
        rw[nG_5 hop];rfl
       ·replace h8:=ne_of_beq_false h8
        have hop:x.op=0:=by have:=hn.op;omega
        have hc9:=hn.con hop
        refine jD<|jB<|kx [] [(4,some (bx (jF (kC (gw 0)))))] (zE (jY u_none)<|zT (qA jW)<|zZ) ?_
        refine jE ⟨_,(kH (cs:=(bx (jF (kC (gw 0))))) (d:=(jF (kC (gw 0)))) rfl rfl jW rfl rfl .nil),?_⟩
        rw[nG_0 hop];rfl
theorem pl83:eS Tryz.prog 83=some [(0,1),(1,1),(2,1),(3,4)]:=by kernel_rfl
end Go.Proofs.YtnajallgoaiahaaGreatDoor
