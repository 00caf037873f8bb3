/- Part 32 of a proof: rules, plain facts, and functions walked. -/
import Derived.Test.YtnajallgoaiahaaGreatDoorM31
import Derived.Test.YtnajallgoaiahaaGreatDoorM27
import Derived.Test.YtnajallgoaiahaaGreatDoorM29
import Derived.Test.YtnajallgoaiahaaGreatDoorM18
import Derived.Test.YtnajallgoaiahaaGreatDoorM22
import Derived.Test.YtnajallgoaiahaaGreatDoorM19
import Derived.Test.YtnajallgoaiahaaGreatDoorM30
import Derived.Test.YtnajallgoaiahaaGreatDoorM10
import Derived.Test.YtnajallgoaiahaaGreatDoorM23
set_option linter.all false
set_option maxRecDepth 4000
namespace Go.Proofs.YtnajallgoaiahaaGreatDoor
open Go.Fid
theorem j_jetsF0(t:List kW)(ht:yM 1048576 t)(bv:List R2)(hbx:∀ x∈bv,GL 1048576 x)(k0:Nat)(hr:JFailP bv t k0):jP Tryz.prog 67 [(.sl 83 7 (List.map qA t)),(.sl 61 8 (List.map jJ (List.map kP bv))),(.val (.int .i64 (((1:Nat):Int)))),(.val (.int .i64 (-1)))] (.tup [(jL (nN.mk (jZ.mk qH qH) [] [])),(.val (.int .i64 (((14:Nat):Int))))]):=by
 have h0:=tm_0 hr.c0
 have hlt:=hr.lt
 let y3:=(jZ.mk qH qH)
 let y2:=(bx (jL (nN.mk y3 [] [])))
 let y1:=(bx (.agg [(.val (.int .i64 (((bv.length:Nat):Int)))),(.val (.int .i64 (((1:Nat):Int)))),(.val (.int .i64 (-1))),(.val (.slice none 0 0)),(.val (.bool (false)))]))
 refine jI Tryz.func67 rfl cb67 rfl ?_
 show qJ _ _ _ _ ⟨[(0,(vl 83 7 qA t)),(1,(vl 61 8 jJ (List.map kP bv))),(2,(jR 1)),(3,(vi (-1)))],[]⟩
 refine jB<|kx [(8,(.ref 0 0))] [(0,some y2)] (zN (uF 0 ze95 zo95)<|zM<|zZ) ?_
 refine jB<|jB<|kx [(16,(vl 61 8 jJ (List.map kP bv))),(17,(jR bv.length)),(18,(jR 0))] [] (zM<|zE (oLn gP bv.length)<|zM<|zZ) ?_
 refine jH<|kB (α:=Nat) (fun i=>⟨[(0,(vl 83 7 qA t)),(1,(vl 61 8 jJ (List.map kP bv))),(2,(jR 1)),(3,(vi (-1))),(8,(.ref 0 0)),(16,(vl 61 8 jJ (List.map kP bv))),(17,(jR bv.length)),(18,(jR i))],[(0,some y2)]⟩) (fun i=>i≤bv.length) (fun i=>bv.length-i) 0 wk (Nat.zero_le _) ?_
 rintro i hi
 refine jB<|kx [(19,(vb (decide (((i:Nat):Int)<((bv.length:Nat):Int)))))] [] (zE xG<|zZ) ?_
 refine jB<|jF rfl (fun h1=>?_) (fun h1=>?_)
 ·replace h1:=uW h1
  refine jD<|jB<|jH<|jB<|kx [(11,(.ref 1 0))] [(1,some (bx (jJ (kP (bv.getD i z2)))))] (zE (oXm gP kP i z2)<|zE (nR kI)<|zN (uF 1 uH uR)<|zT (qK kI)<|zZ) ?_
  refine jB<|kx [(24,(vb false))] [] (zR (kM kI)<|zE (jX (by have h:=bS (kP (bv.getD i z2)) (gZ (⟨qQ (jV (kG (xB hbx (by decide) i).1) (by decide:1048576≤1048576)),qQ (jV (kG (xB hbx (by decide) i).2.1) (by decide:1048576≤1048576))⟩) (by decide));rw[show uO (kP (bv.getD i z2))=true from zL (xB hbx (by decide) i).2.2] at h;exact h))<|zE nY<|zZ) ?_
  refine kS ?_
  refine jD<|kx [(18,(jR (i+1)))] [] (zE (vT (i+1))<|zM<|zZ) ?_
  exact ⟨i+1,wk,(by omega),(by first|omega|(dsimp only;omega))⟩
 ·replace h1:=uX h1
  refine kC<|jB<|jB<|kx [(36,(vb false))] [] (zM<|zE (vZ false xG)<|zM<|zM<|zE (vZ false mA)<|zE xN<|zM<|zM<|zE (vZ false mA)<|zE xN<|zZ) ?_
  refine kS ?_
  refine jD<|jB<|jB<|kx [(12,(jR (cB ((bv.length:Nat):Int) t)))] [] (zM<|zM<|zE (oLn gP bv.length)<|zE (jX (j_chk t ht ((bv.length:Nat):Int)))<|zM<|zZ) ?_
  refine jB<|kx [(43,(vb false))] [] (zM<|zE (vZ false mC (by exact bne_eq_false_iff_eq.2 (by rw[show (cB ((bv.length:Nat):Int) t)=0 from hr.c0]<;>rfl)))<|zZ) ?_
  refine kS ?_
  refine jD<|jB<|kx [(13,(.ref 2 0))] [(2,some y1)] (zM<|zE (oLn gP bv.length)<|zM<|zM<|zE (bY pl161 ze161 zn161)<|zN (vW 2)<|zM<|zZ) ?_
  refine jB<|jB<|pwp_own 2 3 3 95 10 (cs:=y1) (h:=?_)
  refine kV (wk (l:=[(0,(vl 83 7 qA t)),(1,(vl 61 8 jJ (List.map kP bv))),(8,(.ref 0 0)),(13,(.ref 2 0))]) (b:=[(0,some y2),(2,some [(jR bv.length),(jR 1),(vi (-1)),(.own 3 95 10 0),(vb false)]),(3,some (nD jL []))])) ?_
  refine kx [(52,(vl 83 7 qA t)),(53,(jR t.length)),(54,(jR 0))] [] (zM<|zE (uE el23)<|zM<|zZ) ?_
  refine jH<|kB (α:=Nat) (fun k=>⟨[(1,(vl 61 8 jJ (List.map kP bv))),(8,(.ref 0 0)),(13,(.ref 2 0)),(52,(vl 83 7 qA t)),(53,(jR t.length)),(54,(jR k))],[(0,some y2),(2,some (xF bv.length 3 (jU bv t k) false)),(3,some (xL (jU bv t k)))]⟩) (fun k=>k≤k0) (fun k=>t.length-k) 0 wk (Nat.zero_le _) ?_
  rintro k hk
  have hju:=dQ bv t k
  have hjm:(List.map qI (jU bv t k)).length=k:=by rw[List.length_map,hju]
  refine jB<|kx [(55,(vb (decide (((k:Nat):Int)<((t.length:Nat):Int)))))] [] (zE xG<|zZ) ?_
  refine jB<|jF rfl (fun h2=>?_) (fun h2=>?_)
  ·replace h2:=uW h2
   refine jD<|jB<|jH<|jB<|kx [(15,(.ref 4 0))] [(4,some (bx (qA (t.getD k tz))))] (zE (xJ el23 k (tz:kW))<|zE (nR sh83)<|zH (uF 4 ze83 zo83)<|zT (qK sh83)<|zZ) ?_
   refine jB ?_
   rcases hlt0:(decide (k<k0)) with _ | _
   ·refine kf [] [(2,some (xF bv.length 21 ((jU bv t k)++[(jk (gw 0) (fun _=>gw 0) bv.length)]) true)),(21,some (xL ((jU bv t k)++[(jk (gw 0) (fun _=>gw 0) bv.length)]))),(10,none),(11,none),(12,none),(13,none),(14,none),(15,none),(16,none),(17,none),(18,none),(19,none),(20,none),(3,none),(5,none),(6,none),(7,none),(8,none),(9,none)] (zM<|zR (kM sh83)<|zM<|zSe (B2:=[(2,some (xF bv.length 3 (jU bv t k) false)),(3,some (xL (jU bv t k)))]) (B2':=[(2,some (xF bv.length 21 ((jU bv t k)++[(jk (gw 0) (fun _=>gw 0) bv.length)]) true)),(21,some (xL ((jU bv t k)++[(jk (gw 0) (fun _=>gw 0) bv.length)])))]) [2,3,5,6,7,8,9,10,11,12,13,14,15,16,17,18,19,20,21] [2] (f_step (t.getD k tz) bv hbx (jU bv t k) ((show k0=k by have:=uX hlt0;omega)▸hr.fl))<|zF) ?_
    refine kV (wk (l:=[(1,(vl 61 8 jJ (List.map kP bv))),(8,(.ref 0 0)),(13,(.ref 2 0)),(52,(vl 83 7 qA t)),(53,(jR t.length)),(54,(jR k))]) (b:=[(0,some y2),(2,some (xF bv.length 21 ((jU bv t k)++[(jk (gw 0) (fun _=>gw 0) bv.length)]) true)),(21,some (xL ((jU bv t k)++[(jk (gw 0) (fun _=>gw 0) bv.length)])))])) ?_
    refine kV (sim_ren2 (S':=[(1,(vl 61 8 jJ (List.map kP bv))),(8,(.ref 0 0)),(13,(.ref 2 0)),(52,(vl 83 7 qA t)),(53,(jR t.length)),(54,(jR k))]) (B':=[(0,some y2),(2,some (xF bv.length 3 ((jU bv t k)++[(jk (gw 0) (fun _=>gw 0) bv.length)]) true)),(3,some (xL ((jU bv t k)++[(jk (gw 0) (fun _=>gw 0) bv.length)])))]) 3 21 2) ?_
    refine jB<|kx [(65,(vb true))] [] (zM<|zE oNc<|zE (qE fo161_4)<|zR (uN aU)<|zZ) ?_
    refine xT ?_
    refine jB<|kx [(9,(jR 14))] [(0,some y2)] (zE (bY pl95 ze95 zo95)<|zT (qK eR)<|zM<|zZ) ?_
    refine jE ⟨_,(kN (cs:=y2) (d:=(jL (nN.mk y3 [] []))) rfl rfl eR rfl rfl (.tmp (d:=(.val (.int .i64 (((14:Nat):Int))))) rfl .nil)),?_⟩
    first | rfl | exact absurd hlt (by omega)
   ·refine kf [] [(2,some (xF bv.length 21 ((jU bv t k)++[(nJ bv (jU bv t k) (t.getD k tz))]) false)),(21,some (xL ((jU bv t k)++[(nJ bv (jU bv t k) (t.getD k tz))]))),(10,none),(11,none),(12,none),(13,none),(14,none),(15,none),(16,none),(17,none),(18,none),(19,none),(20,none),(3,none),(5,none),(6,none),(7,none),(8,none),(9,none)] (zM<|zR (kM sh83)<|zM<|zSe (B2:=[(2,some (xF bv.length 3 (jU bv t k) false)),(3,some (xL (jU bv t k)))]) (B2':=[(2,some (xF bv.length 21 ((jU bv t k)++[(nJ bv (jU bv t k) (t.getD k tz))]) false)),(21,some (xL ((jU bv t k)++[(nJ bv (jU bv t k) (t.getD k tz))])))]) [2,3,5,6,7,8,9,10,11,12,13,14,15,16,17,18,19,20,21] [2] (e_step (t.getD k tz) bv hbx (jU bv t k) (hr.st k (uW hlt0)))<|zF) ?_
    refine kV (wk (l:=[(1,(vl 61 8 jJ (List.map kP bv))),(8,(.ref 0 0)),(13,(.ref 2 0)),(52,(vl 83 7 qA t)),(53,(jR t.length)),(54,(jR k))]) (b:=[(0,some y2),(2,some (xF bv.length 21 ((jU bv t k)++[(nJ bv (jU bv t k) (t.getD k tz))]) false)),(21,some (xL ((jU bv t k)++[(nJ bv (jU bv t k) (t.getD k tz))])))])) ?_
    refine kV (sim_ren2 (S':=[(1,(vl 61 8 jJ (List.map kP bv))),(8,(.ref 0 0)),(13,(.ref 2 0)),(52,(vl 83 7 qA t)),(53,(jR t.length)),(54,(jR k))]) (B':=[(0,some y2),(2,some (xF bv.length 3 ((jU bv t k)++[(nJ bv (jU bv t k) (t.getD k tz))]) false)),(3,some (xL ((jU bv t k)++[(nJ bv (jU bv t k) (t.getD k tz))])))]) 3 21 2) ?_
    refine jB<|kx [(65,(vb false))] [] (zM<|zE oNc<|zE (qE fo161_4)<|zR (uN aU)<|zZ) ?_
    refine kS ?_
    refine jD<|kx [(54,(jR (k+1)))] [] (zE (vT (k+1))<|zM<|zZ) ?_
    exact ⟨k+1,wk,(by have:=uW hlt0;omega),(by first|omega|(dsimp only;omega))⟩
  ·replace h2:=uX h2
   refine kC<|jB<|kd [(9,(jR 0))] [(0,some (bx (jL ((List.map qI (jU bv t k)).getD ((List.map qI (jU bv t k)).length-1) (nN.mk y3 [] [])))))] mo (wM<|wE oNc<|wE (qE cE)<|wR (uN sh143)<|wM<|wE oNc<|wE (qE cE)<|wR (uN sh143)<|wE (oLo el143)<|wE (oSb ((List.map qI (jU bv t k)).length-1))<|wE (oXO el143 ((List.map qI (jU bv t k)).length-1))<|wR (oLA eR ((List.map qI (jU bv t k)).length-1) (nN.mk y3 [] []))<|wT (qK eR)<|wM<|wZ) ?_
   refine jE ⟨_,(kN (cs:=(bx (jL ((List.map qI (jU bv t k)).getD ((List.map qI (jU bv t k)).length-1) (nN.mk y3 [] []))))) (d:=(jL ((List.map qI (jU bv t k)).getD ((List.map qI (jU bv t k)).length-1) (nN.mk y3 [] [])))) rfl rfl eR rfl rfl (.tmp (d:=(.val (.int .i64 (((0:Nat):Int))))) rfl .nil)),?_⟩
   first | rfl | exact absurd hlt (by omega)
theorem j_jetsF(t:List kW)(ht:yM 1048576 t)(bv:List R2)(hbx:∀ x∈bv,GL 1048576 x)(hfe:∃ k,JFailP bv t k):jP Tryz.prog 67 [(.sl 83 7 (List.map qA t)),(.sl 61 8 (List.map jJ (List.map kP bv))),(.val (.int .i64 (((1:Nat):Int)))),(.val (.int .i64 (-1)))] (.tup [(jL (nN.mk (jZ.mk qH qH) [] [])),(.val (.int .i64 (((14:Nat):Int))))]):=by
 obtain ⟨k,hk⟩:=hfe
 exact j_jetsF0 t ht bv hbx k hk
theorem p_grdF(t:List kW)(ht:yM 1048576 t)(xs:List Rat)(hx:∀ q∈xs,QL q 1048576)(hfe:∃ k,JFailP (List.map mH xs) t k)(hxb:xs.length≤1000000):jP Tryz.prog 13 [(.sl 83 7 (List.map qA t)),(.sl 45 4 (List.map jK (List.map jQ xs)))] (.tup [(.sl 45 4 (List.map jK [])),(.val (.int .i64 (((14:Nat):Int))))]):=by
 refine jI Tryz.func13 rfl cb13 rfl ?_
 show qJ _ _ _ _ ⟨[(0,(vl 83 7 qA t)),(1,(vl 45 4 jK (List.map jQ xs)))],[]⟩
 refine jB<|kx [] [] (zE (cT 45 4)<|zM<|zZ) ?_
 refine jB<|kx [(6,(.ref 0 0)),(7,(jR 14))] [(0,some (bx (jL (nN.mk (jZ.mk qH qH) [] []))))] (zM<|zM<|zE (jX (p_pts xs hx hxb))<|zE (jX (j_jetsF t ht (List.map mH xs) (pts_gl hx) hfe))<|zM<|zE xD<|zE xD<|zN (uF 0 ze95 zo95)<|zT (qK eR)<|zM<|zZ) ?_
 refine jB<|jB<|kx [(19,(vb true))] [] (zM<|zE (vZ true mC)<|zZ) ?_
 refine xT ?_
 refine jB<|kx [(4,(vl 45 4 jK [])),(5,(jR 14))] [] (zM<|zE (cT 45 4)<|zM<|zZ) ?_
 refine jE ⟨_,(.tmp (d:=(.sl 45 4 (List.map jK []))) rfl (.tmp (d:=(.val (.int .i64 (((14:Nat):Int))))) rfl .nil)),?_⟩
 rfl
theorem p_ptsR(l:List jN)(hl:uJ 1048576 l)(hxb:l.length≤1048576):jP Tryz.prog 68 [(.sl 45 4 (List.map jK l))] (.sl 61 8 (List.map jJ (List.map (fun x=>jZ.mk x x) l))):=by
 have hlb:=hl.2
 let y1:=qH
 refine jI Tryz.func68 rfl cb68 rfl ?_
 show qJ _ _ _ _ ⟨[(0,(vl 45 4 jK l))],[]⟩
 refine jB<|kx [] [] (zE (cT 61 8)<|zZ) ?_
 refine jB<|kx [(3,(.own 0 61 8 0))] [(0,some (nD jJ []))] (zO 0 61 8<|zZ) ?_
 refine jB<|jB<|kx [(6,(vl 45 4 jK l)),(7,(jR l.length)),(8,(jR 0))] [] (zM<|zE (uE qY)<|zM<|zZ) ?_
 refine jH<|kB (α:=Nat × List jZ) (fun (i,o)=>⟨[(3,(.own 0 61 8 o.length)),(6,(vl 45 4 jK l)),(7,(jR l.length)),(8,(jR i))],[(0,some (nD jJ o))]⟩) (fun (i,o)=>i≤l.length∧o=(l.take i).map (fun x=>jZ.mk x x)) (fun (i,o)=>l.length-i) (0,[]) wk ⟨Nat.zero_le _,by simp⟩ ?_
 rintro ⟨i,o⟩ ⟨hi,ho⟩
 have hol:o.length=i:=by rw[ho,List.length_map,List.length_take];omega
 refine jB<|kx [(9,(vb (decide (((i:Nat):Int)<((l.length:Nat):Int)))))] [] (zE xG<|zZ) ?_
 refine jB<|jF rfl (fun h1=>?_) (fun h1=>?_)
 ·replace h1:=uW h1
  refine jD<|jB<|jH<|jB<|kx [(5,(.ref 1 0))] [(1,some (bx (jK (l.getD i y1))))] (zE (xJ qY i y1)<|zE (nR jT)<|zH (uF 1 uG uQ)<|zT (qK jT)<|zZ) ?_
  refine kf [(3,(.own 0 61 8 ((o++[(jZ.mk (l.getD i y1) (l.getD i y1))]).length)))] [(0,some (nD jJ (o++[(jZ.mk (l.getD i y1) (l.getD i y1))])))] (zM<|zR (kM jT)<|zR (kM jT)<|zE (bY pl61 uH uR)<|zE (eC gP uH uR)<|zAS jJ o [(jZ.mk (l.getD i y1) (l.getD i y1))] rfl gP uH by61<|zM<|zF) ?_
  refine kx [(8,(jR (i+1)))] [] (zE (vT (i+1))<|zM<|zZ) ?_
  exact ⟨(i+1,o++[jZ.mk (l.getD i qH) (l.getD i qH)]),wk,⟨by omega,by rw[ho];exact mR (f:=fun x=>jZ.mk x x) (by omega)⟩,(by first|omega|(dsimp only;omega))⟩
 ·replace h1:=uX h1
  refine kC<|jB<|kx [(2,(.own 0 61 8 o.length))] [] (zM<|zM<|zZ) ?_
  refine kV (vN (t:=2) (k:=0) (es:=List.map jJ o) rfl rfl (nL _ _ (fun _=>rfl)) (uT _ _ rfl) (mT jJ o (fun _=>rfl) rfl)) ?_
  refine jE ⟨_,(.tmp (d:=(.sl 61 8 (List.map jJ o))) rfl .nil),?_⟩
  rw[ho,show i=l.length by omega,List.take_length];rfl
theorem pl83:eB Tryz.prog 83=some [(0,1),(1,1),(2,1),(3,4)]:=by kernel_rfl
end Go.Proofs.YtnajallgoaiahaaGreatDoor
namespace Go.Fid
def vV(xs L:List Rat)(x:kW):Rat :=
 if x.op=1 then xs.getD x.a.toNat 0
 else if x.op=2 then L.getD x.a.toNat 0+L.getD x.b.toNat 0
 else if x.op=3 then L.getD x.a.toNat 0-L.getD x.b.toNat 0
 else if x.op=4 then L.getD x.a.toNat 0*L.getD x.b.toNat 0
 else if x.op=6 then -(L.getD x.a.toNat 0)
 else if x.op=7 then L.getD x.a.toNat 0*L.getD x.a.toNat 0
 else if x.op=5 then L.getD x.a.toNat 0 / L.getD x.b.toNat 0
 else qM x.n
def vU(xs:List Rat)(t:List kW):Nat→List Rat
 |0=>[]
 |k+1=>vU xs t k++[vV xs (vU xs t k) (t.getD k tz)]
theorem vU_len(xs:List Rat)(t:List kW):∀ k,(vU xs t k).length=k
 |0=>rfl
 |k+1=>by rw[vU,List.length_append,vU_len xs t k];rfl
structure VUp (xs:List Rat) (t:List kW) (k:Nat):Prop where
 ok:∀ i,i<k→QL (vV xs (vU xs t i) (t.getD i tz)) 1048576
 dz:∀ i,i<k→(t.getD i tz).op=5→(vU xs t i).getD (t.getD i tz).b.toNat 0≠0
structure VRun (xs:List Rat) (t:List kW):Prop where
 c0:cB ((xs.length:Nat):Int) t=0
 up:VUp xs t t.length
structure VFail (xs:List Rat) (t:List kW) (k:Nat):Prop where
 c0:cB ((xs.length:Nat):Int) t=0
 hk:k<t.length
 up:VUp xs t k
 op:(t.getD k tz).op=5
 z:(vU xs t k).getD (t.getD k tz).b.toNat 0=0
theorem VUp.le{xs:List Rat}{t:List kW}{k j:Nat}(h:VUp xs t k)(hj:j≤k):VUp xs t j:=⟨fun i hi=>h.ok i (by omega),fun i hi=>h.dz i (by omega)⟩
theorem VUp.all{xs:List Rat}{t:List kW}:∀ {k},VUp xs t k→∀ q∈vU xs t k,QL q 1048576
 |0,_,q,hq=>by simp [vU] at hq
 |k+1,h,q,hq=>by
  rw[vU,List.mem_append] at hq
  rcases hq with hq | hq
  ·exact (h.le (Nat.le_succ k)).all q hq
  ·rw[List.mem_singleton] at hq;subst hq
   exact h.ok k (by omega)
def lastV(xs:List Rat)(t:List kW):Rat:=(vU xs t t.length).getD (t.length-1) 0
theorem qlg{l:List Rat}{n:Nat}(h:∀ q∈l,QL q n)(h1:1≤n)(j:Nat):QL (l.getD j 0) n:=by
 rcases Nat.lt_or_ge j l.length with hj | hj
 ·rw[List.getD_eq_getElem?_getD,List.getElem?_eq_getElem hj];exact h _ (List.getElem_mem _)
 ·rw[List.getD_eq_getElem?_getD,List.getElem?_eq_none (by omega)];exact vC nI h1
theorem VRun.last{xs:List Rat}{t:List kW}(h:VRun xs t):QL (lastV xs t) 1048576:=qlg h.up.all (by decide) _
def szs(t:List kW):List Int:=cL t t.length
def evs(xs:List Rat)(t:List kW):List Rat:=vU xs t t.length
theorem szU_app(t:List kW)(x:kW):∀ k,k≤t.length→cL (t++[x]) k=cL t k
 |0,_=>rfl
 |k+1,h=>by
  rw[cL,cL,szU_app t x k (by omega)]
  rw[show (t++[x]).getD k tz=t.getD k tz by rw[List.getD_eq_getElem?_getD,List.getElem?_append_left (by omega),← List.getD_eq_getElem?_getD]]
theorem vU_app(xs:List Rat)(t:List kW)(x:kW):∀ k,k≤t.length→vU xs (t++[x]) k=vU xs t k
 |0,_=>rfl
 |k+1,h=>by
  rw[vU,vU,vU_app xs t x k (by omega)]
  rw[show (t++[x]).getD k tz=t.getD k tz by rw[List.getD_eq_getElem?_getD,List.getElem?_append_left (by omega),← List.getD_eq_getElem?_getD]]
theorem snoc_get(t:List kW)(x:kW):(t++[x]).getD t.length tz=x:=by
 rw[List.getD_eq_getElem?_getD,List.getElem?_append_right (Nat.le_refl _),Nat.sub_self];rfl
theorem snoc_old(t:List kW)(x:kW){k:Nat}(h:k<t.length):(t++[x]).getD k tz=t.getD k tz:=by
 rw[List.getD_eq_getElem?_getD,List.getElem?_append_left h,← List.getD_eq_getElem?_getD]
theorem szs_snoc(t:List kW)(x:kW):szs (t++[x])=szs t++[szN (szs t) x]:=by
 unfold szs
 rw[List.length_append,List.length_singleton,cL,szU_app t x _ (Nat.le_refl _),snoc_get]
theorem evs_snoc(xs:List Rat)(t:List kW)(x:kW):evs xs (t++[x])=evs xs t++[vV xs (evs xs t) x]:=by
 unfold evs
 rw[List.length_append,List.length_singleton,vU,vU_app xs t x _ (Nat.le_refl _),snoc_get]
theorem szs_len(t:List kW):(szs t).length=t.length:=gV _ _
theorem evs_len(xs:List Rat)(t:List kW):(evs xs t).length=t.length:=vU_len _ _ _
structure GT (xs:List Rat) (z:Int) (t:List kW):Prop where
 nd:szUp z t t.length
 up:VUp xs t t.length
theorem GT.nil(xs:List Rat)(z:Int):GT xs z []:=⟨fun i h=>absurd h (Nat.not_lt_zero i),⟨fun i h=>absurd h (Nat.not_lt_zero i),fun i h=>absurd h (Nat.not_lt_zero i)⟩⟩
theorem nd_snoc{z:Int}{t:List kW}{x:kW}(h:szUp z t t.length)(hn:ndC z (szs t) x=0):szUp z (t++[x]) (t++[x]).length:=fun i hi=>by
 rw[List.length_append,List.length_singleton] at hi
 rw[szU_app t x i (by omega)]
 rcases Nat.lt_or_ge i t.length with h1 | h1
 ·rw[snoc_old t x h1];exact h i h1
 ·obtain rfl:i=t.length:=by omega
  rw[snoc_get];exact hn
theorem up_snoc{xs:List Rat}{t:List kW}{x:kW}(h:VUp xs t t.length):VUp xs (t++[x]) t.length:=⟨fun i hi=>by
  rw[vU_app xs t x i (by omega),snoc_old t x hi];exact h.ok i hi,fun i hi=>by
  rw[vU_app xs t x i (by omega),snoc_old t x hi];exact h.dz i hi⟩
theorem GT.snoc{xs:List Rat}{z:Int}{t:List kW}{x:kW}(h:GT xs z t)(hn:ndC z (szs t) x=0)(hq:QL (vV xs (evs xs t) x) 1048576)(hz:x.op=5→(evs xs t).getD x.b.toNat 0≠0):GT xs z (t++[x]) :=
 ⟨nd_snoc h.nd hn,⟨fun i hi=>by
  rw[List.length_append,List.length_singleton] at hi
  rcases Nat.lt_or_ge i t.length with h1 | h1
  ·exact (up_snoc h.up).ok i h1
  ·obtain rfl:i=t.length:=by omega
   rw[snoc_get,vU_app xs t x _ (Nat.le_refl _)];exact hq,fun i hi=>by
  rw[List.length_append,List.length_singleton] at hi
  rcases Nat.lt_or_ge i t.length with h1 | h1
  ·exact (up_snoc h.up).dz i h1
  ·obtain rfl:i=t.length:=by omega
   rw[snoc_get,vU_app xs t x _ (Nat.le_refl _)];exact hz⟩⟩
structure NdV (xs:List Rat) (t:List kW) (i:Int) (v:Rat) (s:Int) (n:Nat):Prop where
 lo:0≤i
 hi:i<t.length
 vl:(evs xs t).getD i.toNat 0=v
 s1:1≤(szs t).getD i.toNat 0
 sb:(szs t).getD i.toNat 0≤s
 qb:QL v n
theorem NdV.snoc{xs:List Rat}{t:List kW}{i:Int}{v:Rat}{s:Int}{n:Nat}(h:NdV xs t i v s n)(x:kW):NdV xs (t++[x]) i v s n:=by
 have h1:=h.lo;have h2:=h.hi
 refine ⟨h1,by rw[List.length_append];omega,?_,?_,?_,h.qb⟩
 ·rw[evs_snoc,List.getD_eq_getElem?_getD,List.getElem?_append_left (by rw[evs_len];omega),← List.getD_eq_getElem?_getD];exact h.vl
 ·rw[szs_snoc,List.getD_eq_getElem?_getD,List.getElem?_append_left (by rw[szs_len];omega),← List.getD_eq_getElem?_getD];exact h.s1
 ·rw[szs_snoc,List.getD_eq_getElem?_getD,List.getElem?_append_left (by rw[szs_len];omega),← List.getD_eq_getElem?_getD];exact h.sb
theorem NdV.up{xs:List Rat}{t:List kW}{i:Int}{v:Rat}{s s':Int}{n n':Nat}(h:NdV xs t i v s n)(hs:s≤s')(hn:n≤n'):NdV xs t i v s' n':=⟨h.lo,h.hi,h.vl,h.s1,Int.le_trans h.sb hs,vC h.qb hn⟩
abbrev tn1 (o a b:Int):kW:=⟨o,a,b,zr⟩
def opT(o:Int)(L:List kW)(a b:Nat→Int):Nat→List kW
 |0=>L
 |i+1=>opT o L a b i++[tn1 o (a i) (b i)]
def opI(m n:Nat):List Int:=(List.range n).map fun i=>((m+i:Nat):Int)
def smI(m:Nat)(f:Int)(i:Nat):Int:=if i=0 then f else ((m+i-1:Nat):Int)
def smT(L:List kW)(f:Int)(r:List Int)(n:Nat):List kW:=opT 2 L (smI L.length f) (fun i=>r.getD i 0) n
def sqT(L:List kW)(l:List Int):List kW:=opT 7 L (fun i=>l.getD i 0) (fun _=>0) l.length
def pdT(L:List kW)(a b:List Int):List kW:=opT 4 L (fun i=>a.getD i 0) (fun i=>b.getD i 0) a.length
def ssT(L:List kW)(l:List Int):List kW:=smT (sqT L l) ((opI L.length l.length).getD 0 0) ((opI L.length l.length).drop 1) (l.length-1)
def spT(L:List kW)(a b:List Int):List kW:=smT (pdT L a b) ((opI L.length a.length).getD 0 0) ((opI L.length a.length).drop 1) (a.length-1)
theorem NdV.op{xs:List Rat}{t:List kW}{j:Int}{v:Rat}{s:Int}{n:Nat}(h:NdV xs t j v s n)(o:Int)(a b:Nat→Int):∀ i,NdV xs (opT o t a b i) j v s n
 |0=>h
 |i+1=>(h.op o a b i).snoc _
theorem NdV.ss{xs:List Rat}{t:List kW}{j:Int}{v:Rat}{s:Int}{n:Nat}(h:NdV xs t j v s n)(l:List Int):NdV xs (ssT t l) j v s n:=(h.op _ _ _ _).op _ _ _ _
theorem NdV.sp{xs:List Rat}{t:List kW}{j:Int}{v:Rat}{s:Int}{n:Nat}(h:NdV xs t j v s n)(a b:List Int):NdV xs (spT t a b) j v s n:=(h.op _ _ _ _).op _ _ _ _
theorem GT.c0{xs:List Rat}{z:Int}{t:List kW}(h:GT xs z t)(hz:0≤z∧z≤64)(h1:t.length≠0)(h4:t.length≤400):cB z t=0:=(tm_yes (by omega) h1 (by omega) h.nd).1
theorem GT.run{xs:List Rat}{t:List kW}(h:GT xs ((xs.length:Nat):Int) t)(hz:xs.length≤64)(h1:t.length≠0)(h4:t.length≤400):VRun xs t:=⟨h.c0 (by omega) h1 h4,h.up⟩
def okL(z:Int)(n:Nat)(a:List Int):Prop:=a.length=n∧∀ j,j<n→0≤a.getD j 0∧a.getD j 0<z
def crK(k:Int):Bool:=decide (k<0)||decide (64≤k)
theorem crK_of{a:List Int}(h:a.any crK=false){j:Nat}(hj:j<a.length):0≤a.getD j 0∧a.getD j 0<64:=by
 have:=List.any_eq_false.1 h (a.getD j 0) (by rw[List.getD_eq_getElem?_getD,List.getElem?_eq_getElem hj];exact List.getElem_mem _)
 unfold crK at this
 rw[Bool.not_eq_true,Bool.or_eq_false_iff,decide_eq_false_iff_not,decide_eq_false_iff_not] at this
 omega
structure CrOk (ls:List (List Int)) (n:Nat):Prop where
 n1:1≤n
 n3:n≤3
 all:∀ a∈ls,a.length=n∧a.any crK=false
theorem CrOk.le{ls:List (List Int)}{n:Nat}(h:CrOk ls n){a:List Int}(ha:a∈ls){z:Int}(hb:∀ k∈a,¬ (8<k∧k<64))(hz:z=9):okL z n a:=by
 obtain ⟨h1,h2⟩:=h.all a ha
 refine ⟨h1,fun j hj=>?_⟩
 have:=crK_of h2 (j:=j) (by omega)
 have:=hb (a.getD j 0) (by rw[List.getD_eq_getElem?_getD,List.getElem?_eq_getElem (by omega)];exact List.getElem_mem _)
 omega
end Go.Fid
namespace Go.Proofs.YtnajallgoaiahaaGreatDoor
open Go.Fid
end Go.Proofs.YtnajallgoaiahaaGreatDoor
namespace Go.Fid
theorem zeroR_uns(x:jN):zeroR x=unsB x:=rfl
def unuB(x:kW):Bool:=if x.op=0 then (((x.a != 0)||(x.b != 0))||!(kL x.n)) else ((decide (xS x.op<0)||(decide (xS x.op<2)&&(x.b != 0)))||!(zeroR x.n))
theorem unu_iff{x:kW}:unuB x=true↔fQ x:=by
 unfold unuB fQ
 by_cases h:x.op=0
 ·rw[if_pos h,h]
  simp only[Bool.or_eq_true,bne_iff_ne,Bool.not_eq_true',ne_eq,not_true_eq_false,false_and,or_false,true_and,show xS 0=0 by decide]
  constructor
  ·rintro ((h1 | h1) | h1)
   ·exact .inr (.inr (.inl h1))
   ·exact .inr (.inl ⟨by decide,h1⟩)
   ·exact .inr (.inr (.inr h1))
  ·rintro (h1 | ⟨_,h1⟩ | h1 | h1)
   ·exact absurd h1 (by decide)
   ·exact .inl (.inr h1)
   ·exact .inl (.inl h1)
   ·exact .inr h1
 ·rw[if_neg h]
  simp only[Bool.or_eq_true,Bool.and_eq_true,decide_eq_true_eq,bne_iff_ne,Bool.not_eq_true',ne_eq,h,not_false_eq_true,false_and,false_or,true_and,zeroR_uns]
  exact or_assoc
theorem unu_bad(x:kW):unuB x=badB x:=by
 cases h:unuB x with
 |true=>exact (aV.2 (unu_iff.1 h)).symm
 |false=>
  cases h2:badB x with
  |false=>rfl
  |true=>rw[unu_iff.2 (aV.1 h2)] at h;cases h
def orD(k:Int)(x:kW):Bool:=((decide (1≤xS x.op)&&(decide (x.a<0)||decide (k≤x.a)))||((xS x.op == 2)&&(decide (x.b<0)||decide (k≤x.b))))
theorem orD_eq(k:Int)(x:kW):orD k x=ordB k x:=by
 unfold orD ordB
 rcases fD x.op with ⟨e,_⟩ | ⟨e,_⟩ | ⟨e,_⟩ | ⟨e,_⟩<;>rw[e]<;>rfl
theorem NdR.a2{z:Int}{t:List kW}{k:Nat}(h:NdR z t k)(h0:1≤xS (t.getD k tz).op):0≤(t.getD k tz).a∧(t.getD k tz).a.toNat<k∧1≤(cL t k).getD (t.getD k tz).a.toNat 0∧(cL t k).getD (t.getD k tz).a.toNat 0≤4096:=by
 have h2:=h.ord
 unfold bW at h2
 have ha:(t.getD k tz).a.toNat<k:=by omega
 exact ⟨by omega,ha,sz_rng h.tm.up _ ha⟩
theorem NdR.b2{z:Int}{t:List kW}{k:Nat}(h:NdR z t k)(h0:xS (t.getD k tz).op=2):0≤(t.getD k tz).b∧(t.getD k tz).b.toNat<k∧1≤(cL t k).getD (t.getD k tz).b.toNat 0∧(cL t k).getD (t.getD k tz).b.toNat 0≤4096:=by
 have h2:=h.ord
 unfold bW at h2
 have ha:(t.getD k tz).b.toNat<k:=by omega
 exact ⟨by omega,ha,sz_rng h.tm.up _ ha⟩
theorem NdR.nx{z:Int}{t:List kW}{k:Nat}(h:NdR z t k){v:Int}(hv:v=szN (cL t k) (t.getD k tz))(hb:¬ 4096<v):szUp z t (k+1)∧cL t k++[v]=cL t (k+1):=by
 rw[hv] at hb
 exact ⟨szUp_s h.tm.up (nd_y h.bad (by rw[gV];exact h.ord) h.rng hb),by rw[hv];rfl⟩
theorem NdR.bg{z:Int}{t:List kW}{k:Nat}(h:NdR z t k){v:Int}(hv:v=szN (cL t k) (t.getD k tz))(hb:4096<v):cB z t=3∧tmL z t=[]:=by
 rw[hv] at hb
 have e:=nd_3 (z:=z) (ss:=cL t k) h.bad (by rw[gV];exact h.ord) h.rng hb
 have:=tm_no h.tm.z0 h.tm.kl h.tm.tl h.tm.up (by rw[e];decide)
 rwa [e] at this
theorem kd_7{o:Int}(h:o=7):xS o=1:=by rw[h];decide
theorem szD_c{ss:List Int}{x:kW}(hb:¬ fQ x)(h:¬ 1≤xS x.op):(1:Int)=szN ss x:=szN_c (by unfold fQ at hb;omega)
theorem szD_n{ss:List Int}{x:kW}(h:1≤xS x.op)(h7:x.op≠7)(h2:xS x.op≠2):ss.getD x.a.toNat 0=szN ss x:=szN_n (by omega) (by rcases fD x.op with ⟨e,f⟩ | ⟨e,f⟩ | ⟨e,f⟩ | ⟨e,f⟩<;>omega) rfl
theorem szD_q{ss:List Int}{x:kW}(h:1≤xS x.op)(h7:x.op=7):2*ss.getD x.a.toNat 0=szN ss x:=szN_q (by omega) h7 rfl
theorem szD_b{ss:List Int}{x:kW}(h2:xS x.op=2):ss.getD x.a.toNat 0+ss.getD x.b.toNat 0=szN ss x:=szN_b (by omega) (by intro h;rw[h] at h2;revert h2;decide) (by intro h;rw[h] at h2;revert h2;decide) rfl rfl
theorem szD_all{ss:List Int}{x:kW}(hb:¬ fQ x){v w:Int}(h1:(¬ 1≤xS x.op→v=1)∧(1≤xS x.op→v=ss.getD x.a.toNat 0))(h2:(x.op=7→w=2*v)∧(x.op≠7→w=v)) :
  (xS x.op=2→w+ss.getD x.b.toNat 0=szN ss x)∧(xS x.op≠2→w=szN ss x):=by
 refine ⟨fun hk=>?_,fun hk=>?_⟩
 ·rw[h2.2 (fun e=>by have:=kd_7 e;omega),h1.2 (by omega)];exact szD_b hk
 ·by_cases h7:x.op=7
  ·have:=kd_7 h7
   rw[h2.1 h7,h1.2 (by omega)];exact szD_q (by omega) h7
  ·rw[h2.2 h7]
   by_cases hk1:1≤xS x.op
   ·rw[h1.2 hk1];exact szD_n hk1 h7 hk
   ·rw[h1.1 hk1];exact szD_c hb hk1
theorem tm_end2{z:Int}{t:List kW}{k:Nat}(h:(decide (z<0)||decide (64<z))=false)(h0:((t.length:Nat):Int)≠0)(h4:¬ 400<((t.length:Nat):Int))(hk:k≤t.length)(h5:¬ ((k:Nat):Int)<((t.length:Nat):Int))(hu:szUp z t k):cB z t=0∧tmL z t=cL t k:=by
 obtain rfl:k=t.length:=by omega
 exact tm_yes (zb_f h) (by omega) (by omega) hu
theorem NdR.op{z:Int}{t:List kW}{k:Nat}(h:NdR z t k):(t.getD k tz).op=0∨(t.getD k tz).op=1∨(t.getD k tz).op=2∨(t.getD k tz).op=3∨(t.getD k tz).op=4∨(t.getD k tz).op=5∨(t.getD k tz).op=6∨(t.getD k tz).op=7:=by
 have:=h.kd
 rcases fD (t.getD k tz).op with ⟨e,f⟩ | ⟨e,f⟩ | ⟨e,f⟩ | ⟨e,f⟩<;>omega
theorem NdR.un{z:Int}{t:List kW}{k:Nat}(h:NdR z t k)(h1:(t.getD k tz).op=6∨(t.getD k tz).op=7):0≤(t.getD k tz).a∧(t.getD k tz).a<k:=by
 have e:xS (t.getD k tz).op=1:=by rcases h1 with h1 | h1<;>rw[h1]<;>decide
 have a:=h.a2 (by omega)
 omega
structure VEnd (xs:List Rat) (t:List kW) (k0:Nat):Prop where
 c0:cB ((xs.length:Nat):Int) t=0
 hk:k0≤t.length
 up:VUp xs t k0
 en:k0<t.length→(t.getD k0 tz).op=5∧(vU xs t k0).getD (t.getD k0 tz).b.toNat 0=0
theorem VRun.fin{xs:List Rat}{t:List kW}(h:VRun xs t):VEnd xs t t.length:=⟨h.c0,Nat.le_refl _,h.up,fun h=>absurd h (Nat.lt_irrefl _)⟩
theorem VFail.fin{xs:List Rat}{t:List kW}{k:Nat}(h:VFail xs t k):VEnd xs t k:=⟨h.c0,Nat.le_of_lt h.hk,h.up,fun _=>⟨h.op,h.z⟩⟩
def vlR(xs:List Rat)(t:List kW)(k:Nat):jN:=if k=t.length then jQ (lastV xs t) else zr
def vlC(t:List kW)(k:Nat):Int:=if k=t.length then ((0:Nat):Int) else ((14:Nat):Int)
theorem VEnd.no2{xs:List Rat}{t:List kW}{k:Nat}(h:VEnd xs t k)(hk:k<t.length):vlR xs t k=zr∧vlC t k=((14:Nat):Int):=⟨if_neg (by omega),if_neg (by omega)⟩
theorem VEnd.eq{xs:List Rat}{t:List kW}{k0 k:Nat}(h:VEnd xs t k0)(hk:k≤k0)(hn:decide (k<k0)=false):k0=k:=by
 have:=of_decide_eq_false hn
 omega
theorem VEnd.at{xs:List Rat}{t:List kW}{k0 k:Nat}(h:VEnd xs t k0)(hk:k≤k0)(hl:k<t.length)(hn:decide (k<k0)=false):(vU xs t k).getD (t.getD k tz).b.toNat 0=0:=by
 have e:=h.eq hk hn
 subst e
 exact (h.en hl).2
theorem VEnd.no{xs:List Rat}{t:List kW}{k0 k:Nat}(h:VEnd xs t k0)(hk:k≤k0)(hl:k<t.length)(hn:decide (k<k0)=false):vlR xs t k0=zr∧vlC t k0=((14:Nat):Int):=by
 have e:=h.eq hk hn
 subst e
 exact h.no2 hl
theorem VEnd.lt{xs:List Rat}{t:List kW}{k0 k:Nat}(h:VEnd xs t k0)(hk:k≤k0)(hl:k<t.length)(ho:(t.getD k tz).op≠5):k<k0:=by
 rcases Nat.lt_or_ge k k0 with h1 | h1
 ·exact h1
 ·obtain rfl:k=k0:=by omega
  exact absurd (h.en hl).1 ho
structure CrLaw (xs:List Rat) (ls:List (List Int)) (n:Nat):Prop where
 ok:CrOk ls n
 hx:∀ q∈xs,QL q 3
 hl:xs.length=9
 hb:∀ a∈ls,∀ z∈a,¬ (8<z∧z<64)
theorem CrLaw.le{xs:List Rat}{ls:List (List Int)}{n:Nat}(h:CrLaw xs ls n){a:List Int}(ha:a∈ls):okL ((xs.length:Nat):Int) n a:=h.ok.le ha (h.hb a ha) (by rw[h.hl];rfl)
end Go.Fid
namespace Go.Proofs.YtnajallgoaiahaaGreatDoor
open Go.Fid
theorem cb76:callB Tryz.prog 76=true:=by kernel_rfl
theorem cb133:callB Tryz.prog 133=true:=by kernel_rfl
theorem u_uns(x:kW)(hx:mI x.n (qM x.n) 1048576):jP Tryz.prog 133 [(qA x)] (.val (.bool ((unuB x)))):=by
 refine jI Tryz.func133 rfl cb133 rfl ?_
 show qJ _ _ _ _ ⟨[(0,(.d (qA x)))],[]⟩
 refine jB<|kx [(1,(.ref 0 0))] [(0,some (bx (qA x)))] (zN (vW 0)<|zM<|zZ) ?_
 refine jB<|kx [(3,(vi (xS x.op)))] [] (zE (qE nC)<|zR (uN bC)<|zE (jX (r_kids x.op))<|zM<|zZ) ?_
 refine jB<|jB<|kx [(9,(vb (x.op == 0)))] [] (zE (qE nC)<|zR (uN bC)<|zE gD<|zZ) ?_
 refine jF (b:=(x.op == 0)) rfl (fun h1=>?_) (fun h1=>?_)
 ·replace h1:=eq_of_beq h1
  refine jB<|kx [(2,(vb (((x.a != 0)||(x.b != 0))||!(kL x.n))))] [] ?_ ?_
  ·refine zE (qE nA)<|zR (uN cS)<|zE mC<|zE (oV (vb (x.a != 0)) (kR (by kernel_rfl)))<|?_
   rcases hb2:(x.a != 0) with _ | _
   ·replace hb2:=bne_eq_false_iff_eq.1 hb2
    refine zE (qE mZ)<|zR (uN cS)<|zE mC<|zE cG<|zE (oV (vb (false||(x.b != 0))) (kR (by kernel_rfl)))<|?_
    rcases hb3:(false||(x.b != 0)) with _ | _
    ·exact zE (qE dU)<|zR (kM jT)<|zE (jX (aA x.n (qM x.n) (jV hx (by decide))))<|zE nY<|zE cG<|zM<|zZ
    ·exact zK<|zK<|zK<|zK<|zE xA<|zM<|zZ
   ·replace hb2:=bne_iff_ne.1 hb2
    exact zK<|zK<|zK<|zE xA<|zM<|zK<|zK<|zK<|zK<|zE xA<|zM<|zZ
  refine jE ⟨_,(.tmp (d:=(.val (.bool ((((x.a != 0)||(x.b != 0))||!(kL x.n)))))) rfl .nil),?_⟩
  rw[show unuB x=_ from if_pos h1];rfl
 ·replace h1:=ne_of_beq_false h1
  refine jD<|jB<|kx [(2,(vb ((decide ((xS x.op)<0)||(decide ((xS x.op)<2)&&(x.b != 0)))||!(zeroR x.n))))] [] ?_ ?_
  ·refine zM<|zE xG<|zE (oV (vb (decide ((xS x.op)<0))) (kR (by kernel_rfl)))<|?_
   rcases hb4:(decide ((xS x.op)<0)) with _ | _
   ·replace hb4:=uX hb4
    refine zM<|zE xG<|zE (oV (vb (decide ((xS x.op)<2))) (kR (by kernel_rfl)))<|?_
    rcases hb5:(decide ((xS x.op)<2)) with _ | _
    ·replace hb5:=uX hb5
     exact zK<|zK<|zK<|zE xN<|zE xN<|zM<|zE (qE dU)<|zR (kM jT)<|zE (jX (g_zero x.n (qM x.n) (jV hx (by decide))))<|zE nY<|zE cG<|zM<|zZ
    ·replace hb5:=uW hb5
     refine zE (qE mZ)<|zR (uN cS)<|zE mC<|zE fM<|zE cG<|zE (oV (vb (false||(true&&(x.b != 0)))) (kR (by kernel_rfl)))<|?_
     rcases hb6:(false||(true&&(x.b != 0))) with _ | _
     ·exact zE (qE dU)<|zR (kM jT)<|zE (jX (g_zero x.n (qM x.n) (jV hx (by decide))))<|zE nY<|zE cG<|zM<|zZ
     ·exact zK<|zK<|zK<|zK<|zE xA<|zM<|zZ
   ·replace hb4:=uW hb4
    exact zK<|zK<|zK<|zK<|zK<|zK<|zK<|zE xA<|zM<|zK<|zK<|zK<|zK<|zE xA<|zM<|zZ
  refine jE ⟨_,(.tmp (d:=(.val (.bool (((decide ((xS x.op)<0)||(decide ((xS x.op)<2)&&(x.b != 0)))||!(zeroR x.n)))))) rfl .nil),?_⟩
  rw[show unuB x=_ from if_neg h1];rfl
theorem u_sizes(t:List kW)(ht:yM 1048576 t)(z:Int):jP Tryz.prog 76 [(.sl 83 7 (List.map qA t)),(.val (.int .i64 (z)))] (.tup [(.sl 3 1 (List.map qD (tmL z t))),(.val (.int .i64 ((((cB z t):Nat):Int))))]):=by
 refine jI Tryz.func76 rfl cb76 rfl ?_
 show qJ _ _ _ _ ⟨[(0,(vl 83 7 qA t)),(1,(vi z))],[]⟩
 refine jB<|kx [] [] (zE (cT 3 1)<|zM<|zZ) ?_
 refine jB<|jB<|kx [(16,(vb (decide (z<0)||decide (64<z))))] [] ?_ ?_
 ·refine zM<|zE xG<|zE (oV (vb (decide (z<0))) (kR (by kernel_rfl)))<|?_
  rcases hb1:(decide (z<0)) with _ | _
  ·replace hb1:=uX hb1
   exact zM<|zE mA<|zE cG<|zZ
  ·replace hb1:=uW hb1
   exact zK<|zK<|zE xA<|zZ
 refine jF (b:=(decide (z<0)||decide (64<z))) rfl (fun h2=>?_) (fun h2=>?_)
 ·refine jB<|kx [(4,(vl 3 1 qD [])),(5,(jR 2))] [] (zE (cT 3 1)<|zM<|zZ) ?_
  refine jE ⟨_,(.tmp (d:=(.sl 3 1 (List.map qD []))) rfl (.tmp (d:=(.val (.int .i64 (2)))) rfl .nil)),?_⟩
  have he:=zb_t (t:=t) h2
  rw[he.1,he.2];rfl
 ·have hz0:=h2
  refine jD<|jB<|jB<|kx [(19,(vb (((t.length:Nat):Int) == 0)))] [] (zM<|zE (uE el23)<|zE gD<|zZ) ?_
  refine jF (b:=(((t.length:Nat):Int) == 0)) rfl (fun h3=>?_) (fun h3=>?_)
  ·replace h3:=eq_of_beq h3
   refine jB<|kx [(4,(vl 3 1 qD [])),(5,(jR 1))] [] (zE (cT 3 1)<|zM<|zZ) ?_
   refine jE ⟨_,(.tmp (d:=(.sl 3 1 (List.map qD []))) rfl (.tmp (d:=(.val (.int .i64 (1)))) rfl .nil)),?_⟩
   have he:=tm_l0 hz0 (show t.length=0 by omega)
   rw[he.1,he.2];rfl
  ·replace h3:=ne_of_beq_false h3
   have h0:=h3
   refine jD<|jB<|jB<|kx [(22,(vb (decide (400<((t.length:Nat):Int)))))] [] (zM<|zE (uE el23)<|zE mA<|zZ) ?_
   refine jF (b:=decide (400<((t.length:Nat):Int))) rfl (fun h4=>?_) (fun h4=>?_)
   ·replace h4:=uW h4
    refine jB<|kx [(4,(vl 3 1 qD [])),(5,(jR 3))] [] (zE (cT 3 1)<|zM<|zZ) ?_
    refine jE ⟨_,(.tmp (d:=(.sl 3 1 (List.map qD []))) rfl (.tmp (d:=(.val (.int .i64 (3)))) rfl .nil)),?_⟩
    have he:=tm_lb hz0 (show 400<t.length by omega)
    rw[he.1,he.2];rfl
   ·replace h4:=uX h4
    have h400:=h4
    refine jD<|jB<|kx [(6,(.own 0 3 1 0))] [(0,some (bm qD []))] (zN (oBo 0 nT ze3 zo3)<|zM<|zZ) ?_
    refine jB<|jB<|kx [(24,(vl 83 7 qA t)),(25,(jR t.length)),(26,(jR 0))] [] (zM<|zE (uE el23)<|zM<|zZ) ?_
    refine jH<|kB (α:=Nat × List Int) (fun (k,o)=>⟨[(1,(vi z)),(6,(.own 0 3 1 o.length)),(24,(vl 83 7 qA t)),(25,(jR t.length)),(26,(jR k))],[(0,some (bm qD o))]⟩) (fun (k,o)=>k≤t.length∧o=cL t k∧szUp z t k) (fun (k,o)=>t.length-k) (0,[]) wk ⟨Nat.zero_le _,rfl,szUp_0 _ _⟩ ?_
    rintro ⟨k,o⟩ ⟨hk,ho,hu⟩
    have hol:o.length=k:=by rw[ho];exact gV _ _
    refine jB<|kx [(27,(vb (decide (((k:Nat):Int)<((t.length:Nat):Int)))))] [] (zE xG<|zZ) ?_
    refine jB<|jF rfl (fun h5=>?_) (fun h5=>?_)
    ·replace h5:=uW h5
     have hR:=tmr hz0 h5 h400 hu
     have hkl:=hR.kl
     refine jD<|jB<|jH<|jB<|kx [(7,(jR k)),(8,(.ref 1 0))] [(1,some (bx (qA (t.getD k tz))))] (zM<|zE (xJ el23 k (tz:kW))<|zE (nR sh83)<|zH (uF 1 ze83 zo83)<|zM<|zT (qK sh83)<|zZ) ?_
     refine jB<|jB<|kx [(32,(vb (unuB (t.getD k tz))))] [] (zR (kM sh83)<|zE (jX (u_uns (t.getD k tz) (tn_get ht (show k<t.length by omega))))<|zZ) ?_
     refine jF (b:=(unuB (t.getD k tz))) rfl (fun h6=>?_) (fun h6=>?_)
     ·refine jB<|kx [(4,(vl 3 1 qD [])),(5,(jR 1))] [] (zE (cT 3 1)<|zM<|zZ) ?_
      refine jE ⟨_,(.tmp (d:=(.sl 3 1 (List.map qD []))) rfl (.tmp (d:=(.val (.int .i64 (1)))) rfl .nil)),?_⟩
      have he:=hR.bad (by rw[← unu_bad];exact h6)
      rw[he.1,he.2];rfl
     ·have hB:badB (t.getD k tz)=false:=by rw[← unu_bad];exact h6
      refine jD<|jB<|kx [(9,(vi (xS ((t.getD k tz).op))))] [] (zE (qE nC)<|zR (uN bC)<|zE (jX (r_kids ((t.getD k tz).op)))<|zM<|zZ) ?_
      refine jB<|jB<|kx [(63,(vb ((decide (1≤(xS ((t.getD k tz).op)))&&(decide ((t.getD k tz).a<0)||decide (((k:Nat):Int)≤(t.getD k tz).a)))||(((xS ((t.getD k tz).op)) == 2)&&(decide ((t.getD k tz).b<0)||decide (((k:Nat):Int)≤(t.getD k tz).b))))))] [] ?_ ?_
      ·refine zM<|zE oGe<|zE (oV (vb (decide (1≤(xS ((t.getD k tz).op))))) (kR (by kernel_rfl)))<|?_
       rcases hb7:(decide (1≤(xS ((t.getD k tz).op)))) with _ | _
       ·replace hb7:=uX hb7
        refine zK<|zK<|zK<|zK<|zK<|zK<|zK<|zK<|zK<|zE xN<|zM<|zM<|zE gD<|zE (oV (vb ((xS ((t.getD k tz).op)) == 2)) (kR (by kernel_rfl)))<|?_
        rcases hb8:((xS ((t.getD k tz).op)) == 2) with _ | _
        ·replace hb8:=ne_of_beq_false hb8
         exact zK<|zK<|zK<|zK<|zK<|zK<|zK<|zK<|zK<|zE xN<|zE xN<|zZ
        ·replace hb8:=eq_of_beq hb8
         refine zE (qE mZ)<|zR (uN cS)<|zE xG<|zE (oV (vb (decide ((t.getD k tz).b<0))) (kR (by kernel_rfl)))<|?_
         rcases hb9:(decide ((t.getD k tz).b<0)) with _ | _
         ·replace hb9:=uX hb9
          exact zE (qE mZ)<|zR (uN cS)<|zM<|zE oGe<|zE cG<|zE fM<|zE cG<|zZ
         ·replace hb9:=uW hb9
          exact zK<|zK<|zK<|zK<|zE xA<|zE xA<|zE xN<|zZ
       ·replace hb7:=uW hb7
        refine zE (qE nA)<|zR (uN cS)<|zE xG<|zE (oV (vb (decide ((t.getD k tz).a<0))) (kR (by kernel_rfl)))<|?_
        rcases hb10:(decide ((t.getD k tz).a<0)) with _ | _
        ·replace hb10:=uX hb10
         refine zE (qE nA)<|zR (uN cS)<|zM<|zE oGe<|zE cG<|zE fM<|zE (oV (vb (true&&(false||decide (((k:Nat):Int)≤(t.getD k tz).a)))) (kR (by kernel_rfl)))<|?_
         rcases hb11:(decide (((k:Nat):Int)≤(t.getD k tz).a)) with _ | _
         ·replace hb11:=uX hb11
          refine zM<|zE gD<|zE (oV (vb ((xS ((t.getD k tz).op)) == 2)) (kR (by kernel_rfl)))<|?_
          rcases hb12:((xS ((t.getD k tz).op)) == 2) with _ | _
          ·replace hb12:=ne_of_beq_false hb12
           exact zK<|zK<|zK<|zK<|zK<|zK<|zK<|zK<|zK<|zE xN<|zE xN<|zZ
          ·replace hb12:=eq_of_beq hb12
           refine zE (qE mZ)<|zR (uN cS)<|zE xG<|zE (oV (vb (decide ((t.getD k tz).b<0))) (kR (by kernel_rfl)))<|?_
           rcases hb13:(decide ((t.getD k tz).b<0)) with _ | _
           ·replace hb13:=uX hb13
            exact zE (qE mZ)<|zR (uN cS)<|zM<|zE oGe<|zE cG<|zE fM<|zE cG<|zZ
           ·replace hb13:=uW hb13
            exact zK<|zK<|zK<|zK<|zE xA<|zE xA<|zE xN<|zZ
         ·replace hb11:=uW hb11
          exact zK<|zK<|zK<|zK<|zK<|zK<|zK<|zK<|zK<|zK<|zK<|zK<|zK<|zE xA<|zZ
        ·replace hb10:=uW hb10
         exact zK<|zK<|zK<|zK<|zE xA<|zE xA<|zM<|zK<|zK<|zK<|zK<|zK<|zK<|zK<|zK<|zK<|zK<|zK<|zK<|zK<|zE xA<|zZ
      refine jF rfl (fun h14=>?_) (fun h14=>?_)
      ·refine jB<|kx [(4,(vl 3 1 qD [])),(5,(jR 5))] [] (zE (cT 3 1)<|zM<|zZ) ?_
       refine jE ⟨_,(.tmp (d:=(.sl 3 1 (List.map qD []))) rfl (.tmp (d:=(.val (.int .i64 (5)))) rfl .nil)),?_⟩
       have he:=hR.ord hB (by rw[← orD_eq];exact h14)
       rw[he.1,he.2];rfl
      ·have hO:ordB ((k:Nat):Int) (t.getD k tz)=false:=by rw[← orD_eq];exact h14
       refine jD<|jB<|jB<|kx [(77,(vb (((t.getD k tz).op == 1)&&(decide ((t.getD k tz).a<0)||decide (z≤(t.getD k tz).a)))))] [] ?_ ?_
       ·refine zE (qE nC)<|zR (uN bC)<|zE gD<|zE (oV (vb ((t.getD k tz).op == 1)) (kR (by kernel_rfl)))<|?_
        rcases hb15:((t.getD k tz).op == 1) with _ | _
        ·replace hb15:=ne_of_beq_false hb15
         exact zK<|zK<|zK<|zK<|zK<|zK<|zK<|zK<|zK<|zE xN<|zZ
        ·replace hb15:=eq_of_beq hb15
         refine zE (qE nA)<|zR (uN cS)<|zE xG<|zE (oV (vb (decide ((t.getD k tz).a<0))) (kR (by kernel_rfl)))<|?_
         rcases hb16:(decide ((t.getD k tz).a<0)) with _ | _
         ·replace hb16:=uX hb16
          exact zE (qE nA)<|zR (uN cS)<|zM<|zE oGe<|zE cG<|zE fM<|zZ
         ·replace hb16:=uW hb16
          exact zK<|zK<|zK<|zK<|zE xA<|zE xA<|zZ
       refine jF rfl (fun h17=>?_) (fun h17=>?_)
       ·refine jB<|kx [(4,(vl 3 1 qD [])),(5,(jR 2))] [] (zE (cT 3 1)<|zM<|zZ) ?_
        refine jE ⟨_,(.tmp (d:=(.sl 3 1 (List.map qD []))) rfl (.tmp (d:=(.val (.int .i64 (2)))) rfl .nil)),?_⟩
        have he:=hR.rng hB hO h17
        rw[he.1,he.2];rfl
       ·have hN:=ndr hR hB hO h17
        refine jD<|jB<|kx [(10,(jR 1))] [] (zM<|zZ) ?_
        refine pwp_meet (α:=Int) (fun v=>⟨[(1,(vi z)),(6,(.own 0 3 1 o.length)),(8,(.ref 1 0)),(9,(vi (xS ((t.getD k tz).op)))),(10,(vi v)),(24,(vl 83 7 qA t)),(25,(jR t.length)),(26,(jR k))],[(0,some (bm qD o)),(1,some (bx (qA (t.getD k tz))))]⟩) (fun v=>((¬ 1≤xS (t.getD k tz).op→v=1)∧(1≤xS (t.getD k tz).op→v=(o.getD (((t.getD k tz).a).toNat) 0)))∧1≤v∧v≤4096) ?_ ?_
        ·refine jB<|kx [(79,(vb (decide (1≤(xS ((t.getD k tz).op))))))] [] (zM<|zE oGe<|zZ) ?_
         refine jF (b:=decide (1≤(xS ((t.getD k tz).op)))) rfl (fun h18=>?_) (fun h18=>?_)
         ·replace h18:=uW h18
          have hka:=h18
          obtain ⟨a1,a2,a3,a4⟩:=hN.a2 h18
          rw[← ho] at a3 a4
          refine kx [(10,(vi (o.getD (((t.getD k tz).a).toNat) 0)))] [] (zM<|zE (qE nA)<|zR (uN cS)<|zE (fV nT (((t.getD k tz).a).toNat))<|zR (oLp cS (((t.getD k tz).a).toNat) (0:Int))<|zM<|zZ) ?_
          exact met (o.getD (((t.getD k tz).a).toNat) 0) wk (⟨⟨fun hx=>absurd hka hx,fun _=>rfl⟩,a3,a4⟩)
         ·replace h18:=uX h18
          have hka:=h18
          refine jD ?_
          exact met 1 wk (⟨⟨fun _=>rfl,fun hx=>absurd hx hka⟩,by decide,by decide⟩)
        ·rintro v ⟨hv1,hv2,hv3⟩
         refine pwp_meet (α:=Int) (fun w=>⟨[(1,(vi z)),(6,(.own 0 3 1 o.length)),(8,(.ref 1 0)),(9,(vi (xS ((t.getD k tz).op)))),(10,(vi w)),(24,(vl 83 7 qA t)),(25,(jR t.length)),(26,(jR k))],[(0,some (bm qD o)),(1,some (bx (qA (t.getD k tz))))]⟩) (fun w=>(((t.getD k tz).op=7→w=2*v)∧((t.getD k tz).op≠7→w=v))∧1≤w∧w≤8192) ?_ ?_
         ·refine jB<|kx [(87,(vb ((t.getD k tz).op == 7)))] [] (zE (qE nC)<|zR (uN bC)<|zE gD<|zZ) ?_
          refine jF (b:=((t.getD k tz).op == 7)) rfl (fun h19=>?_) (fun h19=>?_)
          ·replace h19:=eq_of_beq h19
           refine kx [(10,(vi (2*v)))] [] (zM<|zE (zMl (2*v))<|zM<|zZ) ?_
           exact met (2*v) wk (⟨⟨fun _=>rfl,fun hx=>absurd h19 hx⟩,by omega,by omega⟩)
          ·replace h19:=ne_of_beq_false h19
           refine jD ?_
           exact met v wk (⟨⟨fun hx=>absurd hx h19,fun _=>rfl⟩,hv2,by omega⟩)
         ·rintro w ⟨hw1,hw2,hw3⟩
          refine pwp_meet (α:=Int) (fun u=>⟨[(1,(vi z)),(6,(.own 0 3 1 o.length)),(10,(vi u)),(24,(vl 83 7 qA t)),(25,(jR t.length)),(26,(jR k))],[(0,some (bm qD o))]⟩) (fun u=>u=szN (cL t k) (t.getD k tz)) ?_ ?_
          ·refine jB<|kx [(91,(vb ((xS ((t.getD k tz).op)) == 2)))] [] (zM<|zE gD<|zZ) ?_
           refine jF (b:=((xS ((t.getD k tz).op)) == 2)) rfl (fun h20=>?_) (fun h20=>?_)
           ·replace h20:=eq_of_beq h20
            have hk2:=h20
            obtain ⟨b1,b2,b3,b4⟩:=hN.b2 h20
            rw[← ho] at b3 b4
            refine kx [(10,(vi (w+(o.getD (((t.getD k tz).b).toNat) 0))))] [] (zM<|zM<|zE (qE mZ)<|zR (uN cS)<|zE (fV nT (((t.getD k tz).b).toNat))<|zR (oLp cS (((t.getD k tz).b).toNat) (0:Int))<|zE (zAd (w+(o.getD (((t.getD k tz).b).toNat) 0)))<|zM<|zZ) ?_
            exact met (w+(o.getD (((t.getD k tz).b).toNat) 0)) wk (by rw[ho];rw[ho] at hv1;exact (szD_all hN.bad hv1 hw1).1 hk2)
           ·replace h20:=ne_of_beq_false h20
            refine jD ?_
            exact met w wk (by rw[ho] at hv1;exact (szD_all hN.bad hv1 hw1).2 h20)
          ·rintro u hv
           refine jB<|jB<|kx [(100,(vb (decide (4096<u))))] [] (zM<|zE mA<|zZ) ?_
           refine jF (b:=decide (4096<u)) rfl (fun h21=>?_) (fun h21=>?_)
           ·replace h21:=uW h21
            refine jB<|kx [(4,(vl 3 1 qD [])),(5,(jR 3))] [] (zE (cT 3 1)<|zM<|zZ) ?_
            refine jE ⟨_,(.tmp (d:=(.sl 3 1 (List.map qD []))) rfl (.tmp (d:=(.val (.int .i64 (3)))) rfl .nil)),?_⟩
            have he:=hN.bg hv h21
            rw[he.1,he.2];rfl
           ·replace h21:=uX h21
            refine jD<|kf [(6,(.own 0 3 1 ((o++[u]).length)))] [(0,some (bm qD (o++[u])))] (zM<|zM<|zE (eC nT ze3 zo3)<|zA qD o [u] rfl nT ze3 by3<|zM<|zF) ?_
            refine kx [(26,(jR (k+1)))] [] (zE (vT (k+1))<|zM<|zZ) ?_
            exact ⟨(k+1,o++[u]),wk,(by obtain ⟨q1,q2⟩:=hN.nx hv h21;exact ⟨by omega,by rw[← q2,ho],q1⟩),(by first|omega|(dsimp only;omega))⟩
    ·replace h5:=uX h5
     refine kC<|jB<|kx [(4,(.own 0 3 1 o.length)),(5,(jR 0))] [] (zM<|zM<|zM<|zZ) ?_
     refine kV (vN (t:=4) (k:=0) (es:=List.map qD o) rfl rfl (uI _ _ (fun _=>rfl)) (uT _ _ rfl) (vH _ _ (fun _=>rfl) rfl)) ?_
     refine jE ⟨_,(.tmp (d:=(.sl 3 1 (List.map qD o))) rfl (.tmp (d:=(.val (.int .i64 (0)))) rfl .nil)),?_⟩
     have he:=tm_end2 hz0 h0 h400 hk h5 hu
     rw[he.1,he.2,← ho];rfl
end Go.Proofs.YtnajallgoaiahaaGreatDoor
