/- Part 34 of a proof: rules, plain facts, and functions walked. -/
import Derived.Test.YtnajallgoaiahaaGreatDoorM33
import Derived.Test.YtnajallgoaiahaaGreatDoorM19
import Derived.Test.YtnajallgoaiahaaGreatDoorM10
import Derived.Test.YtnajallgoaiahaaGreatDoorM22
set_option linter.unusedVariables false
set_option linter.unusedSimpArgs false
set_option maxRecDepth 4000
namespace Go.Proofs.YtnajallgoaiahaaGreatDoor
open Go.Fid
theorem cb15:callB Tryz.prog 15=true:=by kernel_rfl
theorem cb69:callB Tryz.prog 69=true:=by kernel_rfl
theorem u_jetsO(t:List qC)(ht:yI 1048576 t)(bv:List R2)(hbx:∀ x∈bv,GL 1048576 x)(hT:cJ bv t)(hd:dzT bv t=false)(hbl:bv.length≤1000000):jS Tryz.prog 51 [(.sl 83 7 (List.map kG t)),(.sl 61 8 (List.map jD (List.map jP bv))),(.val (.int .i64 (((1:Nat):Int)))),(.val (.int .i64 (-1)))] (.tup [(jC (jN (xJ bv t))),(.val (.int .i64 (((0:Nat):Int))))]):=by
 have h:=u_jetsU t ht bv hbx t.length (hT.dend hd) hbl
 rw[dJ_y,dC_y] at h
 exact h
theorem u_jetsZ(t:List qC)(ht:yI 1048576 t)(bv:List R2)(hbx:∀ x∈bv,GL 1048576 x)(hT:cJ bv t)(hd:dzT bv t=true)(hbl:bv.length≤1000000):jS Tryz.prog 51 [(.sl 83 7 (List.map kG t)),(.sl 61 8 (List.map jD (List.map jP bv))),(.val (.int .i64 (((1:Nat):Int)))),(.val (.int .i64 (-1)))] (.tup [(jC (qK.mk (jO.mk kR kR) [] [])),(.val (.int .i64 (((14:Nat):Int))))]):=by
 obtain ⟨k,hk⟩:=dz_fst hd
 have h:=u_jetsU t ht bv hbx k (hT.dfail hk) hbl
 rw[dJ_n hk.lt,dC_n hk.lt] at h
 exact h
theorem u_jetsC(t:List qC)(ht:yI 1048576 t)(bv:List R2)(hbx:∀ x∈bv,GL 1048576 x)(hc:gQ ((bv.length:Nat):Int) t≠0)(hbl:bv.length≤1000000):jS Tryz.prog 51 [(.sl 83 7 (List.map kG t)),(.sl 61 8 (List.map jD (List.map jP bv))),(.val (.int .i64 (((1:Nat):Int)))),(.val (.int .i64 (-1)))] (.tup [(jC (qK.mk (jO.mk kR kR) [] [])),(.val (.int .i64 ((((gQ ((bv.length:Nat):Int) t):Nat):Int))))]):=by
 refine jJ Tryz.func51 rfl cb51 rfl ?_
 show qM _ _ _ _ ⟨[(0,(vl 83 7 kG t)),(1,(vl 61 8 jD (List.map jP bv))),(2,(jK 1)),(3,(vi (-1)))],[]⟩
 refine jB<|kx [(8,(.ref 0 0))] [(0,some (bx (jC (qK.mk (jO.mk kR kR) [] []))))] (zN (qW 0 vL zL)<|zM<|zZ) ?_
 refine jB<|jB<|kx [(25,(vb false))] [] (zM<|zE (kA (u_vlB bv hbx hbl))<|zE mT<|zZ) ?_
 refine kI ?_
 refine jF<|jB<|jB<|kx [(36,(vb false))] [] (zM<|zE (uR false xY)<|zM<|zM<|zE (uR false gD)<|zE gE<|zM<|zM<|zE (uR false gD)<|zE gE<|zZ) ?_
 refine kI ?_
 refine jF<|jB<|jB<|kx [(10,(jK (gQ ((bv.length:Nat):Int) t)))] [] (zM<|zM<|zE (oLn uW bv.length)<|zE (kA (u_chk t ht ((bv.length:Nat):Int)))<|zM<|zZ) ?_
 refine jB<|kx [(43,(vb ((((gQ ((bv.length:Nat):Int) t):Nat):Int) != ((0:Nat):Int))))] [] (zM<|zE cR<|zZ) ?_
 refine jH rfl (fun _=>?_) (fun h=>absurd (Eq.trans (Eq.symm (show (((((gQ ((bv.length:Nat):Int) t):Nat):Int) != ((0:Nat):Int)))=true from bne_iff_ne.2 (by have hx:=hc;omega))) h) (by decide))
 refine jB<|kx [(9,(jK (gQ ((bv.length:Nat):Int) t)))] [(0,some (bx (jC (qK.mk (jO.mk kR kR) [] []))))] (zE (cS pl95 vL zL)<|zM<|zT (qF vP)<|zM<|zZ) ?_
 refine jG ⟨_,(kJ (cs:=(bx (jC (qK.mk (jO.mk kR kR) [] [])))) (d:=(jC (qK.mk (jO.mk kR kR) [] []))) rfl rfl vP rfl rfl (.tmp (d:=(.val (.int .i64 ((((gQ ((bv.length:Nat):Int) t):Nat):Int))))) rfl .nil)),?_⟩
 rfl
theorem u_pts(xs:List Rat)(hx:∀ q∈xs,QL q 1048576)(hxb:xs.length≤1000000):jS Tryz.prog 69 [(.sl 45 4 (List.map jL (List.map jM xs)))] (.sl 61 8 (List.map jD (List.map jP (List.map xV xs)))):=by
 refine jJ Tryz.func69 rfl cb69 rfl ?_
 show qM _ _ _ _ ⟨[(0,(vl 45 4 jL (List.map jM xs)))],[]⟩
 refine jB<|kx [] [] (zE (cP 61 8)<|zZ) ?_
 refine jB<|kx [(3,(.own 0 61 8 0))] [(0,some (qB jD []))] (zN (oBo 0 uW qL qR)<|zM<|zZ) ?_
 refine jB<|jB<|kx [(7,(vl 45 4 jL (List.map jM xs))),(8,(jK xs.length)),(9,(jK 0))] [] (zM<|zE (oLn vE xs.length)<|zM<|zZ) ?_
 refine jI<|kM (α:=Nat × List jO) (fun (i,o)=>⟨[(3,(.own 0 61 8 o.length)),(7,(vl 45 4 jL (List.map jM xs))),(8,(jK xs.length)),(9,(jK i))],[(0,some (qB jD o))]⟩) (fun (i,o)=>i≤xs.length∧o=(xs.take i).map (fun q=>jP (xV q))) (fun (i,o)=>xs.length-i) (0,[]) wk ⟨Nat.zero_le _,by simp⟩ ?_
 rintro ⟨i,o⟩ ⟨hi,ho⟩
 have hol:o.length=i:=by rw[ho,List.length_map,List.length_take];omega
 refine jB<|kx [(10,(vb (decide (((i:Nat):Int)<((xs.length:Nat):Int)))))] [] (zE xY<|zZ) ?_
 refine jB<|jH rfl (fun h1=>?_) (fun h1=>?_)
 ·replace h1:=vJ h1
  refine jF<|jB<|jI<|jB<|kx [(5,(.ref 1 0))] [(1,some (bx (jL (jM (xs.getD i 0)))))] (zE (oXm vE jM i 0)<|zE (gN jW)<|zH (qW 1 uH uN)<|zT (qF jW)<|zZ) ?_
  refine kf [(3,(.own 0 61 8 ((o++[(jO.mk (jM (xs.getD i 0)) (jM (xs.getD i 0)))]).length)))] [(0,some (qB jD (o++[(jO.mk (jM (xs.getD i 0)) (jM (xs.getD i 0)))])))] (zM<|zR (kP jW)<|zE (kA (h_point (xs.getD i 0) (xW (cW hx (by decide) i) (by decide))))<|zE (mC uW qL qR)<|zAS jD o [(jO.mk (jM (xs.getD i 0)) (jM (xs.getD i 0)))] rfl uW qL by61<|zM<|zF) ?_
  refine kx [(9,(jK (i+1)))] [] (zE (xE (i+1))<|zM<|zZ) ?_
  exact ⟨(i+1,o++[jP (xV (xs.getD i 0))]),wk,⟨by omega,by rw[ho];exact eA (f:=fun q=>jP (xV q)) (by omega)⟩,(by first|omega|(dsimp only;omega))⟩
 ·replace h1:=vM h1
  refine kL<|jB<|kx [(2,(.own 0 61 8 o.length))] [] (zM<|zM<|zZ) ?_
  refine jV (xA (t:=2) (k:=0) (es:=List.map jD o) rfl rfl (vD _ _ (fun _=>rfl)) (qY _ _ rfl) (xB jD o (fun _=>rfl) rfl)) ?_
  refine jG ⟨_,(.tmp (d:=(.sl 61 8 (List.map jD o))) rfl .nil),?_⟩
  rw[ho,show i=xs.length by omega,List.take_length,show List.map (fun q=>jP (xV q)) xs=List.map jP (List.map xV xs) from (by rw[List.map_map];rfl)];rfl
theorem u_grd(t:List qC)(ht:yI 1048576 t)(xs:List Rat)(hx:∀ q∈xs,QL q 1048576)(hT:cJ (List.map xV xs) t)(hd:dzT (List.map xV xs) t=false)(hxb:xs.length≤1000000):jS Tryz.prog 15 [(.sl 83 7 (List.map kG t)),(.sl 45 4 (List.map jL (List.map jM xs)))] (.tup [(.sl 45 4 (List.map jL (gU xs t))),(.val (.int .i64 (((0:Nat):Int))))]):=by
 have hgx:(List.map xV xs).length=xs.length:=List.length_map _
 have hgl:(xJ (List.map xV xs) t).g.length=xs.length:=by rw[(cJ.dend hT hd).last.2.2,List.length_map]
 refine jJ Tryz.func15 rfl cb15 rfl ?_
 show qM _ _ _ _ ⟨[(0,(vl 83 7 kG t)),(1,(vl 45 4 jL (List.map jM xs)))],[]⟩
 refine jB<|kx [] [] (zE (cP 45 4)<|zM<|zZ) ?_
 refine jB<|kx [(6,(.ref 0 0)),(7,(jK 0))] [(0,some (bx (jC (jN (xJ (List.map xV xs) t)))))] (zM<|zM<|zE (kA (u_pts xs hx hxb))<|zE (kA (u_jetsO t ht (List.map xV xs) (pts_gl hx) hT hd (by omega)))<|zM<|zE vI<|zE vI<|zN (qW 0 vL zL)<|zT (qF vP)<|zM<|zZ) ?_
 refine jB<|jB<|kx [(19,(vb false))] [] (zM<|zE (uR false cR)<|zZ) ?_
 refine kI ?_
 refine jF<|jB<|kx [(8,(.own 1 45 4 0))] [(1,some (qB jL []))] (zN (oBo 1 vE uH uN)<|zM<|zZ) ?_
 refine jB<|jB<|kx [(23,(vl 61 8 jD (List.map jP ((xJ (List.map xV xs) t).g)))),(24,(jK (((xJ (List.map xV xs) t).g).length))),(25,(jK 0))] [] (zE (qA uX)<|zR (aT (.sl 61 8 (List.map jD (List.map jP ((xJ (List.map xV xs) t).g)))) (.sl 61 8 (List.map jD (List.map jP ((xJ (List.map xV xs) t).g)))) (qX gS) (by exact rfl))<|zE (oLn uW (((xJ (List.map xV xs) t).g).length))<|zM<|zZ) ?_
 refine jI<|kM (α:=Nat × List kF) (fun (i,o)=>⟨[(8,(.own 1 45 4 o.length)),(23,(vl 61 8 jD (List.map jP ((xJ (List.map xV xs) t).g)))),(24,(jK (((xJ (List.map xV xs) t).g).length))),(25,(jK i))],[(1,some (qB jL o))]⟩) (fun (i,o)=>i≤(xJ (List.map xV xs) t).g.length∧o=((xJ (List.map xV xs) t).g.take i).map (fun y=>jM y.1)) (fun (i,o)=>(xJ (List.map xV xs) t).g.length-i) (0,[]) wk ⟨Nat.zero_le _,by simp⟩ ?_
 rintro ⟨i,o⟩ ⟨hi,ho⟩
 have hol:o.length=i:=by rw[ho,List.length_map,List.length_take];omega
 refine jB<|kx [(26,(vb (decide (((i:Nat):Int)<((((xJ (List.map xV xs) t).g).length:Nat):Int)))))] [] (zE xY<|zZ) ?_
 refine jB<|jH rfl (fun h1=>?_) (fun h1=>?_)
 ·replace h1:=vJ h1
  refine jF<|jB<|jI<|jB<|kx [(10,(.ref 2 0))] [(2,some (bx (jD (jP (((xJ (List.map xV xs) t).g).getD i z2)))))] (zE (oXm uW jP i z2)<|zE (gN jY)<|zH (qW 2 qL qR)<|zT (qF jY)<|zZ) ?_
  refine kf [(8,(.own 1 45 4 ((o++[(jM ((((xJ (List.map xV xs) t).g).getD i z2).1))]).length)))] [(1,some (qB jL (o++[(jM ((((xJ (List.map xV xs) t).g).getD i z2).1))])))] (zM<|zE (qA vT)<|zR (kP jW)<|zE (mC vE uH uN)<|zAS jL o [(jM ((((xJ (List.map xV xs) t).g).getD i z2).1))] rfl vE uH by45<|zM<|zF) ?_
  refine kx [(25,(jK (i+1)))] [] (zE (xE (i+1))<|zM<|zZ) ?_
  exact ⟨(i+1,o++[jM ((xJ (List.map xV xs) t).g.getD i z2).1]),wk,⟨by omega,by rw[ho];exact gr_step (by omega)⟩,(by first|omega|(dsimp only;omega))⟩
 ·replace h1:=vM h1
  refine kL<|jB<|kx [(4,(.own 1 45 4 o.length)),(5,(jK 0))] [] (zM<|zM<|zM<|zZ) ?_
  refine jV (xA (t:=4) (k:=1) (es:=List.map jL o) rfl rfl (vD _ _ (fun _=>rfl)) (qY _ _ rfl) (xB jL o (fun _=>rfl) rfl)) ?_
  refine jG ⟨_,(.tmp (d:=(.sl 45 4 (List.map jL o))) rfl (.tmp (d:=(.val (.int .i64 (((0:Nat):Int))))) rfl .nil)),?_⟩
  rw[ho,show i=(xJ (List.map xV xs) t).g.length by omega,List.take_length];rfl
theorem u_grdZ(t:List qC)(ht:yI 1048576 t)(xs:List Rat)(hx:∀ q∈xs,QL q 1048576)(hT:cJ (List.map xV xs) t)(hd:dzT (List.map xV xs) t=true)(hxb:xs.length≤1000000):jS Tryz.prog 15 [(.sl 83 7 (List.map kG t)),(.sl 45 4 (List.map jL (List.map jM xs)))] (.tup [(.sl 45 4 (List.map jL [])),(.val (.int .i64 (((14:Nat):Int))))]):=by
 have hgx:(List.map xV xs).length=xs.length:=List.length_map _
 refine jJ Tryz.func15 rfl cb15 rfl ?_
 show qM _ _ _ _ ⟨[(0,(vl 83 7 kG t)),(1,(vl 45 4 jL (List.map jM xs)))],[]⟩
 refine jB<|kx [] [] (zE (cP 45 4)<|zM<|zZ) ?_
 refine jB<|kx [(6,(.ref 0 0)),(7,(jK 14))] [(0,some (bx (jC (qK.mk (jO.mk kR kR) [] []))))] (zM<|zM<|zE (kA (u_pts xs hx hxb))<|zE (kA (u_jetsZ t ht (List.map xV xs) (pts_gl hx) hT hd (by omega)))<|zM<|zE vI<|zE vI<|zN (qW 0 vL zL)<|zT (qF vP)<|zM<|zZ) ?_
 refine jB<|jB<|kx [(19,(vb true))] [] (zM<|zE (uR true cR)<|zZ) ?_
 refine uD ?_
 refine jB<|kx [(4,(vl 45 4 jL [])),(5,(jK 14))] [] (zM<|zE (cP 45 4)<|zM<|zZ) ?_
 refine jG ⟨_,(.tmp (d:=(.sl 45 4 (List.map jL []))) rfl (.tmp (d:=(.val (.int .i64 (((14:Nat):Int))))) rfl .nil)),?_⟩
 rfl
theorem u_grdC(t:List qC)(ht:yI 1048576 t)(xs:List Rat)(hx:∀ q∈xs,QL q 1048576)(hc:gQ ((xs.length:Nat):Int) t≠0)(hxb:xs.length≤1000000):jS Tryz.prog 15 [(.sl 83 7 (List.map kG t)),(.sl 45 4 (List.map jL (List.map jM xs)))] (.tup [(.sl 45 4 (List.map jL [])),(.val (.int .i64 ((((gQ ((xs.length:Nat):Int) t):Nat):Int))))]):=by
 have hgx:(List.map xV xs).length=xs.length:=List.length_map _
 have hc2:gQ (((List.map xV xs).length:Nat):Int) t≠0:=by rw[hgx];exact hc
 refine jJ Tryz.func15 rfl cb15 rfl ?_
 show qM _ _ _ _ ⟨[(0,(vl 83 7 kG t)),(1,(vl 45 4 jL (List.map jM xs)))],[]⟩
 refine jB<|kx [] [] (zE (cP 45 4)<|zM<|zZ) ?_
 refine jB<|kx [(6,(.ref 0 0)),(7,(jK (gQ (((List.map xV xs).length:Nat):Int) t)))] [(0,some (bx (jC (qK.mk (jO.mk kR kR) [] []))))] (zM<|zM<|zE (kA (u_pts xs hx hxb))<|zE (kA (u_jetsC t ht (List.map xV xs) (pts_gl hx) hc2 (by omega)))<|zM<|zE vI<|zE vI<|zN (qW 0 vL zL)<|zT (qF vP)<|zM<|zZ) ?_
 refine jB<|jB<|kx [(19,(vb true))] [] (zM<|zE (uR true cR (by exact bne_iff_ne.2 (by have hx:=hc2;omega)))<|zZ) ?_
 refine uD ?_
 refine jB<|kx [(4,(vl 45 4 jL [])),(5,(jK (gQ (((List.map xV xs).length:Nat):Int) t)))] [] (zM<|zE (cP 45 4)<|zM<|zZ) ?_
 refine jG ⟨_,(.tmp (d:=(.sl 45 4 (List.map jL []))) rfl (.tmp (d:=(.val (.int .i64 ((((gQ (((List.map xV xs).length:Nat):Int) t):Nat):Int))))) rfl .nil)),?_⟩
 rw[hgx];rfl
theorem cb89:callB Tryz.prog 89=true:=by kernel_rfl
theorem cb149:callB Tryz.prog 149=true:=by kernel_rfl
theorem i_makeO(x:kF)(p:Rat)(hx:gX x p 17179869184)(y:kF)(q:Rat)(hy:gX y q 17179869184)(hv:(kW x&&kW y)=true)(hc:p≤q):jS Tryz.prog 149 [(jL x),(jL y)] (.tup [(jD (jO.mk x y)),(.val (.int .i64 (0)))]):=by
 refine jJ Tryz.func149 rfl cb149 rfl ?_
 show qM _ _ _ _ ⟨[(0,(.d (jL x))),(1,(.d (jL y)))],[]⟩
 refine jB<|kx [(2,(.ref 0 0)),(3,(.ref 1 0)),(4,(.ref 2 0))] [(0,some (bx (jL x))),(1,some (bx (jL y))),(2,some (bx (jD (jO.mk kR kR))))] (zN (uY 0)<|zN (uY 1)<|zN (qW 2 qL qR)<|zM<|zZ) ?_
 refine jB<|jB<|kx [(13,(vb (!(kW x)||!(kW y))))] [] ?_ ?_
 ·refine zR (kP jW)<|zE (kA (cE x p hx))<|zE mT<|zE (oV (vb (!(kW x))) (qQ (by kernel_rfl)))<|?_
  rcases hb1:(!(kW x)) with _ | _
  ·exact zR (kP jW)<|zE (kA (cE y q hy))<|zE mT<|zE fU<|zZ
  ·exact zK<|zK<|zK<|zE nY<|zZ
 refine jH (b:=(!(kW x)||!(kW y))) rfl (fun h2=>?_) (fun h2=>?_)
 ·exfalso;revert h2 hv;cases kW x<;>cases kW y<;>simp
 ·refine jF<|jB<|jB<|kx [(18,(vb (decide (0<(yE p q)))))] [] (zR (kP jW)<|zR (kP jW)<|zE (kA (cL x y p q hx hy))<|zE gD<|zZ) ?_
  refine jH (b:=decide (0<(yE p q))) rfl (fun h3=>?_) (fun h3=>?_)
  ·replace h3:=vJ h3
   exact absurd (cmpQ_gt.1 h3) (Rat.not_lt.2 hc)
  ·replace h3:=vM h3
   refine jF<|jB<|kx [(5,(jK 0))] [(2,some (bx (jD (jO.mk x y))))] (zR (kP jW)<|zR (kP jW)<|zE (cS pl61 qL qR)<|zT (qF jY)<|zM<|zZ) ?_
   refine jG ⟨_,(kJ (cs:=(bx (jD (jO.mk x y)))) (d:=(jD (jO.mk x y))) rfl rfl jY rfl rfl (.tmp (d:=(.val (.int .i64 (0)))) rfl .nil)),?_⟩
   rfl
end Go.Proofs.YtnajallgoaiahaaGreatDoor
namespace Go.Fid
def rootN(x:Nat):Nat:=Nat.rec (motive:=fun _=>Nat) 0 (fun _ r=>if (r+1)*(r+1)≤x then r+1 else r) x
theorem rootN_go(x:Nat):∀ k,let r:Nat:=Nat.rec (motive:=fun _=>Nat) 0 (fun _ r=>if (r+1)*(r+1)≤x then r+1 else r) k;r*r≤x∧(x<(r+1)*(r+1)∨r=k)
 |0=>⟨Nat.zero_le _,.inr rfl⟩
 |k+1=>by
  obtain ⟨h1,h2⟩:=rootN_go x k
  dsimp only at h1 h2 ⊢
  generalize hr:(Nat.rec (motive:=fun _=>Nat) 0 (fun _ r=>if (r+1)*(r+1)≤x then r+1 else r) k:Nat)=r at h1 h2
  split
  ·rename_i h
   refine ⟨h,?_⟩
   rcases h2 with h2 | h2
   ·omega
   ·right;omega
  ·rename_i h;exact ⟨h1,.inl (by omega)⟩
theorem rootN_le(x:Nat):rootN x*rootN x≤x:=(rootN_go x x).1
theorem lt_rootN(x:Nat):x<(rootN x+1)*(rootN x+1):=by
 rcases (rootN_go x x).2 with h | h
 ·exact h
 ·have h:rootN x=x:=h
  rw[h]
  have:(x+1)*(x+1)=x*x+2*x+1:=by rw[Nat.add_mul,Nat.mul_add];omega
  omega
theorem sq_lt{a b:Nat}(h:a*a<b*b):a<b:=by
 rcases Nat.lt_or_ge a b with h1 | h1
 ·exact h1
 ·have:=Nat.mul_le_mul h1 h1;omega
theorem root_uniq{x r:Nat}(h1:r*r≤x)(h2:x<(r+1)*(r+1)):r=rootN x:=by
 have a1:=sq_lt (Nat.lt_of_le_of_lt h1 (lt_rootN x))
 have a2:=sq_lt (Nat.lt_of_le_of_lt (rootN_le x) h2)
 omega
theorem newton_up{x r:Nat}(hr:0<r):x<((r+x / r) / 2+1)*((r+x / r) / 2+1):=by
 have h1:x<r*(x / r+1):=by
  have:=Nat.div_add_mod x r
  have:=Nat.mod_lt x hr
  rw[Nat.mul_add,Nat.mul_one];omega
 generalize x / r=q at *
 generalize hn:(r+q) / 2=n at *
 have h2:r+(q+1)≤2*(n+1):=by omega
 have h3:4*(r*(q+1))≤(r+(q+1))*(r+(q+1)):=by
  generalize q+1=b
  rcases Nat.le_total r b with h | h
  ·obtain ⟨d,rfl⟩:=Nat.exists_eq_add_of_le h
   have:(r+(r+d))*(r+(r+d))=4*(r*(r+d))+d*d:=by grind
   omega
  ·obtain ⟨d,rfl⟩:=Nat.exists_eq_add_of_le h
   have:(b+d+b)*(b+d+b)=4*((b+d)*b)+d*d:=by grind
   omega
 have h4:=Nat.mul_le_mul h2 h2
 have h5:2*(n+1)*(2*(n+1))=4*((n+1)*(n+1)):=by grind
 omega
theorem newton_end{x r:Nat}(hr:0<r)(h:r≤(r+x / r) / 2):r*r≤x:=by
 have h1:r≤x / r:=by omega
 exact Nat.le_trans (Nat.mul_le_mul_left r h1) (Nat.mul_div_le x r)
theorem newton_pos{x r:Nat}(hx:0<x)(hr:0<r):0<(r+x / r) / 2:=by
 have:=newton_up (x:=x) hr
 rcases Nat.eq_zero_or_pos ((r+x / r) / 2) with h | h
 ·rw[h] at this;omega
 ·exact h
theorem newton_root{x r:Nat}(hr:0<r)(hu:x<(r+1)*(r+1))(h:r≤(r+x / r) / 2):r=rootN x:=root_uniq (newton_end hr h) hu
theorem bit_and(n b:Nat):(n &&& 2 ^ b=0)↔n / 2 ^ b % 2=0:=by
 have hb:n.testBit b=decide (n / 2 ^ b % 2=1):=Nat.testBit_eq_decide_div_mod_eq
 have key:(n &&& 2 ^ b=0)↔n.testBit b=false:=by
  constructor
  ·intro h
   have:=congrArg (fun m:Nat=>m.testBit b) h
   simpa [Nat.testBit_and,Nat.testBit_two_pow] using this
  ·intro h
   apply Nat.eq_of_testBit_eq
   intro i
   rw[Nat.testBit_and,Nat.testBit_two_pow,Nat.zero_testBit]
   by_cases e:b=i
   ·subst e;rw[h];rfl
   ·simp [e]
 rw[key,hb,decide_eq_false_iff_not]
 omega
abbrev vX (k:Nat):Rat:=((((2 ^ k:Nat):Int):Int):Rat)
def pwS(n i:Nat):Nat:=2 ^ (n / 2 ^ (13-i))
theorem pwS_0{n:Nat}(h:n≤4096):[1]=ofNat (pwS n 0):=by
 have e:n / 2 ^ (13-0)=0:=Nat.div_eq_of_lt (by show n<8192;omega)
 unfold pwS;rw[e,Nat.pow_zero,mE (by decide)]
 have:ofNat (1 / 1000000000)=[]:=by rw[show 1 / 1000000000=0 from rfl,uS]
 rw[this]
theorem pwS_13(n:Nat):pwS n 13=2 ^ n:=by unfold pwS;simp
theorem bit_eq{i:Nat}(h:i≤12):4096 / 2 ^ i=2 ^ (12-i):=by
 rw[show (4096:Nat)=2 ^ 12 from rfl,Nat.pow_div h (by decide)]
theorem bit_13:4096 / 2 ^ 13=0:=by decide
theorem bit_pos{i:Nat}(hi:i≤13)(h:(0:Int)<((4096 / 2 ^ i:Nat):Int)):i<13:=by
 by_cases e:i=13
 ·subst e;rw[bit_13] at h;omega
 ·omega
theorem bit_end{i:Nat}(hi:i≤13)(h:¬ (0:Int)<((4096 / 2 ^ i:Nat):Int)):i=13:=by
 by_cases e:i=13
 ·exact e
 ·rw[bit_eq (by omega)] at h
  have:=Nat.pow_pos (n:=12-i) (show 0<2 by decide)
  omega
theorem bit_half(i:Nat):4096 / 2 ^ i / 2=4096 / 2 ^ (i+1):=by rw[Nat.div_div_eq_div_mul,Nat.pow_succ]
theorem pw_half{n i:Nat}(hi:i<13):n / 2 ^ (12-i)=2*(n / 2 ^ (13-i))+n / 2 ^ (12-i) % 2:=by
 have e:n / 2 ^ (13-i)=n / 2 ^ (12-i) / 2:=by
  rw[Nat.div_div_eq_div_mul,← Nat.pow_succ,show (12-i).succ=13-i by omega]
 rw[e];omega
theorem pwS_even{n i:Nat}(hi:i<13)(h:(n &&& 4096 / 2 ^ i)=0):pwS n i*pwS n i=pwS n (i+1):=by
 rw[bit_eq (by omega),bit_and] at h
 have e:=pw_half (n:=n) hi
 unfold pwS
 rw[show 13-(i+1)=12-i by omega,e,h,Nat.add_zero,Nat.two_mul,Nat.pow_add]
theorem pwS_odd{n i:Nat}(hi:i<13)(h:¬ (n &&& 4096 / 2 ^ i)=0):pwS n i*pwS n i*2=pwS n (i+1):=by
 rw[bit_eq (by omega),bit_and] at h
 have e:=pw_half (n:=n) hi
 have h2:n / 2 ^ (12-i) % 2=1:=by omega
 unfold pwS
 rw[show 13-(i+1)=12-i by omega,e,h2,Nat.pow_add,Nat.two_mul,Nat.pow_add,Nat.pow_one]
theorem two_pw(e:Nat):2 ^ e<pw (e+1):=by
 induction e with
 |zero=>simp [pw]
 |succ e ih=>rw[Nat.pow_succ,vF];omega
theorem len_two(e:Nat):(ofNat (2 ^ e)).length≤e+1:=uM (two_pw e)
theorem len_pwS{n:Nat}(h:n≤4096)(i:Nat):(ofNat (pwS n i)).length≤4097:=by
 have:=len_two (n / 2 ^ (13-i))
 have h2:n / 2 ^ (13-i)≤n:=Nat.div_le_self _ _
 unfold pwS;omega
theorem g2:qD (kS 2)=[2]:=by
 rw[grpI_ofZ]
 show ofNat 2=[2]
 rw[mE (by decide),show 2 / 1000000000=0 from rfl,uS]
theorem g2n:ofNat (Int.natAbs 2)=[2]:=by rw[← grpI_ofZ];exact g2
theorem g2len:(kS 2).gs.length=1:=by
 show (ofNat 2).length=1
 rw[show ofNat 2=[2] from g2n];rfl
theorem neg2:(kS 2).neg=false:=rfl
theorem len_sq{n i:Nat}{out:List Nat}(hv:val out=pwS n i)(hn:n≤4096)(hi:i<13):(ofNat (val out*val out)).length≤8195:=by
 rw[hv]
 unfold pwS
 rw[← Nat.pow_add]
 have:=len_two (n / 2 ^ (13-i)+n / 2 ^ (13-i))
 have h2:n / 2 ^ (13-i)≤n:=Nat.div_le_self _ _
 omega
theorem mk_two(n:Nat):xX false (val (ofNat (pwS n 13)))=kS ((2 ^ n:Nat):Int):=by
 rw[kK,pwS_13]
 unfold kS
 rw[Int.natAbs_natCast,decide_eq_false (Int.not_lt.2 (Int.natCast_nonneg _))]
def qV(z:Int):Int:=((rootN z.toNat:Nat):Int)
theorem rootI_0(z:Int):0≤qV z:=Int.natCast_nonneg _
theorem rootI_le{z:Int}(h:0≤z):qV z*qV z≤z:=by
 obtain ⟨x,rfl⟩:=Int.eq_ofNat_of_zero_le h
 have:=rootN_le x
 unfold qV;rw[Int.toNat_natCast]
 have e:((rootN x*rootN x:Nat):Int)≤(x:Int):=by omega
 simpa using e
theorem lt_rootI{z:Int}(h:0≤z):z<(qV z+1)*(qV z+1):=by
 obtain ⟨x,rfl⟩:=Int.eq_ofNat_of_zero_le h
 have:=lt_rootN x
 unfold qV;rw[Int.toNat_natCast]
 have e:(x:Int)<(((rootN x+1)*(rootN x+1):Nat):Int):=by omega
 simpa using e
theorem rootI_self{z:Int}(h:0≤z):qV z≤z:=by
 have h1:=rootI_le h
 have h2:=rootI_0 z
 by_cases h3:qV z=0
 ·omega
 ·have:qV z*1≤qV z*qV z:=Int.mul_le_mul_of_nonneg_left (by omega) h2
  omega
theorem iok_root{z:Int}{n:Nat}{x:qG}(h:0≤z)(hz:gR x z n):gR (kS (qV z)) (qV z) n:=mX (Nat.le_trans (fN (by have:=rootI_0 z;have:=rootI_self h;omega)) hz.ln)
theorem nw_val(X:Nat)(r:List Nat):val (ofNat (val (ofNat (val r+val (ofNat (val (ofNat X) / val r)))) / 2))=(val r+X / val r) / 2:=by
 rw[kK,kK,kK,kK]
theorem val_app(a b:List Nat):val (a++b)=val a+pw a.length*val b:=by
 induction a with
 |nil=>simp [val,pw]
 |cons d a ih=>
  show d+1000000000*val (a++b)=d+1000000000*val a+pw (a.length+1)*val b
  rw[ih,vF,Nat.mul_add,Nat.mul_assoc];omega
theorem val_zeros(n:Nat):val (List.replicate n 0)=0:=by
 induction n with
 |zero=>rfl
 |succ n ih=>rw[List.replicate_succ];show 0+1000000000*val (List.replicate n 0)=0;rw[ih]
theorem nw_start(n:Nat):val (List.replicate n 0++[1])=pw n:=by
 rw[val_app,val_zeros,List.length_replicate]
 show 0+pw n*(1+1000000000*0)=pw n
 omega
theorem nw_cano(n:Nat):yO (List.replicate n 0++[1]):=by
 refine ⟨fun d hd=>?_,?_⟩
 ·rcases List.mem_append.1 hd with h | h
  ·rw[(List.mem_replicate.1 h).2];decide
  ·rw[List.mem_singleton.1 h];decide
 ·unfold Top
  rw[List.getD_eq_getElem?_getD]
  simp
theorem nw_top{X:Nat}:X<(val (List.replicate (((ofNat X).length+1) / 2) 0++[1])+1)*(val (List.replicate (((ofNat X).length+1) / 2) 0++[1])+1):=by
 rw[nw_start]
 have h:=aL X
 have h2:pw (ofNat X).length≤pw (((ofNat X).length+1) / 2+((ofNat X).length+1) / 2):=by unfold pw;exact Nat.pow_le_pow_right (by decide) (by omega)
 rw[pw_add] at h2
 have h3:pw (((ofNat X).length+1) / 2)*pw (((ofNat X).length+1) / 2)≤(pw (((ofNat X).length+1) / 2)+1)*(pw (((ofNat X).length+1) / 2)+1):=Nat.mul_le_mul (by omega) (by omega)
 omega
theorem cmpI_ge0{a b:Int}:0≤vN a b↔b≤a:=by
 unfold vN
 by_cases h:a<b
 ·rw[if_pos h];omega
 ·rw[if_neg h];split<;>omega
theorem nw_end{z:Int}{r:List Nat}(z0:0≤z)(h0:0<val r)(hu:z.natAbs<(val r+1)*(val r+1))(h:val r≤(val r+z.natAbs / val r) / 2):xX false (val r)=kS (qV z):=by
 have e:=newton_root h0 hu h
 obtain ⟨x,rfl⟩:=Int.eq_ofNat_of_zero_le z0
 rw[Int.natAbs_natCast] at e
 unfold qV kS
 rw[Int.toNat_natCast,← e,Int.natAbs_natCast,decide_eq_false (by omega)]
theorem two_pos(n:Nat):(0:Int)<((2 ^ n:Nat):Int):=by
 have:=Nat.pow_pos (n:=n) (show 0<2 by decide)
 exact Int.natCast_pos.2 this
theorem neg_abs{z:Int}(z0:0≤z)(h:(kS z).neg=true):False:=by
 have:(decide (z<0)&&z.natAbs != 0)=true:=h
 rw[decide_eq_false (show ¬ z<0 by omega)] at this
 cases this
theorem root_nil{z:Int}(h:(((ofNat z.natAbs).length:Nat):Int)=((0:Nat):Int)):kS (qV z)=qG.mk false []:=by
 have e:ofNat z.natAbs=[]:=List.eq_nil_of_length_eq_zero (by omega)
 have e2:=aW.1 e
 have e3:z=0:=by omega
 subst e3
 have:qV 0=0:=by
  have:=rootI_self (z:=0) (by decide);have:=rootI_0 0;omega
 rw[this]
 show qG.mk (decide ((0:Int)<0)&&(Int.natAbs 0 != 0)) (ofNat (Int.natAbs 0))=_
 rw[show Int.natAbs 0=0 from rfl,uS];rfl
theorem nw_ok(X:Nat){r:List Nat}(hr:0<val r)(hX:0<X)(hc:¬ (0:Int)≤vN (((val (ofNat (val (ofNat (val r+val (ofNat (val (ofNat X) / val r)))) / 2)):Nat)):Int) ((val r:Nat):Int)) :
  yO (ofNat (val (ofNat (val r+val (ofNat (val (ofNat X) / val r)))) / 2))∧0<val (ofNat (val (ofNat (val r+val (ofNat (val (ofNat X) / val r)))) / 2))∧X<(val (ofNat (val (ofNat (val r+val (ofNat (val (ofNat X) / val r)))) / 2))+1)*(val (ofNat (val (ofNat (val r+val (ofNat (val (ofNat X) / val r)))) / 2))+1)∧val (ofNat (val (ofNat (val r+val (ofNat (val (ofNat X) / val r)))) / 2))<val r:=by
 rw[cmpI_ge0,nw_val] at hc
 refine ⟨qO _,?_,?_,?_⟩
 ·rw[nw_val];exact newton_pos hX hr
 ·rw[nw_val];exact newton_up hr
 ·rw[nw_val];omega
theorem nw_stop{X:Nat}{r:List Nat}(hc:(0:Int)≤vN (((val (ofNat (val (ofNat (val r+val (ofNat (val (ofNat X) / val r)))) / 2)):Nat)):Int) ((val r:Nat):Int)):val r≤(val r+X / val r) / 2:=by
 rw[cmpI_ge0,nw_val] at hc;omega
theorem can_len{r s:List Nat}(hr:yO r)(hs:yO s)(h:val r≤val s):r.length≤s.length:=by
 rw[can_eq hr,can_eq hs];exact vZ h
theorem nw_lens{X:Nat}{r:List Nat}(hx:(ofNat X).length≤400)(hr:r.length≤400)(hc:yO r):(ofNat (val (ofNat X) / val r)).length≤400∧(ofNat (val r+val (ofNat (val (ofNat X) / val r)))).length≤401∧(ofNat (val (ofNat (val r+val (ofNat (val (ofNat X) / val r)))) / 2)).length≤401:=by
 have h1:(ofNat (val (ofNat X) / val r)).length≤400:=by
  rw[kK];exact Nat.le_trans (vZ (Nat.div_le_self _ _)) hx
 have h2:(ofNat (val r+val (ofNat (val (ofNat X) / val r)))).length≤401:=by
  apply uM
  have a1:=xT hc.1
  have a2:=aL (val (ofNat X) / val r)
  have a3:pw r.length≤pw 400:=hZ hr
  have a4:pw (ofNat (val (ofNat X) / val r)).length≤pw 400:=hZ h1
  rw[kK (val (ofNat X) / val r),vF]
  omega
 refine ⟨h1,h2,?_⟩
 have h3:=kK (val r+val (ofNat (val (ofNat X) / val r)))
 exact Nat.le_trans (vZ (by rw[h3];exact Nat.div_le_self _ _)) h2
theorem dN{k:Nat}(h:k≤512):gR (kS ((2 ^ k:Nat):Int)) ((2 ^ k:Nat):Int) 20:=mX (by
 rw[cD,Int.natAbs_natCast]
 refine Nat.lt_of_le_of_lt (Nat.pow_le_pow_right (by decide) h) ?_
 unfold pw
 decide +kernel)
theorem eL{k:Nat}(h:k≤512):QL (((2 ^ k:Nat):Int):Rat) 20:=zB (dN h).ln (by decide)
def nR(x:Rat):Int:=x.num.fdiv ((x.den:Nat):Int)
theorem aK{x:Rat}{n k:Nat}(h:QL x n)(hk:n+1≤k):gR (kS (nR x)) (nR x) k:=mX (Nat.le_trans (lenZ_fdiv _ _) (Nat.le_trans (Nat.succ_le_succ h.1) hk))
theorem flZ_floor(x:Rat):nR x=x.floor:=by
 unfold nR;rw[Rat.floor_def,Int.fdiv_eq_ediv_of_nonneg _ (by omega)]
theorem fl_nn{x:Rat}(h:0≤x):0≤nR x:=by
 rw[flZ_floor,Rat.le_floor_iff];exact h
theorem aN{x:Rat}{k:Nat}(h:0≤x):0≤x*((((2 ^ k:Nat):Int):Rat)*(((2 ^ k:Nat):Int):Rat)):=by
 have h2:(0:Rat)≤(((2 ^ k:Nat):Int):Rat):=by
  rw[← Rat.intCast_zero];exact Rat.intCast_le_intCast.2 (Int.le_of_lt (two_pos k))
 exact Rat.mul_nonneg h (Rat.mul_nonneg h2 h2)
theorem sgn_nn{x:Rat}(h:0≤x):¬ (mB x)<0:=by
 unfold mB
 have h2:0≤x.num:=Rat.num_nonneg.2 h
 unfold uL
 by_cases e:x.num=0
 ·rw[if_pos e];decide
 ·rw[if_neg e,if_neg (by omega)];decide
def upI(y:Rat):Int:=if ((qV (nR y)*qV (nR y):Int):Rat)<y then qV (nR y)+1 else qV (nR y)
theorem iok_upI{y:Rat}{n k:Nat}(h:0≤nR y)(hz:gR (kS (nR y)) (nR y) n)(hk:n+1≤k)(hn:1≤n):gR (kS (upI y)) (upI y) k:=mX (by
 have h1:=(iok_root h hz).ln
 unfold upI
 by_cases e:((qV (nR y)*qV (nR y):Int):Rat)<y
 ·rw[if_pos e]
  exact lenZ_add h1 (vY (z:=1) (by decide)) (by omega)
 ·rw[if_neg e];omega)
theorem cmpQ_ltR{a b:Rat}:yE a b<0↔a<b:=by
 unfold yE
 by_cases h:a<b
 ·rw[if_pos h];exact ⟨fun _=>h,fun _=>by decide⟩
 ·rw[if_neg h];refine ⟨fun hh=>?_,fun hh=>absurd hh h⟩
  by_cases h2:b<a
  ·rw[if_pos h2] at hh;exact absurd hh (by decide)
  ·rw[if_neg h2] at hh;exact absurd hh (by decide)
theorem upI_t{y:Rat}(h:yE ((qV (nR y)*qV (nR y):Int):Rat) y<0):upI y=qV (nR y)+1:=if_pos (cmpQ_ltR.1 h)
theorem upI_f{y:Rat}(h:¬ yE ((qV (nR y)*qV (nR y):Int):Rat) y<0):upI y=qV (nR y):=if_neg (fun hh=>h (cmpQ_ltR.2 hh))
theorem p2_ne(k:Nat):(((2 ^ k:Nat):Int):Rat)≠0:=by
 intro h
 have:((2 ^ k:Nat):Int)=0:=by rw[← Rat.intCast_zero] at h;exact Rat.intCast_inj.1 h
 have:=two_pos k;omega
theorem divP(a:Int)(k:Nat):Rat.divInt a ((2 ^ k:Nat):Int)=((a:Int):Rat) / (((2 ^ k:Nat):Int):Rat):=by rw[Rat.divInt_eq_div]
theorem p2_pos(k:Nat):(0:Rat)<(((2 ^ k:Nat):Int):Rat):=by
 rw[← Rat.intCast_zero];exact Rat.intCast_lt_intCast.2 (two_pos k)
theorem divP_le{a:Int}{k:Nat}{c:Rat}(h:((a:Int):Rat)≤c*(((2 ^ k:Nat):Int):Rat)):Rat.divInt a ((2 ^ k:Nat):Int)≤c:=by
 rw[divP,← Rat.not_lt,Rat.lt_div_iff (p2_pos k),Rat.not_lt];exact h
theorem flZ_le(x:Rat):((nR x:Int):Rat)≤x:=by rw[flZ_floor];exact Rat.floor_le x
theorem divP_mul(a:Int)(k:Nat):Rat.divInt a ((2 ^ k:Nat):Int)*(((2 ^ k:Nat):Int):Rat)=((a:Int):Rat):=by
 rw[divP,Rat.div_mul_cancel (p2_ne k)]
theorem rt_lo{y:Rat}(hy:0≤y):((qV (nR y)*qV (nR y):Int):Rat)≤y:=Rat.le_trans (Rat.intCast_le_intCast.2 (rootI_le (fl_nn hy))) (flZ_le y)
theorem upI_nn(y:Rat):0≤upI y:=by
 have:=rootI_0 (nR y)
 unfold upI;split<;>omega
theorem rt_hi{y:Rat}(hy:0≤y):y≤((upI y*upI y:Int):Rat):=by
 unfold upI
 by_cases e:((qV (nR y)*qV (nR y):Int):Rat)<y
 ·rw[if_pos e]
  have h1:=lt_rootI (fl_nn hy)
  have h2:y<((nR y+1:Int):Rat):=by rw[flZ_floor];exact Rat.lt_floor_add_one y
  exact Rat.le_trans (Rat.le_of_lt h2) (Rat.intCast_le_intCast.2 h1)
 ·rw[if_neg e];exact Rat.not_lt.1 e
theorem sq_int{a b:Int}(b0:0≤b)(h:a*a≤b*b):a≤b:=by
 by_cases hh:a≤b
 ·exact hh
 ·have h1:b<a:=by omega
  have h2:b*b<a*a:=by
   have q1:b*b≤b*a:=Int.mul_le_mul_of_nonneg_left (by omega) b0
   have q2:b*a<a*a:=Int.mul_lt_mul_of_pos_right h1 (by omega)
   omega
  omega
theorem rt_valid{p q:Rat}(k:Nat)(hp:0≤p)(h:p≤q):Rat.divInt (qV (nR (p*((((2 ^ k:Nat):Int):Rat)*(((2 ^ k:Nat):Int):Rat))))) ((2 ^ k:Nat):Int)≤Rat.divInt (upI (q*((((2 ^ k:Nat):Int):Rat)*(((2 ^ k:Nat):Int):Rat)))) ((2 ^ k:Nat):Int):=by
 refine divP_le ?_
 rw[divP_mul]
 refine Rat.intCast_le_intCast.2 (sq_int (upI_nn _) (Rat.intCast_le_intCast.1 ?_))
 have hq:0≤q:=Rat.le_trans hp h
 have hPP:(0:Rat)≤(((2 ^ k:Nat):Int):Rat)*(((2 ^ k:Nat):Int):Rat):=Rat.mul_nonneg (Rat.le_of_lt (p2_pos k)) (Rat.le_of_lt (p2_pos k))
 exact Rat.le_trans (rt_lo (aN hp)) (Rat.le_trans (Rat.mul_le_mul_of_nonneg_right h hPP) (rt_hi (aN hq)))
end Go.Fid
namespace Go.Proofs.YtnajallgoaiahaaGreatDoor
open Go.Fid
theorem cb256:callB Tryz.prog 256=true:=by kernel_rfl
theorem cb265:callB Tryz.prog 265=true:=by kernel_rfl
theorem cb268:callB Tryz.prog 268=true:=by kernel_rfl
theorem cb271:callB Tryz.prog 271=true:=by kernel_rfl
theorem cb272:callB Tryz.prog 272=true:=by kernel_rfl
theorem cb273:callB Tryz.prog 273=true:=by kernel_rfl
theorem in3:intB Tryz.prog 3=some .i64:=by kernel_rfl
theorem st9:strB Tryz.prog 9=true:=by kernel_rfl
theorem d_small :jS Tryz.prog 273 [(.val (.int .i64 (((2:Nat):Int))))] (.val (.string (ByteArray.mk #[50]))):=by
 refine jJ Tryz.func273 rfl cb273 rfl ?_
 show qM _ _ _ _ ⟨[(0,(jK 2))],[]⟩
 refine jB<|kx [] [] (zM<|zZ) ?_
 refine jB<|jB<|kx [(4,(vb true))] [] (zM<|zE (uR true xY)<|zZ) ?_
 refine uD ?_
 refine jB<|kx [(2,(.d (.val (.string (ByteArray.mk #[50])))))] [] (zM<|zM<|zE (xE 3 (hr:=by decide))<|zE (oSstr (l:=2) (h:=3) (r:=ByteArray.mk #[50]) st9)<|zM<|zZ) ?_
 refine jG ⟨_,(.tmp (d:=(.val (.string (ByteArray.mk #[50])))) rfl .nil),?_⟩
 rfl
theorem d_fmt :jS Tryz.prog 272 [(.val (.int .i64 (((2:Nat):Int)))),(.val (.int .i64 (((10:Nat):Int))))] (.val (.string (ByteArray.mk #[50]))):=by
 refine jJ Tryz.func272 rfl cb272 rfl ?_
 show qM _ _ _ _ ⟨[(0,(jK 2)),(1,(jK 10))],[]⟩
 refine jB<|kx [] [] (zM<|zZ) ?_
 refine jB<|jB<|kx [(11,(vb true))] [] (zM<|zE (uR true xR)<|zZ) ?_
 refine uD ?_
 refine jB<|jB<|kx [(17,(vb true))] [] (zM<|zE (uR true oLe)<|zM<|zM<|zE (uR true xY)<|zE nY<|zZ) ?_
 refine uD ?_
 refine jB<|kx [(4,(.d (.val (.string (ByteArray.mk #[50])))))] [] (zM<|zE (kA d_small)<|zM<|zZ) ?_
 refine jG ⟨_,(.tmp (d:=(.val (.string (ByteArray.mk #[50])))) rfl .nil),?_⟩
 rfl
theorem d_itoaI :jS Tryz.prog 271 [(.val (.int .i64 (((2:Nat):Int))))] (.val (.string (ByteArray.mk #[50]))):=by
 refine jJ Tryz.func271 rfl cb271 rfl ?_
 show qM _ _ _ _ ⟨[(0,(jK 2))],[]⟩
 refine jB<|kx [] [] (zM<|zZ) ?_
 refine jB<|kx [(2,(.d (.val (.string (ByteArray.mk #[50])))))] [] (zM<|zE (kA d_fmt)<|zM<|zZ) ?_
 refine jG ⟨_,(.tmp (d:=(.val (.string (ByteArray.mk #[50])))) rfl .nil),?_⟩
 rfl
theorem d_itoa :jS Tryz.prog 268 [(.val (.int .i64 (((2:Nat):Int))))] (.val (.string (ByteArray.mk #[50]))):=by
 refine jJ Tryz.func268 rfl cb268 rfl ?_
 show qM _ _ _ _ ⟨[(0,(jK 2))],[]⟩
 refine jB<|kx [] [] (zM<|zZ) ?_
 refine jB<|kx [(2,(.d (.val (.string (ByteArray.mk #[50])))))] [] (zM<|zE (kA d_itoaI)<|zM<|zZ) ?_
 refine jG ⟨_,(.tmp (d:=(.val (.string (ByteArray.mk #[50])))) rfl .nil),?_⟩
 rfl
theorem d_digits :jS Tryz.prog 265 [(.sl 140 1 (List.map jE [2]))] (.val (.int .i64 (((1:Nat):Int)))):=by
 refine jJ Tryz.func265 rfl cb265 rfl ?_
 show qM _ _ _ _ ⟨[(0,(vl 140 1 jE [2]))],[]⟩
 refine jB<|kx [] [] (zM<|zZ) ?_
 refine jB<|jB<|kx [(5,(vb false))] [] (zM<|zE (oLn kV 1)<|zE (uR false xR)<|zZ) ?_
 refine kI ?_
 refine jF<|jB<|kx [(2,(jK 1))] [] (zM<|zE (oLn kV 1)<|zE (oSb 0 (hr:=by decide))<|zE (oMl 0 (hr:=by decide))<|zM<|zM<|zE (oLn kV 1)<|zE (oSb 0 (hr:=by decide))<|zE (oXs kV 0)<|zE (nC uG)<|zE (cA gH in3 2)<|zE (kA d_itoa)<|zE (oLstr st9 1)<|zE (xE 1 (hr:=by decide))<|zM<|zZ) ?_
 refine jG ⟨_,(.tmp (d:=(.val (.int .i64 (((1:Nat):Int))))) rfl .nil),?_⟩
 rfl
theorem d_pow(n:Nat)(hn:n≤1024):jS Tryz.prog 256 [(jT (kS 2)),(.val (.int .i64 (((n:Nat):Int))))] (.tup [(jT (kS ((2 ^ n:Nat):Int))),(.val (.int .i64 (0)))]):=by
 have hg2:=g2len
 refine jJ Tryz.func256 rfl cb256 rfl ?_
 show qM _ _ _ _ ⟨[(0,(.d (jT (kS 2)))),(1,(jK n))],[]⟩
 refine jB<|kx [(2,(.ref 0 0)),(4,(.ref 1 0))] [(0,some (bx (jT (kS 2)))),(1,some (bx (jT (qG.mk false []))))] (zN (uY 0)<|zN (qW 1 gC gA)<|zM<|zZ) ?_
 refine jB<|kx [(6,(vl 140 1 jE [2]))] [] (zR (kP kD)<|zE (oQd (.sl 140 1 (List.map jE (qD (kS 2)))) (.sl 140 1 (List.map jE [2])) (kA (gZ (kS 2) (by omega))) (by exact (congrArg (fun l=>jZ.sl 140 1 (List.map jE l)) g2)))<|zM<|zZ) ?_
 refine jB<|jI<|jB<|kx [(11,(vb false))] [] (zM<|zE (uR false xY (by exact decide_eq_false (show ¬ ((n:Nat):Int)<0 by omega)))<|zM<|zM<|zE (uR false gD (by exact decide_eq_false (show ¬ 4096<((n:Nat):Int) by omega)))<|zE gE<|zM<|zZ) ?_
 refine kI ?_
 refine jB<|kx [(19,(vb false))] [] (zM<|zM<|zE (kA d_digits)<|zE (oMl (n*1))<|zE (uR false gD (by exact decide_eq_false (show ¬ 20000<(((n*1):Nat):Int) by omega)))<|zM<|zZ) ?_
 refine kI ?_
 refine jF<|jB<|kx [(7,(vl 140 1 jE [1]))] [] (zE (mC kV xH yT)<|zM<|zZ) ?_
 refine jB<|jB<|kx [(8,(jK 4096))] [] (zM<|zZ) ?_
 refine jI<|kM (α:=Nat × Nat × List Nat) (fun (i,b,out)=>⟨[(1,(jK n)),(2,(.ref 0 0)),(4,(.ref 1 0)),(6,(vl 140 1 jE [2])),(7,(vl 140 1 jE out)),(8,(jK b))],[(0,some (bx (jT (kS 2)))),(1,some (bx (jT (qG.mk false []))))]⟩) (fun (i,b,out)=>i≤13∧b=4096 / 2 ^ i∧out=ofNat (pwS n i)) (fun (i,b,out)=>13-i) (0,4096,[1]) wk ⟨Nat.zero_le _,rfl,pwS_0 (by omega)⟩ ?_
 rintro ⟨i,b,out⟩ ⟨hi,hbi,ho⟩
 have hdo:Dig out:=ho▸kU _
 have hlo:out.length≤4097:=ho▸len_pwS (by omega) i
 have hdt:Dig [2]:=by intro d hd;rw[List.mem_singleton.1 hd];decide
 have hvo:val out=pwS n i:=by rw[ho,kK]
 have hbl:b≤4096:=hbi▸Nat.div_le_self _ _
 have hdq:Dig (ofNat (val out*val out)):=kU _
 have hl2:[2].length≤1:=Nat.le_refl _
 refine jB<|jB<|kx [(28,(vb (decide (0<((b:Nat):Int)))))] [] (zM<|zE gD<|zZ) ?_
 refine jH (b:=decide (0<((b:Nat):Int))) rfl (fun h1=>?_) (fun h1=>?_)
 ·replace h1:=vJ h1
  have hi2:=bit_pos hi (hbi▸h1)
  have hlq:=len_sq hvo (show n≤4096 by omega) hi2
  refine jF<|jB<|jI<|jB<|kx [(7,(vl 140 1 jE (ofNat (val out*val out))))] [] (zM<|zM<|zE (kA (t_times out out (by assumption) (by assumption) (by omega) (by omega)))<|zM<|zZ) ?_
  refine jB<|kx [(37,(vb ((((n &&& b):Nat):Int) != 0)))] [] (zM<|zM<|zE (oAb (n &&& b))<|zE cR<|zZ) ?_
  refine jH (b:=((((n &&& b):Nat):Int) != 0)) rfl (fun h2=>?_) (fun h2=>?_)
  ·replace h2:=bne_iff_ne.1 h2
   refine kx [(7,(vl 140 1 jE (ofNat (val (ofNat (val out*val out))*val [2]))))] [] (zM<|zM<|zE (kA (t_times (ofNat (val out*val out)) [2] (by assumption) (by assumption) (by omega) (by omega)))<|zM<|zZ) ?_
   refine kx [(8,(jK (b / 2)))] [] (zM<|zE (e_shr (n:=1) (((b / 2):Nat):Int) (hr:=shr1 _))<|zM<|zZ) ?_
   exact ⟨(i+1,b / 2,ofNat (val (ofNat (val out*val out))*val [2])),wk,⟨by omega,by rw[hbi];exact bit_half i,by rw[kK,hvo,← pwS_odd hi2 (by rw[← hbi];omega)];rfl⟩,(by first|omega|(dsimp only;omega))⟩
  ·replace h2:=bne_eq_false_iff_eq.1 h2
   refine jF<|kx [(8,(jK (b / 2)))] [] (zM<|zE (e_shr (n:=1) (((b / 2):Nat):Int) (hr:=shr1 _))<|zM<|zZ) ?_
   exact ⟨(i+1,b / 2,ofNat (val out*val out)),wk,⟨by omega,by rw[hbi];exact bit_half i,by rw[hvo,pwS_even hi2 (by rw[← hbi];omega)]⟩,(by first|omega|(dsimp only;omega))⟩
 ·replace h1:=vM h1
  have hi13:=bit_end hi (hbi▸h1)
  refine kL<|jB<|kx [(5,(jK 0))] [(1,some (bx (jT (xX ((kS 2).neg&&((((n % 2):Nat):Int) == 1)) (val out)))))] ?_ ?_
  ·refine zE (qA xG)<|zR (qX bJ)<|zE (oV (vb ((kS 2).neg)) (qQ (by kernel_rfl)))<|?_
   rcases hb3:((kS 2).neg) with _ | _
   ·exact zK<|zK<|zK<|zE gE<|zM<|zE (kA (mW false out (by assumption) (by omega)))<|zT (qF kD)<|zM<|zZ
   ·exact zM<|zE (oRe (n % 2))<|zE xR<|zE fA<|zM<|zE (kA (mW (true&&((((n % 2):Nat):Int) == 1)) out (by assumption) (by omega)))<|zT (qF kD)<|zM<|zZ
  refine jG ⟨_,(kJ (cs:=(bx (jT (xX ((kS 2).neg&&((((n % 2):Nat):Int) == 1)) (val out))))) (d:=(jT (xX ((kS 2).neg&&((((n % 2):Nat):Int) == 1)) (val out)))) rfl rfl kD rfl rfl (.tmp (d:=(.val (.int .i64 (0)))) rfl .nil)),?_⟩
  rw[ho,hi13,neg2,Bool.false_and,mk_two];rfl
theorem cb231:callB Tryz.prog 231=true:=by kernel_rfl
theorem d_root(z:Int)(hz:gR (kS z) z 200)(hz0:0≤z):jS Tryz.prog 231 [(jT (kS z))] (.tup [(jT (kS (qV z))),(.val (.int .i64 (0)))]):=by
 have hzl:(ofNat z.natAbs).length≤200:=hz.ln
 have hzg:=hz.l
 refine jJ Tryz.func231 rfl cb231 rfl ?_
 show qM _ _ _ _ ⟨[(0,(.d (jT (kS z))))],[]⟩
 refine jB<|kx [(1,(.ref 0 0)),(2,(.ref 1 0))] [(0,some (bx (jT (kS z)))),(1,some (bx (jT (qG.mk false []))))] (zN (uY 0)<|zN (qW 1 gC gA)<|zM<|zZ) ?_
 refine jB<|kx [(4,(vl 140 1 jE (ofNat (Int.natAbs z))))] [] (zR (kP kD)<|zE (oQd (.sl 140 1 (List.map jE (qD (kS z)))) (.sl 140 1 (List.map jE (ofNat (Int.natAbs z)))) (kA (gZ (kS z) (by omega))) (by exact (congrArg (fun l=>jZ.sl 140 1 (List.map jE l)) (grpI_ofZ z))))<|zM<|zZ) ?_
 refine jB<|jB<|kx [(14,(vb ((((ofNat (Int.natAbs z)).length:Nat):Int) == 0)))] [] (zM<|zE (zD kV (L:=(ofNat (Int.natAbs z))))<|zE xR<|zZ) ?_
 refine jH rfl (fun h1=>?_) (fun h1=>?_)
 ·replace h1:=eq_of_beq h1
  refine jB<|kx [(3,(jK 0))] [(1,some (bx (jT (qG.mk false []))))] (zE (cS pl43 gC gA)<|zT (qF kD)<|zM<|zZ) ?_
  refine jG ⟨_,(kJ (cs:=(bx (jT (qG.mk false [])))) (d:=(jT (qG.mk false []))) rfl rfl kD rfl rfl (.tmp (d:=(.val (.int .i64 (0)))) rfl .nil)),?_⟩
  rw[root_nil h1];rfl
 ·replace h1:=ne_of_beq_false h1
  refine jF<|jB<|jB<|kx [(17,(vb ((kS z).neg)))] [] (zE (qA xG)<|zR (qX bJ)<|zZ) ?_
  refine jH (b:=(kS z).neg) rfl (fun h2=>?_) (fun h2=>?_)
  ·exact (neg_abs hz0 h2).elim
  ·have hX:0<z.natAbs:=by rcases Nat.eq_zero_or_pos z.natAbs with e | e;exact absurd (by rw[e,uS];rfl) h1;exact e
   refine jF<|jB<|kf [(5,(.own 2 140 1 (((List.replicate (((ofNat (Int.natAbs z)).length+1) / 2) 0)++[1]).length)))] [(2,some (bm jE ((List.replicate (((ofNat (Int.natAbs z)).length+1) / 2) 0)++[1])))] (zM<|zE (zD kV (L:=(ofNat (Int.natAbs z))))<|zE (xE ((ofNat (Int.natAbs z)).length+1))<|zE (oQu (((ofNat (Int.natAbs z)).length+1) / 2))<|zN (oMk 2 jE (0:Nat) (((ofNat (Int.natAbs z)).length+1) / 2) (((ofNat (Int.natAbs z)).length+1) / 2) kV xH yT nZ)<|zE (mC kV xH yT)<|zA jE (List.replicate (((ofNat (Int.natAbs z)).length+1) / 2) 0) [1] (by rw[List.length_replicate]) kV xH nZ<|zM<|zF) ?_
   refine jI<|jV (xA (t:=5) (k:=2) (es:=List.map jE ((List.replicate (((ofNat (Int.natAbs z)).length+1) / 2) 0)++[1])) rfl rfl (uI _ _ (fun _=>rfl)) (qY _ _ rfl) (uU _ _ (fun _=>rfl) rfl)) ?_
   refine kM (α:=List Nat) (fun r=>⟨[(2,(.ref 1 0)),(4,(vl 140 1 jE (ofNat (Int.natAbs z)))),(5,(vl 140 1 jE r))],[(1,some (bx (jT (qG.mk false []))))]⟩) (fun r=>(yO r∧0<val r∧z.natAbs<(val r+1)*(val r+1))∧r.length≤400) (fun r=>val r) (List.replicate (((ofNat z.natAbs).length+1) / 2) 0++[1]) wk ⟨⟨nw_cano _,by rw[nw_start];exact pw_pos _,nw_top⟩,by simp;omega⟩ ?_
   rintro r ⟨⟨hcr,hr0,hru⟩,hrl⟩
   have hcg:yO (ofNat z.natAbs):=qO _
   have hdr:=hcr.1
   obtain ⟨q1,q2,q3⟩:=nw_lens (X:=z.natAbs) (by omega) hrl hcr
   have hdq:Dig (ofNat (val (ofNat z.natAbs) / val r)):=kU _
   have hds:Dig (ofNat (val r+val (ofNat (val (ofNat z.natAbs) / val r)))):=kU _
   have hcn:yO (ofNat (val (ofNat (val r+val (ofNat (val (ofNat (Int.natAbs z)) / val r)))) / 2)):=qO _
   refine jI<|jB<|kx [(6,(vl 140 1 jE (ofNat (val (ofNat (Int.natAbs z)) / val r))))] [] (zM<|zM<|zE (kA (t_over (ofNat (Int.natAbs z)) r (by assumption) (by assumption) (by omega) (by omega) (by omega)))<|zM<|zE vI<|zE vI<|zM<|zM<|zZ) ?_
   refine jB<|kx [(8,(vl 140 1 jE (ofNat (val (ofNat (val r+val (ofNat (val (ofNat (Int.natAbs z)) / val r)))) / 2))))] [] (zM<|zM<|zE (kA (t_plus r (ofNat (val (ofNat (Int.natAbs z)) / val r)) (by assumption) (by assumption) (by omega) (by omega)))<|zE (kA (t_short (ofNat (val r+val (ofNat (val (ofNat (Int.natAbs z)) / val r)))) 2 (by assumption) (by omega) (by omega) (by omega)))<|zM<|zE vI<|zE vI<|zM<|zM<|zZ) ?_
   refine jB<|jB<|kx [(42,(vb (decide (0≤(vN ((val (ofNat (val (ofNat (val r+val (ofNat (val (ofNat (Int.natAbs z)) / val r)))) / 2)):Nat):Int) ((val r:Nat):Int))))))] [] (zM<|zM<|zE (kA (t_compare (ofNat (val (ofNat (val r+val (ofNat (val (ofNat (Int.natAbs z)) / val r)))) / 2)) r (by assumption) (by assumption) (by omega)))<|zE oGe<|zZ) ?_
   refine jH rfl (fun h3=>?_) (fun h3=>?_)
   ·replace h3:=vJ h3
    refine jB<|kx [(3,(jK 0))] [(1,some (bx (jT (xX false (val r)))))] (zM<|zE (kA (mW false r (by assumption) (by omega)))<|zT (qF kD)<|zM<|zZ) ?_
    refine jG ⟨_,(kJ (cs:=(bx (jT (xX false (val r))))) (d:=(jT (xX false (val r)))) rfl rfl kD rfl rfl (.tmp (d:=(.val (.int .i64 (0)))) rfl .nil)),?_⟩
    rw[nw_end hz0 hr0 hru (nw_stop h3)];rfl
   ·replace h3:=vM h3
    refine jF<|kx [(5,(vl 140 1 jE (ofNat (val (ofNat (val r+val (ofNat (val (ofNat (Int.natAbs z)) / val r)))) / 2))))] [] (zM<|zM<|zZ) ?_
    exact ⟨(ofNat (val (ofNat (val r+val (ofNat (val (ofNat (Int.natAbs z)) / val r)))) / 2)),wk,(by obtain ⟨n1,n2,n3,n4⟩:=nw_ok z.natAbs hr0 hX h3;exact ⟨⟨n1,n2,n3⟩,Nat.le_trans (can_len n1 hcr (Nat.le_of_lt n4)) hrl⟩),(by obtain ⟨n1,n2,n3,n4⟩:=nw_ok z.natAbs hr0 hX h3;exact n4)⟩
theorem cb230:callB Tryz.prog 230=true:=by kernel_rfl
theorem cb232:callB Tryz.prog 232=true:=by kernel_rfl
theorem d_floor(x:Rat)(hx:QL x 200):jS Tryz.prog 232 [(jL (jM x))] (jT (kS (nR x))):=by
 refine jJ Tryz.func232 rfl cb232 rfl ?_
 show qM _ _ _ _ ⟨[(0,(.d (jL (jM x))))],[]⟩
 refine jB<|kx [(1,(.ref 0 0)),(2,(.ref 1 0))] [(0,some (bx (jL (jM x)))),(1,some (bx (jT (qG.mk false []))))] (zN (uY 0)<|zN (qW 1 gC gA)<|zZ) ?_
 refine jB<|kx [] [(0,some (bx (jL (jM x))))] (zR (kP jW)<|zE (kA (dG (jM x) x (jQ (kB hx) (by decide))))<|zT (qF jW)<|zZ) ?_
 refine jB ?_
 have bn1:gR (kS (x.num.fdiv (x.den:Int))) (x.num.fdiv (x.den:Int)) 201:=(iok_fdiv (k:=201) (uQ hx) (uJ hx) (by decide))
 refine kx [(3,(.ref 2 0))] [(2,some (bx (jT (kS (x.num.fdiv (x.den:Int)))))),(3,none)] (zE (qA yA)<|zR (kP kD)<|zE (qA xS)<|zR (kP kD)<|zE (kA (s_divide (uQ hx) (uJ hx) (by decide) (by decide) (by have:=x.den_nz;omega)))<|zM<|zE vI<|zE vI<|zE vI<|zN (qW 2 gC gA)<|zN (qW 3 gC gA)<|zT (qF kD)<|zT (qF kD)<|zM<|zZ) ?_
 refine jB<|kx [] [(1,some (bx (jT (kS (x.num.fdiv (x.den:Int))))))] (zR (kP kD)<|zT (qF kD)<|zZ) ?_
 refine jG ⟨_,(kJ (cs:=(bx (jT (kS (x.num.fdiv (x.den:Int)))))) (d:=(jT (kS (x.num.fdiv (x.den:Int))))) rfl rfl kD rfl rfl .nil),?_⟩
 rfl
theorem d_scaled(x:Rat)(hx:QL x 100)(k:Nat)(hk:k≤512):jS Tryz.prog 230 [(jL (jM x)),(.val (.int .i64 (((k:Nat):Int))))] (.tup [(jL (jM (x*(vX k)))),(jT (kS ((2 ^ k:Nat):Int))),(.val (.int .i64 (0)))]):=by
 refine jJ Tryz.func230 rfl cb230 rfl ?_
 show qM _ _ _ _ ⟨[(0,(.d (jL (jM x)))),(1,(jK k))],[]⟩
 refine jB<|kx [(2,(.ref 0 0)),(4,(.ref 1 0)),(5,(.ref 2 0))] [(0,some (bx (jL (jM x)))),(1,some (bx (jL kR))),(2,some (bx (jT (qG.mk false []))))] (zN (uY 0)<|zN (qW 1 uH uN)<|zN (qW 2 gC gA)<|zM<|zZ) ?_
 refine jB<|jB<|kx [(14,(vb false))] [] (zM<|zE (uR false xY (by exact decide_eq_false (show ¬ ((k:Nat):Int)<0 by omega)))<|zM<|zM<|zE (uR false gD (by exact decide_eq_false (show ¬ 512<((k:Nat):Int) by omega)))<|zE gE<|zZ) ?_
 refine kI ?_
 refine jF<|jB<|kx [(7,(.ref 3 0))] [(3,some (bx (jT (kS ((2 ^ k:Nat):Int)))))] (zE (kA (t_of 2 (by decide) (by decide)))<|zM<|zE (kA (d_pow k (by omega)))<|zM<|zE vI<|zE vI<|zN (qW 3 gC gA)<|zT (qF kD)<|zM<|zZ) ?_
 refine jB ?_
 have bn1:QL (x*(vX k)) 120:=(uC (k:=120) hx (eL (k:=k) (by omega)) (by decide))
 refine kd [(6,(jK 0))] [(1,some (bx (jL (jM (x*(vX k)))))),(2,some (bx (jT (kS ((2 ^ k:Nat):Int)))))] mo (wR (kP jW)<|wR (kP kD)<|wE (kA (t_of 1 (by decide) (by decide)))<|wE (oQd (jL (kF.mk (kS ((2 ^ k:Nat):Int)) (kS 1))) (jL (jM (vX k))) (cS pl45 uH uN) (by exact rfl))<|wE (kA (eS (jM x) (jM (vX k)) x (vX k) (jQ (kB hx) (by decide)) (jQ (kB (eL (k:=k) (by omega))) (by decide))))<|wR (kP kD)<|wT (qF jW)<|wT (qF kD)<|wM<|wZ) ?_
 refine jG ⟨_,(kJ (cs:=(bx (jL (jM (x*(vX k)))))) (d:=(jL (jM (x*(vX k))))) rfl rfl jW rfl rfl (kJ (cs:=(bx (jT (kS ((2 ^ k:Nat):Int))))) (d:=(jT (kS ((2 ^ k:Nat):Int)))) rfl rfl kD rfl rfl (.tmp (d:=(.val (.int .i64 (((0:Nat):Int))))) rfl .nil))),?_⟩
 rfl
end Go.Proofs.YtnajallgoaiahaaGreatDoor
namespace Go.Fid
def stnP(x y z u v f:Int):Prop:=(-1048576≤x∧x≤1048576)∧(-1048576≤y∧y≤1048576)∧(-1048576≤z∧z≤1048576)∧(-1048576≤u∧u≤1048576)∧(-1048576≤v∧v≤1048576)∧(1≤f∧f≤1048576)
instance {x y z u v f:Int}:Decidable (stnP x y z u v f):=by unfold stnP;infer_instance
end Go.Fid
