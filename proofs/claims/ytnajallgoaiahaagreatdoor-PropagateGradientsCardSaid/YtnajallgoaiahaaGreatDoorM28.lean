/- Part 28 of a proof: rules, plain facts, and functions walked. -/
import Derived.Test.YtnajallgoaiahaaGreatDoorM27
import Derived.Test.YtnajallgoaiahaaGreatDoorM24
import Derived.Test.YtnajallgoaiahaaGreatDoorM23
set_option linter.unusedVariables false
set_option linter.unusedSimpArgs false
set_option maxRecDepth 4000
namespace Go.Proofs.YtnajallgoaiahaaGreatDoor
open Go.Fid
theorem cb67:callB Tryz.prog 67=true:=by kernel_rfl
theorem cb73:callB Tryz.prog 73=true:=by kernel_rfl
theorem fo161_4:zY Tryz.prog 161 4=some 4:=by kernel_rfl
theorem pl161:eF Tryz.prog 161=some [(0,1),(1,1),(2,1),(3,1),(4,1)]:=by kernel_rfl
theorem ze161:yM Tryz.prog 161=some [.int .i64 0,.int .i64 0,.int .i64 0,.slice none 0 0,.bool false]:=by kernel_rfl
theorem zn161:aR [.int .i64 0,.int .i64 0,.int .i64 0,.slice none 0 0,.bool false] [.val (.int .i64 0),.val (.int .i64 0),.val (.int .i64 0),.val (.slice none 0 0),.val (.bool false)]:=by simp [aR,Value.oneCell']
theorem hB12(n:Nat)(L M:List JV)(h:L=M):([(0,some [(jK n),(jK 1),(vi (-1)),(.own 18 95 10 ((List.map jN (M)).length)),(vb false)]),(18,some (qB jC (List.map jN (M))))]:BS).map (fun e=>(e.1,e.2.map fun c=>c.map (SV.ren (xn 12 18))))=([(0,some [(jK n),(jK 1),(vi (-1)),(.own 12 95 10 ((List.map jN (L)).length)),(vb false)]),(12,some (qB jC (List.map jN (L))))]:BS).map (fun e=>(xn 12 18 e.1,e.2)):=by
 subst h
 simp only[List.map_cons,List.map_nil,Option.map_some,qB,qH]
 rfl
theorem hB13(n:Nat)(L M:List JV)(h:L=M):([(0,some [(jK n),(jK 1),(vi (-1)),(.own 18 95 10 ((List.map jN (M)).length)),(vb false)]),(18,some (qB jC (List.map jN (M))))]:BS).map (fun e=>(e.1,e.2.map fun c=>c.map (SV.ren (xn 13 18))))=([(0,some [(jK n),(jK 1),(vi (-1)),(.own 13 95 10 ((List.map jN (L)).length)),(vb false)]),(13,some (qB jC (List.map jN (L))))]:BS).map (fun e=>(xn 13 18 e.1,e.2)):=by
 subst h
 simp only[List.map_cons,List.map_nil,Option.map_some,qB,qH]
 rfl
theorem hB17(n:Nat)(L M:List JV)(h:L=M):([(0,some [(jK n),(jK 1),(vi (-1)),(.own 18 95 10 ((List.map jN (M)).length)),(vb false)]),(18,some (qB jC (List.map jN (M))))]:BS).map (fun e=>(e.1,e.2.map fun c=>c.map (SV.ren (xn 17 18))))=([(0,some [(jK n),(jK 1),(vi (-1)),(.own 17 95 10 ((List.map jN (L)).length)),(vb false)]),(17,some (qB jC (List.map jN (L))))]:BS).map (fun e=>(xn 17 18 e.1,e.2)):=by
 subst h
 simp only[List.map_cons,List.map_nil,Option.map_some,qB,qH]
 rfl
def StepAt(bv:List R2)(L:List JV)(x:qC):Prop:=vS Tryz.prog 126 [(.ref 0 0),(.d (kG x)),(vl 61 8 jD (List.map jP bv))] [(0,some [(jK bv.length),(jK 1),(vi (-1)),(.own 1 95 10 ((List.map jN (L)).length)),(vb false)]),(1,some (qB jC (List.map jN (L))))] (.d (.tup [])) [(0,some [(jK bv.length),(jK 1),(vi (-1)),(.own 18 95 10 ((List.map jN (L++[nJ bv L x])).length)),(vb false)]),(18,some (qB jC (List.map jN (L++[nJ bv L x]))))]
theorem e_step(x:qC)(bv:List R2)(hbx:∀ x∈bv,GL 1048576 x)(L:List JV)(hst:StepAt bv L x):vS Tryz.prog 126 [(.ref 0 0),(.d (kG x)),(vl 61 8 jD (List.map jP bv))] [(0,some [(jK bv.length),(jK 1),(vi (-1)),(.own 1 95 10 ((List.map jN (L)).length)),(vb false)]),(1,some (qB jC (List.map jN (L))))] (.d (.tup [])) [(0,some [(jK bv.length),(jK 1),(vi (-1)),(.own 18 95 10 ((List.map jN (L++[nJ bv L x])).length)),(vb false)]),(18,some (qB jC (List.map jN (L++[nJ bv L x]))))]:=hst
structure JRunP (bv:List R2) (t:List qC):Prop where
 run:JRun bv t
 st:∀ k,k<t.length→StepAt bv (jU bv t k) (t.getD k tz)
theorem runs_of{bv:List R2}{ts:List (List qC)}(h:∀ t∈ts,JRunP bv t):∀ t∈ts,JRun bv t:=fun t ht=>(h t ht).run
theorem j_chk(t:List qC)(ht:yI 1048576 t)(z:Int):jS Tryz.prog 73 [(.sl 83 7 (List.map kG t)),(.val (.int .i64 (z)))] (.val (.int .i64 ((((gQ z t):Nat):Int)))):=by
 refine jJ Tryz.func73 rfl cb73 rfl ?_
 show qM _ _ _ _ ⟨[(0,(vl 83 7 kG t)),(1,(vi z))],[]⟩
 refine jB<|kx [] [] (zM<|zZ) ?_
 refine jB<|kx [(6,(jK (gQ z t)))] [] (zM<|zM<|zE (kA (j_sizes t ht z))<|zM<|zE vI<|zE vI<|zM<|zM<|zZ) ?_
 refine jB<|kx [(4,(jK (gQ z t)))] [] (zM<|zM<|zZ) ?_
 refine jG ⟨_,(.tmp (d:=(.val (.int .i64 ((((gQ z t):Nat):Int))))) rfl .nil),?_⟩
 rfl
theorem j_jets(t:List qC)(ht:yI 1048576 t)(bv:List R2)(hbx:∀ x∈bv,GL 1048576 x)(hr:JRunP bv t):jS Tryz.prog 67 [(.sl 83 7 (List.map kG t)),(.sl 61 8 (List.map jD (List.map jP bv))),(.val (.int .i64 (((1:Nat):Int)))),(.val (.int .i64 (-1)))] (.tup [(jC (jN (xJ bv t))),(.val (.int .i64 (((0:Nat):Int))))]):=by
 have h0:=tm_0 hr.run.c0
 let y3:=(jO.mk kR kR)
 let y2:=(bx (jC (qK.mk y3 [] [])))
 let y1:=(bx (.agg [(.val (.int .i64 (((bv.length:Nat):Int)))),(.val (.int .i64 (((1:Nat):Int)))),(.val (.int .i64 (-1))),(.val (.slice none 0 0)),(.val (.bool (false)))]))
 refine jJ Tryz.func67 rfl cb67 rfl ?_
 show qM _ _ _ _ ⟨[(0,(vl 83 7 kG t)),(1,(vl 61 8 jD (List.map jP bv))),(2,(jK 1)),(3,(vi (-1)))],[]⟩
 refine jB<|kx [(8,(.ref 0 0))] [(0,some y2)] (zN (qW 0 vL zL)<|zM<|zZ) ?_
 refine jB<|jB<|kx [(16,(vl 61 8 jD (List.map jP bv))),(17,(jK bv.length)),(18,(jK 0))] [] (zM<|zE (oLn uW bv.length)<|zM<|zZ) ?_
 refine jI<|kM (α:=Nat) (fun i=>⟨[(0,(vl 83 7 kG t)),(1,(vl 61 8 jD (List.map jP bv))),(2,(jK 1)),(3,(vi (-1))),(8,(.ref 0 0)),(16,(vl 61 8 jD (List.map jP bv))),(17,(jK bv.length)),(18,(jK i))],[(0,some y2)]⟩) (fun i=>i≤bv.length) (fun i=>bv.length-i) 0 wk (Nat.zero_le _) ?_
 rintro i hi
 refine jB<|kx [(19,(vb (decide (((i:Nat):Int)<((bv.length:Nat):Int)))))] [] (zE xY<|zZ) ?_
 refine jB<|jH rfl (fun h1=>?_) (fun h1=>?_)
 ·replace h1:=vJ h1
  refine jF<|jB<|jI<|jB<|kx [(11,(.ref 1 0))] [(1,some (bx (jD (jP (bv.getD i z2)))))] (zE (oXm uW jP i z2)<|zE (gN jY)<|zN (qW 1 qL qR)<|zT (qF jY)<|zZ) ?_
  refine jB<|kx [(24,(vb false))] [] (zR (kP jY)<|zE (kA (by have h:=fZ (jP (bv.getD i z2)) (gV (⟨uA (jQ (kB (uT hbx (by decide) i).1) (by decide:1048576≤1048576)),uA (jQ (kB (uT hbx (by decide) i).2.1) (by decide:1048576≤1048576))⟩) (by decide));rw[show vA (jP (bv.getD i z2))=true from zI (uT hbx (by decide) i).2.2] at h;exact h))<|zE mT<|zZ) ?_
  refine kI ?_
  refine jF<|kx [(18,(jK (i+1)))] [] (zE (xE (i+1))<|zM<|zZ) ?_
  exact ⟨i+1,wk,(by omega),(by first|omega|(dsimp only;omega))⟩
 ·replace h1:=vM h1
  refine kL<|jB<|jB<|kx [(36,(vb false))] [] (zM<|zE (uR false xY)<|zM<|zM<|zE (uR false gD)<|zE gE<|zM<|zM<|zE (uR false gD)<|zE gE<|zZ) ?_
  refine kI ?_
  refine jF<|jB<|jB<|kx [(12,(jK (gQ ((bv.length:Nat):Int) t)))] [] (zM<|zM<|zE (oLn uW bv.length)<|zE (kA (j_chk t ht ((bv.length:Nat):Int)))<|zM<|zZ) ?_
  refine jB<|kx [(43,(vb false))] [] (zM<|zE (uR false cR (by exact bne_eq_false_iff_eq.2 (by rw[show (gQ ((bv.length:Nat):Int) t)=0 from hr.run.c0]<;>rfl)))<|zZ) ?_
  refine kI ?_
  refine jF<|jB<|kx [(13,(.ref 2 0))] [(2,some y1)] (zM<|zE (oLn uW bv.length)<|zM<|zM<|zE (cS pl161 ze161 zn161)<|zN (uY 2)<|zM<|zZ) ?_
  refine jB<|jB<|yG 2 3 3 95 10 (cs:=y1) (h:=?_)
  refine jV (wk (l:=[(0,(vl 83 7 kG t)),(1,(vl 61 8 jD (List.map jP bv))),(8,(.ref 0 0)),(13,(.ref 2 0))]) (b:=[(0,some y2),(2,some [(jK bv.length),(jK 1),(vi (-1)),(.own 3 95 10 0),(vb false)]),(3,some (qB jC []))])) ?_
  refine kx [(52,(vl 83 7 kG t)),(53,(jK t.length)),(54,(jK 0))] [] (zM<|zE (zD bD)<|zM<|zZ) ?_
  refine jI<|kM (α:=Nat) (fun k=>⟨[(1,(vl 61 8 jD (List.map jP bv))),(8,(.ref 0 0)),(13,(.ref 2 0)),(52,(vl 83 7 kG t)),(53,(jK t.length)),(54,(jK k))],[(0,some y2),(2,some [(jK bv.length),(jK 1),(vi (-1)),(.own 3 95 10 ((List.map jN (jU bv t k)).length)),(vb false)]),(3,some (qB jC (List.map jN (jU bv t k))))]⟩) (fun k=>k≤t.length) (fun k=>t.length-k) 0 wk (Nat.zero_le _) ?_
  rintro k hk
  have hju:=dH bv t k
  have hjm:(List.map jN (jU bv t k)).length=k:=by rw[List.length_map,hju]
  have hup:=hr.run.upto hk
  refine jB<|kx [(55,(vb (decide (((k:Nat):Int)<((t.length:Nat):Int)))))] [] (zE xY<|zZ) ?_
  refine jB<|jH rfl (fun h2=>?_) (fun h2=>?_)
  ·replace h2:=vJ h2
   refine jF<|jB<|jI<|jB<|kx [(15,(.ref 4 0))] [(4,some (bx (kG (t.getD k tz))))] (zE (nE bD k (tz:qC))<|zE (gN bL)<|zH (qW 4 ze83 zo83)<|zT (qF bL)<|zZ) ?_
   refine jB<|kf [] [(2,some [(jK bv.length),(jK 1),(vi (-1)),(.own 21 95 10 ((List.map jN ((jU bv t k)++[(nJ bv (jU bv t k) (t.getD k tz))])).length)),(vb false)]),(21,some (qB jC (List.map jN ((jU bv t k)++[(nJ bv (jU bv t k) (t.getD k tz))])))),(10,none),(11,none),(12,none),(13,none),(14,none),(15,none),(16,none),(17,none),(18,none),(19,none),(20,none),(3,none),(5,none),(6,none),(7,none),(8,none),(9,none)] (zM<|zR (kP bL)<|zM<|zS (B2:=[(2,some [(jK bv.length),(jK 1),(vi (-1)),(.own 3 95 10 ((List.map jN (jU bv t k)).length)),(vb false)]),(3,some (qB jC (List.map jN (jU bv t k))))]) (B2':=[(2,some [(jK bv.length),(jK 1),(vi (-1)),(.own 21 95 10 ((List.map jN ((jU bv t k)++[(nJ bv (jU bv t k) (t.getD k tz))])).length)),(vb false)]),(21,some (qB jC (List.map jN ((jU bv t k)++[(nJ bv (jU bv t k) (t.getD k tz))]))))]) (M:=1000000) [2,3,5,6,7,8,9,10,11,12,13,14,15,16,17,18,19,20,21] [2] (e_step (t.getD k tz) bv hbx (jU bv t k) (hr.st k (show k<t.length by omega))) (.cons (by exact rfl) (by kernel_rfl) (.cons (by exact rfl) (qH _ _) .nil)) (.cons (by exact rfl) (by kernel_rfl) (.cons (by exact rfl) (qH _ _) .nil)) (by repeat first | exact .nil | refine .hid rfl ?_ | refine .map rfl ?_ | refine .dat rfl ?_ | refine .none rfl ?_ | refine .cells rfl rfl ?_)<|zF) ?_
   refine jV (wk (l:=[(1,(vl 61 8 jD (List.map jP bv))),(8,(.ref 0 0)),(13,(.ref 2 0)),(52,(vl 83 7 kG t)),(53,(jK t.length)),(54,(jK k))]) (b:=[(0,some y2),(2,some [(jK bv.length),(jK 1),(vi (-1)),(.own 21 95 10 ((List.map jN ((jU bv t k)++[(nJ bv (jU bv t k) (t.getD k tz))])).length)),(vb false)]),(21,some (qB jC (List.map jN ((jU bv t k)++[(nJ bv (jU bv t k) (t.getD k tz))]))))])) ?_
   refine jV (nP (S':=[(1,(vl 61 8 jD (List.map jP bv))),(8,(.ref 0 0)),(13,(.ref 2 0)),(52,(vl 83 7 kG t)),(53,(jK t.length)),(54,(jK k))]) (B':=[(0,some y2),(2,some [(jK bv.length),(jK 1),(vi (-1)),(.own 3 95 10 ((List.map jN ((jU bv t k)++[(nJ bv (jU bv t k) (t.getD k tz))])).length)),(vb false)]),(3,some (qB jC (List.map jN ((jU bv t k)++[(nJ bv (jU bv t k) (t.getD k tz))]))))]) 3 21 2) ?_
   refine jB<|kx [(65,(vb false))] [] (zM<|zE mY<|zE (qA fo161_4)<|zR (qX bJ)<|zZ) ?_
   refine kI ?_
   refine jF<|kx [(54,(jK (k+1)))] [] (zE (xE (k+1))<|zM<|zZ) ?_
   exact ⟨k+1,wk,(by omega),(by first|omega|(dsimp only;omega))⟩
  ·replace h2:=vM h2
   refine kL<|jB<|kd [(9,(jK 0))] [(0,some (bx (jC ((List.map jN (jU bv t k)).getD ((List.map jN (jU bv t k)).length-1) (qK.mk y3 [] [])))))] mo (wM<|wE mY<|wE (qA vH)<|wR (qX yQ)<|wM<|wE mY<|wE (qA vH)<|wR (qX yQ)<|wE (oLo zG)<|wE (oSb ((List.map jN (jU bv t k)).length-1))<|wE (oXO zG ((List.map jN (jU bv t k)).length-1))<|wR (oLA vP ((List.map jN (jU bv t k)).length-1) (qK.mk y3 [] []))<|wT (qF vP)<|wM<|wZ) ?_
   refine jG ⟨_,(kJ (cs:=(bx (jC ((List.map jN (jU bv t k)).getD ((List.map jN (jU bv t k)).length-1) (qK.mk (jO.mk kR kR) [] []))))) (d:=(jC ((List.map jN (jU bv t k)).getD ((List.map jN (jU bv t k)).length-1) (qK.mk (jO.mk kR kR) [] [])))) rfl rfl vP rfl rfl (.tmp (d:=(.val (.int .i64 (((0:Nat):Int))))) rfl .nil)),?_⟩
   obtain rfl:k=t.length:=by omega
   rw[List.length_map,hju,gY jN _ jz _ (by omega)]
   unfold xJ;rfl
theorem cb13:callB Tryz.prog 13=true:=by kernel_rfl
theorem cb68:callB Tryz.prog 68=true:=by kernel_rfl
theorem cb71:callB Tryz.prog 71=true:=by kernel_rfl
theorem cb74:callB Tryz.prog 74=true:=by kernel_rfl
theorem p_pts(xs:List Rat)(hx:∀ q∈xs,QL q 1048576)(hxb:xs.length≤1000000):jS Tryz.prog 68 [(.sl 45 4 (List.map jL (List.map jM xs)))] (.sl 61 8 (List.map jD (List.map jP (List.map xV xs)))):=by
 refine jJ Tryz.func68 rfl cb68 rfl ?_
 show qM _ _ _ _ ⟨[(0,(vl 45 4 jL (List.map jM xs)))],[]⟩
 refine jB<|kx [] [] (zE (cP 61 8)<|zZ) ?_
 refine jB<|kx [(3,(.own 0 61 8 0))] [(0,some (qB jD []))] (zO 0 61 8<|zZ) ?_
 refine jB<|jB<|kx [(6,(vl 45 4 jL (List.map jM xs))),(7,(jK xs.length)),(8,(jK 0))] [] (zM<|zE (oLn vE xs.length)<|zM<|zZ) ?_
 refine jI<|kM (α:=Nat × List jO) (fun (i,o)=>⟨[(3,(.own 0 61 8 o.length)),(6,(vl 45 4 jL (List.map jM xs))),(7,(jK xs.length)),(8,(jK i))],[(0,some (qB jD o))]⟩) (fun (i,o)=>i≤xs.length∧o=(xs.take i).map (fun q=>jP (xV q))) (fun (i,o)=>xs.length-i) (0,[]) wk ⟨Nat.zero_le _,by simp⟩ ?_
 rintro ⟨i,o⟩ ⟨hi,ho⟩
 have hol:o.length=i:=by rw[ho,List.length_map,List.length_take];omega
 refine jB<|kx [(9,(vb (decide (((i:Nat):Int)<((xs.length:Nat):Int)))))] [] (zE xY<|zZ) ?_
 refine jB<|jH rfl (fun h1=>?_) (fun h1=>?_)
 ·replace h1:=vJ h1
  refine jF<|jB<|jI<|jB<|kx [(5,(.ref 1 0))] [(1,some (bx (jL (jM (xs.getD i 0)))))] (zE (oXm vE jM i 0)<|zE (gN jW)<|zH (qW 1 uH uN)<|zT (qF jW)<|zZ) ?_
  refine kf [(3,(.own 0 61 8 ((o++[(jO.mk (jM (xs.getD i 0)) (jM (xs.getD i 0)))]).length)))] [(0,some (qB jD (o++[(jO.mk (jM (xs.getD i 0)) (jM (xs.getD i 0)))])))] (zM<|zR (kP jW)<|zR (kP jW)<|zE (cS pl61 qL qR)<|zE (mC uW qL qR)<|zAS jD o [(jO.mk (jM (xs.getD i 0)) (jM (xs.getD i 0)))] rfl uW qL by61<|zM<|zF) ?_
  refine kx [(8,(jK (i+1)))] [] (zE (xE (i+1))<|zM<|zZ) ?_
  exact ⟨(i+1,o++[jP (xV (xs.getD i 0))]),wk,⟨by omega,by rw[ho];exact eA (f:=fun q=>jP (xV q)) (by omega)⟩,(by first|omega|(dsimp only;omega))⟩
 ·replace h1:=vM h1
  refine kL<|jB<|kx [(2,(.own 0 61 8 o.length))] [] (zM<|zM<|zZ) ?_
  refine jV (xA (t:=2) (k:=0) (es:=List.map jD o) rfl rfl (vD _ _ (fun _=>rfl)) (qY _ _ rfl) (xB jD o (fun _=>rfl) rfl)) ?_
  refine jG ⟨_,(.tmp (d:=(.sl 61 8 (List.map jD o))) rfl .nil),?_⟩
  rw[ho,show i=xs.length by omega,List.take_length,show List.map (fun q=>jP (xV q)) xs=List.map jP (List.map xV xs) from (by rw[List.map_map];rfl)];rfl
theorem p_val(bv:List R2)(hbx:∀ x∈bv,GL 1048576 x)(hbl:bv.length≤1000000):jS Tryz.prog 71 [(.sl 61 8 (List.map jD (List.map jP bv)))] (.val (.bool (true))):=by
 refine jJ Tryz.func71 rfl cb71 rfl ?_
 show qM _ _ _ _ ⟨[(0,(vl 61 8 jD (List.map jP bv)))],[]⟩
 refine jB<|kx [] [] (zM<|zZ) ?_
 refine jB<|jB<|kx [(5,(vl 61 8 jD (List.map jP bv))),(6,(jK bv.length)),(7,(jK 0))] [] (zM<|zE (oLn uW bv.length)<|zM<|zZ) ?_
 refine jI<|kM (α:=Nat) (fun i=>⟨[(5,(vl 61 8 jD (List.map jP bv))),(6,(jK bv.length)),(7,(jK i))],[]⟩) (fun i=>i≤bv.length) (fun i=>bv.length-i) 0 wk (Nat.zero_le _) ?_
 rintro i hi
 refine jB<|kx [(8,(vb (decide (((i:Nat):Int)<((bv.length:Nat):Int)))))] [] (zE xY<|zZ) ?_
 refine jB<|jH rfl (fun h1=>?_) (fun h1=>?_)
 ·replace h1:=vJ h1
  refine jF<|jB<|jI<|jB<|kx [(4,(.ref 0 0))] [(0,some (bx (jD (jP (bv.getD i z2)))))] (zE (oXm uW jP i z2)<|zE (gN jY)<|zN (qW 0 qL qR)<|zT (qF jY)<|zZ) ?_
  refine jB<|kx [(13,(vb false))] [] (zR (kP jY)<|zE (kA (by have h:=fZ (jP (bv.getD i z2)) (gV (⟨uA (jQ (kB (uT hbx (by decide) i).1) (by decide:1048576≤1048576)),uA (jQ (kB (uT hbx (by decide) i).2.1) (by decide:1048576≤1048576))⟩) (by decide));rw[show vA (jP (bv.getD i z2))=true from zI (uT hbx (by decide) i).2.2] at h;exact h))<|zE mT<|zZ) ?_
  refine kI ?_
  refine jF<|kx [(7,(jK (i+1)))] [] (zE (xE (i+1))<|zM<|zZ) ?_
  exact ⟨i+1,wk,(by omega),(by first|omega|(dsimp only;omega))⟩
 ·replace h1:=vM h1
  refine kL<|jB<|kx [(2,(vb true))] [] (zM<|zZ) ?_
  refine jG ⟨_,(.tmp (d:=(.val (.bool (true)))) rfl .nil),?_⟩
  rfl
theorem p_fit(m:List (List kF))(hm:mO 1048576 m)(n:Nat)(hr:eO m m.length (m.getD 0 []).length):jS Tryz.prog 74 [(.sl 24 1 (List.map kC m)),(.val (.int .i64 (((n:Nat):Int))))] (.val (.int .i64 ((((fitC m n):Nat):Int)))):=by
 have hmb:=hr.r64
 have hm1:=hr.r1
 have hm0:=hr.c64
 let y1:=kR
 refine jJ Tryz.func74 rfl cb74 rfl ?_
 show qM _ _ _ _ ⟨[(0,(vl 24 1 kC m)),(1,(jK n))],[]⟩
 refine jB<|kx [] [] (zM<|zZ) ?_
 refine jB<|jB<|kx [(18,(vb ((((m.length:Nat):Int) != ((n:Nat):Int))||((((m.getD 0 []).length:Nat):Int) != ((n:Nat):Int)))))] [] ?_ ?_
 ·refine zM<|zE (zD eY)<|zM<|zE cR<|zE (oV (vb (((m.length:Nat):Int) != ((n:Nat):Int))) (qQ (by kernel_rfl)))<|?_
  rcases hb1:(((m.length:Nat):Int) != ((n:Nat):Int)) with _ | _
  ·replace hb1:=bne_eq_false_iff_eq.1 hb1
   exact zM<|zE (nE eY 0 ([]:List (kF)))<|zE (nC sh24)<|zE (zD vE (L:=(m.getD 0 [])))<|zM<|zE cR<|zE fU<|zZ
  ·replace hb1:=bne_iff_ne.1 hb1
   exact zK<|zK<|zK<|zK<|zK<|zK<|zE nY<|zZ
 refine jH rfl (fun h2=>?_) (fun h2=>?_)
 ·refine jB<|kx [(4,(jK 4))] [] (zM<|zZ) ?_
  refine jG ⟨_,(.tmp (d:=(.val (.int .i64 (4)))) rfl .nil),?_⟩
  rw[fit_1 h2];rfl
 ·have hs:=fit_0 h2
  refine jF<|jB<|jB<|kx [(20,(jK m.length)),(21,(jK 0))] [] (zM<|zE (zD eY)<|zM<|zZ) ?_
  refine jI<|kM (α:=Nat) (fun i=>⟨[(0,(vl 24 1 kC m)),(20,(jK m.length)),(21,(jK i))],[]⟩) (fun i=>i≤m.length∧symI m i) (fun i=>m.length-i) 0 wk ⟨Nat.zero_le _,symI_0 m⟩ ?_
  rintro i ⟨hi,hsy⟩
  refine jB<|kx [(22,(vb (decide (((i:Nat):Int)<((m.length:Nat):Int)))))] [] (zE xY<|zZ) ?_
  refine jB<|jH rfl (fun h3=>?_) (fun h3=>?_)
  ·replace h3:=vJ h3
   have hri:=(hr.at (show i<m.length by omega)).1
   refine jF<|jB<|jI<|jB<|kx [(5,(jK i))] [] (zM<|zM<|zZ) ?_
   refine jB<|kx [(24,(jK i)),(25,(jK 0))] [] (zM<|zM<|zZ) ?_
   refine jI<|kM (α:=Nat) (fun j=>⟨[(0,(vl 24 1 kC m)),(5,(jK i)),(20,(jK m.length)),(21,(jK i)),(24,(jK i)),(25,(jK j))],[]⟩) (fun j=>j≤i∧∀ b,b<j→eqM m i b=true) (fun j=>i-j) 0 wk ⟨Nat.zero_le _,fun b hb=>by omega⟩ ?_
   rintro j ⟨hj,he⟩
   refine jB<|kx [(26,(vb (decide (((j:Nat):Int)<((i:Nat):Int)))))] [] (zE xY<|zZ) ?_
   refine jB<|jH rfl (fun h4=>?_) (fun h4=>?_)
   ·replace h4:=vJ h4
    have hrj:=(hr.at (show j<m.length by omega)).1
    refine jF<|jB<|jI<|jB<|kx [(6,(jK j))] [] (zM<|zM<|zZ) ?_
    refine jB<|kd [(43,(vb ((yE (qN ((m.getD i []).getD j y1)) (qN ((m.getD j []).getD i y1))) != 0)))] [] mo (wM<|wM<|wE (nE eY i ([]:List (kF)))<|wE (nC sh24)<|wM<|wE (nE vE j y1 (L:=(m.getD i [])))<|wE (gN jW)<|wM<|wM<|wE (nE eY j ([]:List (kF)))<|wE (nC sh24)<|wM<|wE (nE vE i y1 (L:=(m.getD j [])))<|wE (gN jW)<|wE (kA (cL ((m.getD i []).getD j y1) ((m.getD j []).getD i y1) (qN ((m.getD i []).getD j y1)) (qN ((m.getD j []).getD i y1)) (jQ (xZ (yK (d:=[]) hm (show i<m.length by omega)).1 (show j<(m.getD i []).length by omega)) (by decide)) (jQ (xZ (yK (d:=[]) hm (show j<m.length by omega)).1 (show i<(m.getD j []).length by omega)) (by decide))))<|wE cR<|wZ) ?_
    refine jH rfl (fun h5=>?_) (fun h5=>?_)
    ·replace h5:=bne_iff_ne.1 h5
     refine jB<|kx [(4,(jK 11))] [] (zM<|zZ) ?_
     refine jG ⟨_,(.tmp (d:=(.val (.int .i64 (11)))) rfl .nil),?_⟩
     rw[fit_11 hs (sym_no (i:=i) (j:=j) (by omega) (by omega) (eqm_f h5))];rfl
    ·replace h5:=bne_eq_false_iff_eq.1 h5
     refine jF<|kx [(25,(jK (j+1)))] [] (zE (xE (j+1))<|zM<|zZ) ?_
     exact ⟨j+1,wk,⟨by omega,eqm_s he h5⟩,(by first|omega|(dsimp only;omega))⟩
   ·replace h4:=vM h4
    have hsy2:=symI_s hsy (fun b hb=>he b (by omega))
    refine kL<|kx [(21,(jK (i+1)))] [] (zE (xE (i+1))<|zM<|zZ) ?_
    exact ⟨i+1,wk,⟨by omega,hsy2⟩,(by first|omega|(dsimp only;omega))⟩
  ·replace h3:=vM h3
   refine kL<|jB<|kx [(4,(jK 0))] [] (zM<|zZ) ?_
   refine jG ⟨_,(.tmp (d:=(.val (.int .i64 (0)))) rfl .nil),?_⟩
   obtain rfl:i=m.length:=by omega
   rw[fit_ok hs (sym_yes hsy)];rfl
theorem p_grd(t:List qC)(ht:yI 1048576 t)(xs:List Rat)(hx:∀ q∈xs,QL q 1048576)(hr:JRunP (List.map xV xs) t)(hxb:xs.length≤1000000):jS Tryz.prog 13 [(.sl 83 7 (List.map kG t)),(.sl 45 4 (List.map jL (List.map jM xs)))] (.tup [(.sl 45 4 (List.map jL (gU xs t))),(.val (.int .i64 (((0:Nat):Int))))]):=by
 have hgl:(xJ (List.map xV xs) t).g.length=xs.length:=by rw[hr.run.last.2.2,List.length_map]
 refine jJ Tryz.func13 rfl cb13 rfl ?_
 show qM _ _ _ _ ⟨[(0,(vl 83 7 kG t)),(1,(vl 45 4 jL (List.map jM xs)))],[]⟩
 refine jB<|kx [] [] (zE (cP 45 4)<|zM<|zZ) ?_
 refine jB<|kx [(6,(.ref 0 0)),(7,(jK 0))] [(0,some (bx (jC (jN (xJ (List.map xV xs) t)))))] (zM<|zM<|zE (kA (p_pts xs hx hxb))<|zE (kA (j_jets t ht (List.map xV xs) (pts_gl hx) hr))<|zM<|zE vI<|zE vI<|zN (qW 0 vL zL)<|zT (qF vP)<|zM<|zZ) ?_
 refine jB<|jB<|kx [(19,(vb false))] [] (zM<|zE (uR false cR)<|zZ) ?_
 refine kI ?_
 refine jF<|jB<|kx [(8,(.own 1 45 4 0))] [(1,some (qB jL []))] (zO 1 45 4<|zZ) ?_
 refine jB<|jB<|kx [(22,(vl 61 8 jD (List.map jP ((xJ (List.map xV xs) t).g)))),(23,(jK (((xJ (List.map xV xs) t).g).length))),(24,(jK 0))] [] (zE (qA uX)<|zR (aT (.sl 61 8 (List.map jD (List.map jP ((xJ (List.map xV xs) t).g)))) (.sl 61 8 (List.map jD (List.map jP ((xJ (List.map xV xs) t).g)))) (qX gS) (by exact rfl))<|zE (oLn uW (((xJ (List.map xV xs) t).g).length))<|zM<|zZ) ?_
 refine jI<|kM (α:=Nat × List kF) (fun (i,o)=>⟨[(8,(.own 1 45 4 o.length)),(22,(vl 61 8 jD (List.map jP ((xJ (List.map xV xs) t).g)))),(23,(jK (((xJ (List.map xV xs) t).g).length))),(24,(jK i))],[(1,some (qB jL o))]⟩) (fun (i,o)=>i≤(xJ (List.map xV xs) t).g.length∧o=((xJ (List.map xV xs) t).g.take i).map (fun y=>jM y.1)) (fun (i,o)=>(xJ (List.map xV xs) t).g.length-i) (0,[]) wk ⟨Nat.zero_le _,by simp⟩ ?_
 rintro ⟨i,o⟩ ⟨hi,ho⟩
 have hol:o.length=i:=by rw[ho,List.length_map,List.length_take];omega
 refine jB<|kx [(25,(vb (decide (((i:Nat):Int)<((((xJ (List.map xV xs) t).g).length:Nat):Int)))))] [] (zE xY<|zZ) ?_
 refine jB<|jH rfl (fun h1=>?_) (fun h1=>?_)
 ·replace h1:=vJ h1
  refine jF<|jB<|jI<|jB<|kx [(10,(.ref 2 0))] [(2,some (bx (jD (jP (((xJ (List.map xV xs) t).g).getD i z2)))))] (zE (oXm uW jP i z2)<|zE (gN jY)<|zH (qW 2 qL qR)<|zT (qF jY)<|zZ) ?_
  refine kf [(8,(.own 1 45 4 ((o++[(jM ((((xJ (List.map xV xs) t).g).getD i z2).1))]).length)))] [(1,some (qB jL (o++[(jM ((((xJ (List.map xV xs) t).g).getD i z2).1))])))] (zM<|zE (qA vT)<|zR (kP jW)<|zE (mC vE uH uN)<|zAS jL o [(jM ((((xJ (List.map xV xs) t).g).getD i z2).1))] rfl vE uH by45<|zM<|zF) ?_
  refine kx [(24,(jK (i+1)))] [] (zE (xE (i+1))<|zM<|zZ) ?_
  exact ⟨(i+1,o++[jM ((xJ (List.map xV xs) t).g.getD i z2).1]),wk,⟨by omega,by rw[ho];exact gr_step (by omega)⟩,(by first|omega|(dsimp only;omega))⟩
 ·replace h1:=vM h1
  refine kL<|jB<|kx [(4,(.own 1 45 4 o.length)),(5,(jK 0))] [] (zM<|zM<|zM<|zZ) ?_
  refine jV (xA (t:=4) (k:=1) (es:=List.map jL o) rfl rfl (vD _ _ (fun _=>rfl)) (qY _ _ rfl) (xB jL o (fun _=>rfl) rfl)) ?_
  refine jG ⟨_,(.tmp (d:=(.sl 45 4 (List.map jL o))) rfl (.tmp (d:=(.val (.int .i64 (((0:Nat):Int))))) rfl .nil)),?_⟩
  rw[ho,show i=(xJ (List.map xV xs) t).g.length by omega,List.take_length];rfl
theorem by24:gM Tryz.prog 24=some 24:=by kernel_rfl
theorem cb18:callB Tryz.prog 18=true:=by kernel_rfl
theorem cb22:callB Tryz.prog 22=true:=by kernel_rfl
theorem el32:xC Tryz.prog 32=some (23,1):=by kernel_rfl
theorem el33:xC Tryz.prog 33=some (24,1):=by kernel_rfl
theorem sh23:uF Tryz.prog 23=some (false,1):=by kernel_rfl
theorem ze23:yM Tryz.prog 23=some [.slice none 0 0]:=by kernel_rfl
theorem ze24:yM Tryz.prog 24=some [.slice none 0 0]:=by kernel_rfl
theorem zo23:aR [.slice none 0 0] [.sl 83 7 []]:=by simp [aR,Value.oneCell']
theorem zo24:aR [.slice none 0 0] [.sl 45 4 []]:=by simp [aR,Value.oneCell']
theorem p_tab(ts:List (List qC))(hts:∀ t∈ts,yI 1048576 t)(xs:List Rat)(hx:∀ q∈xs,QL q 1048576)(q:List (List kF))(hq:mO 1048576 q)(hjs:∀ t∈ts,JRunP (List.map xV xs) t)(hr:eO q q.length xs.length)(hf:fitC q xs.length=0)(hxq:xs.length=q.length)(h1:1≤ts.length)(h64:ts.length≤64):jS Tryz.prog 18 [(.sl 23 1 (List.map dW ts)),(.sl 45 4 (List.map jL (List.map jM xs))),(.sl 24 1 (List.map kC q))] (.tup [(.sl 24 1 (List.map kC (tabR q (List.map (gU xs) ts)))),(.val (.int .i64 (((0:Nat):Int))))]):=by
 have hx64:xs.length≤64:=hr.c64
 have hqm:=hr.r64
 have hgo:=grs_ok (runs_of hjs) h64
 have hgl:(List.map (gU xs) ts).length=ts.length:=List.length_map _
 have hc0:=rect_chk hr
 have hr0:=rect_0 hr
 have hxn:((List.map jM xs).length)=xs.length:=List.length_map _
 have hgx:(List.map xV xs).length=xs.length:=List.length_map _
 refine jJ Tryz.func18 rfl cb18 rfl ?_
 show qM _ _ _ _ ⟨[(0,(vl 23 1 dW ts)),(1,(vl 45 4 jL (List.map jM xs))),(2,(vl 24 1 kC q))],[]⟩
 refine jB<|kx [] [] (zE (cP 24 1)<|zM<|zZ) ?_
 refine jB<|jB<|kx [(31,(vb false))] [] (zM<|zE (kA (p_pts xs hx (by omega)))<|zE (kA (p_val (List.map xV xs) (pts_gl hx) (by omega)))<|zE mT<|zM<|zM<|zE (kA (m_chk q hq))<|zE (uR false cR (by exact bne_eq_false_iff_eq.2 (by rw[show (mchk q)=0 from hc0]<;>rfl)))<|zE gE<|zZ) ?_
 refine kI ?_
 refine jF<|jB<|jB<|kx [(34,(vb (((ts.length:Nat):Int) == ((0:Nat):Int))))] [] (zM<|zE (zD el32)<|zE xR<|zZ) ?_
 refine jH rfl (fun h1=>?_) (fun h1=>?_)
 ·replace h1:=eq_of_beq h1
  exfalso;omega
 ·replace h1:=ne_of_beq_false h1
  refine jF<|jB<|jB<|kx [(37,(vb (decide (((64:Nat):Int)<((ts.length:Nat):Int)))))] [] (zM<|zE (zD el32)<|zE gD<|zZ) ?_
  refine jH rfl (fun h2=>?_) (fun h2=>?_)
  ·replace h2:=vJ h2
   exfalso;omega
  ·replace h2:=vM h2
   refine jF<|jB<|jB<|kx [(38,(vl 23 1 dW ts)),(39,(jK ts.length)),(40,(jK 0))] [] (zM<|zE (zD el32)<|zM<|zZ) ?_
   refine jI<|kM (α:=Nat) (fun i=>⟨[(0,(vl 23 1 dW ts)),(1,(vl 45 4 jL (List.map jM xs))),(2,(vl 24 1 kC q)),(38,(vl 23 1 dW ts)),(39,(jK ts.length)),(40,(jK i))],[]⟩) (fun i=>i≤ts.length) (fun i=>ts.length-i) 0 wk (Nat.zero_le _) ?_
   rintro i hi
   refine jB<|kx [(41,(vb (decide (((i:Nat):Int)<((ts.length:Nat):Int)))))] [] (zE xY<|zZ) ?_
   refine jB<|jH rfl (fun h3=>?_) (fun h3=>?_)
   ·replace h3:=vJ h3
    refine jF<|jB<|jI<|jB<|kx [(9,(vl 83 7 kG (ts.getD i [])))] [] (zE (nE el32 i ([]:List (qC)))<|zE (nC sh23)<|zM<|zZ) ?_
    refine jB<|kx [(10,(jK (gQ ((xs.length:Nat):Int) (ts.getD i []))))] [] (zM<|zM<|zE (oLn vE xs.length)<|zE (kA (j_chk (ts.getD i []) (tms_at hts i) ((xs.length:Nat):Int)))<|zM<|zZ) ?_
    refine jB<|kx [(49,(vb false))] [] (zM<|zE (uR false cR (by exact bne_eq_false_iff_eq.2 (by rw[show (gQ ((xs.length:Nat):Int) (ts.getD i []))=0 from (tms_c0 (runs_of hjs) (show i<ts.length by omega))]<;>rfl)))<|zZ) ?_
    refine kI ?_
    refine jF<|kx [(40,(jK (i+1)))] [] (zE (xE (i+1))<|zM<|zZ) ?_
    exact ⟨i+1,wk,(by omega),(by first|omega|(dsimp only;omega))⟩
   ·replace h3:=vM h3
    refine kL<|jB<|jB<|kx [(11,(jK (fitC q xs.length)))] [] (zM<|zM<|zE (oLn vE xs.length)<|zE (kA (p_fit q hq xs.length hr0))<|zM<|zZ) ?_
    refine jB<|kx [(57,(vb false))] [] (zM<|zE (uR false cR (by exact bne_eq_false_iff_eq.2 (by rw[show (fitC q xs.length)=0 from hf]<;>rfl)))<|zZ) ?_
    refine kI ?_
    refine jF<|jB<|kx [(12,(.own 0 24 1 0))] [(0,some (bm kC []))] (zO 0 24 1<|zZ) ?_
    refine jB<|jB<|kx [(59,(vl 23 1 dW ts)),(60,(jK ts.length)),(61,(jK 0))] [] (zM<|zE (zD el32)<|zM<|zZ) ?_
    refine jI<|kM (α:=Nat × List (List kF)) (fun (i,o)=>⟨[(1,(vl 45 4 jL (List.map jM xs))),(2,(vl 24 1 kC q)),(12,(.own 0 24 1 o.length)),(59,(vl 23 1 dW ts)),(60,(jK ts.length)),(61,(jK i))],[(0,some (bm kC o))]⟩) (fun (i,o)=>i≤ts.length∧o=(ts.take i).map (gU xs)) (fun (i,o)=>ts.length-i) (0,[]) wk ⟨Nat.zero_le _,by simp⟩ ?_
    rintro ⟨i,o⟩ ⟨hi,ho⟩
    have hol:o.length=i:=by rw[ho,List.length_map,List.length_take];omega
    refine jB<|kx [(62,(vb (decide (((i:Nat):Int)<((ts.length:Nat):Int)))))] [] (zE xY<|zZ) ?_
    refine jB<|jH rfl (fun h4=>?_) (fun h4=>?_)
    ·replace h4:=vJ h4
     refine jF<|jB<|jI<|jB<|kx [(14,(vl 83 7 kG (ts.getD i [])))] [] (zE (nE el32 i ([]:List (qC)))<|zE (nC sh23)<|zM<|zZ) ?_
     refine jB<|kx [(15,(vl 45 4 jL (gU xs (ts.getD i [])))),(16,(jK 0))] [] (zM<|zM<|zE (kA (p_grd (ts.getD i []) (tms_at hts i) xs hx (mem_at hjs (show i<ts.length by omega)) (by omega)))<|zM<|zE vI<|zE vI<|zM<|zM<|zZ) ?_
     refine jB<|jB<|kx [(72,(vb false))] [] (zM<|zE (uR false cR)<|zZ) ?_
     refine kI ?_
     refine jF<|kf [(12,(.own 0 24 1 ((o++[(gU xs (ts.getD i []))]).length)))] [(0,some (bm kC (o++[(gU xs (ts.getD i []))])))] (zM<|zM<|zE (mC el33 ze24 zo24)<|zA kC o [(gU xs (ts.getD i []))] rfl el33 ze24 by24<|zM<|zF) ?_
     refine kx [(61,(jK (i+1)))] [] (zE (xE (i+1))<|zM<|zZ) ?_
     exact ⟨(i+1,o++[gU xs (ts.getD i [])]),wk,⟨by omega,by rw[ho];exact eA (by omega)⟩,(by first|omega|(dsimp only;omega))⟩
    ·replace h4:=vM h4
     have hgs:o=(List.map (gU xs) ts):=by rw[ho,show i=ts.length by omega,List.take_length]
     refine kL<|jB<|kx [(17,(.own 1 24 1 0))] [(1,some (bm kC []))] (zOh 1 24 1<|zZ) ?_
     refine jB<|jB<|jV (xA (t:=12) (k:=0) (es:=List.map kC o) rfl rfl (uI _ _ (fun _=>rfl)) (qY _ _ rfl) (uU _ _ (fun _=>rfl) rfl)) ?_
     refine kx [(79,(vl 24 1 kC (List.map (gU xs) ts))),(80,(jK ((List.map (gU xs) ts).length))),(81,(jK 0))] [] (zE (oQd (.sl 24 1 (List.map kC o)) (.sl 24 1 (List.map kC (List.map (gU xs) ts))) (oV (vl 24 1 kC o) (qQ (by kernel_rfl))) (by exact (by rw[hgs])))<|zE (zD el33 (L:=(List.map (gU xs) ts)))<|zM<|zZ) ?_
     refine jI<|kM (α:=Nat × List (List kF)) (fun (i,u)=>⟨[(2,(vl 24 1 kC q)),(12,(vl 24 1 kC o)),(17,(.own 1 24 1 u.length)),(79,(vl 24 1 kC (List.map (gU xs) ts))),(80,(jK ((List.map (gU xs) ts).length))),(81,(jK i))],[(1,some (bm kC u))]⟩) (fun (i,u)=>i≤(List.map (gU xs) ts).length∧u=((List.map (gU xs) ts).take i).map (fun a=>(List.map (gU xs) ts).map fun b=>jM (covR q a b))) (fun (i,u)=>(List.map (gU xs) ts).length-i) (0,[]) wk ⟨Nat.zero_le _,by simp⟩ ?_
     rintro ⟨i,u⟩ ⟨hi2,hu⟩
     have hul:u.length=i:=by rw[hu,List.length_map,List.length_take];omega
     refine jB<|kx [(82,(vb (decide (((i:Nat):Int)<(((List.map (gU xs) ts).length:Nat):Int)))))] [] (zE xY<|zZ) ?_
     refine jB<|jH rfl (fun h5=>?_) (fun h5=>?_)
     ·replace h5:=vJ h5
      obtain ⟨hli0,hvi⟩:=grs_at (runs_of hjs) (show i<(List.map (gU xs) ts).length by omega)
      have hli:=hli0.trans hxq
      refine jF<|jB<|jI<|jB<|kx [(19,(vl 45 4 jL ((List.map (gU xs) ts).getD i [])))] [] (zE (nE el33 i ([]:List (kF)) (L:=(List.map (gU xs) ts)))<|zE (nC sh24)<|zM<|zZ) ?_
      refine jB<|kx [(20,(.own 2 45 4 0))] [(2,some (qB jL []))] (zOh 2 45 4<|zZ) ?_
      refine jB<|jB<|kx [(85,(vl 24 1 kC (List.map (gU xs) ts))),(86,(jK ((List.map (gU xs) ts).length))),(87,(jK 0))] [] (zE (oQd (.sl 24 1 (List.map kC o)) (.sl 24 1 (List.map kC (List.map (gU xs) ts))) (oV (vl 24 1 kC o) (qQ (by kernel_rfl))) (by exact (by rw[hgs])))<|zE (zD el33 (L:=(List.map (gU xs) ts)))<|zM<|zZ) ?_
      refine jI<|kM (α:=Nat × List kF) (fun (j,v)=>⟨[(2,(vl 24 1 kC q)),(12,(vl 24 1 kC o)),(17,(.own 1 24 1 u.length)),(19,(vl 45 4 jL ((List.map (gU xs) ts).getD i []))),(20,(.own 2 45 4 v.length)),(79,(vl 24 1 kC (List.map (gU xs) ts))),(80,(jK ((List.map (gU xs) ts).length))),(81,(jK i)),(85,(vl 24 1 kC (List.map (gU xs) ts))),(86,(jK ((List.map (gU xs) ts).length))),(87,(jK j))],[(1,some (bm kC u)),(2,some (qB jL v))]⟩) (fun (j,v)=>j≤(List.map (gU xs) ts).length∧v=((List.map (gU xs) ts).take j).map (fun b=>jM (covR q ((List.map (gU xs) ts).getD i []) b))) (fun (j,v)=>(List.map (gU xs) ts).length-j) (0,[]) wk ⟨Nat.zero_le _,by simp⟩ ?_
      rintro ⟨j,v⟩ ⟨hj2,hv⟩
      have hvl:v.length=j:=by rw[hv,List.length_map,List.length_take];omega
      refine jB<|kx [(88,(vb (decide (((j:Nat):Int)<(((List.map (gU xs) ts).length:Nat):Int)))))] [] (zE xY<|zZ) ?_
      refine jB<|jH rfl (fun h6=>?_) (fun h6=>?_)
      ·replace h6:=vJ h6
       obtain ⟨hlj0,hvj⟩:=grs_at (runs_of hjs) (show j<(List.map (gU xs) ts).length by omega)
       have hlj:=hlj0.trans hxq
       have hrj:eO q q.length ((List.map (gU xs) ts).getD j []).length:=by rw[hlj0];exact hr
       refine jF<|jB<|jI<|jB<|kx [(22,(vl 45 4 jL ((List.map (gU xs) ts).getD j [])))] [] (zE (nE el33 j ([]:List (kF)) (L:=(List.map (gU xs) ts)))<|zE (nC sh24)<|zM<|zZ) ?_
       refine kf [(20,(.own 2 45 4 ((v++[(jM (covR q ((List.map (gU xs) ts).getD i []) ((List.map (gU xs) ts).getD j [])))]).length)))] [(2,some (qB jL (v++[(jM (covR q ((List.map (gU xs) ts).getD i []) ((List.map (gU xs) ts).getD j [])))])))] (zM<|zM<|zM<|zM<|zE (kA (m_cov q hq ((List.map (gU xs) ts).getD i []) (yK (d:=[]) hgo (show i<(List.map (gU xs) ts).length by omega)) ((List.map (gU xs) ts).getD j []) (yK (d:=[]) hgo (show j<(List.map (gU xs) ts).length by omega)) hrj hvj hli hlj))<|zE (mC vE uH uN)<|zAS jL v [(jM (covR q ((List.map (gU xs) ts).getD i []) ((List.map (gU xs) ts).getD j [])))] rfl vE uH by45<|zM<|zF) ?_
       refine kx [(87,(jK (j+1)))] [] (zE (xE (j+1))<|zM<|zZ) ?_
       exact ⟨(j+1,v++[jM (covR q ((List.map (gU xs) ts).getD i []) ((List.map (gU xs) ts).getD j []))]),wk,⟨by omega,by rw[hv];exact eA (f:=fun b=>jM (covR q ((List.map (gU xs) ts).getD i []) b)) (by omega)⟩,(by first|omega|(dsimp only;omega))⟩
      ·replace h6:=vM h6
       refine kL<|jV (xA (t:=20) (k:=2) (es:=List.map jL v) rfl rfl (vD _ _ (fun _=>rfl)) (qY _ _ rfl) (xB jL v (fun _=>rfl) rfl)) ?_
       refine kf [(17,(.own 1 24 1 ((u++[v]).length)))] [(1,some (bm kC (u++[v])))] (zM<|zM<|zE (mC eY ze24 zo24)<|zA kC u [v] rfl eY ze24 by24<|zM<|zF) ?_
       refine kx [(81,(jK (i+1)))] [] (zE (xE (i+1))<|zM<|zZ) ?_
       exact ⟨(i+1,u++[v]),wk,⟨by omega,by rw[hu,hv,show j=(List.map (gU xs) ts).length by omega,List.take_length];exact eA (f:=fun a=>(List.map (gU xs) ts).map fun b=>jM (covR q a b)) (by omega)⟩,(by first|omega|(dsimp only;omega))⟩
     ·replace h5:=vM h5
      refine kL<|jB<|kx [(6,(.own 1 24 1 u.length)),(7,(jK 0))] [] (zM<|zM<|zM<|zZ) ?_
      refine jV (xA (t:=6) (k:=1) (es:=List.map kC u) rfl rfl (uI _ _ (fun _=>rfl)) (qY _ _ rfl) (uU _ _ (fun _=>rfl) rfl)) ?_
      refine jG ⟨_,(.tmp (d:=(.sl 24 1 (List.map kC u))) rfl (.tmp (d:=(.val (.int .i64 (((0:Nat):Int))))) rfl .nil)),?_⟩
      rw[hu,show i=(List.map (gU xs) ts).length by omega,List.take_length];rfl
theorem p_var(t:List qC)(ht:yI 1048576 t)(xs:List Rat)(hx:∀ q∈xs,QL q 1048576)(q:List (List kF))(hq:mO 1048576 q)(hj:JRunP (List.map xV xs) t)(hr:eO q q.length xs.length)(hf:fitC q xs.length=0)(hxq:xs.length=q.length):jS Tryz.prog 22 [(.sl 83 7 (List.map kG t)),(.sl 45 4 (List.map jL (List.map jM xs))),(.sl 24 1 (List.map kC q))] (.tup [(jL (jM (covR q (gU xs t) (gU xs t)))),(.val (.int .i64 (((0:Nat):Int))))]):=by
 have hx64:xs.length≤64:=hr.c64
 have hjs:∀ u∈[t],JRunP (List.map xV xs) u:=one_of hj
 have ht1:(tabR q (List.map (gU xs) [t])).length=1:=rfl
 have ht2:((tabR q (List.map (gU xs) [t])).getD 0 []).length=1:=rfl
 refine jJ Tryz.func22 rfl cb22 rfl ?_
 show qM _ _ _ _ ⟨[(0,(vl 83 7 kG t)),(1,(vl 45 4 jL (List.map jM xs))),(2,(vl 24 1 kC q))],[]⟩
 refine jB<|kx [(6,(.ref 0 0))] [(0,some (bx (jL kR)))] (zN (qW 0 uH uN)<|zM<|zZ) ?_
 refine jB<|kx [(8,(vl 24 1 kC (tabR q (List.map (gU xs) [t])))),(9,(jK 0))] [] (zM<|zE (mC el32 ze23 zo23)<|zM<|zM<|zE (kA (p_tab [t] (tms_one ht) xs hx q hq hjs hr hf hxq (Nat.le_refl 1) (xlb rfl)))<|zM<|zE vI<|zE vI<|zM<|zM<|zZ) ?_
 refine jB<|jB<|kx [(19,(vb false))] [] (zM<|zE (uR false cR)<|zZ) ?_
 refine kI ?_
 refine jF<|jB<|kx [(7,(jK 0))] [(0,some (bx (jL (((tabR q (List.map (gU xs) [t])).getD 0 []).getD 0 kR))))] (zM<|zE (nE eY 0 ([]:List (kF)) (L:=(tabR q (List.map (gU xs) [t]))))<|zE (nC sh24)<|zE (nE vE 0 kR (L:=((tabR q (List.map (gU xs) [t])).getD 0 [])))<|zE (gN jW)<|zT (qF jW)<|zM<|zZ) ?_
 refine jG ⟨_,(kJ (cs:=(bx (jL (((tabR q (List.map (gU xs) [t])).getD 0 []).getD 0 kR)))) (d:=(jL (((tabR q (List.map (gU xs) [t])).getD 0 []).getD 0 kR))) rfl rfl jW rfl rfl (.tmp (d:=(.val (.int .i64 (((0:Nat):Int))))) rfl .nil)),?_⟩
 rfl
end Go.Proofs.YtnajallgoaiahaaGreatDoor
namespace Go.Fid
section
variable {P:Program} {N:Fr} {c:Code} {Q:Exit→PS→Prop} {S:SL} {B:BS}
end
section
variable {P:Program} {n:Fr} {ops:Array Oper} {K:SL→BS→Prop} {S:SL} {l:List Oper} {o:Oper}
def SV.isD:SV→Bool
 |.d _=>true
 |_=>false
end
section
variable {P:Program} {n:Fr} {ops:Array Oper} {K:SL→BS→Prop} {S S0 S1:SL} {B B0 B1:BS} {l:List Oper} {o:Oper} {news:List Nat} {acc0:List (List Nat × List Nat)}
end
end Go.Fid
