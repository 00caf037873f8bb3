/- Part 31 of a proof: rules, plain facts, and functions walked. -/
import Derived.Test.YtnajallgoaiahaaGreatDoorM30
import Derived.Test.YtnajallgoaiahaaGreatDoorM28
set_option linter.unusedVariables false
set_option linter.unusedSimpArgs false
set_option maxRecDepth 4000
namespace Go.Proofs.YtnajallgoaiahaaGreatDoor
open Go.Fid
theorem f_stepD(a:Nat)(b:Nat)(bv:List jO)(n:Nat)(L:List JV)(hn:n≤64)(hL:L.length≤1000)(hLk:∀ x∈L,nF 1048576 n x)(ha:a<L.length)(hb:b<L.length)(hz:yS (L.getD b jz).v.1 (L.getD b jz).v.2=true):vS Tryz.prog 126 [(.ref 0 0),(.d (kG (qC.mk 5 ((a:Nat):Int) ((b:Nat):Int) kR))),(vl 61 8 jD bv)] [(0,some [(jK n),(jK 1),(vi (-1)),(.own 1 95 10 ((List.map jN L).length)),(vb false)]),(1,some (qB jC (List.map jN L)))] (.d (.tup [])) [(0,some [(jK n),(jK 1),(vi (-1)),(.own 12 95 10 ((List.map jN (L++[(jk (gw 0) (fun _=>gw 0) n)])).length)),(vb true)]),(12,some (qB jC (List.map jN (L++[(jk (gw 0) (fun _=>gw 0) n)]))))]:=by
 have hu:nF 1048576 n (L.getD a jz):=dA hLk ha
 have hv:nF 1048576 n (L.getD b jz):=dA hLk hb
 let y2:=(kG (qC.mk 5 ((a:Nat):Int) ((b:Nat):Int) kR))
 let y1:=(jO.mk kR kR)
 refine vG Tryz.func126 rfl cb126 rfl ?_
 show qM _ _ _ _ ⟨[(0,(.ref 0 0)),(1,(.d y2)),(2,(vl 61 8 jD bv))],[(0,some [(jK n),(jK 1),(vi (-1)),(.own 1 95 10 ((List.map jN L).length)),(vb false)]),(1,some (qB jC (List.map jN L)))]⟩
 refine jB<|kx [(3,(.ref 2 0)),(4,(.ref 3 0)),(5,(.ref 4 0))] [(2,some [(.ref 0 0)]),(3,some (bx y2)),(4,some (bx (.sl 61 8 (List.map jD bv))))] (zH (oBy 2)<|zH (uY 3)<|zH (uY 4)<|zZ) ?_
 refine jB<|pwp_fix 2 (k:=0) (o:=0) (h:=fun b0=>?_)
 refine jV (wk (l:=[(0,(.ref 0 0)),(3,(.ref 2 0)),(4,(.ref 3 0)),(5,(.ref 4 0))]) (b:=[(0,some [(jK n),(jK 1),(vi (-1)),(.own 1 95 10 ((List.map jN L).length)),(vb false)]),(1,some (qB jC (List.map jN L))),(2,some [(.refx 0 0 b0)]),(3,some (bx y2)),(4,some (bx (.sl 61 8 (List.map jD bv))))])) ?_
 refine kx [(6,(.ref 5 0))] [(5,some (bx (jD (jP (gw 0)))))] (zE (kA (cF ((0:Nat):Int) (by omega) (by omega)))<|zH (qW 5 qL qR)<|zT (qF jY)<|zZ) ?_
 refine jB<|kx [(7,(.clo 181 [5]))] [] (zE (fS [5])<|zM<|zZ) ?_
 refine jB<|kx [(8,(.ref 6 0)),(9,(.ref 7 0))] [(6,some (bx (jC (qK.mk y1 [] [])))),(7,some (bx (jC (qK.mk y1 [] []))))] (zH (qW 6 vL zL)<|zH (qW 7 vL zL)<|zZ) ?_
 refine jB<|kx [(10,(jK 2))] [] (zE (qA vK)<|zR (qX nQ)<|zE (oQd (.val (.int .i64 ((xP 5)))) (.val (.int .i64 (((2:Nat):Int)))) (kA (aS 5)) (by exact rfl))<|zM<|zZ) ?_
 refine jB<|jB<|kx [(19,(vb true))] [] (zM<|zE (uR true gD)<|zZ) ?_
 refine uD ?_
 refine kd [] [(6,some (bx (jC (jN (L.getD a jz)))))] mo (wR (oLx mA)<|wE mY<|wE (qA vH)<|wR (qX yQ)<|wE (qA yD)<|wR (qX gI)<|wE (oXO zG a (hj:=by first | omega | rfl | (simp only[List.length_map];omega) | (dsimp only;omega)) (h1:=by first | omega | rfl | (simp only[List.length_map];omega) | (dsimp only;omega)))<|wR (aT (jC ((List.map jN L).getD a (qK.mk y1 [] []))) (jC (jN (L.getD a jz))) (oLA vP a (qK.mk y1 [] []) (h1:=by first | omega | rfl | (simp only[List.length_map];omega) | (dsimp only;omega))) (by exact (congrArg jC (gY jN L jz _ (by omega)))))<|wT (qF vP)<|wZ) ?_
 refine jB<|jB<|kx [(29,(vb true))] [] (zM<|zE (uR true gD)<|zZ) ?_
 refine uD ?_
 refine kd [] [(7,some (bx (jC (jN (L.getD b jz)))))] mo (wR (oLx mA)<|wE mY<|wE (qA vH)<|wR (qX yQ)<|wE (qA nM)<|wR (qX gI)<|wE (oXO zG b (hj:=by first | omega | rfl | (simp only[List.length_map];omega) | (dsimp only;omega)) (h1:=by first | omega | rfl | (simp only[List.length_map];omega) | (dsimp only;omega)))<|wR (aT (jC ((List.map jN L).getD b (qK.mk y1 [] []))) (jC (jN (L.getD b jz))) (oLA vP b (qK.mk y1 [] []) (h1:=by first | omega | rfl | (simp only[List.length_map];omega) | (dsimp only;omega))) (by exact (congrArg jC (gY jN L jz _ (by omega)))))<|wT (qF vP)<|wZ) ?_
 refine jB<|kx [(11,(.clo 183 [2,6,7]))] [] (zE (fS [2,6,7])<|zM<|zZ) ?_
 refine jB<|kx [(40,(vi 5))] [] (zE (qA vK)<|zR (qX nQ)<|zZ) ?_
 refine jI<|jB<|kx [(46,(vb false))] [] (zE (uR false xR)<|zM<|zZ) ?_
 refine kI ?_
 refine jB<|kx [(53,(vb false))] [] (zE (uR false xR)<|zM<|zZ) ?_
 refine kI ?_
 refine jB<|kx [(60,(vb false))] [] (zE (uR false xR)<|zM<|zZ) ?_
 refine kI ?_
 refine jB<|kx [(64,(vb false))] [] (zE (uR false xR)<|zM<|zZ) ?_
 refine kI ?_
 refine jB<|jV (wk (l:=[(0,(.ref 0 0)),(3,(.ref 2 0)),(6,(.ref 5 0)),(8,(.ref 6 0)),(9,(.ref 7 0)),(11,(.clo 183 [2,6,7])),(40,(vi 5)),(64,(vb false))]) (b:=[(0,some [(jK n),(jK 1),(vi (-1)),(.own 1 95 10 ((List.map jN L).length)),(vb false)]),(1,some (qB jC (List.map jN L))),(2,some [(.refx 0 0 b0)]),(5,some (bx (jD (jP (gw 0))))),(6,some (bx (jC (jN (L.getD a jz))))),(7,some (bx (jC (jN (L.getD b jz)))))])) ?_
 refine kx [(68,(vb false))] [] (zE (uR false xR)<|zM<|zZ) ?_
 refine kI ?_
 refine jB<|kx [(74,(vb false))] [] (zE (uR false xR)<|zM<|zZ) ?_
 refine kI ?_
 refine jB<|kx [(81,(vb false))] [] (zE (uR false xR)<|zM<|zZ) ?_
 refine kI ?_
 refine kf [] [(0,some [(jK n),(jK 1),(vi (-1)),(.own 12 95 10 ((List.map jN (L++[jk (gw 0) (fun _=>gw 0) n])).length)),(vb true)]),(12,some (qB jC (List.map jN (L++[jk (gw 0) (fun _=>gw 0) n])))),(1,none),(10,none),(11,none),(2,none),(6,none),(7,none),(8,none),(9,none)] (zR (oLx mA)<|zE (fS [2,6,7])<|zE (fS [2,6,7])<|zE (fS [6,7,2])<|zS (B2:=[(0,some [(jK n),(jK 1),(vi (-1)),(.own 1 95 10 ((List.map jN L).length)),(vb false)]),(1,some (qB jC (List.map jN L))),(2,some [(.refx 0 0 b0)]),(6,some (bx (jC (jN (L.getD a jz))))),(7,some (bx (jC (jN (L.getD b jz)))))]) (B2':=[(0,some [(jK n),(jK 1),(vi (-1)),(.own 12 95 10 ((List.map jN (L++[jk (gw 0) (fun _=>gw 0) n])).length)),(vb true)]),(12,some (qB jC (List.map jN (L++[jk (gw 0) (fun _=>gw 0) n]))))]) (M:=1000000) [0,1,2,6,7,8,9,10,11,12] [0,2,6,7] (f_nodeD n L b0 (L.getD a jz) hu (L.getD b jz) hv hn hL hz) (.cons (by exact rfl) (by kernel_rfl) (.cons (by exact rfl) (qH _ _) (.cons (by exact rfl) (by kernel_rfl) (.cons (by exact rfl) (qH _ _) (.cons (by exact rfl) (qH _ _) .nil))))) (.cons (by exact rfl) (by kernel_rfl) (.cons (by exact rfl) (qH _ _) .nil)) (by repeat first | exact .nil | refine .hid rfl ?_ | refine .map rfl ?_ | refine .dat rfl ?_ | refine .none rfl ?_ | refine .cells rfl rfl ?_)<|zF) ?_
 refine ⟨xK (by kernel_rfl),zJ (by kernel_rfl),.inl ⟨_,.nil,?_⟩⟩
 rfl
theorem hF12(n:Nat)(L:List JV):([(0,some [(jK n),(jK 1),(vi (-1)),(.own 18 95 10 ((List.map jN (L)).length)),(vb true)]),(18,some (qB jC (List.map jN (L))))]:BS).map (fun e=>(e.1,e.2.map fun c=>c.map (SV.ren (xn 12 18))))=([(0,some [(jK n),(jK 1),(vi (-1)),(.own 12 95 10 ((List.map jN (L)).length)),(vb true)]),(12,some (qB jC (List.map jN (L))))]:BS).map (fun e=>(xn 12 18 e.1,e.2)):=by
 simp only[List.map_cons,List.map_nil,Option.map_some,qB,qH]
 rfl
def StepFail(bv:List R2)(L:List JV)(x:qC):Prop:=vS Tryz.prog 126 [(.ref 0 0),(.d (kG x)),(vl 61 8 jD (List.map jP bv))] [(0,some [(jK bv.length),(jK 1),(vi (-1)),(.own 1 95 10 ((List.map jN (L)).length)),(vb false)]),(1,some (qB jC (List.map jN (L))))] (.d (.tup [])) [(0,some [(jK bv.length),(jK 1),(vi (-1)),(.own 18 95 10 ((List.map jN (L++[(jk (gw 0) (fun _=>gw 0) bv.length)])).length)),(vb true)]),(18,some (qB jC (List.map jN (L++[(jk (gw 0) (fun _=>gw 0) bv.length)]))))]
theorem f_step(x:qC)(bv:List R2)(hbx:∀ x∈bv,GL 1048576 x)(L:List JV)(hst:StepFail bv L x):vS Tryz.prog 126 [(.ref 0 0),(.d (kG x)),(vl 61 8 jD (List.map jP bv))] [(0,some [(jK bv.length),(jK 1),(vi (-1)),(.own 1 95 10 ((List.map jN (L)).length)),(vb false)]),(1,some (qB jC (List.map jN (L))))] (.d (.tup [])) [(0,some [(jK bv.length),(jK 1),(vi (-1)),(.own 18 95 10 ((List.map jN (L++[(jk (gw 0) (fun _=>gw 0) bv.length)])).length)),(vb true)]),(18,some (qB jC (List.map jN (L++[(jk (gw 0) (fun _=>gw 0) bv.length)]))))]:=hst
structure JFailP (bv:List R2) (t:List qC) (k:Nat):Prop where
 c0:gQ ((bv.length:Nat):Int) t=0
 lt:k<t.length
 st:∀ j,j<k→StepAt bv (jU bv t j) (t.getD j tz)
 fl:StepFail bv (jU bv t k) (t.getD k tz)
theorem e_stepF0(x:qC)(bv:List R2)(L:List JV)(hn:bv.length≤64)(hL:L.length≤1000)(hLk:∀ y∈L,nF 1048576 bv.length y)(hx:DzOk L x):StepFail bv L x:=by
 obtain ⟨a,b,rfl,ha,hb,hz⟩:=hx
 exact yZ 12 18 (f_stepD _ _ (List.map jP bv) bv.length L hn hL hLk ha hb hz) (hF12 _ _) rfl (by kernel_rfl)
theorem fail_p{bv:List R2}{t:List qC}{k:Nat}(h:cJ bv t)(hk:FstDz bv t k):JFailP bv t k:=by
 have h0:=tm_0 h.c0
 have hbx:∀ y∈bv,GL 1048576 y:=fun y hy=>qI (h.b y hy) (by decide)
 have hk1:=hk.lt
 refine ⟨h.c0,hk.lt,fun j hj=>?_,?_⟩
 ·have hl:=dH bv t j
  exact e_stepN0 _ bv hbx _ (by omega) (by omega) (h.upto (by omega)) (h.nd (by omega) (hk.no j hj))
 ·have hl:=dH bv t k
  exact e_stepF0 _ bv _ (by omega) (by omega) (h.upto (by omega)) (h.dz hk.lt hk.yes)
theorem tame_run{bv:List R2}{t:List qC}(h:cJ bv t)(hd:dzT bv t=false):JRunP bv t:=run_p (fun y hy=>qI (h.b y hy) (by decide)) h.up (h.run hd)
theorem j_jetsF0(t:List qC)(ht:yI 1048576 t)(bv:List R2)(hbx:∀ x∈bv,GL 1048576 x)(k0:Nat)(hr:JFailP bv t k0):jS Tryz.prog 67 [(.sl 83 7 (List.map kG t)),(.sl 61 8 (List.map jD (List.map jP bv))),(.val (.int .i64 (((1:Nat):Int)))),(.val (.int .i64 (-1)))] (.tup [(jC (qK.mk (jO.mk kR kR) [] [])),(.val (.int .i64 (((14:Nat):Int))))]):=by
 have h0:=tm_0 hr.c0
 have hlt:=hr.lt
 let y3:=(jO.mk kR kR)
 let y2:=(bx (jC (qK.mk y3 [] [])))
 let y1:=(bx (.agg [(.val (.int .i64 (((bv.length:Nat):Int)))),(.val (.int .i64 (((1:Nat):Int)))),(.val (.int .i64 (-1))),(.val (.slice none 0 0)),(.val (.bool (false)))]))
 refine jJ Tryz.func67 rfl cb67 rfl ?_
 show qM _ _ _ _ ⟨[(0,(vl 83 7 kG t)),(1,(vl 61 8 jD (List.map jP bv))),(2,(jK 1)),(3,(vi (-1)))],[]⟩
 refine jB<|kx [(8,(.ref 0 0))] [(0,some y2)] (zN (qW 0 vL zL)<|zM<|zZ) ?_
 refine jB<|jB<|kx [(16,(vl 61 8 jD (List.map jP bv))),(17,(jK bv.length)),(18,(jK 0))] [] (zM<|zE (oLn uW bv.length)<|zM<|zZ) ?_
 refine jI<|kM (α:=Nat) (fun i=>⟨[(0,(vl 83 7 kG t)),(1,(vl 61 8 jD (List.map jP bv))),(2,(jK 1)),(3,(vi (-1))),(8,(.ref 0 0)),(16,(vl 61 8 jD (List.map jP bv))),(17,(jK bv.length)),(18,(jK i))],[(0,some y2)]⟩) (fun i=>i≤bv.length) (fun i=>bv.length-i) 0 wk (Nat.zero_le _) ?_
 rintro i hi
 refine jB<|kx [(19,(vb (decide (((i:Nat):Int)<((bv.length:Nat):Int)))))] [] (zE xY<|zZ) ?_
 refine jB<|jH rfl (fun h1=>?_) (fun h1=>?_)
 ·replace h1:=vJ h1
  refine jF<|jB<|jI<|jB<|kx [(11,(.ref 1 0))] [(1,some (bx (jD (jP (bv.getD i z2)))))] (zE (oXm uW jP i z2)<|zE (gN jY)<|zN (qW 1 qL qR)<|zT (qF jY)<|zZ) ?_
  refine jB<|kx [(24,(vb false))] [] (zR (kP jY)<|zE (kA (by have h:=fZ (jP (bv.getD i z2)) (gV (⟨uA (jQ (kB (uT hbx (by decide) i).1) (by decide:1048576≤1048576)),uA (jQ (kB (uT hbx (by decide) i).2.1) (by decide:1048576≤1048576))⟩) (by decide));rw[show vA (jP (bv.getD i z2))=true from zI (uT hbx (by decide) i).2.2] at h;exact h))<|zE mT<|zZ) ?_
  refine kI ?_
  refine jF<|kx [(18,(jK (i+1)))] [] (zE (xE (i+1))<|zM<|zZ) ?_
  exact ⟨i+1,wk,(by omega),(by first|omega|(dsimp only;omega))⟩
 ·replace h1:=vM h1
  refine kL<|jB<|jB<|kx [(36,(vb false))] [] (zM<|zE (uR false xY)<|zM<|zM<|zE (uR false gD)<|zE gE<|zM<|zM<|zE (uR false gD)<|zE gE<|zZ) ?_
  refine kI ?_
  refine jF<|jB<|jB<|kx [(12,(jK (gQ ((bv.length:Nat):Int) t)))] [] (zM<|zM<|zE (oLn uW bv.length)<|zE (kA (j_chk t ht ((bv.length:Nat):Int)))<|zM<|zZ) ?_
  refine jB<|kx [(43,(vb false))] [] (zM<|zE (uR false cR (by exact bne_eq_false_iff_eq.2 (by rw[show (gQ ((bv.length:Nat):Int) t)=0 from hr.c0]<;>rfl)))<|zZ) ?_
  refine kI ?_
  refine jF<|jB<|kx [(13,(.ref 2 0))] [(2,some y1)] (zM<|zE (oLn uW bv.length)<|zM<|zM<|zE (cS pl161 ze161 zn161)<|zN (uY 2)<|zM<|zZ) ?_
  refine jB<|jB<|yG 2 3 3 95 10 (cs:=y1) (h:=?_)
  refine jV (wk (l:=[(0,(vl 83 7 kG t)),(1,(vl 61 8 jD (List.map jP bv))),(8,(.ref 0 0)),(13,(.ref 2 0))]) (b:=[(0,some y2),(2,some [(jK bv.length),(jK 1),(vi (-1)),(.own 3 95 10 0),(vb false)]),(3,some (qB jC []))])) ?_
  refine kx [(52,(vl 83 7 kG t)),(53,(jK t.length)),(54,(jK 0))] [] (zM<|zE (zD bD)<|zM<|zZ) ?_
  refine jI<|kM (α:=Nat) (fun k=>⟨[(1,(vl 61 8 jD (List.map jP bv))),(8,(.ref 0 0)),(13,(.ref 2 0)),(52,(vl 83 7 kG t)),(53,(jK t.length)),(54,(jK k))],[(0,some y2),(2,some [(jK bv.length),(jK 1),(vi (-1)),(.own 3 95 10 ((List.map jN (jU bv t k)).length)),(vb false)]),(3,some (qB jC (List.map jN (jU bv t k))))]⟩) (fun k=>k≤k0) (fun k=>t.length-k) 0 wk (Nat.zero_le _) ?_
  rintro k hk
  have hju:=dH bv t k
  have hjm:(List.map jN (jU bv t k)).length=k:=by rw[List.length_map,hju]
  refine jB<|kx [(55,(vb (decide (((k:Nat):Int)<((t.length:Nat):Int)))))] [] (zE xY<|zZ) ?_
  refine jB<|jH rfl (fun h2=>?_) (fun h2=>?_)
  ·replace h2:=vJ h2
   refine jF<|jB<|jI<|jB<|kx [(15,(.ref 4 0))] [(4,some (bx (kG (t.getD k tz))))] (zE (nE bD k (tz:qC))<|zE (gN bL)<|zH (qW 4 ze83 zo83)<|zT (qF bL)<|zZ) ?_
   refine jB ?_
   rcases hlt0:(decide (k<k0)) with _ | _
   ·refine kf [] [(2,some [(jK bv.length),(jK 1),(vi (-1)),(.own 21 95 10 ((List.map jN ((jU bv t k)++[(jk (gw 0) (fun _=>gw 0) bv.length)])).length)),(vb true)]),(21,some (qB jC (List.map jN ((jU bv t k)++[(jk (gw 0) (fun _=>gw 0) bv.length)])))),(10,none),(11,none),(12,none),(13,none),(14,none),(15,none),(16,none),(17,none),(18,none),(19,none),(20,none),(3,none),(5,none),(6,none),(7,none),(8,none),(9,none)] (zM<|zR (kP bL)<|zM<|zS (B2:=[(2,some [(jK bv.length),(jK 1),(vi (-1)),(.own 3 95 10 ((List.map jN (jU bv t k)).length)),(vb false)]),(3,some (qB jC (List.map jN (jU bv t k))))]) (B2':=[(2,some [(jK bv.length),(jK 1),(vi (-1)),(.own 21 95 10 ((List.map jN ((jU bv t k)++[(jk (gw 0) (fun _=>gw 0) bv.length)])).length)),(vb true)]),(21,some (qB jC (List.map jN ((jU bv t k)++[(jk (gw 0) (fun _=>gw 0) bv.length)]))))]) (M:=1000000) [2,3,5,6,7,8,9,10,11,12,13,14,15,16,17,18,19,20,21] [2] (f_step (t.getD k tz) bv hbx (jU bv t k) ((show k0=k by have:=vM hlt0;omega)▸hr.fl)) (.cons (by exact rfl) (by kernel_rfl) (.cons (by exact rfl) (qH _ _) .nil)) (.cons (by exact rfl) (by kernel_rfl) (.cons (by exact rfl) (qH _ _) .nil)) (by repeat first | exact .nil | refine .hid rfl ?_ | refine .map rfl ?_ | refine .dat rfl ?_ | refine .none rfl ?_ | refine .cells rfl rfl ?_)<|zF) ?_
    refine jV (wk (l:=[(1,(vl 61 8 jD (List.map jP bv))),(8,(.ref 0 0)),(13,(.ref 2 0)),(52,(vl 83 7 kG t)),(53,(jK t.length)),(54,(jK k))]) (b:=[(0,some y2),(2,some [(jK bv.length),(jK 1),(vi (-1)),(.own 21 95 10 ((List.map jN ((jU bv t k)++[(jk (gw 0) (fun _=>gw 0) bv.length)])).length)),(vb true)]),(21,some (qB jC (List.map jN ((jU bv t k)++[(jk (gw 0) (fun _=>gw 0) bv.length)]))))])) ?_
    refine jV (nP (S':=[(1,(vl 61 8 jD (List.map jP bv))),(8,(.ref 0 0)),(13,(.ref 2 0)),(52,(vl 83 7 kG t)),(53,(jK t.length)),(54,(jK k))]) (B':=[(0,some y2),(2,some [(jK bv.length),(jK 1),(vi (-1)),(.own 3 95 10 ((List.map jN ((jU bv t k)++[(jk (gw 0) (fun _=>gw 0) bv.length)])).length)),(vb true)]),(3,some (qB jC (List.map jN ((jU bv t k)++[(jk (gw 0) (fun _=>gw 0) bv.length)]))))]) 3 21 2) ?_
    refine jB<|kx [(65,(vb true))] [] (zM<|zE mY<|zE (qA fo161_4)<|zR (qX bJ)<|zZ) ?_
    refine uD ?_
    refine jB<|kx [(9,(jK 14))] [(0,some y2)] (zE (cS pl95 vL zL)<|zT (qF vP)<|zM<|zZ) ?_
    refine jG ⟨_,(kJ (cs:=(bx (jC (qK.mk (jO.mk kR kR) [] [])))) (d:=(jC (qK.mk (jO.mk kR kR) [] []))) rfl rfl vP rfl rfl (.tmp (d:=(.val (.int .i64 (((14:Nat):Int))))) rfl .nil)),?_⟩
    first | rfl | exact absurd hlt (by omega)
   ·refine kf [] [(2,some [(jK bv.length),(jK 1),(vi (-1)),(.own 21 95 10 ((List.map jN ((jU bv t k)++[(nJ bv (jU bv t k) (t.getD k tz))])).length)),(vb false)]),(21,some (qB jC (List.map jN ((jU bv t k)++[(nJ bv (jU bv t k) (t.getD k tz))])))),(10,none),(11,none),(12,none),(13,none),(14,none),(15,none),(16,none),(17,none),(18,none),(19,none),(20,none),(3,none),(5,none),(6,none),(7,none),(8,none),(9,none)] (zM<|zR (kP bL)<|zM<|zS (B2:=[(2,some [(jK bv.length),(jK 1),(vi (-1)),(.own 3 95 10 ((List.map jN (jU bv t k)).length)),(vb false)]),(3,some (qB jC (List.map jN (jU bv t k))))]) (B2':=[(2,some [(jK bv.length),(jK 1),(vi (-1)),(.own 21 95 10 ((List.map jN ((jU bv t k)++[(nJ bv (jU bv t k) (t.getD k tz))])).length)),(vb false)]),(21,some (qB jC (List.map jN ((jU bv t k)++[(nJ bv (jU bv t k) (t.getD k tz))]))))]) (M:=1000000) [2,3,5,6,7,8,9,10,11,12,13,14,15,16,17,18,19,20,21] [2] (e_step (t.getD k tz) bv hbx (jU bv t k) (hr.st k (vJ hlt0))) (.cons (by exact rfl) (by kernel_rfl) (.cons (by exact rfl) (qH _ _) .nil)) (.cons (by exact rfl) (by kernel_rfl) (.cons (by exact rfl) (qH _ _) .nil)) (by repeat first | exact .nil | refine .hid rfl ?_ | refine .map rfl ?_ | refine .dat rfl ?_ | refine .none rfl ?_ | refine .cells rfl rfl ?_)<|zF) ?_
    refine jV (wk (l:=[(1,(vl 61 8 jD (List.map jP bv))),(8,(.ref 0 0)),(13,(.ref 2 0)),(52,(vl 83 7 kG t)),(53,(jK t.length)),(54,(jK k))]) (b:=[(0,some y2),(2,some [(jK bv.length),(jK 1),(vi (-1)),(.own 21 95 10 ((List.map jN ((jU bv t k)++[(nJ bv (jU bv t k) (t.getD k tz))])).length)),(vb false)]),(21,some (qB jC (List.map jN ((jU bv t k)++[(nJ bv (jU bv t k) (t.getD k tz))]))))])) ?_
    refine jV (nP (S':=[(1,(vl 61 8 jD (List.map jP bv))),(8,(.ref 0 0)),(13,(.ref 2 0)),(52,(vl 83 7 kG t)),(53,(jK t.length)),(54,(jK k))]) (B':=[(0,some y2),(2,some [(jK bv.length),(jK 1),(vi (-1)),(.own 3 95 10 ((List.map jN ((jU bv t k)++[(nJ bv (jU bv t k) (t.getD k tz))])).length)),(vb false)]),(3,some (qB jC (List.map jN ((jU bv t k)++[(nJ bv (jU bv t k) (t.getD k tz))]))))]) 3 21 2) ?_
    refine jB<|kx [(65,(vb false))] [] (zM<|zE mY<|zE (qA fo161_4)<|zR (qX bJ)<|zZ) ?_
    refine kI ?_
    refine jF<|kx [(54,(jK (k+1)))] [] (zE (xE (k+1))<|zM<|zZ) ?_
    exact ⟨k+1,wk,(by have:=vJ hlt0;omega),(by first|omega|(dsimp only;omega))⟩
  ·replace h2:=vM h2
   refine kL<|jB<|kd [(9,(jK 0))] [(0,some (bx (jC ((List.map jN (jU bv t k)).getD ((List.map jN (jU bv t k)).length-1) (qK.mk y3 [] [])))))] mo (wM<|wE mY<|wE (qA vH)<|wR (qX yQ)<|wM<|wE mY<|wE (qA vH)<|wR (qX yQ)<|wE (oLo zG)<|wE (oSb ((List.map jN (jU bv t k)).length-1))<|wE (oXO zG ((List.map jN (jU bv t k)).length-1))<|wR (oLA vP ((List.map jN (jU bv t k)).length-1) (qK.mk y3 [] []))<|wT (qF vP)<|wM<|wZ) ?_
   refine jG ⟨_,(kJ (cs:=(bx (jC ((List.map jN (jU bv t k)).getD ((List.map jN (jU bv t k)).length-1) (qK.mk (jO.mk kR kR) [] []))))) (d:=(jC ((List.map jN (jU bv t k)).getD ((List.map jN (jU bv t k)).length-1) (qK.mk (jO.mk kR kR) [] [])))) rfl rfl vP rfl rfl (.tmp (d:=(.val (.int .i64 (((0:Nat):Int))))) rfl .nil)),?_⟩
   first | rfl | exact absurd hlt (by omega)
theorem j_jetsF(t:List qC)(ht:yI 1048576 t)(bv:List R2)(hbx:∀ x∈bv,GL 1048576 x)(hfe:∃ k,JFailP bv t k):jS Tryz.prog 67 [(.sl 83 7 (List.map kG t)),(.sl 61 8 (List.map jD (List.map jP bv))),(.val (.int .i64 (((1:Nat):Int)))),(.val (.int .i64 (-1)))] (.tup [(jC (qK.mk (jO.mk kR kR) [] [])),(.val (.int .i64 (((14:Nat):Int))))]):=by
 obtain ⟨k,hk⟩:=hfe
 exact j_jetsF0 t ht bv hbx k hk
theorem j_jetsC(t:List qC)(ht:yI 1048576 t)(bv:List R2)(hbx:∀ x∈bv,GL 1048576 x)(hc:gQ ((bv.length:Nat):Int) t≠0)(hbl:bv.length≤1000000):jS Tryz.prog 67 [(.sl 83 7 (List.map kG t)),(.sl 61 8 (List.map jD (List.map jP bv))),(.val (.int .i64 (((1:Nat):Int)))),(.val (.int .i64 (-1)))] (.tup [(jC (qK.mk (jO.mk kR kR) [] [])),(.val (.int .i64 ((((gQ ((bv.length:Nat):Int) t):Nat):Int))))]):=by
 let y1:=(bx (jC (qK.mk (jO.mk kR kR) [] [])))
 refine jJ Tryz.func67 rfl cb67 rfl ?_
 show qM _ _ _ _ ⟨[(0,(vl 83 7 kG t)),(1,(vl 61 8 jD (List.map jP bv))),(2,(jK 1)),(3,(vi (-1)))],[]⟩
 refine jB<|kx [(8,(.ref 0 0))] [(0,some y1)] (zN (qW 0 vL zL)<|zM<|zZ) ?_
 refine jB<|jB<|kx [(16,(vl 61 8 jD (List.map jP bv))),(17,(jK bv.length)),(18,(jK 0))] [] (zM<|zE (oLn uW bv.length)<|zM<|zZ) ?_
 refine jI<|kM (α:=Nat) (fun i=>⟨[(0,(vl 83 7 kG t)),(1,(vl 61 8 jD (List.map jP bv))),(2,(jK 1)),(3,(vi (-1))),(8,(.ref 0 0)),(16,(vl 61 8 jD (List.map jP bv))),(17,(jK bv.length)),(18,(jK i))],[(0,some y1)]⟩) (fun i=>i≤bv.length) (fun i=>bv.length-i) 0 wk (Nat.zero_le _) ?_
 rintro i hi
 refine jB<|kx [(19,(vb (decide (((i:Nat):Int)<((bv.length:Nat):Int)))))] [] (zE xY<|zZ) ?_
 refine jB<|jH rfl (fun h1=>?_) (fun h1=>?_)
 ·replace h1:=vJ h1
  refine jF<|jB<|jI<|jB<|kx [(11,(.ref 1 0))] [(1,some (bx (jD (jP (bv.getD i z2)))))] (zE (oXm uW jP i z2)<|zE (gN jY)<|zN (qW 1 qL qR)<|zT (qF jY)<|zZ) ?_
  refine jB<|kx [(24,(vb false))] [] (zR (kP jY)<|zE (kA (by have h:=fZ (jP (bv.getD i z2)) (gV (⟨uA (jQ (kB (uT hbx (by decide) i).1) (by decide:1048576≤1048576)),uA (jQ (kB (uT hbx (by decide) i).2.1) (by decide:1048576≤1048576))⟩) (by decide));rw[show vA (jP (bv.getD i z2))=true from zI (uT hbx (by decide) i).2.2] at h;exact h))<|zE mT<|zZ) ?_
  refine kI ?_
  refine jF<|kx [(18,(jK (i+1)))] [] (zE (xE (i+1))<|zM<|zZ) ?_
  exact ⟨i+1,wk,(by omega),(by first|omega|(dsimp only;omega))⟩
 ·replace h1:=vM h1
  refine kL<|jB<|jB<|kx [(36,(vb false))] [] (zM<|zE (uR false xY)<|zM<|zM<|zE (uR false gD)<|zE gE<|zM<|zM<|zE (uR false gD)<|zE gE<|zZ) ?_
  refine kI ?_
  refine jF<|jB<|jB<|kx [(12,(jK (gQ ((bv.length:Nat):Int) t)))] [] (zM<|zM<|zE (oLn uW bv.length)<|zE (kA (j_chk t ht ((bv.length:Nat):Int)))<|zM<|zZ) ?_
  refine jB<|kx [(43,(vb true))] [] (zM<|zE (uR true cR (by exact bne_iff_ne.2 (by have hx:=hc;omega)))<|zZ) ?_
  refine uD ?_
  refine jB<|kx [(9,(jK (gQ ((bv.length:Nat):Int) t)))] [(0,some y1)] (zE (cS pl95 vL zL)<|zM<|zT (qF vP)<|zM<|zZ) ?_
  refine jG ⟨_,(kJ (cs:=(bx (jC (qK.mk (jO.mk kR kR) [] [])))) (d:=(jC (qK.mk (jO.mk kR kR) [] []))) rfl rfl vP rfl rfl (.tmp (d:=(.val (.int .i64 ((((gQ ((bv.length:Nat):Int) t):Nat):Int))))) rfl .nil)),?_⟩
  rfl
theorem j_jetsV(t:List qC)(ht:yI 1048576 t)(rb:List jO)(hrb:∀ a∈rb,GOk 1048576 a)(hv:rb.all vA=false)(hbl:rb.length≤1000000):jS Tryz.prog 67 [(.sl 83 7 (List.map kG t)),(.sl 61 8 (List.map jD rb)),(.val (.int .i64 (((1:Nat):Int)))),(.val (.int .i64 (-1)))] (.tup [(jC (qK.mk (jO.mk kR kR) [] [])),(.val (.int .i64 (((1:Nat):Int))))]):=by
 let y2:=(jO.mk kR kR)
 let y1:=(bx (jC (qK.mk y2 [] [])))
 refine jJ Tryz.func67 rfl cb67 rfl ?_
 show qM _ _ _ _ ⟨[(0,(vl 83 7 kG t)),(1,(vl 61 8 jD rb)),(2,(jK 1)),(3,(vi (-1)))],[]⟩
 refine jB<|kx [(8,(.ref 0 0))] [(0,some y1)] (zN (qW 0 vL zL)<|zM<|zZ) ?_
 refine jB<|jB<|kx [(16,(vl 61 8 jD rb)),(17,(jK rb.length)),(18,(jK 0))] [] (zM<|zE (zD uW)<|zM<|zZ) ?_
 refine jI<|kM (α:=Nat) (fun i=>⟨[(0,(vl 83 7 kG t)),(1,(vl 61 8 jD rb)),(2,(jK 1)),(3,(vi (-1))),(8,(.ref 0 0)),(16,(vl 61 8 jD rb)),(17,(jK rb.length)),(18,(jK i))],[(0,some y1)]⟩) (fun i=>i≤rb.length∧(rb.take i).all vA=true) (fun i=>rb.length-i) 0 wk ⟨Nat.zero_le _,by simp⟩ ?_
 rintro i ⟨hi,hal⟩
 refine jB<|kx [(19,(vb (decide (((i:Nat):Int)<((rb.length:Nat):Int)))))] [] (zE xY<|zZ) ?_
 refine jB<|jH rfl (fun h1=>?_) (fun h1=>?_)
 ·replace h1:=vJ h1
  refine jF<|jB<|jI<|jB<|kx [(11,(.ref 1 0))] [(1,some (bx (jD (rb.getD i y2))))] (zE (nE uW i y2)<|zE (gN jY)<|zN (qW 1 qL qR)<|zT (qF jY)<|zZ) ?_
  refine jB<|kx [(24,(vb (!(vA (rb.getD i y2)))))] [] (zR (kP jY)<|zE (kA (fZ (rb.getD i y2) (gV (gok_get hrb (show i<rb.length by omega)) (by decide))))<|zE mT<|zZ) ?_
  refine jH rfl (fun h2=>?_) (fun h2=>?_)
  ·refine jB<|kx [(9,(jK 1))] [(0,some y1)] (zE (cS pl95 vL zL)<|zT (qF vP)<|zM<|zZ) ?_
   refine jG ⟨_,(kJ (cs:=(bx (jC (qK.mk (jO.mk kR kR) [] [])))) (d:=(jC (qK.mk (jO.mk kR kR) [] []))) rfl rfl vP rfl rfl (.tmp (d:=(.val (.int .i64 (((1:Nat):Int))))) rfl .nil)),?_⟩
   rfl
  ·refine jF<|kx [(18,(jK (i+1)))] [] (zE (xE (i+1))<|zM<|zZ) ?_
   exact ⟨(i+1),wk,⟨by omega,all_take (d:=(jO.mk kR kR)) (by omega) hal (by simpa using h2)⟩,(by first|omega|(dsimp only;omega))⟩
 ·replace h1:=vM h1
  exfalso;have hie:i=rb.length:=(by omega);rw[hie,List.take_length,hv] at hal;cases hal
theorem p_grdF(t:List qC)(ht:yI 1048576 t)(xs:List Rat)(hx:∀ q∈xs,QL q 1048576)(hfe:∃ k,JFailP (List.map xV xs) t k)(hxb:xs.length≤1000000):jS Tryz.prog 13 [(.sl 83 7 (List.map kG t)),(.sl 45 4 (List.map jL (List.map jM xs)))] (.tup [(.sl 45 4 (List.map jL [])),(.val (.int .i64 (((14:Nat):Int))))]):=by
 refine jJ Tryz.func13 rfl cb13 rfl ?_
 show qM _ _ _ _ ⟨[(0,(vl 83 7 kG t)),(1,(vl 45 4 jL (List.map jM xs)))],[]⟩
 refine jB<|kx [] [] (zE (cP 45 4)<|zM<|zZ) ?_
 refine jB<|kx [(6,(.ref 0 0)),(7,(jK 14))] [(0,some (bx (jC (qK.mk (jO.mk kR kR) [] []))))] (zM<|zM<|zE (kA (p_pts xs hx hxb))<|zE (kA (j_jetsF t ht (List.map xV xs) (pts_gl hx) hfe))<|zM<|zE vI<|zE vI<|zN (qW 0 vL zL)<|zT (qF vP)<|zM<|zZ) ?_
 refine jB<|jB<|kx [(19,(vb true))] [] (zM<|zE (uR true cR)<|zZ) ?_
 refine uD ?_
 refine jB<|kx [(4,(vl 45 4 jL [])),(5,(jK 14))] [] (zM<|zE (cP 45 4)<|zM<|zZ) ?_
 refine jG ⟨_,(.tmp (d:=(.sl 45 4 (List.map jL []))) rfl (.tmp (d:=(.val (.int .i64 (((14:Nat):Int))))) rfl .nil)),?_⟩
 rfl
theorem p_grdC(t:List qC)(ht:yI 1048576 t)(xs:List Rat)(hx:∀ q∈xs,QL q 1048576)(hc:gQ ((xs.length:Nat):Int) t≠0)(hxb:xs.length≤1000000):jS Tryz.prog 13 [(.sl 83 7 (List.map kG t)),(.sl 45 4 (List.map jL (List.map jM xs)))] (.tup [(.sl 45 4 (List.map jL [])),(.val (.int .i64 ((((gQ ((xs.length:Nat):Int) t):Nat):Int))))]):=by
 have hgx:(List.map xV xs).length=xs.length:=List.length_map _
 have hc2:gQ (((List.map xV xs).length:Nat):Int) t≠0:=by rw[hgx];exact hc
 refine jJ Tryz.func13 rfl cb13 rfl ?_
 show qM _ _ _ _ ⟨[(0,(vl 83 7 kG t)),(1,(vl 45 4 jL (List.map jM xs)))],[]⟩
 refine jB<|kx [] [] (zE (cP 45 4)<|zM<|zZ) ?_
 refine jB<|kx [(6,(.ref 0 0)),(7,(jK (gQ (((List.map xV xs).length:Nat):Int) t)))] [(0,some (bx (jC (qK.mk (jO.mk kR kR) [] []))))] (zM<|zM<|zE (kA (p_pts xs hx hxb))<|zE (kA (j_jetsC t ht (List.map xV xs) (pts_gl hx) hc2 (by omega)))<|zM<|zE vI<|zE vI<|zN (qW 0 vL zL)<|zT (qF vP)<|zM<|zZ) ?_
 refine jB<|jB<|kx [(19,(vb true))] [] (zM<|zE (uR true cR (by exact bne_iff_ne.2 (by have hx:=hc2;omega)))<|zZ) ?_
 refine uD ?_
 refine jB<|kx [(4,(vl 45 4 jL [])),(5,(jK (gQ (((List.map xV xs).length:Nat):Int) t)))] [] (zM<|zE (cP 45 4)<|zM<|zZ) ?_
 refine jG ⟨_,(.tmp (d:=(.sl 45 4 (List.map jL []))) rfl (.tmp (d:=(.val (.int .i64 ((((gQ (((List.map xV xs).length:Nat):Int) t):Nat):Int))))) rfl .nil)),?_⟩
 rw[hgx];rfl
theorem p_ptsR(l:List kF)(hl:zU 1048576 l)(hxb:l.length≤1000000):jS Tryz.prog 68 [(.sl 45 4 (List.map jL l))] (.sl 61 8 (List.map jD (List.map (fun x=>jO.mk x x) l))):=by
 have hlb:=hl.2
 let y1:=kR
 refine jJ Tryz.func68 rfl cb68 rfl ?_
 show qM _ _ _ _ ⟨[(0,(vl 45 4 jL l))],[]⟩
 refine jB<|kx [] [] (zE (cP 61 8)<|zZ) ?_
 refine jB<|kx [(3,(.own 0 61 8 0))] [(0,some (qB jD []))] (zO 0 61 8<|zZ) ?_
 refine jB<|jB<|kx [(6,(vl 45 4 jL l)),(7,(jK l.length)),(8,(jK 0))] [] (zM<|zE (zD vE)<|zM<|zZ) ?_
 refine jI<|kM (α:=Nat × List jO) (fun (i,o)=>⟨[(3,(.own 0 61 8 o.length)),(6,(vl 45 4 jL l)),(7,(jK l.length)),(8,(jK i))],[(0,some (qB jD o))]⟩) (fun (i,o)=>i≤l.length∧o=(l.take i).map (fun x=>jO.mk x x)) (fun (i,o)=>l.length-i) (0,[]) wk ⟨Nat.zero_le _,by simp⟩ ?_
 rintro ⟨i,o⟩ ⟨hi,ho⟩
 have hol:o.length=i:=by rw[ho,List.length_map,List.length_take];omega
 refine jB<|kx [(9,(vb (decide (((i:Nat):Int)<((l.length:Nat):Int)))))] [] (zE xY<|zZ) ?_
 refine jB<|jH rfl (fun h1=>?_) (fun h1=>?_)
 ·replace h1:=vJ h1
  refine jF<|jB<|jI<|jB<|kx [(5,(.ref 1 0))] [(1,some (bx (jL (l.getD i y1))))] (zE (nE vE i y1)<|zE (gN jW)<|zH (qW 1 uH uN)<|zT (qF jW)<|zZ) ?_
  refine kf [(3,(.own 0 61 8 ((o++[(jO.mk (l.getD i y1) (l.getD i y1))]).length)))] [(0,some (qB jD (o++[(jO.mk (l.getD i y1) (l.getD i y1))])))] (zM<|zR (kP jW)<|zR (kP jW)<|zE (cS pl61 qL qR)<|zE (mC uW qL qR)<|zAS jD o [(jO.mk (l.getD i y1) (l.getD i y1))] rfl uW qL by61<|zM<|zF) ?_
  refine kx [(8,(jK (i+1)))] [] (zE (xE (i+1))<|zM<|zZ) ?_
  exact ⟨(i+1,o++[jO.mk (l.getD i kR) (l.getD i kR)]),wk,⟨by omega,by rw[ho];exact eA (f:=fun x=>jO.mk x x) (by omega)⟩,(by first|omega|(dsimp only;omega))⟩
 ·replace h1:=vM h1
  refine kL<|jB<|kx [(2,(.own 0 61 8 o.length))] [] (zM<|zM<|zZ) ?_
  refine jV (xA (t:=2) (k:=0) (es:=List.map jD o) rfl rfl (vD _ _ (fun _=>rfl)) (qY _ _ rfl) (xB jD o (fun _=>rfl) rfl)) ?_
  refine jG ⟨_,(.tmp (d:=(.sl 61 8 (List.map jD o))) rfl .nil),?_⟩
  rw[ho,show i=l.length by omega,List.take_length];rfl
theorem p_grdV(t:List qC)(ht:yI 1048576 t)(l:List kF)(hl:zU 1048576 l)(hv:cQ l=false)(hxb:l.length≤1000000):jS Tryz.prog 13 [(.sl 83 7 (List.map kG t)),(.sl 45 4 (List.map jL l))] (.tup [(.sl 45 4 (List.map jL [])),(.val (.int .i64 (((1:Nat):Int))))]):=by
 have hlb:=hl.2
 have hgx:(List.map (fun x=>jO.mk x x) l).length=l.length:=List.length_map _
 refine jJ Tryz.func13 rfl cb13 rfl ?_
 show qM _ _ _ _ ⟨[(0,(vl 83 7 kG t)),(1,(vl 45 4 jL l))],[]⟩
 refine jB<|kx [] [] (zE (cP 45 4)<|zM<|zZ) ?_
 refine jB<|kx [(6,(.ref 0 0)),(7,(jK 1))] [(0,some (bx (jC (qK.mk (jO.mk kR kR) [] []))))] (zM<|zM<|zE (kA (p_ptsR l hl hxb))<|zE (kA (j_jetsV t ht (List.map (fun x=>jO.mk x x) l) (ptr_ok hl) (ptr_bad hv) (by omega)))<|zM<|zE vI<|zE vI<|zN (qW 0 vL zL)<|zT (qF vP)<|zM<|zZ) ?_
 refine jB<|jB<|kx [(19,(vb true))] [] (zM<|zE (uR true cR)<|zZ) ?_
 refine uD ?_
 refine jB<|kx [(4,(vl 45 4 jL [])),(5,(jK 1))] [] (zM<|zE (cP 45 4)<|zM<|zZ) ?_
 refine jG ⟨_,(.tmp (d:=(.sl 45 4 (List.map jL []))) rfl (.tmp (d:=(.val (.int .i64 (((1:Nat):Int))))) rfl .nil)),?_⟩
 rfl
end Go.Proofs.YtnajallgoaiahaaGreatDoor
