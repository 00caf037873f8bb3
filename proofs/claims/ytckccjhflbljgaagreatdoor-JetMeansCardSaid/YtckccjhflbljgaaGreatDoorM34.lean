/- Part 34 of a proof: rules, plain facts, and functions walked. -/
import Derived.Test.YtckccjhflbljgaaGreatDoorM27
import Derived.Test.YtckccjhflbljgaaGreatDoorM31
import Derived.Test.YtckccjhflbljgaaGreatDoorM33
import Derived.Test.YtckccjhflbljgaaGreatDoorM32
import Derived.Test.YtckccjhflbljgaaGreatDoorM29
import Derived.Test.YtckccjhflbljgaaGreatDoorM18
import Derived.Test.YtckccjhflbljgaaGreatDoorM26
import Derived.Test.YtckccjhflbljgaaGreatDoorM17
import Derived.Test.YtckccjhflbljgaaGreatDoorM30
set_option linter.all false
set_option maxRecDepth 4000
namespace Go.Proofs.YtckccjhflbljgaaGreatDoor
open Go.Fid
theorem x_exm :jS Tryz.prog 40 [] (.sl 72 7 (List.map jO exT)):=by
 let y2:=kO
 let y1:=[(kC.mk 1 0 0 y2),(kC.mk 1 1 0 y2),(kC.mk 4 0 1 y2),(kC.mk 7 0 0 y2),(kC.mk 2 2 3 y2)]
 refine uW Tryz.func40 ?_
 refine jB<|kx [] [] (zE (bB 72 7)<|zZ) ?_
 refine jB<|kx [(0,(vl 72 7 jO y1))] [] (zE (bH pl72 eH aA)<|zE (bH pl72 eH aA)<|zE (bH pl72 eH aA)<|zE (bH pl72 eH aA)<|zE (bH pl72 eH aA)<|zE (fF yF eH aA)<|zM<|zZ) ?_
 refine jD ⟨_,(.tmp (d:=(.sl 72 7 (List.map jO y1))) rfl .nil),?_⟩
 rfl
theorem x_whole(zs:List Int)(hz:∀ z∈zs,-9223372036854775808<=z/\z<=9223372036854775807:=by decide)(hzl:zs.length<=1000000:=by decide):jS Tryz.prog 41 [(.sl 3 1 (List.map jL zs))] (.sl 32 4 (List.map jK (List.map jN (zQ zs)))):=by
 refine uW Tryz.func41 ?_
 refine jB<|kx [] [] (zE (bB 32 4)<|zZ) ?_
 refine jB<|kx [(3,(.own 0 32 4 0))] [(0,some (qS jK []))] (zN (oBo 0 xG uV vL)<|zM<|zZ) ?_
 refine jB<|jB<|kx [(7,(vl 3 1 jL zs)),(8,(jT zs.length)),(9,(jT 0))] [] (zM<|zE (yH uM)<|zM<|zZ) ?_
 refine jH<|kQ (α:=Nat × List qE) (fun (i,o)=>⟨[(3,(.own 0 32 4 o.length)),(7,(vl 3 1 jL zs)),(8,(jT zs.length)),(9,(jT i))],[(0,some (qS jK o))]⟩) (fun (i,o)=>i<=zs.length/\o=(zs.take i).map (fun z:Int=>jN (z:Rat))) (fun (i,o)=>zs.length-i) (0,[]) wk ⟨Nat.zero_le _,by simp⟩ ?_
 rintro ⟨i,o⟩ ⟨hi,ho⟩
 have hol:o.length=i:=by rw[ho,List.length_map,List.length_take];omega
 refine jB<|kx [(10,(vb (decide (((i:Nat):Int)<((zs.length:Nat):Int)))))] [] (zE yY<|zZ) ?_
 refine jB<|jF rfl (fun h1=>?_) (fun h1=>?_)
 ·replace h1:=vT h1
  have hzi:=zs_at hz (show i<zs.length by omega)
  refine jE<|jB<|jH<|jB<|kx [(5,(vi (zs.getD i 0)))] [] (zE (dA uM i (0:Int))<|zE (nX uT)<|zM<|zZ) ?_
  refine kf [(3,(.own 0 32 4 ((o++[(jN ((zs.getD i 0:Int):Rat))]).length)))] [(0,some (qS jK (o++[(jN ((zs.getD i 0:Int):Rat))])))] (zM<|zM<|zE (kB (g_whole (zs.getD i 0) (by omega) (by omega)))<|zE (fF xG uV vL)<|zAS jK o [(jN ((zs.getD i 0:Int):Rat))] rfl xG uV by32<|zM<|zF) ?_
  refine kx [(9,(jT (i+1)))] [] (zE (xD (i+1))<|zM<|zZ) ?_
  exact ⟨(i+1,o++[jN ((zs.getD i 0:Int):Rat)]),wk,⟨by omega,by rw[ho];exact mapt_step (f:=fun z:Int=>jN (z:Rat)) (by omega)⟩,(by first|omega|(dsimp only;omega))⟩
 ·replace h1:=xC h1
  refine kL<|jB<|kx [(2,(.own 0 32 4 o.length))] [] (zM<|zM<|zZ) ?_
  refine kG (yL (t:=2) (k:=0) (es:=List.map jK o) rfl rfl (mA _ _ (fun _=>rfl)) (vS _ _ rfl) (cH jK o (fun _=>rfl) rfl)) ?_
  refine jD ⟨_,(.tmp (d:=(.sl 32 4 (List.map jK o))) rfl .nil),?_⟩
  rw[ho,show i=zs.length by omega,List.take_length,show List.map (fun z:Int=>jN (z:Rat)) zs=List.map jN (zQ zs) from (by unfold zQ;rw[List.map_map];rfl)];rfl
theorem exT_tx:∀ x∈exT,x.op=0->TextAt (xW x.n):=fun x hx h0=>by
 unfold exT at hx
 simp only[List.mem_cons,List.not_mem_nil,or_false] at hx
 rcases hx with rfl | rfl | rfl | rfl | rfl<;>exact absurd h0 (by decide)
theorem exB_runP:JRunP exB exT:=run_p exB_gl exT_ok exB_run
theorem x_known :jS Tryz.prog 8 [] (.val (.bool (true))):=by
 have hxl:exX.length=2:=rfl
 have hgl:(qN exB exT).g.length=2:=by rw[ex_g];rfl
 let y2:=(jM.mk (jN ((5:Int):Rat)) (jN ((8:Int):Rat)))
 let y1:=(jM.mk (jN ((4:Int):Rat)) (jN ((12:Int):Rat)))
 refine uW Tryz.func8 ?_
 refine jB<|kx [] [] (zM<|zZ) ?_
 refine jB<|kx [(1,(.ref 0 0)),(2,(jT 0))] [(0,some (bx (jK (jN ((10:Int):Rat)))))] (zE (oQd (.sl 72 7 (List.map jO exT)) (.sl 72 7 (List.map jO exT)) (kB x_exm) (by exact rfl))<|zE (fF uM ze3 zo3)<|zE (oQd (.sl 32 4 (List.map jK (List.map jN (zQ [((2:Nat):Int),((3:Nat):Int)])))) (.sl 32 4 (List.map jK (List.map jN exX))) (kB (x_whole [((2:Nat):Int),((3:Nat):Int)])) (by exact rfl))<|zE (kB (p_val exT exT_ok exX exX_ql exT_run (by omega)))<|zM<|zE (oQd (jK (jN (yZ exX exT))) (jK (jN ((10:Int):Rat))) zJ (by exact (congrArg (fun q=>jK (jN q)) ex_10)))<|zE zJ<|zN (uJ 0 uV vL)<|zT (qM jW)<|zM<|zZ) ?_
 refine jB ?_
 have bn1:QL ((1:Int):Rat) 1:=(yV (z:=1) (yC))
 have bn2:QL ((2:Int):Rat) 1:=(yV (z:=2) (yC))
 have bn3:QL ((3:Int):Rat) 1:=(yV (z:=3) (yC))
 have bn4:QL ((4:Int):Rat) 1:=(yV (z:=4) (yC))
 refine kx [(3,(.ref 1 0)),(4,(jT 0))] [(1,some (bx (jI (qK (qN exB exT)))))] (zE (oQd (.sl 72 7 (List.map jO exT)) (.sl 72 7 (List.map jO exT)) (kB x_exm) (by exact rfl))<|zE (kB (h_whole 1 2))<|zE (kB (h_whole 3 4))<|zE (oQd (.sl 42 8 (List.map jG [(jM.mk (jN ((1:Int):Rat)) (jN ((2:Int):Rat))),(jM.mk (jN ((3:Int):Rat)) (jN ((4:Int):Rat)))])) (.sl 42 8 (List.map jG (List.map kK exB))) (fF zU uK uO) (by exact rfl))<|zE (kB (j_jets exT exT_ok exB exB_gl exB_runP))<|zM<|zE zJ<|zE zJ<|zN (uJ 1 iB zo46)<|zT (qM dP)<|zM<|zZ) ?_
 refine jB<|kx [(5,(vl 72 7 jO exD)),(6,(jT 0))] [] (zE (oQd (.sl 72 7 (List.map jO exT)) (.sl 72 7 (List.map jO exT)) (kB x_exm) (by exact rfl))<|zE (kB (p_drv exT exT_ok 2 0 exT_c0 (by omega) (tx_small 0) (tx_small 1) (tx_small 2) exT_tx))<|zM<|zE (oQd (.sl 72 7 (List.map jO (DRT 0 exT))) (.sl 72 7 (List.map jO exD)) zJ (by exact (congrArg (fun t=>jQ.sl 72 7 (List.map jO t)) ex_d)))<|zE (oQd (.val (.int .i64 ((((DRC 0 exT):Nat):Int)))) (.val (.int .i64 (((0:Nat):Int)))) zJ (by exact (congrArg (fun n:Nat=>jQ.val (.int .i64 ((n:Nat):Int))) ex_c)))<|zM<|zM<|zZ) ?_
 refine jB<|kx [(7,(.ref 2 0)),(8,(jT 0))] [(2,some (bx (jK (jN ((7:Int):Rat)))))] (zM<|zE (fF uM ze3 zo3)<|zE (oQd (.sl 32 4 (List.map jK (List.map jN (zQ [((2:Nat):Int),((3:Nat):Int)])))) (.sl 32 4 (List.map jK (List.map jN exX))) (kB (x_whole [((2:Nat):Int),((3:Nat):Int)])) (by exact rfl))<|zE (kB (p_val exD exD_ok exX exX_ql exD_run (by omega)))<|zM<|zE (oQd (jK (jN (yZ exX exD))) (jK (jN ((7:Int):Rat))) zJ (by exact (congrArg (fun q=>jK (jN q)) ex_7)))<|zE zJ<|zN (uJ 2 uV vL)<|zT (qM jW)<|zM<|zZ) ?_
 refine jB<|jB<|kx [(55,(vb false))] [] (zM<|zE (gU false bD)<|zM<|zM<|zE (gU false bD)<|zE yJ<|zM<|zM<|zE (gU false bD)<|zE yJ<|zM<|zM<|zE (gU false bD)<|zE yJ<|zM<|zE (kN gD)<|zR (dF (.sl 42 8 (List.map jG (List.map kK ((qN exB exT).g)))) (.sl 42 8 (List.map jG (List.map kK ((qN exB exT).g)))) (qJ fO) (by exact rfl))<|zE (oLn zU (((qN exB exT).g).length))<|zE (gU false bD (by exact bne_eq_false_iff_eq.2 (by rw[show ((qN exB exT).g).length=2 from (by rw[ex_g];rfl)]<;>rfl)))<|zE yJ<|zZ) ?_
 refine qH ?_
 refine jE<|jB ?_
 have bn5:QL ((10:Int):Rat) 1:=(yV (z:=10) (yC))
 have bn6:QL ((7:Int):Rat) 1:=(yV (z:=7) (yC))
 have bn7:QL ((12:Int):Rat) 1:=(yV (z:=12) (yC))
 have bn8:QL ((5:Int):Rat) 1:=(yV (z:=5) (yC))
 have bn9:QL ((8:Int):Rat) 1:=(yV (z:=8) (yC))
 refine kd [(0,(vb true))] [] mo (wR (kR jW)<|wE (kB (g_whole 10))<|wE (gU true (kB (by have h:=g_same (jN ((10:Int):Rat)) (jN ((10:Int):Rat)) ((10:Int):Rat) ((10:Int):Rat) (jP (jY (yV (uE)))) (jP (jY bn5));rw[sameR_of] at h;exact h)) (by exact decide_eq_true rfl))<|wM<|wR (kR jW)<|wE (kB (g_whole 7))<|wE (gU true (kB (by have h:=g_same (jN ((7:Int):Rat)) (jN ((7:Int):Rat)) ((7:Int):Rat) ((7:Int):Rat) (jP (jY (yV (uE)))) (jP (jY bn6));rw[sameR_of] at h;exact h)) (by exact decide_eq_true rfl))<|wE nT<|wM<|wE (kN gS)<|wR (dF (jG (kK ((qN exB exT).v))) (jG y1) (kR kF) (by exact (congrArg (fun p=>jG (kK p)) ex_v)))<|wE (kB (h_whole 4 12))<|wE (kB (by have h:=h_same y1 y1 (gP (⟨qI (jP (jY (yV (uE))) (by decide:3<=3)),qI (jP (jY (yV (uE))) (by decide:3<=3))⟩)) (gP (⟨qI (jP (jY bn4) (by decide:1<=1)),qI (jP (jY bn7) (by decide:1<=1))⟩));rw[show sameG y1 y1=true from by rw[sameG_of];kernel_rfl] at h;exact h))<|wE nT<|wM<|wE (kN gD)<|wR (dF (.sl 42 8 (List.map jG (List.map kK ((qN exB exT).g)))) (.sl 42 8 (List.map jG (List.map kK ((qN exB exT).g)))) (qJ fO) (by exact rfl))<|wE (oXm zU kK 0 z2)<|wE (oQd (jG (kK (((qN exB exT).g).getD 0 z2))) (jG y2) (mT kF) (by exact (by rw[ex_g];rfl)))<|wE (kB (h_whole 5 8))<|wE (kB (by have h:=h_same y2 y2 (gP (⟨qI (jP (jY (yV (uE))) (by decide:3<=3)),qI (jP (jY (yV (uE))) (by decide:3<=3))⟩)) (gP (⟨qI (jP (jY bn8) (by decide:1<=1)),qI (jP (jY bn9) (by decide:1<=1))⟩));rw[show sameG y2 y2=true from by rw[sameG_of];kernel_rfl] at h;exact h))<|wE nT<|wM<|wE (kB x_exm)<|wE (oQd (.val (.int .i64 ((((nB 2 exT):Nat):Int)))) (.val (.int .i64 (((0:Nat):Int)))) (kB (j_chk exT exT_ok ((2:Nat):Int))) (by exact (congrArg (fun n:Nat=>jQ.val (.int .i64 ((n:Nat):Int))) exT_c0)))<|wE (gU true yP)<|wE nT<|wM<|wZ) ?_
 refine jD ⟨_,(.tmp (d:=(.val (.bool (true)))) rfl .nil),?_⟩
 rfl
theorem f_div(a:R2)(ha:GL 67108864 a)(b:R2)(hb:GL 67108864 b)(n:Nat)(x:jQ)(fb:Bool)(hz:xI b.1 b.2=true):uI Tryz.prog 143 [(.ref 0 0),(.d (jG (kK a))),(.d (jG (kK b)))] [(0,some [(jT n),(jT 1),(vi (-1)),(.d (x)),(vb fb)])] (.d (jG (kK (gw 0)))) [(0,some [(jT n),(jT 1),(vi (-1)),(.d (x)),(vb true)])]:=by
 refine xE Tryz.func143 rfl cb143 rfl ?_
 refine jB<|kx [(4,(.ref 1 0)),(5,(.ref 2 0)),(6,(.ref 3 0))] [(1,some (bx (jG (kK a)))),(2,some (bx (jG (kK b)))),(3,some (bx (jG (jM.mk kO kO))))] (zN (vX 1)<|zN (vX 2)<|zN (uJ 3 uK uO)<|zZ) ?_
 refine jB<|kx [(7,(.ref 4 0)),(8,(vi 14))] [(4,some (bx (jG (jM.mk kO kO))))] (zR (kR kF)<|zR (kR kF)<|zE (kB (i_divideZ a.1 a.2 b.1 b.2 (qY ha.1) (qY ha.2.1) (qY hb.1) (qY hb.2.1) ha.2.2 hb.2.2 hz))<|zM<|zE zJ<|zE zJ<|zN (uJ 4 uK uO)<|zT (qM kF)<|zM<|zZ) ?_
 refine jB<|jB<|kx [(16,(vb true))] [] (zM<|zE bD<|zZ) ?_
 refine xQ ?_
 refine jB<|kx [] [(0,some [(jT n),(jT 1),(vi (-1)),(.d (x)),(vb true)])] (zM<|zE eM<|zE (kN fo113_4)<|zT (qM fG)<|zZ) ?_
 refine jB<|kx [] [(3,some (bx (jG (kK (gw 0)))))] (zE (kB (j_whole 0 (by omega) (by omega)))<|zT (qM kF)<|zZ) ?_
 refine jD ⟨qR (by kernel_rfl),uH (by kernel_rfl),.inl ⟨_,(kS (cs:=(bx (jG (kK (gw 0))))) (d:=(jG (kK (gw 0)))) rfl rfl kF rfl rfl .nil),?_⟩⟩
 rfl
theorem f_vD(n:Nat)(x:jQ)(fb:Bool)(bb:Nat)(u:JV)(hu:nS 1048576 n u)(v:JV)(hv:nS 1048576 n v)(hz:xI v.v.1 v.v.2=true):uI Tryz.prog 142 [(.ref 1 0),(.ref 2 0),(.ref 3 0)] [(0,some [(jT n),(jT 1),(vi (-1)),(.d (x)),(vb fb)]),(1,some [(.refx 0 0 bb)]),(2,some (bx (jI (qK u)))),(3,some (bx (jI (qK v))))] (.d (jG (kK (gw 0)))) [(0,some [(jT n),(jT 1),(vi (-1)),(.d (x)),(vb true)]),(1,some [(.refx 0 0 bb)]),(2,some (bx (jI (qK u)))),(3,some (bx (jI (qK v))))]:=by
 refine xE Tryz.func142 rfl cb142 rfl ?_
 refine jB<|kx [(3,(.ref 4 0))] [(4,some (bx (jG (jM.mk kO kO))))] (zN (uJ 4 uK uO)<|zZ) ?_
 refine jB<|kf [] [(0,some [(jT n),(jT 1),(vi (-1)),(.d (x)),(vb true)]),(4,some (bx (jG (kK (gw 0)))))] (zR (oLx eJ)<|zE (kN gS)<|zR (kR kF)<|zE (kN gS)<|zR (kR kF)<|iF (B2:=[(0,some [(jT n),(jT 1),(vi (-1)),(.d (x)),(vb fb)])]) (B2':=[(0,some [(jT n),(jT 1),(vi (-1)),(.d (x)),(vb true)])]) [0] [0] (f_div u.v (qQ hu.1) v.v (qQ hv.1) n (x) fb hz)<|zT (qM kF)<|zF) ?_
 refine jD ⟨qR (by kernel_rfl),uH (by kernel_rfl),.inl ⟨_,(kS (cs:=(bx (jG (kK (gw 0))))) (d:=(jG (kK (gw 0)))) rfl rfl kF rfl rfl .nil),?_⟩⟩
 rfl
theorem f_gD(i:Nat)(n:Nat)(x:jQ)(fb:Bool)(bb:Nat)(u:JV)(hu:nS 1048576 n u)(v:JV)(hv:nS 1048576 n v)(w:R2)(hw:GL 2097152 w)(y z:jQ)(hz:xI v.v.1 v.v.2=true)(hi:i<n):uI Tryz.prog 144 [(.ref 4 0),(jT i),(.ref 1 0),(.ref 2 0),(.ref 3 0)] [(0,some [(jT n),(jT 1),(vi (-1)),(.d (x)),(vb fb)]),(1,some [(.refx 0 0 bb)]),(2,some (bx (jI (qK u)))),(3,some (bx (jI (qK v)))),(4,some (bx (jG (kK w))++[(.d (y)),(.d (z))]))] (.d (jG (kK (gw 0)))) [(0,some [(jT n),(jT 1),(vi (-1)),(.d (x)),(vb true)]),(1,some [(.refx 0 0 bb)]),(2,some (bx (jI (qK u)))),(3,some (bx (jI (qK v)))),(4,some (bx (jG (kK w))++[(.d (y)),(.d (z))]))]:=by
 have hul:=hu.2.2
 have hvl:=hv.2.2
 refine xE Tryz.func144 rfl cb144 rfl ?_
 refine jB<|kx [(7,(.ref 5 0))] [(5,some (bx (jG (jM.mk kO kO))))] (zN (uJ 5 uK uO)<|zZ) ?_
 refine jB<|kd [] [(0,some [(jT n),(jT 1),(vi (-1)),(.d (x)),(vb true)]),(5,some (bx (jG (kK (gw 0)))))] mo (wR (oLx eJ)<|wE (kN gD)<|wR (qJ fO)<|wM<|wE (oXm zU kK i z2)<|wE (mT kF)<|wM<|wE eM<|wE (kN gS)<|wR (kR kF)<|wE (kN gD)<|wR (qJ fO)<|wM<|wE (oXm zU kK i z2)<|wE (mT kF)<|wE (kB (j_mul w (qQ hw) (v.g.getD i z2) (qQ (qC hv.2.1 (by decide) i))))<|wE (kB (j_sub (u.g.getD i z2) (qQ (qC hu.2.1 (by decide) i)) (uR w (v.g.getD i z2)) (qQ (gX (k:=3145728) hw (qC hv.2.1 (by decide) i)))))<|wE (kN gS)<|wR (kR kF)<|wS [0] [] (.d (jG (kK (gw 0)))) [(.ref 0 0),(.d (jG (kK (qZ (u.g.getD i z2) (uR w (v.g.getD i z2)))))),(.d (jG (kK v.v)))] [(0,some [(jT n),(jT 1),(vi (-1)),(.d (x)),(vb fb)])] [(0,some [(jT n),(jT 1),(vi (-1)),(.d (x)),(vb true)])] (f_div (qZ (u.g.getD i z2) (uR w (v.g.getD i z2))) (qQ (aX (k:=4194305) (qC hu.2.1 (by decide) i) (gX (k:=3145728) hw (qC hv.2.1 (by decide) i)))) v.v (qQ hv.1) n (x) fb hz) (.cons rfl (by kernel_rfl) .nil) (.cons rfl (by kernel_rfl) .nil) (by repeat first | exact .nil | refine .hid rfl ?_ | refine .none ?_ | refine .dat ?_ | refine .map ?_ | refine .cells (by kernel_rfl) ?_) (by repeat first | exact .nil | refine .dat ?_ | refine .map ?_ | refine .cells (by kernel_rfl) ?_)<|wT (qM kF)<|wZ) ?_
 refine jD ⟨qR (by kernel_rfl),uH (by kernel_rfl),.inl ⟨_,(kS (cs:=(bx (jG (kK (gw 0))))) (d:=(jG (kK (gw 0)))) rfl rfl kF rfl rfl .nil),?_⟩⟩
 rfl
theorem f_round(n:Nat)(x:jQ)(a:R2)(ha:GL 67108864 a):jS Tryz.prog 170 [(.cptr 1000000 (jQ.cells (mcA n x true)) 0),(jG (kK a))] (jG (kK a)):=by
 refine uW Tryz.func170 ?_
 refine jB<|kx [(3,(.ref 0 0)),(4,(.ref 1 0))] [(0,some (bx (jG (kK a)))),(1,some (bx (jG (jM.mk kO kO))))] (zN (vX 0)<|zN (uJ 1 uK uO)<|zZ) ?_
 refine jB<|jB<|kx [(9,(vb true))] [] (zM<|zE oNd<|zE (oFc fo113_2)<|zE (nX uT)<|zE (gU true yY)<|zZ) ?_
 refine xQ ?_
 refine jB<|kx [] [(1,some (bx (jG (kK a))))] (zR (kR kF)<|zT (qM kF)<|zZ) ?_
 refine jD ⟨_,(kS (cs:=(bx (jG (kK a)))) (d:=(jG (kK a))) rfl rfl kF rfl rfl .nil),?_⟩
 rfl
theorem f_nodeD(n:Nat)(L:List JV)(bb:Nat)(u:JV)(hu:nS 1048576 n u)(v:JV)(hv:nS 1048576 n v)(hn:n<=64)(hL:L.length<=1000)(hz:xI v.v.1 v.v.2=true):uI Tryz.prog 123 [(.ref 0 0),(.clo 142 [2,3,4]),(.clo 144 [2,3,4]),(.clo 145 [3,4,2])] [(0,some (xL n 1 L false)),(1,some (xT L)),(2,some [(.refx 0 0 bb)]),(3,some (bx (jI (qK u)))),(4,some (bx (jI (qK v))))] (.d (.tup [])) [(0,some (xL n 9 (L++[jk (gw 0) (fun _=>gw 0) n]) true)),(9,some (xT (L++[jk (gw 0) (fun _=>gw 0) n])))]:=by
 refine xE Tryz.func123 rfl cb123 rfl ?_
 refine jB<|kx [(8,(.ref 5 0))] [(0,some (xL n 1 L true)),(2,some [(.refx 0 0 bb)]),(3,some (bx (jI (qK u)))),(4,some (bx (jI (qK v)))),(5,some (bx (.agg (jQ.cells (jG (kK (gw 0)))++[(.val (.slice none 0 0)),(.val (.slice none 0 0))]))))] (zM<|zM<|zV [0,2,3,4] [] [0] (.d (jG (kK (gw 0)))) [(.ref 2 0),(.ref 3 0),(.ref 4 0)] [(0,some (xL n 1 L false)),(2,some [(.refx 0 0 bb)]),(3,some (bx (jI (qK u)))),(4,some (bx (jI (qK v))))] [(0,some (xL n 1 L true)),(2,some [(.refx 0 0 bb)]),(3,some (bx (jI (qK u)))),(4,some (bx (jI (qK v))))] (fun U=>f_vD n (.val (U 0 3)) false bb u hu v hv hz) (fun U=>(.cons rfl (by kernel_rfl) (.cons rfl (by kernel_rfl) (.cons rfl (eW _ _ _ _) (.cons rfl (eW _ _ _ _) .nil))))) (fun U=>(.cons rfl (by kernel_rfl) (.cons rfl (by kernel_rfl) (.cons rfl (eW _ _ _ _) (.cons rfl (eW _ _ _ _) .nil))))) (fun U=>(.cons (k:=0) (q:=1) (o:=0) (b:=bb) (j:=0) (by kernel_rfl) (by kernel_rfl) (by kernel_rfl) .nil)) (.cells (by kernel_rfl) (.cells (by kernel_rfl) (.dat (.dat .nil)))) (by repeat first | exact .nil | refine .hid rfl ?_ | refine .none ?_ | refine .dat ?_ | refine .map ?_ | refine .cells (by kernel_rfl) ?_) (hc:=callV_fn (ex:=[.ref 2 0,.ref 3 0,.ref 4 0]) (by exact rfl) (.clo (kk:=[2,3,4]) (by kernel_rfl) (by kernel_rfl)) (by kernel_rfl))<|zC (oCh [(0,(xL n 1 L true),(jQ.cells (mcA n (.sl 1000000 10 (List.map jI (List.map qK L))) true))),(1,(xT L),(qD (List.map jI (List.map qK L))))] [(.ref 0 0),(.d (jG (kK (gw 0))))] (f_round n (.sl 1000000 10 (List.map jI (List.map qK L))) (gw 0) (qQ (gl_w (z:=0) (by omega) (by omega)))) (.cons (.r (.head _)) (.cons .d .nil)) (.cons (.cons .d (.cons .d (.cons .d (.cons (aM (F:=jI) (L:=(List.map qK L)) (.head _) (fun _=>rfl) rfl) (.cons .d .nil))))) (.cons (.all (by exact rfl)) .nil)) (xK (by decide) _) (ex:=[]))<|zE (bH pl46 iB zn46)<|zH (uJ 5 iB zo46)<|zT (qM dP)<|zZ) ?_
 refine jB<|jB<|kx [(22,(vb true))] [] (zM<|zE eM<|zE (kN fo113_1)<|zR (qJ uT)<|zE (gU true cI)<|zZ) ?_
 refine xQ ?_
 refine jB<|aU 5 8 6 42 8 (cs:=(bx (.agg (jQ.cells (jG (kK (gw 0)))++[(.val (.slice none 0 0)),(.val (.slice none 0 0))])))) (h:=?_)
 refine kG (wk (l:=[(0,(.ref 0 0)),(1,(.clo 142 [2,3,4])),(2,(.clo 144 [2,3,4])),(3,(.clo 145 [3,4,2])),(8,(.ref 5 0)),(22,(vb true))]) (b:=[(0,some (xL n 1 L true)),(1,some (xT L)),(2,some [(.refx 0 0 bb)]),(3,some (bx (jI (qK u)))),(4,some (bx (jI (qK v)))),(5,some (bx (jG (kK (gw 0)))++[(.own 6 42 8 0),(.d (.val (.slice none 0 0)))])),(6,some (qS jG []))])) ?_
 refine aU 5 9 7 43 1 (cs:=(bx (jG (kK (gw 0)))++[(.own 6 42 8 0),(.d (.val (.slice none 0 0)))])) (h:=?_)
 refine kG (wk (l:=[(0,(.ref 0 0)),(1,(.clo 142 [2,3,4])),(2,(.clo 144 [2,3,4])),(3,(.clo 145 [3,4,2])),(8,(.ref 5 0)),(22,(vb true))]) (b:=[(0,some (xL n 1 L true)),(1,some (xT L)),(2,some [(.refx 0 0 bb)]),(3,some (bx (jI (qK u)))),(4,some (bx (jI (qK v)))),(5,some (bx (jG (kK (gw 0)))++[(.own 6 42 8 0),(.own 7 43 1 0)])),(6,some (qS jG [])),(7,some (bm vC []))])) ?_
 refine kx [(26,(jT n)),(27,(jT 0))] [] (zM<|zE eM<|zE (kN fo113_0)<|zR (qJ uT)<|zM<|zZ) ?_
 refine jH<|kQ (α:=Nat × List jM) (fun (i,gl)=>⟨[(0,(.ref 0 0)),(1,(.clo 142 [2,3,4])),(2,(.clo 144 [2,3,4])),(3,(.clo 145 [3,4,2])),(8,(.ref 5 0)),(26,(jT n)),(27,(jT i))],[(0,some (xL n 1 L true)),(1,some (xT L)),(2,some [(.refx 0 0 bb)]),(3,some (bx (jI (qK u)))),(4,some (bx (jI (qK v)))),(5,some (bx (jG (kK (gw 0)))++[(.own 6 42 8 gl.length),(.own 7 43 1 0)])),(6,some (qS jG gl)),(7,some (bm vC []))]⟩) (fun (i,gl)=>i<=n/\gl=List.map kK (List.map (fun (_:Nat)=>gw 0) (List.range i))) (fun (i,gl)=>n-i) (0,[]) wk ⟨Nat.zero_le _,rfl⟩ ?_
 rintro ⟨i,gl⟩ ⟨hi,hg⟩
 have hgl:gl.length=i:=jk_len (G:=(fun (_:Nat)=>gw 0)) hg
 refine jB<|kx [(28,(vb (decide (((i:Nat):Int)<((n:Nat):Int)))))] [] (zE yY<|zZ) ?_
 refine jB<|jF rfl (fun h1=>?_) (fun h1=>?_)
 ·replace h1:=vT h1
  refine jE<|jB<|jH<|jB<|kx [(9,(jT i))] [] (zM<|zM<|zZ) ?_
  refine kd [] [(0,some (xL n 1 L true)),(2,some [(.refx 0 0 bb)]),(3,some (bx (jI (qK u)))),(4,some (bx (jI (qK v)))),(5,some (bx (jG (kK (gw 0)))++[(.own 8 42 8 ((gl++[(kK (gw 0))]).length)),(.own 7 43 1 0)])),(8,some (qS jG (gl++[(kK (gw 0))]))),(6,none)] mo (wE (kN gD)<|wR (qJ fO)<|wM<|wM<|wM<|wV [0,2,3,4,5] [] [0] [] (.d (jG (kK (gw 0)))) [(.ref 5 0),(jT i),(.ref 2 0),(.ref 3 0),(.ref 4 0)] [(0,some (xL n 1 L true)),(2,some [(.refx 0 0 bb)]),(3,some (bx (jI (qK u)))),(4,some (bx (jI (qK v)))),(5,some (bx (jG (kK (gw 0)))++[(.own 6 42 8 gl.length),(.own 7 43 1 0)]))] [(0,some (xL n 1 L true)),(2,some [(.refx 0 0 bb)]),(3,some (bx (jI (qK u)))),(4,some (bx (jI (qK v)))),(5,some (bx (jG (kK (gw 0)))++[(.own 6 42 8 gl.length),(.own 7 43 1 0)]))] (fun U=>f_gD i n (.val (U 0 3)) true bb u hu v hv (gw 0) (qQ (gl_w (z:=0) (by omega) (by omega))) (.val (U 5 8)) (.val (U 5 9)) hz (by omega)) (fun U=>(.cons rfl (by kernel_rfl) (.cons rfl (by kernel_rfl) (.cons rfl (eW _ _ _ _) (.cons rfl (eW _ _ _ _) (.cons rfl (by kernel_rfl) .nil)))))) (fun U=>(.cons rfl (by kernel_rfl) (.cons rfl (by kernel_rfl) (.cons rfl (eW _ _ _ _) (.cons rfl (eW _ _ _ _) (.cons rfl (by kernel_rfl) .nil)))))) (fun U=>(.cons (k:=0) (q:=1) (o:=0) (b:=bb) (j:=0) (by kernel_rfl) (by kernel_rfl) (by kernel_rfl) .nil)) (.cells (by kernel_rfl) (.cells (by kernel_rfl) (.dat (.dat (.cells (by kernel_rfl) .nil))))) (by repeat first | exact .nil | refine .hid rfl ?_ | refine .none ?_ | refine .dat ?_ | refine .map ?_ | refine .cells (by kernel_rfl) ?_) (by repeat first | exact .nil | refine .dat ?_ | refine .map ?_ | refine .cells (by kernel_rfl) ?_) (hc:=callV_fn (ex:=[.ref 2 0,.ref 3 0,.ref 4 0]) (by exact rfl) (.clo (kk:=[2,3,4]) (by kernel_rfl) (by kernel_rfl)) (by kernel_rfl))<|wC (oCh [(0,(xL n 1 L true),(jQ.cells (mcA n (.sl 1000000 10 (List.map jI (List.map qK L))) true))),(1,(xT L),(qD (List.map jI (List.map qK L))))] [(.ref 0 0),(.d (jG (kK (gw 0))))] (f_round n (.sl 1000000 10 (List.map jI (List.map qK L))) (gw 0) (qQ (gl_w (z:=0) (by omega) (by omega)))) (.cons (.r (.head _)) (.cons .d .nil)) (.cons (.cons .d (.cons .d (.cons .d (.cons (aM (F:=jI) (L:=(List.map qK L)) (.head _) (fun _=>rfl) rfl) (.cons .d .nil))))) (.cons (.all (by exact rfl)) .nil)) (xK (by decide) _) (ex:=[]))<|wE (fF zU uK uO)<|wAS (k:=6) 8 jG gl [(kK (gw 0))] rfl zU uK by42<|wE (kN gD)<|wT (oSx fO)<|wZ) ?_
  refine kG (wk (l:=[(0,(.ref 0 0)),(1,(.clo 142 [2,3,4])),(2,(.clo 144 [2,3,4])),(3,(.clo 145 [3,4,2])),(8,(.ref 5 0)),(26,(jT n)),(27,(jT i))]) (b:=[(0,some (xL n 1 L true)),(1,some (xT L)),(2,some [(.refx 0 0 bb)]),(3,some (bx (jI (qK u)))),(4,some (bx (jI (qK v)))),(5,some (bx (jG (kK (gw 0)))++[(.own 8 42 8 ((gl++[(kK (gw 0))]).length)),(.own 7 43 1 0)])),(7,some (bm vC [])),(8,some (qS jG (gl++[(kK (gw 0))])))])) ?_
  refine kG (mW (S':=[(0,(.ref 0 0)),(1,(.clo 142 [2,3,4])),(2,(.clo 144 [2,3,4])),(3,(.clo 145 [3,4,2])),(8,(.ref 5 0)),(26,(jT n)),(27,(jT i))]) (B':=[(0,some (xL n 1 L true)),(1,some (xT L)),(2,some [(.refx 0 0 bb)]),(3,some (bx (jI (qK u)))),(4,some (bx (jI (qK v)))),(5,some (bx (jG (kK (gw 0)))++[(.own 6 42 8 ((gl++[(kK (gw 0))]).length)),(.own 7 43 1 0)])),(6,some (qS jG (gl++[(kK (gw 0))]))),(7,some (bm vC []))]) 6 8 5) ?_
  refine kx [(27,(jT (i+1)))] [] (zE (xD (i+1))<|zM<|zZ) ?_
  exact ⟨(i+1,gl++[kK (gw 0)]),wk,⟨by omega,jk_push (G:=(fun (_:Nat)=>gw 0)) hg⟩,(by first|omega|(dsimp only;omega))⟩
 ·replace h1:=xC h1
  refine kL<|jB<|jB<|kx [(45,(vb false))] [] (zM<|zE eM<|zE (kN fo113_1)<|zR (qJ uT)<|zE (gU false cI)<|zZ) ?_
  refine qH ?_
  refine jE<|kG (bQ (j:=5) (k:=6) (pre:=(bx (jG (kK (gw 0))))) (post:=[(.own 7 43 1 0)]) (es:=List.map jG gl) rfl (by decide) rfl (mA _ _ (fun _=>rfl)) (vS _ _ rfl) (cH jG gl (fun _=>rfl) rfl)) ?_
  refine kG (wk (l:=[(0,(.ref 0 0)),(1,(.clo 142 [2,3,4])),(2,(.clo 144 [2,3,4])),(3,(.clo 145 [3,4,2])),(8,(.ref 5 0)),(45,(vb false))]) (b:=[(0,some (xL n 1 L true)),(1,some (xT L)),(2,some [(.refx 0 0 bb)]),(3,some (bx (jI (qK u)))),(4,some (bx (jI (qK v)))),(5,some (bx (jG (kK (gw 0)))++[(vl 42 8 jG gl),(.own 7 43 1 0)])),(7,some (bm vC []))])) ?_
  refine kG (bQ (j:=5) (k:=7) (pre:=(bx (jG (kK (gw 0)))++[(vl 42 8 jG gl)])) (post:=[]) (es:=List.map vC []) rfl (by decide) rfl (vQ _ _ (fun _=>rfl)) (vS _ _ rfl) (xP _ _ (fun _=>rfl) rfl)) ?_
  refine kG (wk (l:=[(0,(.ref 0 0)),(1,(.clo 142 [2,3,4])),(2,(.clo 144 [2,3,4])),(3,(.clo 145 [3,4,2])),(8,(.ref 5 0)),(45,(vb false))]) (b:=[(0,some (xL n 1 L true)),(1,some (xT L)),(2,some [(.refx 0 0 bb)]),(3,some (bx (jI (qK u)))),(4,some (bx (jI (qK v)))),(5,some (bx (jI (gL.mk (kK (gw 0)) gl []))))])) ?_
  refine kd [] [(0,some [(jT n),(jT 1),(vi (-1)),(.own 9 46 10 (((List.map qK L)++[(gL.mk (kK (gw 0)) gl [])]).length)),(vb true)]),(9,some (qS jI ((List.map qK L)++[(gL.mk (kK (gw 0)) gl [])]))),(1,none)] mo (wM<|wM<|wE eM<|wE (kN mX)<|wR (qJ sh88)<|wR (kR dP)<|wE (fF el88 iB zo46)<|wAS (k:=1) 9 jI (List.map qK L) [(gL.mk (kK (gw 0)) gl [])] rfl el88 iB by46<|wE eM<|wE (kN mX)<|wT (oSx sh88)<|wZ) ?_
  have hJ:List.map qK (L++[jk (gw 0) (fun _=>gw 0) n])=List.map qK L++[gL.mk (kK (gw 0)) gl []]:=by rw[List.map_append,hg,show i=n by omega];rfl
  unfold xL xT
  rw[hJ]
  refine ⟨qR (by kernel_rfl),uH (by kernel_rfl),.inl ⟨_,.nil,?_⟩⟩
  rfl
theorem f_stepD(a:Nat)(b:Nat)(bv:List jM)(n:Nat)(L:List JV)(hn:n<=64)(hL:L.length<=1000)(hLk:∀ x∈L,nS 1048576 n x)(ha:a<L.length)(hb:b<L.length)(hz:xI (L.getD b jz).v.1 (L.getD b jz).v.2=true):uI Tryz.prog 77 [(.ref 0 0),(.d (jO (kC.mk 5 ((a:Nat):Int) ((b:Nat):Int) kO))),(vl 42 8 jG bv)] [(0,some (xL n 1 L false)),(1,some (xT L))] (.d (.tup [])) [(0,some (xL n 12 (L++[(jk (gw 0) (fun _=>gw 0) n)]) true)),(12,some (xT (L++[(jk (gw 0) (fun _=>gw 0) n)])))]:=by
 have hu:nS 1048576 n (L.getD a jz):=dM hLk ha
 have hv:nS 1048576 n (L.getD b jz):=dM hLk hb
 let y2:=(jO (kC.mk 5 ((a:Nat):Int) ((b:Nat):Int) kO))
 let y1:=(jM.mk kO kO)
 refine xE Tryz.func77 rfl cb77 rfl ?_
 refine jB<|kx [(3,(.ref 2 0)),(4,(.ref 3 0)),(5,(.ref 4 0))] [(2,some [(.ref 0 0)]),(3,some (bx y2)),(4,some (bx (.sl 42 8 (List.map jG bv))))] (zH (oBy 2)<|zH (vX 3)<|zH (vX 4)<|zZ) ?_
 refine jB<|pwp_fix 2 (k:=0) (o:=0) (h:=fun b0=>?_)
 refine kG (wk (l:=[(0,(.ref 0 0)),(3,(.ref 2 0)),(4,(.ref 3 0)),(5,(.ref 4 0))]) (b:=[(0,some (xL n 1 L false)),(1,some (xT L)),(2,some [(.refx 0 0 b0)]),(3,some (bx y2)),(4,some (bx (.sl 42 8 (List.map jG bv))))])) ?_
 refine kx [(6,(.ref 5 0))] [(5,some (bx (jG (kK (gw 0)))))] (zE (kB (j_whole ((0:Nat):Int) (by omega) (by omega)))<|zH (uJ 5 uK uO)<|zT (qM kF)<|zZ) ?_
 refine jB<|kx [(7,(.clo 121 [5]))] [] (zE (oMf [5])<|zM<|zZ) ?_
 refine jB<|kx [(8,(.ref 6 0)),(9,(.ref 7 0))] [(6,some (bx (jI (gL.mk y1 [] [])))),(7,some (bx (jI (gL.mk y1 [] []))))] (zH (uJ 6 iB zo46)<|zH (uJ 7 iB zo46)<|zZ) ?_
 refine jB<|kx [(10,(jT 2))] [] (zE (kN yA)<|zR (qJ eI)<|zE (oQd (.val (.int .i64 ((uA 5)))) (.val (.int .i64 (((2:Nat):Int)))) (kB (j_kids 5)) (by exact rfl))<|zM<|zZ) ?_
 refine jB<|jB<|kx [(19,(vb true))] [] (zM<|zE (gU true cI)<|zZ) ?_
 refine xQ ?_
 refine kd [] [(6,some (bx (jI (qK (L.getD a jz)))))] mo (wR (oLx eJ)<|wE eM<|wE (kN mX)<|wR (qJ sh88)<|wE (kN qU)<|wR (qJ uT)<|wE (oXO el88 a (hj:=by first | omega | rfl | (simp only[List.length_map];omega) | (dsimp only;omega)) (h1:=by first | omega | rfl | (simp only[List.length_map];omega) | (dsimp only;omega)))<|wR (dF (jI ((List.map qK L).getD a (gL.mk y1 [] []))) (jI (qK (L.getD a jz))) (oLA dP a (gL.mk y1 [] []) (h1:=by first | omega | rfl | (simp only[List.length_map];omega) | (dsimp only;omega))) (by exact (congrArg jI (eF qK L jz _ (by omega)))))<|wT (qM dP)<|wZ) ?_
 refine jB<|jB<|kx [(29,(vb true))] [] (zM<|zE (gU true cI)<|zZ) ?_
 refine xQ ?_
 refine kd [] [(7,some (bx (jI (qK (L.getD b jz)))))] mo (wR (oLx eJ)<|wE eM<|wE (kN mX)<|wR (qJ sh88)<|wE (kN vM)<|wR (qJ uT)<|wE (oXO el88 b (hj:=by first | omega | rfl | (simp only[List.length_map];omega) | (dsimp only;omega)) (h1:=by first | omega | rfl | (simp only[List.length_map];omega) | (dsimp only;omega)))<|wR (dF (jI ((List.map qK L).getD b (gL.mk y1 [] []))) (jI (qK (L.getD b jz))) (oLA dP b (gL.mk y1 [] []) (h1:=by first | omega | rfl | (simp only[List.length_map];omega) | (dsimp only;omega))) (by exact (congrArg jI (eF qK L jz _ (by omega)))))<|wT (qM dP)<|wZ) ?_
 refine jB<|kx [(11,(.clo 122 [2,6,7]))] [] (zE (oMf [2,6,7])<|zM<|zZ) ?_
 refine jB<|kx [(40,(vi 5))] [] (zE (kN yA)<|zR (qJ eI)<|zZ) ?_
 refine jH<|jB<|kx [(46,(vb false))] [] (zE (gU false yP)<|zM<|zZ) ?_
 refine qH ?_
 refine jB<|kx [(53,(vb false))] [] (zE (gU false yP)<|zM<|zZ) ?_
 refine qH ?_
 refine jB<|kx [(60,(vb false))] [] (zE (gU false yP)<|zM<|zZ) ?_
 refine qH ?_
 refine jB<|kx [(64,(vb false))] [] (zE (gU false yP)<|zM<|zZ) ?_
 refine qH ?_
 refine jB<|kG (wk (l:=[(0,(.ref 0 0)),(3,(.ref 2 0)),(6,(.ref 5 0)),(8,(.ref 6 0)),(9,(.ref 7 0)),(11,(.clo 122 [2,6,7])),(40,(vi 5)),(64,(vb false))]) (b:=[(0,some (xL n 1 L false)),(1,some (xT L)),(2,some [(.refx 0 0 b0)]),(5,some (bx (jG (kK (gw 0))))),(6,some (bx (jI (qK (L.getD a jz))))),(7,some (bx (jI (qK (L.getD b jz)))))])) ?_
 refine kx [(68,(vb false))] [] (zE (gU false yP)<|zM<|zZ) ?_
 refine qH ?_
 refine jB<|kx [(74,(vb false))] [] (zE (gU false yP)<|zM<|zZ) ?_
 refine qH ?_
 refine jB<|kx [(81,(vb false))] [] (zE (gU false yP)<|zM<|zZ) ?_
 refine qH ?_
 refine kf [] [(0,some (xL n 12 (L++[jk (gw 0) (fun _=>gw 0) n]) true)),(12,some (xT (L++[jk (gw 0) (fun _=>gw 0) n]))),(1,none),(10,none),(11,none),(2,none),(6,none),(7,none),(8,none),(9,none)] (zR (oLx eJ)<|zE (oMf [2,6,7])<|zE (oMf [2,6,7])<|zE (oMf [6,7,2])<|iF (B2:=[(0,some (xL n 1 L false)),(1,some (xT L)),(2,some [(.refx 0 0 b0)]),(6,some (bx (jI (qK (L.getD a jz))))),(7,some (bx (jI (qK (L.getD b jz)))))]) (B2':=[(0,some (xL n 12 (L++[jk (gw 0) (fun _=>gw 0) n]) true)),(12,some (xT (L++[jk (gw 0) (fun _=>gw 0) n])))]) [0,1,2,6,7,8,9,10,11,12] [0,2,6,7] (f_nodeD n L b0 (L.getD a jz) hu (L.getD b jz) hv hn hL hz)<|zF) ?_
 refine ⟨qR (by kernel_rfl),uH (by kernel_rfl),.inl ⟨_,.nil,?_⟩⟩
 rfl
theorem hF12(n:Nat)(L:List JV):([(0,some [(jT n),(jT 1),(vi (-1)),(.own 18 46 10 ((List.map qK (L)).length)),(vb true)]),(18,some (qS jI (List.map qK (L))))]:BS).map (fun e=>(e.1,e.2.map fun c=>c.map (SV.ren (xn 12 18))))=([(0,some [(jT n),(jT 1),(vi (-1)),(.own 12 46 10 ((List.map qK (L)).length)),(vb true)]),(12,some (qS jI (List.map qK (L))))]:BS).map (fun e=>(xn 12 18 e.1,e.2)):=by
 simp only[List.map_cons,List.map_nil,Option.map_some,qS,ren_dat]
 rfl
def StepFail(bv:List R2)(L:List JV)(x:kC):Prop:=uI Tryz.prog 77 [(.ref 0 0),(.d (jO x)),(vl 42 8 jG (List.map kK bv))] [(0,some (xL bv.length 1 (L) false)),(1,some (xT (L)))] (.d (.tup [])) [(0,some (xL bv.length 18 (L++[(jk (gw 0) (fun _=>gw 0) bv.length)]) true)),(18,some (xT (L++[(jk (gw 0) (fun _=>gw 0) bv.length)])))]
theorem f_step(x:kC)(bv:List R2)(hbx:∀ x∈bv,GL 1048576 x)(L:List JV)(hst:StepFail bv L x):uI Tryz.prog 77 [(.ref 0 0),(.d (jO x)),(vl 42 8 jG (List.map kK bv))] [(0,some (xL bv.length 1 (L) false)),(1,some (xT (L)))] (.d (.tup [])) [(0,some (xL bv.length 18 (L++[(jk (gw 0) (fun _=>gw 0) bv.length)]) true)),(18,some (xT (L++[(jk (gw 0) (fun _=>gw 0) bv.length)])))]:=hst
structure JFailP (bv:List R2) (t:List kC) (k:Nat):Prop where
 c0:nB ((bv.length:Nat):Int) t=0
 lt:k<t.length
 st:∀ j,j<k->StepAt bv (jU bv t j) (t.getD j tz)
 fl:StepFail bv (jU bv t k) (t.getD k tz)
theorem e_stepF0(x:kC)(bv:List R2)(L:List JV)(hn:bv.length<=64)(hL:L.length<=1000)(hLk:∀ y∈L,nS 1048576 bv.length y)(hx:DzOk L x):StepFail bv L x:=by
 obtain ⟨a,b,rfl,ha,hb,hz⟩:=hx
 exact takesS_ren 12 18 (f_stepD _ _ (List.map kK bv) bv.length L hn hL hLk ha hb hz) (hF12 _ _) rfl (by kernel_rfl)
theorem fail_p{bv:List R2}{t:List kC}{k:Nat}(h:mQ bv t)(hk:FstDz bv t k):JFailP bv t k:=by
 have h0:=fY h.c0
 have hbx:∀ y∈bv,GL 1048576 y:=fun y hy=>qQ (h.b y hy) (by decide)
 have hk1:=hk.lt
 refine ⟨h.c0,hk.lt,fun j hj=>?_,?_⟩
 ·have hl:=cL bv t j
  exact e_stepN0 _ bv hbx _ (by omega) (by omega) (h.upto (by omega)) (h.nd (by omega) (hk.no j hj))
 ·have hl:=cL bv t k
  exact e_stepF0 _ bv _ (by omega) (by omega) (h.upto (by omega)) (h.dz hk.lt hk.yes)
theorem gJ{bv:List R2}{t:List kC}(h:mQ bv t)(hd:dzT bv t=false):JRunP bv t:=run_p (fun y hy=>qQ (h.b y hy) (by decide)) h.up (h.run hd)
theorem j_jetsF0(t:List kC)(ht:nE 1048576 t)(bv:List R2)(hbx:∀ x∈bv,GL 1048576 x)(k0:Nat)(hr:JFailP bv t k0):jS Tryz.prog 29 [(.sl 72 7 (List.map jO t)),(.sl 42 8 (List.map jG (List.map kK bv))),(.val (.int .i64 (((1:Nat):Int)))),(.val (.int .i64 (-1)))] (.tup [(jI (gL.mk (jM.mk kO kO) [] [])),(.val (.int .i64 (((14:Nat):Int))))]):=by
 have h0:=fY hr.c0
 have hlt:=hr.lt
 let y3:=(jM.mk kO kO)
 let y2:=(bx (jI (gL.mk y3 [] [])))
 let y1:=(bx (.agg [(.val (.int .i64 (((bv.length:Nat):Int)))),(.val (.int .i64 (((1:Nat):Int)))),(.val (.int .i64 (-1))),(.val (.slice none 0 0)),(.val (.bool (false)))]))
 refine uW Tryz.func29 ?_
 refine jB<|kx [(8,(.ref 0 0))] [(0,some y2)] (zN (uJ 0 iB zo46)<|zM<|zZ) ?_
 refine jB<|jB<|kx [(16,(vl 42 8 jG (List.map kK bv))),(17,(jT bv.length)),(18,(jT 0))] [] (zM<|zE (oLn zU bv.length)<|zM<|zZ) ?_
 refine jH<|kQ (α:=Nat) (fun i=>⟨[(0,(vl 72 7 jO t)),(1,(vl 42 8 jG (List.map kK bv))),(2,(jT 1)),(3,(vi (-1))),(8,(.ref 0 0)),(16,(vl 42 8 jG (List.map kK bv))),(17,(jT bv.length)),(18,(jT i))],[(0,some y2)]⟩) (fun i=>i<=bv.length) (fun i=>bv.length-i) 0 wk (Nat.zero_le _) ?_
 rintro i hi
 refine jB<|kx [(19,(vb (decide (((i:Nat):Int)<((bv.length:Nat):Int)))))] [] (zE yY<|zZ) ?_
 refine jB<|jF rfl (fun h1=>?_) (fun h1=>?_)
 ·replace h1:=vT h1
  refine jE<|jB<|jH<|jB<|kx [(11,(.ref 1 0))] [(1,some (bx (jG (kK (bv.getD i z2)))))] (zE (oXm zU kK i z2)<|zE (mT kF)<|zN (uJ 1 uK uO)<|zT (qM kF)<|zZ) ?_
  refine jB<|kx [(24,(vb false))] [] (zR (kR kF)<|zE (kB (by have h:=i_valid (kK (bv.getD i z2)) (gP (⟨qI (jP (jY (qC hbx (by decide) i).1) (by decide:1048576<=1048576)),qI (jP (jY (qC hbx (by decide) i).2.1) (by decide:1048576<=1048576))⟩));rw[show uP (kK (bv.getD i z2))=true from xY (qC hbx (by decide) i).2.2] at h;exact h))<|zE cC<|zZ) ?_
  refine qH ?_
  refine jE<|kx [(18,(jT (i+1)))] [] (zE (xD (i+1))<|zM<|zZ) ?_
  exact ⟨i+1,wk,(by omega),(by first|omega|(dsimp only;omega))⟩
 ·replace h1:=xC h1
  refine kL<|jB<|jB<|kx [(36,(vb false))] [] (zM<|zE (gU false yY)<|zM<|zM<|zE (gU false cI)<|zE yJ<|zM<|zM<|zE (gU false cI)<|zE yJ<|zZ) ?_
  refine qH ?_
  refine jE<|jB<|jB<|kx [(12,(jT (nB ((bv.length:Nat):Int) t)))] [] (zM<|zM<|zE (oLn zU bv.length)<|zE (kB (j_chk t ht ((bv.length:Nat):Int)))<|zM<|zZ) ?_
  refine jB<|kx [(43,(vb false))] [] (zM<|zE (gU false bD (by exact bne_eq_false_iff_eq.2 (by rw[show (nB ((bv.length:Nat):Int) t)=0 from hr.c0]<;>rfl)))<|zZ) ?_
  refine qH ?_
  refine jE<|jB<|kx [(13,(.ref 2 0))] [(2,some y1)] (zM<|zE (oLn zU bv.length)<|zM<|zM<|zE (bH pl113 ze113 zn113)<|zN (vX 2)<|zM<|zZ) ?_
  refine jB<|jB<|aU 2 3 3 46 10 (cs:=y1) (h:=?_)
  refine kG (wk (l:=[(0,(vl 72 7 jO t)),(1,(vl 42 8 jG (List.map kK bv))),(8,(.ref 0 0)),(13,(.ref 2 0))]) (b:=[(0,some y2),(2,some [(jT bv.length),(jT 1),(vi (-1)),(.own 3 46 10 0),(vb false)]),(3,some (qS jI []))])) ?_
  refine kx [(52,(vl 72 7 jO t)),(53,(jT t.length)),(54,(jT 0))] [] (zM<|zE (yH yF)<|zM<|zZ) ?_
  refine jH<|kQ (α:=Nat) (fun k=>⟨[(1,(vl 42 8 jG (List.map kK bv))),(8,(.ref 0 0)),(13,(.ref 2 0)),(52,(vl 72 7 jO t)),(53,(jT t.length)),(54,(jT k))],[(0,some y2),(2,some (xL bv.length 3 (jU bv t k) false)),(3,some (xT (jU bv t k)))]⟩) (fun k=>k<=k0) (fun k=>t.length-k) 0 wk (Nat.zero_le _) ?_
  rintro k hk
  have hju:=cL bv t k
  have hjm:(List.map qK (jU bv t k)).length=k:=by rw[List.length_map,hju]
  refine jB<|kx [(55,(vb (decide (((k:Nat):Int)<((t.length:Nat):Int)))))] [] (zE yY<|zZ) ?_
  refine jB<|jF rfl (fun h2=>?_) (fun h2=>?_)
  ·replace h2:=vT h2
   refine jE<|jB<|jH<|jB<|kx [(15,(.ref 4 0))] [(4,some (bx (jO (t.getD k tz))))] (zE (dA yF k (tz:kC))<|zE (mT eK)<|zH (uJ 4 eH aA)<|zT (qM eK)<|zZ) ?_
   refine jB ?_
   rcases hlt0:(decide (k<k0)) with _ | _
   ·refine kf [] [(2,some (xL bv.length 21 ((jU bv t k)++[(jk (gw 0) (fun _=>gw 0) bv.length)]) true)),(21,some (xT ((jU bv t k)++[(jk (gw 0) (fun _=>gw 0) bv.length)]))),(10,none),(11,none),(12,none),(13,none),(14,none),(15,none),(16,none),(17,none),(18,none),(19,none),(20,none),(3,none),(5,none),(6,none),(7,none),(8,none),(9,none)] (zM<|zR (kR eK)<|zM<|iF (B2:=[(2,some (xL bv.length 3 (jU bv t k) false)),(3,some (xT (jU bv t k)))]) (B2':=[(2,some (xL bv.length 21 ((jU bv t k)++[(jk (gw 0) (fun _=>gw 0) bv.length)]) true)),(21,some (xT ((jU bv t k)++[(jk (gw 0) (fun _=>gw 0) bv.length)])))]) [2,3,5,6,7,8,9,10,11,12,13,14,15,16,17,18,19,20,21] [2] (f_step (t.getD k tz) bv hbx (jU bv t k) ((show k0=k by have:=xC hlt0;omega)▸hr.fl))<|zF) ?_
    refine kG (wk (l:=[(1,(vl 42 8 jG (List.map kK bv))),(8,(.ref 0 0)),(13,(.ref 2 0)),(52,(vl 72 7 jO t)),(53,(jT t.length)),(54,(jT k))]) (b:=[(0,some y2),(2,some (xL bv.length 21 ((jU bv t k)++[(jk (gw 0) (fun _=>gw 0) bv.length)]) true)),(21,some (xT ((jU bv t k)++[(jk (gw 0) (fun _=>gw 0) bv.length)])))])) ?_
    refine kG (mW (S':=[(1,(vl 42 8 jG (List.map kK bv))),(8,(.ref 0 0)),(13,(.ref 2 0)),(52,(vl 72 7 jO t)),(53,(jT t.length)),(54,(jT k))]) (B':=[(0,some y2),(2,some (xL bv.length 3 ((jU bv t k)++[(jk (gw 0) (fun _=>gw 0) bv.length)]) true)),(3,some (xT ((jU bv t k)++[(jk (gw 0) (fun _=>gw 0) bv.length)])))]) 3 21 2) ?_
    refine jB<|kx [(65,(vb true))] [] (zM<|zE eM<|zE (kN fo113_4)<|zR (qJ fG)<|zZ) ?_
    refine xQ ?_
    refine jB<|kx [(9,(jT 14))] [(0,some y2)] (zE (bH pl46 iB zo46)<|zT (qM dP)<|zM<|zZ) ?_
    refine jD ⟨_,(kS (cs:=y2) (d:=(jI (gL.mk y3 [] []))) rfl rfl dP rfl rfl (.tmp (d:=(.val (.int .i64 (((14:Nat):Int))))) rfl .nil)),?_⟩
    first | rfl | exact absurd hlt (by omega)
   ·refine kf [] [(2,some (xL bv.length 21 ((jU bv t k)++[(nJ bv (jU bv t k) (t.getD k tz))]) false)),(21,some (xT ((jU bv t k)++[(nJ bv (jU bv t k) (t.getD k tz))]))),(10,none),(11,none),(12,none),(13,none),(14,none),(15,none),(16,none),(17,none),(18,none),(19,none),(20,none),(3,none),(5,none),(6,none),(7,none),(8,none),(9,none)] (zM<|zR (kR eK)<|zM<|iF (B2:=[(2,some (xL bv.length 3 (jU bv t k) false)),(3,some (xT (jU bv t k)))]) (B2':=[(2,some (xL bv.length 21 ((jU bv t k)++[(nJ bv (jU bv t k) (t.getD k tz))]) false)),(21,some (xT ((jU bv t k)++[(nJ bv (jU bv t k) (t.getD k tz))])))]) [2,3,5,6,7,8,9,10,11,12,13,14,15,16,17,18,19,20,21] [2] (e_step (t.getD k tz) bv hbx (jU bv t k) (hr.st k (vT hlt0)))<|zF) ?_
    refine kG (wk (l:=[(1,(vl 42 8 jG (List.map kK bv))),(8,(.ref 0 0)),(13,(.ref 2 0)),(52,(vl 72 7 jO t)),(53,(jT t.length)),(54,(jT k))]) (b:=[(0,some y2),(2,some (xL bv.length 21 ((jU bv t k)++[(nJ bv (jU bv t k) (t.getD k tz))]) false)),(21,some (xT ((jU bv t k)++[(nJ bv (jU bv t k) (t.getD k tz))])))])) ?_
    refine kG (mW (S':=[(1,(vl 42 8 jG (List.map kK bv))),(8,(.ref 0 0)),(13,(.ref 2 0)),(52,(vl 72 7 jO t)),(53,(jT t.length)),(54,(jT k))]) (B':=[(0,some y2),(2,some (xL bv.length 3 ((jU bv t k)++[(nJ bv (jU bv t k) (t.getD k tz))]) false)),(3,some (xT ((jU bv t k)++[(nJ bv (jU bv t k) (t.getD k tz))])))]) 3 21 2) ?_
    refine jB<|kx [(65,(vb false))] [] (zM<|zE eM<|zE (kN fo113_4)<|zR (qJ fG)<|zZ) ?_
    refine qH ?_
    refine jE<|kx [(54,(jT (k+1)))] [] (zE (xD (k+1))<|zM<|zZ) ?_
    exact ⟨k+1,wk,(by have:=vT hlt0;omega),(by first|omega|(dsimp only;omega))⟩
  ·replace h2:=xC h2
   refine kL<|jB<|kd [(9,(jT 0))] [(0,some (bx (jI ((List.map qK (jU bv t k)).getD ((List.map qK (jU bv t k)).length-1) (gL.mk y3 [] [])))))] mo (wM<|wE eM<|wE (kN mX)<|wR (qJ sh88)<|wM<|wE eM<|wE (kN mX)<|wR (qJ sh88)<|wE (oLo el88)<|wE (oSb ((List.map qK (jU bv t k)).length-1))<|wE (oXO el88 ((List.map qK (jU bv t k)).length-1))<|wR (oLA dP ((List.map qK (jU bv t k)).length-1) (gL.mk y3 [] []))<|wT (qM dP)<|wM<|wZ) ?_
   refine jD ⟨_,(kS (cs:=(bx (jI ((List.map qK (jU bv t k)).getD ((List.map qK (jU bv t k)).length-1) (gL.mk y3 [] []))))) (d:=(jI ((List.map qK (jU bv t k)).getD ((List.map qK (jU bv t k)).length-1) (gL.mk y3 [] [])))) rfl rfl dP rfl rfl (.tmp (d:=(.val (.int .i64 (((0:Nat):Int))))) rfl .nil)),?_⟩
   first | rfl | exact absurd hlt (by omega)
theorem j_jetsF(t:List kC)(ht:nE 1048576 t)(bv:List R2)(hbx:∀ x∈bv,GL 1048576 x)(hfe:∃ k,JFailP bv t k):jS Tryz.prog 29 [(.sl 72 7 (List.map jO t)),(.sl 42 8 (List.map jG (List.map kK bv))),(.val (.int .i64 (((1:Nat):Int)))),(.val (.int .i64 (-1)))] (.tup [(jI (gL.mk (jM.mk kO kO) [] [])),(.val (.int .i64 (((14:Nat):Int))))]):=by
 obtain ⟨k,hk⟩:=hfe
 exact j_jetsF0 t ht bv hbx k hk
theorem j_jetsC(t:List kC)(ht:nE 1048576 t)(bv:List R2)(hbx:∀ x∈bv,GL 1048576 x)(hc:nB ((bv.length:Nat):Int) t≠0)(hbl:bv.length<=1000000):jS Tryz.prog 29 [(.sl 72 7 (List.map jO t)),(.sl 42 8 (List.map jG (List.map kK bv))),(.val (.int .i64 (((1:Nat):Int)))),(.val (.int .i64 (-1)))] (.tup [(jI (gL.mk (jM.mk kO kO) [] [])),(.val (.int .i64 ((((nB ((bv.length:Nat):Int) t):Nat):Int))))]):=by
 let y1:=(bx (jI (gL.mk (jM.mk kO kO) [] [])))
 refine uW Tryz.func29 ?_
 refine jB<|kx [(8,(.ref 0 0))] [(0,some y1)] (zN (uJ 0 iB zo46)<|zM<|zZ) ?_
 refine jB<|jB<|kx [(16,(vl 42 8 jG (List.map kK bv))),(17,(jT bv.length)),(18,(jT 0))] [] (zM<|zE (oLn zU bv.length)<|zM<|zZ) ?_
 refine jH<|kQ (α:=Nat) (fun i=>⟨[(0,(vl 72 7 jO t)),(1,(vl 42 8 jG (List.map kK bv))),(2,(jT 1)),(3,(vi (-1))),(8,(.ref 0 0)),(16,(vl 42 8 jG (List.map kK bv))),(17,(jT bv.length)),(18,(jT i))],[(0,some y1)]⟩) (fun i=>i<=bv.length) (fun i=>bv.length-i) 0 wk (Nat.zero_le _) ?_
 rintro i hi
 refine jB<|kx [(19,(vb (decide (((i:Nat):Int)<((bv.length:Nat):Int)))))] [] (zE yY<|zZ) ?_
 refine jB<|jF rfl (fun h1=>?_) (fun h1=>?_)
 ·replace h1:=vT h1
  refine jE<|jB<|jH<|jB<|kx [(11,(.ref 1 0))] [(1,some (bx (jG (kK (bv.getD i z2)))))] (zE (oXm zU kK i z2)<|zE (mT kF)<|zN (uJ 1 uK uO)<|zT (qM kF)<|zZ) ?_
  refine jB<|kx [(24,(vb false))] [] (zR (kR kF)<|zE (kB (by have h:=i_valid (kK (bv.getD i z2)) (gP (⟨qI (jP (jY (qC hbx (by decide) i).1) (by decide:1048576<=1048576)),qI (jP (jY (qC hbx (by decide) i).2.1) (by decide:1048576<=1048576))⟩));rw[show uP (kK (bv.getD i z2))=true from xY (qC hbx (by decide) i).2.2] at h;exact h))<|zE cC<|zZ) ?_
  refine qH ?_
  refine jE<|kx [(18,(jT (i+1)))] [] (zE (xD (i+1))<|zM<|zZ) ?_
  exact ⟨i+1,wk,(by omega),(by first|omega|(dsimp only;omega))⟩
 ·replace h1:=xC h1
  refine kL<|jB<|jB<|kx [(36,(vb false))] [] (zM<|zE (gU false yY)<|zM<|zM<|zE (gU false cI)<|zE yJ<|zM<|zM<|zE (gU false cI)<|zE yJ<|zZ) ?_
  refine qH ?_
  refine jE<|jB<|jB<|kx [(12,(jT (nB ((bv.length:Nat):Int) t)))] [] (zM<|zM<|zE (oLn zU bv.length)<|zE (kB (j_chk t ht ((bv.length:Nat):Int)))<|zM<|zZ) ?_
  refine jB<|kx [(43,(vb true))] [] (zM<|zE (gU true bD (by exact bne_iff_ne.2 (by have hx:=hc;omega)))<|zZ) ?_
  refine xQ ?_
  refine jB<|kx [(9,(jT (nB ((bv.length:Nat):Int) t)))] [(0,some y1)] (zE (bH pl46 iB zo46)<|zM<|zT (qM dP)<|zM<|zZ) ?_
  refine jD ⟨_,(kS (cs:=y1) (d:=(jI (gL.mk (jM.mk kO kO) [] []))) rfl rfl dP rfl rfl (.tmp (d:=(.val (.int .i64 ((((nB ((bv.length:Nat):Int) t):Nat):Int))))) rfl .nil)),?_⟩
  rfl
theorem u_vlR(rb:List jM)(hrb:∀ a∈rb,GOk 1048576 a)(hbl:rb.length<=1000000):jS Tryz.prog 26 [(.sl 42 8 (List.map jG rb))] (.val (.bool ((List.all rb uP)))):=by
 let y1:=(jM.mk kO kO)
 refine uW Tryz.func26 ?_
 refine jB<|kx [] [] (zM<|zZ) ?_
 refine jB<|jB<|kx [(5,(vl 42 8 jG rb)),(6,(jT rb.length)),(7,(jT 0))] [] (zM<|zE (yH zU)<|zM<|zZ) ?_
 refine jH<|kQ (α:=Nat) (fun i=>⟨[(5,(vl 42 8 jG rb)),(6,(jT rb.length)),(7,(jT i))],[]⟩) (fun i=>i<=rb.length/\(rb.take i).all uP=true) (fun i=>rb.length-i) 0 wk ⟨Nat.zero_le _,by simp⟩ ?_
 rintro i ⟨hi,hal⟩
 refine jB<|kx [(8,(vb (decide (((i:Nat):Int)<((rb.length:Nat):Int)))))] [] (zE yY<|zZ) ?_
 refine jB<|jF rfl (fun h1=>?_) (fun h1=>?_)
 ·replace h1:=vT h1
  refine jE<|jB<|jH<|jB<|kx [(4,(.ref 0 0))] [(0,some (bx (jG (rb.getD i y1))))] (zE (dA zU i y1)<|zE (mT kF)<|zN (uJ 0 uK uO)<|zT (qM kF)<|zZ) ?_
  refine jB<|kx [(13,(vb (!(uP (rb.getD i y1)))))] [] (zR (kR kF)<|zE (kB (h_valid (rb.getD i y1) (gP (gok_get hrb (show i<rb.length by omega)))))<|zE cC<|zZ) ?_
  refine jF rfl (fun h2=>?_) (fun h2=>?_)
  ·refine jB<|kx [(2,(vb false))] [] (zM<|zZ) ?_
   refine jD ⟨_,(.tmp (d:=(.val (.bool (false)))) rfl .nil),?_⟩
   rw[all_not (f:=uP) (l:=rb) (i:=i) (d:=(jM.mk kO kO)) (by omega) (by simpa using h2)];rfl
  ·refine jE<|kx [(7,(jT (i+1)))] [] (zE (xD (i+1))<|zM<|zZ) ?_
   exact ⟨(i+1),wk,⟨by omega,all_take (d:=(jM.mk kO kO)) (by omega) hal (by simpa using h2)⟩,(by first|omega|(dsimp only;omega))⟩
 ·replace h1:=xC h1
  have hie:i=rb.length:=by omega
  rw[hie,List.take_length] at hal
  refine kL<|jB<|kx [(2,(vb true))] [] (zM<|zZ) ?_
  refine jD ⟨_,(.tmp (d:=(.val (.bool (true)))) rfl .nil),?_⟩
  rw[hal];rfl
theorem u_vlB(bv:List R2)(hbx:∀ x∈bv,GL 1048576 x)(hbl:bv.length<=1000000):jS Tryz.prog 26 [(.sl 42 8 (List.map jG (List.map kK bv)))] (.val (.bool true)):=by
 have h:=u_vlR (List.map kK bv) (gok_map hbx) (by rw[List.length_map];exact hbl)
 rw[valid_map hbx] at h
 exact h
end Go.Proofs.YtckccjhflbljgaaGreatDoor
