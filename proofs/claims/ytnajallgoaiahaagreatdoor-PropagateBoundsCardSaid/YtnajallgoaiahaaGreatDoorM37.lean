/- Part 37 of a proof: rules, plain facts, and functions walked. -/
import Derived.Test.YtnajallgoaiahaaGreatDoorM35
import Derived.Test.YtnajallgoaiahaaGreatDoorM36
import Derived.Test.YtnajallgoaiahaaGreatDoorM34
import Derived.Test.YtnajallgoaiahaaGreatDoorM30
set_option linter.all false
set_option maxRecDepth 4000
namespace Go.Proofs.YtnajallgoaiahaaGreatDoor
open Go.Fid
theorem oA(t:List qB)(ht:zL 1048576 t)(rb:List jL)(hrb:∀ a∈rb,GOk 140737488355328 a)(htl:t.length<=140737488355328)(hbl:rb.length<=140737488355328):jO Tryz.prog 48 [(.sl 83 7 (List.map kS t)),(.sl 61 8 (List.map jF rb))] (.val (.bool ((lM rb t)))):=by
 have htl9:=tmL_le 8 t
 refine qY Tryz.func48 ?_
 refine jB<|kx [] [] (zM<|zZ) ?_
 refine jB<|kx [(5,(jS 1))] [] (zM<|zZ) ?_
 refine jB<|jB<|kx [(17,(vl 61 8 jF rb)),(18,(jS rb.length)),(19,(jS 0))] [] (zM<|zE (vP uA)<|zM<|zZ) ?_
 refine jH<|kF (α:=Nat × Nat) (fun (i,m)=>⟨[(0,(vl 83 7 kS t)),(5,(jS m)),(17,(vl 61 8 jF rb)),(18,(jS rb.length)),(19,(jS i))],[]⟩) (fun (i,m)=>i<=rb.length/\m=ltI rb i/\m<=281474976710656) (fun (i,m)=>rb.length-i) (0,1) wk ⟨Nat.zero_le _,rfl,by decide⟩ ?_
 rintro ⟨i,m⟩ ⟨hi,hm,hmb⟩
 refine jB<|kx [(20,(vb (decide (((i:Nat):Int)<((rb.length:Nat):Int)))))] [] (zE xK<|zZ) ?_
 refine jB<|jG rfl (fun h1=>?_) (fun h1=>?_)
 ·replace h1:=uV h1
  have hel:=end_len (bE (d:=(jL.mk kH kH)) hrb (show i<rb.length by omega)) (by decide)
  refine jC<|jB<|jH<|jB<|kx [(7,(.ref 0 0))] [(0,some (bx (jF (rb.getD i (jL.mk kH kH)))))] (zE (yE uA i (jL.mk kH kH))<|zE (yJ jP)<|zN (qR 0 qJ qL)<|zT (qA jP)<|zZ) ?_
  refine jB<|kx [(27,(vl 45 4 jJ [(rb.getD i (jL.mk kH kH)).lo,(rb.getD i (jL.mk kH kH)).hi])),(28,(jS 2)),(29,(jS 0))] [] (zE (kV uO)<|zR (kJ jQ)<|zE (kV uT)<|zR (kJ jQ)<|zE (eE uQ qZ uG)<|zE (fO uQ 2)<|zM<|zZ) ?_
  refine jH<|kF (α:=Nat × Nat) (fun (j,k)=>⟨[(0,(vl 83 7 kS t)),(5,(jS k)),(17,(vl 61 8 jF rb)),(18,(jS rb.length)),(19,(jS i)),(27,(vl 45 4 jJ [(rb.getD i (jL.mk kH kH)).lo,(rb.getD i (jL.mk kH kH)).hi])),(28,(jS 2)),(29,(jS j))],[]⟩) (fun (j,k)=>j<=2/\k=endJ [(rb.getD i (jL.mk kH kH)).lo,(rb.getD i (jL.mk kH kH)).hi] m j/\k<=281474976710656) (fun (j,k)=>2-j) (0,m) wk ⟨Nat.zero_le _,rfl,hmb⟩ ?_
  rintro ⟨j,k⟩ ⟨hj,hk,hkb⟩
  refine jB<|kx [(30,(vb (decide (((j:Nat):Int)<((2:Nat):Int)))))] [] (zE xK<|zZ) ?_
  refine jB<|jG rfl (fun h2=>?_) (fun h2=>?_)
  ·replace h2:=uV h2
   obtain ⟨he1,he2⟩:([(rb.getD i (jL.mk kH kH)).lo,(rb.getD i (jL.mk kH kH)).hi].getD j kH).num.gs.length<=140737488355328/\([(rb.getD i (jL.mk kH kH)).lo,(rb.getD i (jL.mk kH kH)).hi].getD j kH).den.gs.length<=140737488355328:=hel j
   have hll:([(rb.getD i (jL.mk kH kH)).lo,(rb.getD i (jL.mk kH kH)).hi]).length=2:=rfl
   refine jC<|jB<|jH<|jB<|kx [(9,(.ref 1 0))] [(1,some (bx (jJ ([(rb.getD i (jL.mk kH kH)).lo,(rb.getD i (jL.mk kH kH)).hi].getD j kH))))] (zE (yE uQ j kH (L:=[(rb.getD i (jL.mk kH kH)).lo,(rb.getD i (jL.mk kH kH)).hi]))<|zE (yJ jQ)<|zN (qR 1 qZ uG)<|zT (qA jQ)<|zZ) ?_
   refine jB<|kd [(10,(vl 140 1 jD ((([(rb.getD i (jL.mk kH kH)).lo,(rb.getD i (jL.mk kH kH)).hi].getD j kH).num).gs))),(11,(vl 140 1 jD ((([(rb.getD i (jL.mk kH kH)).lo,(rb.getD i (jL.mk kH kH)).hi].getD j kH).den).gs)))] [] mo (wE (kV zB)<|wE (kV vR)<|wR (uE yD)<|wE (kV xI)<|wE (kV vR)<|wR (uE yD)<|wM<|wM<|wZ) ?_
   refine jB<|kx [(57,(vb ((decide (1<((((([(rb.getD i (jL.mk kH kH)).lo,(rb.getD i (jL.mk kH kH)).hi].getD j kH).num).gs).length:Nat):Int))||decide (1<((((([(rb.getD i (jL.mk kH kH)).lo,(rb.getD i (jL.mk kH kH)).hi].getD j kH).den).gs).length:Nat):Int)))||((((((([(rb.getD i (jL.mk kH kH)).lo,(rb.getD i (jL.mk kH kH)).hi].getD j kH).den).gs).length:Nat):Int) == 1)&&decide (1<(((((([(rb.getD i (jL.mk kH kH)).lo,(rb.getD i (jL.mk kH kH)).hi].getD j kH).den).gs).getD 0 0):Nat):Int))))))] [] ?_ ?_
   ·refine zM<|zE (vP kO (L:=(([(rb.getD i (jL.mk kH kH)).lo,(rb.getD i (jL.mk kH kH)).hi].getD j kH).num).gs))<|zE hH<|zE (oV (vb (decide (1<((((([(rb.getD i (jL.mk kH kH)).lo,(rb.getD i (jL.mk kH kH)).hi].getD j kH).num).gs).length:Nat):Int)))) (qC (by kernel_rfl)))<|?_
    rcases hb3:(decide (1<((((([(rb.getD i (jL.mk kH kH)).lo,(rb.getD i (jL.mk kH kH)).hi].getD j kH).num).gs).length:Nat):Int))) with _ | _
    ·replace hb3:=vB hb3
     refine zM<|zE (vP kO (L:=(([(rb.getD i (jL.mk kH kH)).lo,(rb.getD i (jL.mk kH kH)).hi].getD j kH).den).gs))<|zE hH<|zE dG<|zE (oV (vb (false||decide (1<((((([(rb.getD i (jL.mk kH kH)).lo,(rb.getD i (jL.mk kH kH)).hi].getD j kH).den).gs).length:Nat):Int)))) (qC (by kernel_rfl)))<|?_
     rcases hb4:(false||decide (1<((((([(rb.getD i (jL.mk kH kH)).lo,(rb.getD i (jL.mk kH kH)).hi].getD j kH).den).gs).length:Nat):Int))) with _ | _
     ·replace hb4:=vB (p:=(1<((((([(rb.getD i (jL.mk kH kH)).lo,(rb.getD i (jL.mk kH kH)).hi].getD j kH).den).gs).length:Nat):Int))) hb4
      refine zM<|zE (vP kO (L:=(([(rb.getD i (jL.mk kH kH)).lo,(rb.getD i (jL.mk kH kH)).hi].getD j kH).den).gs))<|zE xR<|zE (oV (vb (((((([(rb.getD i (jL.mk kH kH)).lo,(rb.getD i (jL.mk kH kH)).hi].getD j kH).den).gs).length:Nat):Int) == 1)) (qC (by kernel_rfl)))<|?_
      rcases hb5:(((((([(rb.getD i (jL.mk kH kH)).lo,(rb.getD i (jL.mk kH kH)).hi].getD j kH).den).gs).length:Nat):Int) == 1) with _ | _
      ·replace hb5:=ne_of_beq_false hb5
       exact zK<|zK<|zK<|zK<|zE xQ<|zE xQ<|zZ
      ·replace hb5:=eq_of_beq hb5
       exact zM<|zE (yE kO 0 (0:Nat) (L:=(([(rb.getD i (jL.mk kH kH)).lo,(rb.getD i (jL.mk kH kH)).hi].getD j kH).den).gs))<|zE (yV uB)<|zE hH<|zE fR<|zE dG<|zZ
     ·replace hb4:=uV (p:=(1<((((([(rb.getD i (jL.mk kH kH)).lo,(rb.getD i (jL.mk kH kH)).hi].getD j kH).den).gs).length:Nat):Int))) hb4
      exact zK<|zK<|zK<|zK<|zK<|zK<|zK<|zK<|zK<|zE yR<|zZ
    ·replace hb3:=uV hb3
     exact zK<|zK<|zK<|zE yR<|zM<|zK<|zK<|zK<|zK<|zK<|zK<|zK<|zK<|zK<|zE yR<|zZ
   refine jG rfl (fun h6=>?_) (fun h6=>?_)
   ·refine kx [(5,(jS (max k (((([(rb.getD i (jL.mk kH kH)).lo,(rb.getD i (jL.mk kH kH)).hi].getD j kH).num).gs).length+((([(rb.getD i (jL.mk kH kH)).lo,(rb.getD i (jL.mk kH kH)).hi].getD j kH).den).gs).length))))] [] (zM<|zM<|zE (vP kO (L:=(([(rb.getD i (jL.mk kH kH)).lo,(rb.getD i (jL.mk kH kH)).hi].getD j kH).num).gs))<|zM<|zE (vP kO (L:=(([(rb.getD i (jL.mk kH kH)).lo,(rb.getD i (jL.mk kH kH)).hi].getD j kH).den).gs))<|zE (vO (((([(rb.getD i (jL.mk kH kH)).lo,(rb.getD i (jL.mk kH kH)).hi].getD j kH).num).gs).length+((([(rb.getD i (jL.mk kH kH)).lo,(rb.getD i (jL.mk kH kH)).hi].getD j kH).den).gs).length))<|zE (oMx (max k (((([(rb.getD i (jL.mk kH kH)).lo,(rb.getD i (jL.mk kH kH)).hi].getD j kH).num).gs).length+((([(rb.getD i (jL.mk kH kH)).lo,(rb.getD i (jL.mk kH kH)).hi].getD j kH).den).gs).length)))<|zM<|zZ) ?_
    refine kx [(29,(jS (j+1)))] [] (zE (vO (j+1))<|zM<|zZ) ?_
    exact ⟨(j+1,max k (([(rb.getD i (jL.mk kH kH)).lo,(rb.getD i (jL.mk kH kH)).hi].getD j kH).num.gs.length+([(rb.getD i (jL.mk kH kH)).lo,(rb.getD i (jL.mk kH kH)).hi].getD j kH).den.gs.length)),wk,⟨by omega,by rw[hk];exact (endM_y h6).symm,by rw[<- endM_y h6];exact endM_le (n:=140737488355328) he1 he2 hkb⟩,(by first|omega|(dsimp only;omega))⟩
   ·refine jC<|kx [(29,(jS (j+1)))] [] (zE (vO (j+1))<|zM<|zZ) ?_
    exact ⟨(j+1,k),wk,⟨by omega,by rw[hk];exact (endM_n h6).symm,hkb⟩,(by first|omega|(dsimp only;omega))⟩
  ·replace h2:=vB h2
   refine kD<|kx [(19,(jS (i+1)))] [] (zE (vO (i+1))<|zM<|zZ) ?_
   exact ⟨(i+1,k),wk,⟨by omega,by rw[hk,show j=2 by omega,hm];rfl,hkb⟩,(by first|omega|(dsimp only;omega))⟩
 ·replace h1:=vB h1
  refine kD<|jB<|kx [(12,(vl 3 1 qK (eG 8 t))),(13,(jS (gK 8 t)))] [] (zM<|zE (jV (u_sizes t ht 8))<|zM<|zE uX<|zE uX<|zM<|zM<|zZ) ?_
  refine jB<|kx [(14,(jS 0))] [] (zM<|zZ) ?_
  refine jB<|jB<|kx [(72,(vl 3 1 qK (eG 8 t))),(73,(jS ((eG 8 t).length))),(74,(jS 0))] [] (zM<|zE (vP nW (L:=(eG 8 t)))<|zM<|zZ) ?_
  refine jH<|kF (α:=Nat × Int) (fun (j,z)=>⟨[(5,(jS m)),(13,(jS (gK 8 t))),(14,(vi z)),(72,(vl 3 1 qK (eG 8 t))),(73,(jS ((eG 8 t).length))),(74,(jS j))],[]⟩) (fun (j,z)=>j<=(eG 8 t).length/\z=sumW (eG 8 t) j) (fun (j,z)=>(eG 8 t).length-j) (0,0) wk ⟨Nat.zero_le _,rfl⟩ ?_
  rintro ⟨j,z⟩ ⟨hj,hz⟩
  refine jB<|kx [(75,(vb (decide (((j:Nat):Int)<(((eG 8 t).length:Nat):Int)))))] [] (zE xK<|zZ) ?_
  refine jB<|jG rfl (fun h7=>?_) (fun h7=>?_)
  ·replace h7:=uV h7
   refine jC<|jB<|jH<|jB<|kx [(16,(vi ((eG 8 t).getD j 0)))] [] (zE (yE nW j (0:Int) (L:=(eG 8 t)))<|zE (yV cL)<|zM<|zZ) ?_
   refine kx [(14,(vi (IntKind.i64.wrap (z+(eG 8 t).getD j 0))))] [] (zM<|zM<|zE (zAd (IntKind.i64.wrap (z+(eG 8 t).getD j 0)) (hr:=by exact rfl))<|zM<|zZ) ?_
   refine kx [(74,(jS (j+1)))] [] (zE (vO (j+1))<|zM<|zZ) ?_
   exact ⟨(j+1,IntKind.i64.wrap (z+(eG 8 t).getD j 0)),wk,⟨by omega,by rw[hz];rfl⟩,(by first|omega|(dsimp only;omega))⟩
  ·replace h7:=vB h7
   refine kD<|jB<|kx [(4,(vb (((((m:Nat):Int) == 1)||((((gK 8 t):Nat):Int) != 0))||decide ((IntKind.i64.wrap (((m:Nat):Int)*z))<=80))))] [] ?_ ?_
   ·refine zM<|zE xR<|zE (oV (vb (((m:Nat):Int) == 1)) (qC (by kernel_rfl)))<|?_
    rcases hb8:(((m:Nat):Int) == 1) with _ | _
    ·replace hb8:=ne_of_beq_false hb8
     refine zM<|zE mF<|zE dG<|zE (oV (vb (false||((((gK 8 t):Nat):Int) != 0))) (qC (by kernel_rfl)))<|?_
     rcases hb9:(false||((((gK 8 t):Nat):Int) != 0)) with _ | _
     ·exact zM<|zM<|zE (zMl (IntKind.i64.wrap (((m:Nat):Int)*z)) (hr:=by exact rfl))<|zE oLe<|zE dG<|zM<|zZ
     ·exact zK<|zK<|zK<|zK<|zE yR<|zM<|zZ
    ·replace hb8:=eq_of_beq hb8
     exact zK<|zK<|zE yR<|zM<|zK<|zK<|zK<|zK<|zE yR<|zM<|zZ
   refine jE ⟨_,(.tmp (d:=(.val (.bool ((((((m:Nat):Int) == 1)||((((gK 8 t):Nat):Int) != 0))||decide ((IntKind.i64.wrap (((m:Nat):Int)*z))<=80)))))) rfl .nil),?_⟩
   rw[hz,show j=(eG 8 t).length by omega,hm,show i=rb.length by omega];rfl
theorem p_whole(zs:List Int)(hz:∀ z∈zs,-9223372036854775808<=z/\z<=9223372036854775807:=by decide)(hzl:zs.length<=1000000:=by decide):jO Tryz.prog 65 [(.sl 3 1 (List.map qK zs))] (.sl 45 4 (List.map jJ (List.map jN (zQ zs)))):=by
 refine qY Tryz.func65 ?_
 refine jB<|kx [] [] (zE (aZ 45 4)<|zZ) ?_
 refine jB<|kx [(3,(.own 0 45 4 0))] [(0,some (yU jJ []))] (zN (oBo 0 uQ qZ uG)<|zM<|zZ) ?_
 refine jB<|jB<|kx [(7,(vl 3 1 qK zs)),(8,(jS zs.length)),(9,(jS 0))] [] (zM<|zE (vP nW)<|zM<|zZ) ?_
 refine jH<|kF (α:=Nat × List jR) (fun (i,o)=>⟨[(3,(.own 0 45 4 o.length)),(7,(vl 3 1 qK zs)),(8,(jS zs.length)),(9,(jS i))],[(0,some (yU jJ o))]⟩) (fun (i,o)=>i<=zs.length/\o=(zs.take i).map (fun z:Int=>jN (z:Rat))) (fun (i,o)=>zs.length-i) (0,[]) wk ⟨Nat.zero_le _,by simp⟩ ?_
 rintro ⟨i,o⟩ ⟨hi,ho⟩
 have hol:o.length=i:=by rw[ho,List.length_map,List.length_take];omega
 refine jB<|kx [(10,(vb (decide (((i:Nat):Int)<((zs.length:Nat):Int)))))] [] (zE xK<|zZ) ?_
 refine jB<|jG rfl (fun h1=>?_) (fun h1=>?_)
 ·replace h1:=uV h1
  have hzi:=zs_at hz (show i<zs.length by omega)
  refine jC<|jB<|jH<|jB<|kx [(5,(vi (zs.getD i 0)))] [] (zE (yE nW i (0:Int))<|zE (yV cL)<|zM<|zZ) ?_
  refine kf [(3,(.own 0 45 4 ((o++[(jN ((zs.getD i 0:Int):Rat))]).length)))] [(0,some (yU jJ (o++[(jN ((zs.getD i 0:Int):Rat))])))] (zM<|zM<|zE (jV (nR (zs.getD i 0) (by omega) (by omega)))<|zE (eE uQ qZ uG)<|zAS jJ o [(jN ((zs.getD i 0:Int):Rat))] rfl uQ qZ by45<|zM<|zF) ?_
  refine kx [(9,(jS (i+1)))] [] (zE (vO (i+1))<|zM<|zZ) ?_
  exact ⟨(i+1,o++[jN ((zs.getD i 0:Int):Rat)]),wk,⟨by omega,by rw[ho];exact iT (f:=fun z:Int=>jN (z:Rat)) (by omega)⟩,(by first|omega|(dsimp only;omega))⟩
 ·replace h1:=vB h1
  refine kD<|jB<|kx [(2,(.own 0 45 4 o.length))] [] (zM<|zM<|zZ) ?_
  refine kU (xC (t:=2) (k:=0) (es:=List.map jJ o) rfl rfl (gC _ _ (fun _=>rfl)) (uW _ _ rfl) (hZ jJ o (fun _=>rfl) rfl)) ?_
  refine jE ⟨_,(.tmp (d:=(.sl 45 4 (List.map jJ o))) rfl .nil),?_⟩
  rw[ho,show i=zs.length by omega,List.take_length,show List.map (fun z:Int=>jN (z:Rat)) zs=List.map jN (zQ zs) from (by unfold zQ;rw[List.map_map];rfl)];rfl
theorem kT_runP:JRunP (List.map yX kX) kT:=run_p (pts_gl kX_ql) kT_ok kT_run
theorem eU :jO Tryz.prog 11 [] (.val (.bool (true))):=by
 let y4:=kH
 let y3:=(jL.mk (jN ((1:Int):Rat)) (jN ((1:Int):Rat)))
 let y2:=(jL.mk (jN ((9:Int):Rat)) (jN ((9:Int):Rat)))
 let y1:=[(qB.mk ((1:Nat):Int) 0 0 y4),(qB.mk ((1:Nat):Int) ((1:Nat):Int) 0 y4),(qB.mk ((4:Nat):Int) 0 ((1:Nat):Int) y4)]
 refine qY Tryz.func11 ?_
 refine jB<|kx [] [] (zM<|zZ) ?_
 refine jB<|kx [(1,(vl 83 7 kS y1))] [] (zE (eD pl83 ze83 zo83)<|zE (eD pl83 ze83 zo83)<|zE (eD pl83 ze83 zo83)<|zE (eE iW ze83 zo83)<|zM<|zZ) ?_
 refine jB<|kx [(2,(.ref 0 0)),(3,(jS 0))] [(0,some (bx (jJ (jN ((25:Int):Rat)))))] (zE (oQd (.sl 83 7 (List.map kS y1)) (.sl 83 7 (List.map kS kT)) (oV (vl 83 7 kS y1) (qC (by kernel_rfl))) (by exact rfl))<|zE (eE nW ze3 zo3)<|zE (oQd (.sl 45 4 (List.map jJ (List.map jN (zQ [((2:Nat):Int),((3:Nat):Int)])))) (.sl 45 4 (List.map jJ (List.map jN kX))) (jV (p_whole [((2:Nat):Int),((3:Nat):Int)])) (by exact rfl))<|zE (eE nW ze3 zo3)<|zE (jV (p_whole [((1:Nat):Int),((0:Nat):Int)]))<|zE (eE nW ze3 zo3)<|zE (jV (p_whole [((0:Nat):Int),((4:Nat):Int)]))<|zE (oQd (.sl 24 1 (List.map jT [(List.map jN (zQ [((1:Nat):Int),((0:Nat):Int)])),(List.map jN (zQ [((0:Nat):Int),((4:Nat):Int)]))])) (.sl 24 1 (List.map jT kQ)) (eE yH ze24 zo24) (by exact rfl))<|zE (jV (p_var kT kT_ok kX kX_ql kQ kQ_ok kT_runP kQ_rect kQ_fit rfl))<|zM<|zE (oQd (jJ (jN (fG kQ (gP kX kT) (gP kX kT)))) (jJ (jN ((25:Int):Rat))) uX (by exact (by rw[kVar];rfl)))<|zE uX<|zN (qR 0 qZ uG)<|zT (qA jQ)<|zM<|zZ) ?_
 refine jB<|kx [(4,(.ref 1 0)),(5,(.ref 2 0)),(6,(jS 0))] [(1,some (bx (jF y2))),(2,some (bx (jF y3)))] (zE (eE nW ze3 zo3)<|zE (jV (p_whole [((5:Nat):Int),((4:Nat):Int)]))<|zE (eE nW ze3 zo3)<|zE (jV (p_whole [((4:Nat):Int),((5:Nat):Int)]))<|zE (oQd (.sl 24 1 (List.map jT [(List.map jN (zQ [((5:Nat):Int),((4:Nat):Int)])),(List.map jN (zQ [((4:Nat):Int),((5:Nat):Int)]))])) (.sl 24 1 (List.map jT kE)) (eE yH ze24 zo24) (by exact rfl))<|zE (jV (p_ellO kE kE_ok 0 1 3 (by omega) kE_chk kE_fit (by decide) (by decide) (by omega)))<|zM<|zE (oQd (jF (jL.mk (jN (((Rat.divInt 1 2)*((qS ((kE.getD 0 []).getD 0 y4))+(qS ((kE.getD 1 []).getD 1 y4))))+(Rat.divInt (uD (cE (((((Rat.divInt 1 2)*((qS ((kE.getD 0 []).getD 0 y4))-(qS ((kE.getD 1 []).getD 1 y4))))*((Rat.divInt 1 2)*((qS ((kE.getD 0 []).getD 0 y4))-(qS ((kE.getD 1 []).getD 1 y4)))))+((qS ((kE.getD 0 []).getD 1 y4))*(qS ((kE.getD 0 []).getD 1 y4))))*(((((2 ^ 3:Nat):Int):Int):Rat)*((((2 ^ 3:Nat):Int):Int):Rat))))) ((2 ^ 3:Nat):Int)))) (jN (((Rat.divInt 1 2)*((qS ((kE.getD 0 []).getD 0 y4))+(qS ((kE.getD 1 []).getD 1 y4))))+(Rat.divInt (upI (((((Rat.divInt 1 2)*((qS ((kE.getD 0 []).getD 0 y4))-(qS ((kE.getD 1 []).getD 1 y4))))*((Rat.divInt 1 2)*((qS ((kE.getD 0 []).getD 0 y4))-(qS ((kE.getD 1 []).getD 1 y4)))))+((qS ((kE.getD 0 []).getD 1 y4))*(qS ((kE.getD 0 []).getD 1 y4))))*(((((2 ^ 3:Nat):Int):Int):Rat)*((((2 ^ 3:Nat):Int):Int):Rat)))) ((2 ^ 3:Nat):Int)))))) (jF y2) uX (by exact (by rw[kEa,kEb,kEc];exact congrArg jF (rng2 (by decide +kernel) (by decide +kernel)))))<|zE (oQd (jF (jL.mk (jN (((Rat.divInt 1 2)*((qS ((kE.getD 0 []).getD 0 y4))+(qS ((kE.getD 1 []).getD 1 y4))))-(Rat.divInt (upI (((((Rat.divInt 1 2)*((qS ((kE.getD 0 []).getD 0 y4))-(qS ((kE.getD 1 []).getD 1 y4))))*((Rat.divInt 1 2)*((qS ((kE.getD 0 []).getD 0 y4))-(qS ((kE.getD 1 []).getD 1 y4)))))+((qS ((kE.getD 0 []).getD 1 y4))*(qS ((kE.getD 0 []).getD 1 y4))))*(((((2 ^ 3:Nat):Int):Int):Rat)*((((2 ^ 3:Nat):Int):Int):Rat)))) ((2 ^ 3:Nat):Int)))) (jN (((Rat.divInt 1 2)*((qS ((kE.getD 0 []).getD 0 y4))+(qS ((kE.getD 1 []).getD 1 y4))))-(Rat.divInt (uD (cE (((((Rat.divInt 1 2)*((qS ((kE.getD 0 []).getD 0 y4))-(qS ((kE.getD 1 []).getD 1 y4))))*((Rat.divInt 1 2)*((qS ((kE.getD 0 []).getD 0 y4))-(qS ((kE.getD 1 []).getD 1 y4)))))+((qS ((kE.getD 0 []).getD 1 y4))*(qS ((kE.getD 0 []).getD 1 y4))))*(((((2 ^ 3:Nat):Int):Int):Rat)*((((2 ^ 3:Nat):Int):Int):Rat))))) ((2 ^ 3:Nat):Int)))))) (jF y3) uX (by exact (by rw[kEa,kEb,kEc];exact congrArg jF (rng2 (by decide +kernel) (by decide +kernel)))))<|zE uX<|zN (qR 1 qJ qL)<|zN (qR 2 qJ qL)<|zT (qA jP)<|zT (qA jP)<|zM<|zZ) ?_
 refine jB<|kx [(7,(vb true)),(8,(jS 0))] [] (zE (jV (nR 10))<|zE (jV (nR 4))<|zE (jV (nR 4))<|zE (jV (nR 14))<|zE (jV (p_cov (jN ((10:Int):Rat)) ((10:Int):Rat) (jM (jW (vS (z:=10) (vF)))) (jN ((4:Int):Rat)) ((4:Int):Rat) (jM (jW (vS (z:=4) (vF)))) (jN ((4:Int):Rat)) ((4:Int):Rat) (jM (jW (vS (z:=4) (vF)))) (jN ((14:Int):Rat)) ((14:Int):Rat) (jM (jW (vS (z:=14) (vF)))) (by decide +kernel) (by decide +kernel) (by decide +kernel) (by decide +kernel) (by decide +kernel) (by decide +kernel)))<|zM<|zE (oQd (.val (.bool ((decide ((yB ((((14:Int):Rat)-((10:Int):Rat))*(((14:Int):Rat)-((10:Int):Rat))) (((4:Int):Rat)*((4:Int):Rat)))<=0))))) (.val (.bool (true))) uX (by exact (congrArg (fun b=>jZ.val (.bool b)) (by decide +kernel))))<|zE uX<|zM<|zM<|zZ) ?_
 refine jB<|kd [(0,(vb true))] [] mo (wM<|wE (uP true xR)<|wM<|wM<|wE (uP true xR)<|wE yR<|wM<|wM<|wE (uP true xR)<|wE yR<|wM<|wM<|wE yR<|wM<|wR (kJ jQ)<|wE (jV (nR 25))<|wE (uP true (jV (by have h:=g_same (jN ((25:Int):Rat)) (jN ((25:Int):Rat)) ((25:Int):Rat) ((25:Int):Rat) (jM (jW (vS (xS)))) (jM (jW (vS (z:=25) (vF))));rw[sameR_of] at h;exact h)) (by exact decide_eq_true rfl))<|wE yR<|wM<|wR (kJ jP)<|wE (jV (h_whole 9 9))<|wE (jV (by have h:=h_same y2 y2 (zU (⟨qQ (jM (jW (vS (xS))) (by decide:3<=3)),qQ (jM (jW (vS (xS))) (by decide:3<=3))⟩)) (zU (⟨qQ (jM (jW (vS (z:=9) (vF))) (by decide:1<=1)),qQ (jM (jW (vS (z:=9) (vF))) (by decide:1<=1))⟩));rw[show sameG y2 y2=true from by rw[sameG_of];kernel_rfl] at h;exact h))<|wE yR<|wM<|wR (kJ jP)<|wE (jV (h_whole 1 1))<|wE (jV (by have h:=h_same y3 y3 (zU (⟨qQ (jM (jW (vS (xS))) (by decide:3<=3)),qQ (jM (jW (vS (xS))) (by decide:3<=3))⟩)) (zU (⟨qQ (jM (jW (vS (z:=1) (vF))) (by decide:1<=1)),qQ (jM (jW (vS (z:=1) (vF))) (by decide:1<=1))⟩));rw[show sameG y3 y3=true from by rw[sameG_of];kernel_rfl] at h;exact h))<|wE yR<|wM<|wZ) ?_
 refine jE ⟨_,(.tmp (d:=(.val (.bool (true)))) rfl .nil),?_⟩
 rfl
structure RPt where
 q:List (List jR)
 part:A4 Nat
def gO(x:RPt):jZ:=.agg [.sl 24 1 (x.q.map jT),.val (.int .u8 ((x.part.a0:Nat):Int)),.val (.int .u8 ((x.part.a1:Nat):Int)),.val (.int .u8 ((x.part.a2:Nat):Int)),.val (.int .u8 ((x.part.a3:Nat):Int))]
theorem bH(n:Nat):xN n []:=⟨fun a h=>absurd h (List.not_mem_nil),Nat.zero_le _⟩
def dgG(a:jL):Bool:=decide (xP a.lo<=6)&&decide (xP a.hi<=6)
theorem dg_i{a:jL}(h:xP a.lo<=6/\xP a.hi<=6):(¬ 6<((xP a.lo:Nat):Int))/\¬ 6<((xP a.hi:Nat):Int):=by omega
theorem dgG_y{a:jL}(h:(decide (6<((xP a.lo:Nat):Int))||decide (6<((xP a.hi:Nat):Int)))=false):dgG a=true:=by
 rw[Bool.or_eq_false_iff,decide_eq_false_iff_not,decide_eq_false_iff_not] at h
 unfold dgG;rw[Bool.and_eq_true,decide_eq_true_eq,decide_eq_true_eq];omega
theorem bo_at{bv:List R2}{v:Nat->Nat}{t:List qB}(hb:∀ y∈bv,GL 6 y)(h8:bv.length<=8)(hf:dK 16 10 t=true)(hT:mR bv t)(hd:dzT bv t=false):mR (List.map yX (cJ bv v)) t/\dzT (List.map yX (cJ bv v)) t=false:=by
 have hl:(List.map yX (cJ bv v)).length=bv.length:=by rw[List.length_map,nC]
 refine ⟨tame_of hf (by decide) (by omega) (gpt_24 (ptsG_ql hb)) (by rw[hl];exact hT.c0),in_dz hl (ptsG_in hb) (tm_0 hT.c0).2.2.2.2 hd⟩
theorem bo_has{bv:List R2}{v:Nat->Nat}{t:List qB}{q:List (List jR)}(hb:∀ y∈bv,GL 6 y)(hT:mR bv t)(hT2:mR (List.map yX (cJ bv v)) t)(hd:dzT bv t=false)(hd2:dzT (List.map yX (cJ bv v)) t=false)(hr:yL q q.length bv.length)(hf:nP q bv.length=0) :
  hasQ (bdR q (kA bv t).g).1 (bdR q (kA bv t).g).2 (fG q (gP (cJ bv v) t) (gP (cJ bv v) t))=true:=by
 have hl:(List.map yX (cJ bv v)).length=bv.length:=by rw[List.length_map,nC]
 obtain ⟨hfq,_,hsy⟩:=fit_of hf
 have h1:=(tm_0 hT.c0)
 have hin:=in_last hl (ptsG_in hb) (tm_0 hT.c0).2.2.2.2 hd (by omega)
 have hj:=(xW hT hd).run
 have hj2:=(xW hT2 hd2).run
 refine gV.2 (bd_cov hr hfq hsy (by rw[fY hj2,nC]) hj.last.2.2 fun i hi=>?_)
 have e:=hin.2 i
 have eq:qS ((gP (cJ bv v) t).getD i zr)=((kA (List.map yX (cJ bv v)) t).g.getD i z2).1:=by
  unfold gP
  rw[cP (fun y=>jN y.1) _ z2 zr (by rw[hj2.last.2.2,hl];exact hi),yY]
 rw[eq]
 exact ⟨e.1,Rat.le_trans e.2.1 e.2.2⟩
end Go.Proofs.YtnajallgoaiahaaGreatDoor
