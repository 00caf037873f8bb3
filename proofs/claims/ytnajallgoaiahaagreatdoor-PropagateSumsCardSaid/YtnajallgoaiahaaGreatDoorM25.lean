/- Part 25 of a proof: rules, plain facts, and functions walked. -/
import Derived.Test.YtnajallgoaiahaaGreatDoorM24
import Derived.Test.YtnajallgoaiahaaGreatDoorM23
set_option linter.all false
set_option maxRecDepth 4000
namespace Go.Proofs.YtnajallgoaiahaaGreatDoor
open Go.Fid
theorem by3:yI Tryz.prog 3=some 8:=by kernel_rfl
theorem cb130:callB Tryz.prog 130=true:=by kernel_rfl
theorem hH:vA Tryz.prog 23=some (83,7):=by kernel_rfl
theorem nP:vA Tryz.prog 102=some (3,1):=by kernel_rfl
theorem aV:qO Tryz.prog 83=some (true,7):=by kernel_rfl
theorem bE:zJ Tryz.prog 83=some [.int .i64 0,.int .i64 0,.int .i64 0,.bool false,.slice none 0 0,.bool false,.slice none 0 0]:=by kernel_rfl
theorem zo83:aJ [.int .i64 0,.int .i64 0,.int .i64 0,.bool false,.slice none 0 0,.bool false,.slice none 0 0] [.val (.int .i64 0),.val (.int .i64 0),.val (.int .i64 0),.val (.bool false),.sl 140 1 [],.val (.bool false),.sl 140 1 []]:=by simp [aJ,Value.oneCell']
theorem j_sizes(t:List kN)(ht:xK 1048576 t)(z:Int):jQ Tryz.prog 130 [(.sl 83 7 (List.map kK t)),(.val (.int .i64 (z)))] (.tup [(.sl 3 1 (List.map qA (tmL z t))),(.val (.int .i64 ((((mP z t):Nat):Int))))]):=by
 refine jG Tryz.func130 rfl cb130 rfl ?_
 show qK _ _ _ _ ⟨[(0,(vl 83 7 kK t)),(1,(vi z))],[]⟩
 refine jB<|kx [] [] (zE (dZ 3 1)<|zM<|zZ) ?_
 refine jB<|jB<|kx [(15,(vb (decide (z<0)||decide (64<z))))] [] ?_ ?_
 ·refine zM<|zE xT<|zE (oV (vb (decide (z<0))) (kV (by kernel_rfl)))<|?_
  rcases hb1:(decide (z<0)) with _ | _
  ·replace hb1:=vM hb1
   exact zM<|zE mT<|zE cL<|zZ
  ·replace hb1:=vI hb1
   exact zK<|zK<|zE xS<|zZ
 refine jF (b:=(decide (z<0)||decide (64<z))) rfl (fun h2=>?_) (fun h2=>?_)
 ·refine jB<|kx [(4,(vl 3 1 qA [])),(5,(jV 2))] [] (zE (dZ 3 1)<|zM<|zZ) ?_
  refine jE ⟨_,(.tmp (d:=(.sl 3 1 (List.map qA []))) rfl (.tmp (d:=(.val (.int .i64 (2)))) rfl .nil)),?_⟩
  have he:=zb_t (t:=t) h2
  rw[he.1,he.2];rfl
 ·have hz0:=h2
  refine jD<|jB<|jB<|kx [(18,(vb (((t.length:Nat):Int) == 0)))] [] (zM<|zE (vC hH)<|zE yQ<|zZ) ?_
  refine jF (b:=(((t.length:Nat):Int) == 0)) rfl (fun h3=>?_) (fun h3=>?_)
  ·replace h3:=eq_of_beq h3
   refine jB<|kx [(4,(vl 3 1 qA [])),(5,(jV 1))] [] (zE (dZ 3 1)<|zM<|zZ) ?_
   refine jE ⟨_,(.tmp (d:=(.sl 3 1 (List.map qA []))) rfl (.tmp (d:=(.val (.int .i64 (1)))) rfl .nil)),?_⟩
   have he:=tm_l0 hz0 (show t.length=0 by omega)
   rw[he.1,he.2];rfl
  ·replace h3:=ne_of_beq_false h3
   have h0:=h3
   refine jD<|jB<|jB<|kx [(21,(vb (decide (400<((t.length:Nat):Int)))))] [] (zM<|zE (vC hH)<|zE mT<|zZ) ?_
   refine jF (b:=decide (400<((t.length:Nat):Int))) rfl (fun h4=>?_) (fun h4=>?_)
   ·replace h4:=vI h4
    refine jB<|kx [(4,(vl 3 1 qA [])),(5,(jV 3))] [] (zE (dZ 3 1)<|zM<|zZ) ?_
    refine jE ⟨_,(.tmp (d:=(.sl 3 1 (List.map qA []))) rfl (.tmp (d:=(.val (.int .i64 (3)))) rfl .nil)),?_⟩
    have he:=tm_lb hz0 (show 400<t.length by omega)
    rw[he.1,he.2];rfl
   ·replace h4:=vM h4
    have h400:=h4
    refine jD<|jB<|kx [(6,(.own 0 3 1 t.length))] [(0,some (bm qA (List.replicate t.length 0)))] (zM<|zE (vC hH)<|zN (oMk 0 qA (0:Int) t.length t.length nP ze3 zo3 by3)<|zM<|zZ) ?_
    refine jB<|jB<|kx [(25,(vl 83 7 kK t)),(26,(jV t.length)),(27,(jV 0))] [] (zM<|zE (vC hH)<|zM<|zZ) ?_
    refine jH<|kL (α:=Nat × List Int) (fun (k,o)=>⟨[(1,(vi z)),(6,(.own 0 3 1 t.length)),(25,(vl 83 7 kK t)),(26,(jV t.length)),(27,(jV k))],[(0,some (bm qA o))]⟩) (fun (k,o)=>k≤t.length∧szI t k o∧eN z t k) (fun (k,o)=>t.length-k) (0,List.replicate t.length 0) wk ⟨Nat.zero_le _,szI_0,szUp_0 _ _⟩ ?_
    rintro ⟨k,o⟩ ⟨hk,ho,hu⟩
    have qU:=ho.1
    refine jB<|kx [(28,(vb (decide (((k:Nat):Int)<((t.length:Nat):Int)))))] [] (zE xT<|zZ) ?_
    refine jB<|jF rfl (fun h5=>?_) (fun h5=>?_)
    ·replace h5:=vI h5
     have hR:=tmr hz0 h5 h400 hu
     have hkl:=hR.kl
     refine jD<|jB<|jH<|jB<|kx [(7,(jV k)),(8,(.ref 1 0))] [(1,some (bx (kK (t.getD k tz))))] (zM<|zE (yL hH k (tz:kN))<|zE (nA aV)<|zH (uB 1 bE zo83)<|zM<|zT (qD aV)<|zZ) ?_
     refine jB<|kx [(9,(vi (vJ ((t.getD k tz).op))))] [] (zE (kZ yK)<|zR (qS eP)<|zE (jZ (j_kids ((t.getD k tz).op)))<|zM<|zZ) ?_
     refine jB<|jB<|kx [(72,(vb (((decide ((vJ ((t.getD k tz).op))<0)||(decide ((vJ ((t.getD k tz).op))<2)&&((t.getD k tz).b != 0)))||(((t.getD k tz).op == 0)&&(((t.getD k tz).a != 0)||!(kM ((t.getD k tz).n)))))||(((t.getD k tz).op != 0)&&!(unsB ((t.getD k tz).n))))))] [] ?_ ?_
     ·refine zM<|zE xT<|zE (oV (vb (decide ((vJ ((t.getD k tz).op))<0))) (kV (by kernel_rfl)))<|?_
      rcases hb6:(decide ((vJ ((t.getD k tz).op))<0)) with _ | _
      ·replace hb6:=vM hb6
       refine zM<|zE xT<|zE (oV (vb (decide ((vJ ((t.getD k tz).op))<2))) (kV (by kernel_rfl)))<|?_
       rcases hb7:(decide ((vJ ((t.getD k tz).op))<2)) with _ | _
       ·replace hb7:=vM hb7
        refine zK<|zK<|zK<|zE zG<|zE zG<|zM<|zE (kZ yK)<|zR (qS eP)<|zE yQ<|zE (oV (vb ((t.getD k tz).op == 0)) (kV (by kernel_rfl)))<|?_
        rcases hb8:((t.getD k tz).op == 0) with _ | _
        ·replace hb8:=ne_of_beq_false hb8
         refine zK<|zK<|zK<|zK<|zK<|zK<|zK<|zK<|zK<|zE zG<|zE zG<|zM<|zE (kZ yK)<|zR (qS eP)<|zE cM<|zE (oV (vb ((t.getD k tz).op != 0)) (kV (by kernel_rfl)))<|?_
         rcases hb9:((t.getD k tz).op != 0) with _ | _
         ·replace hb9:=bne_eq_false_iff_eq.1 hb9
          exact zK<|zK<|zK<|zK<|zE zG<|zE zG<|zZ
         ·replace hb9:=bne_iff_ne.1 hb9
          exact zE (kZ dR)<|zR (kO jS)<|zE (jZ (j_unset ((t.getD k tz).n) (qJ (t.getD k tz).n) (tn_get ht (show k<t.length by omega))))<|zE nF<|zE fM<|zE cL<|zZ
        ·replace hb8:=eq_of_beq hb8
         refine zE (kZ vZ)<|zR (qS hP)<|zE cM<|zE (oV (vb ((t.getD k tz).a != 0)) (kV (by kernel_rfl)))<|?_
         rcases hb10:((t.getD k tz).a != 0) with _ | _
         ·replace hb10:=bne_eq_false_iff_eq.1 hb10
          refine zE (kZ dR)<|zR (kO jS)<|zE (jZ (cA ((t.getD k tz).n) (qJ (t.getD k tz).n) (jR (tn_get ht (show k<t.length by omega)) (by decide))))<|zE nF<|zE cL<|zE fM<|zE cL<|zE (oV (vb (false||(true&&(false||!(kM ((t.getD k tz).n)))))) (kV (by kernel_rfl)))<|?_
          rcases hb11:(!(kM ((t.getD k tz).n))) with _ | _
          ·refine zE (kZ yK)<|zR (qS eP)<|zE cM<|zE (oV (vb ((t.getD k tz).op != 0)) (kV (by kernel_rfl)))<|?_
           rcases hb12:((t.getD k tz).op != 0) with _ | _
           ·replace hb12:=bne_eq_false_iff_eq.1 hb12
            exact zK<|zK<|zK<|zK<|zE zG<|zE zG<|zZ
           ·replace hb12:=bne_iff_ne.1 hb12
            exact zE (kZ dR)<|zR (kO jS)<|zE (jZ (j_unset ((t.getD k tz).n) (qJ (t.getD k tz).n) (tn_get ht (show k<t.length by omega))))<|zE nF<|zE fM<|zE cL<|zZ
          ·exact zK<|zK<|zK<|zK<|zK<|zK<|zK<|zK<|zK<|zE xS<|zZ
         ·replace hb10:=bne_iff_ne.1 hb10
          exact zK<|zK<|zK<|zK<|zE xS<|zE xS<|zE zG<|zM<|zK<|zK<|zK<|zK<|zK<|zK<|zK<|zK<|zK<|zE xS<|zZ
       ·replace hb7:=vI hb7
        refine zE (kZ yJ)<|zR (qS hP)<|zE cM<|zE fM<|zE cL<|zE (oV (vb (false||(true&&((t.getD k tz).b != 0)))) (kV (by kernel_rfl)))<|?_
        rcases hb13:((t.getD k tz).b != 0) with _ | _
        ·replace hb13:=bne_eq_false_iff_eq.1 hb13
         refine zE (kZ yK)<|zR (qS eP)<|zE yQ<|zE (oV (vb ((t.getD k tz).op == 0)) (kV (by kernel_rfl)))<|?_
         rcases hb14:((t.getD k tz).op == 0) with _ | _
         ·replace hb14:=ne_of_beq_false hb14
          refine zK<|zK<|zK<|zK<|zK<|zK<|zK<|zK<|zK<|zE zG<|zE zG<|zM<|zE (kZ yK)<|zR (qS eP)<|zE cM<|zE (oV (vb ((t.getD k tz).op != 0)) (kV (by kernel_rfl)))<|?_
          rcases hb15:((t.getD k tz).op != 0) with _ | _
          ·replace hb15:=bne_eq_false_iff_eq.1 hb15
           exact zK<|zK<|zK<|zK<|zE zG<|zE zG<|zZ
          ·replace hb15:=bne_iff_ne.1 hb15
           exact zE (kZ dR)<|zR (kO jS)<|zE (jZ (j_unset ((t.getD k tz).n) (qJ (t.getD k tz).n) (tn_get ht (show k<t.length by omega))))<|zE nF<|zE fM<|zE cL<|zZ
         ·replace hb14:=eq_of_beq hb14
          refine zE (kZ vZ)<|zR (qS hP)<|zE cM<|zE (oV (vb ((t.getD k tz).a != 0)) (kV (by kernel_rfl)))<|?_
          rcases hb16:((t.getD k tz).a != 0) with _ | _
          ·replace hb16:=bne_eq_false_iff_eq.1 hb16
           refine zE (kZ dR)<|zR (kO jS)<|zE (jZ (cA ((t.getD k tz).n) (qJ (t.getD k tz).n) (jR (tn_get ht (show k<t.length by omega)) (by decide))))<|zE nF<|zE cL<|zE fM<|zE cL<|zE (oV (vb (false||(true&&(false||!(kM ((t.getD k tz).n)))))) (kV (by kernel_rfl)))<|?_
           rcases hb17:(!(kM ((t.getD k tz).n))) with _ | _
           ·refine zE (kZ yK)<|zR (qS eP)<|zE cM<|zE (oV (vb ((t.getD k tz).op != 0)) (kV (by kernel_rfl)))<|?_
            rcases hb18:((t.getD k tz).op != 0) with _ | _
            ·replace hb18:=bne_eq_false_iff_eq.1 hb18
             exact zK<|zK<|zK<|zK<|zE zG<|zE zG<|zZ
            ·replace hb18:=bne_iff_ne.1 hb18
             exact zE (kZ dR)<|zR (kO jS)<|zE (jZ (j_unset ((t.getD k tz).n) (qJ (t.getD k tz).n) (tn_get ht (show k<t.length by omega))))<|zE nF<|zE fM<|zE cL<|zZ
           ·exact zK<|zK<|zK<|zK<|zK<|zK<|zK<|zK<|zK<|zE xS<|zZ
          ·replace hb16:=bne_iff_ne.1 hb16
           exact zK<|zK<|zK<|zK<|zE xS<|zE xS<|zE zG<|zM<|zK<|zK<|zK<|zK<|zK<|zK<|zK<|zK<|zK<|zE xS<|zZ
        ·replace hb13:=bne_iff_ne.1 hb13
         exact zK<|zK<|zK<|zK<|zK<|zK<|zK<|zK<|zK<|zK<|zK<|zK<|zK<|zK<|zE xS<|zM<|zK<|zK<|zK<|zK<|zK<|zK<|zK<|zK<|zK<|zE xS<|zZ
      ·replace hb6:=vI hb6
       exact zK<|zK<|zK<|zK<|zK<|zK<|zK<|zE xS<|zM<|zK<|zK<|zK<|zK<|zK<|zK<|zK<|zK<|zK<|zK<|zK<|zK<|zK<|zK<|zE xS<|zM<|zK<|zK<|zK<|zK<|zK<|zK<|zK<|zK<|zK<|zE xS<|zZ
     refine jF rfl (fun h19=>?_) (fun h19=>?_)
     ·refine jB<|kx [(4,(vl 3 1 qA [])),(5,(jV 1))] [] (zE (dZ 3 1)<|zM<|zZ) ?_
      refine jE ⟨_,(.tmp (d:=(.sl 3 1 (List.map qA []))) rfl (.tmp (d:=(.val (.int .i64 (1)))) rfl .nil)),?_⟩
      have he:=hR.bad h19
      rw[he.1,he.2];rfl
     ·have hB:=h19
      refine jD<|jB<|jB<|kx [(100,(vb ((decide (0<(vJ ((t.getD k tz).op)))&&(decide ((t.getD k tz).a<0)||decide (((k:Nat):Int)≤(t.getD k tz).a)))||(decide (1<(vJ ((t.getD k tz).op)))&&(decide ((t.getD k tz).b<0)||decide (((k:Nat):Int)≤(t.getD k tz).b))))))] [] ?_ ?_
      ·refine zM<|zE mT<|zE (oV (vb (decide (0<(vJ ((t.getD k tz).op))))) (kV (by kernel_rfl)))<|?_
       rcases hb20:(decide (0<(vJ ((t.getD k tz).op)))) with _ | _
       ·replace hb20:=vM hb20
        refine zK<|zK<|zK<|zK<|zK<|zK<|zK<|zK<|zK<|zE zG<|zM<|zM<|zE mT<|zE (oV (vb (decide (1<(vJ ((t.getD k tz).op))))) (kV (by kernel_rfl)))<|?_
        rcases hb21:(decide (1<(vJ ((t.getD k tz).op)))) with _ | _
        ·replace hb21:=vM hb21
         exact zK<|zK<|zK<|zK<|zK<|zK<|zK<|zK<|zK<|zE zG<|zE zG<|zZ
        ·replace hb21:=vI hb21
         refine zE (kZ yJ)<|zR (qS hP)<|zE xT<|zE (oV (vb (decide ((t.getD k tz).b<0))) (kV (by kernel_rfl)))<|?_
         rcases hb22:(decide ((t.getD k tz).b<0)) with _ | _
         ·replace hb22:=vM hb22
          exact zE (kZ yJ)<|zR (qS hP)<|zM<|zE oGe<|zE cL<|zE fM<|zE cL<|zZ
         ·replace hb22:=vI hb22
          exact zK<|zK<|zK<|zK<|zE xS<|zE xS<|zE zG<|zZ
       ·replace hb20:=vI hb20
        refine zE (kZ vZ)<|zR (qS hP)<|zE xT<|zE (oV (vb (decide ((t.getD k tz).a<0))) (kV (by kernel_rfl)))<|?_
        rcases hb23:(decide ((t.getD k tz).a<0)) with _ | _
        ·replace hb23:=vM hb23
         refine zE (kZ vZ)<|zR (qS hP)<|zM<|zE oGe<|zE cL<|zE fM<|zE (oV (vb (true&&(false||decide (((k:Nat):Int)≤(t.getD k tz).a)))) (kV (by kernel_rfl)))<|?_
         rcases hb24:(decide (((k:Nat):Int)≤(t.getD k tz).a)) with _ | _
         ·replace hb24:=vM hb24
          refine zM<|zE mT<|zE (oV (vb (decide (1<(vJ ((t.getD k tz).op))))) (kV (by kernel_rfl)))<|?_
          rcases hb25:(decide (1<(vJ ((t.getD k tz).op)))) with _ | _
          ·replace hb25:=vM hb25
           exact zK<|zK<|zK<|zK<|zK<|zK<|zK<|zK<|zK<|zE zG<|zE zG<|zZ
          ·replace hb25:=vI hb25
           refine zE (kZ yJ)<|zR (qS hP)<|zE xT<|zE (oV (vb (decide ((t.getD k tz).b<0))) (kV (by kernel_rfl)))<|?_
           rcases hb26:(decide ((t.getD k tz).b<0)) with _ | _
           ·replace hb26:=vM hb26
            exact zE (kZ yJ)<|zR (qS hP)<|zM<|zE oGe<|zE cL<|zE fM<|zE cL<|zZ
           ·replace hb26:=vI hb26
            exact zK<|zK<|zK<|zK<|zE xS<|zE xS<|zE zG<|zZ
         ·replace hb24:=vI hb24
          exact zK<|zK<|zK<|zK<|zK<|zK<|zK<|zK<|zK<|zK<|zK<|zK<|zK<|zE xS<|zZ
        ·replace hb23:=vI hb23
         exact zK<|zK<|zK<|zK<|zE xS<|zE xS<|zM<|zK<|zK<|zK<|zK<|zK<|zK<|zK<|zK<|zK<|zK<|zK<|zK<|zK<|zE xS<|zZ
      refine jF rfl (fun h27=>?_) (fun h27=>?_)
      ·refine jB<|kx [(4,(vl 3 1 qA [])),(5,(jV 5))] [] (zE (dZ 3 1)<|zM<|zZ) ?_
       refine jE ⟨_,(.tmp (d:=(.sl 3 1 (List.map qA []))) rfl (.tmp (d:=(.val (.int .i64 (5)))) rfl .nil)),?_⟩
       have he:=hR.ord hB h27
       rw[he.1,he.2];rfl
      ·have hO:=h27
       refine jD<|jB<|jB<|kx [(114,(vb (((t.getD k tz).op == 1)&&(decide ((t.getD k tz).a<0)||decide (z≤(t.getD k tz).a)))))] [] ?_ ?_
       ·refine zE (kZ yK)<|zR (qS eP)<|zE yQ<|zE (oV (vb ((t.getD k tz).op == 1)) (kV (by kernel_rfl)))<|?_
        rcases hb28:((t.getD k tz).op == 1) with _ | _
        ·replace hb28:=ne_of_beq_false hb28
         exact zK<|zK<|zK<|zK<|zK<|zK<|zK<|zK<|zK<|zE zG<|zZ
        ·replace hb28:=eq_of_beq hb28
         refine zE (kZ vZ)<|zR (qS hP)<|zE xT<|zE (oV (vb (decide ((t.getD k tz).a<0))) (kV (by kernel_rfl)))<|?_
         rcases hb29:(decide ((t.getD k tz).a<0)) with _ | _
         ·replace hb29:=vM hb29
          exact zE (kZ vZ)<|zR (qS hP)<|zM<|zE oGe<|zE cL<|zE fM<|zZ
         ·replace hb29:=vI hb29
          exact zK<|zK<|zK<|zK<|zE xS<|zE xS<|zZ
       refine jF rfl (fun h30=>?_) (fun h30=>?_)
       ·refine jB<|kx [(4,(vl 3 1 qA [])),(5,(jV 2))] [] (zE (dZ 3 1)<|zM<|zZ) ?_
        refine jE ⟨_,(.tmp (d:=(.sl 3 1 (List.map qA []))) rfl (.tmp (d:=(.val (.int .i64 (2)))) rfl .nil)),?_⟩
        have he:=hR.rng hB hO h30
        rw[he.1,he.2];rfl
       ·have hN:=ndr hR hB hO h30
        refine jD<|pwp_seqjoin (α:=Int) (fun v=>⟨[(1,(vi z)),(6,(.own 0 3 1 t.length)),(7,(jV k)),(25,(vl 83 7 kK t)),(26,(jV t.length)),(27,(jV k))],[(0,some (bm qA (o.set k v)))]⟩) (fun v=>v=eM (yY t k) (t.getD k tz)) ?_ ?_
        ·refine jB<|kx [(129,(vb ((vJ ((t.getD k tz).op)) == 0)))] [] (zM<|zE yQ<|zM<|zZ) ?_
         refine jF (b:=((vJ ((t.getD k tz).op)) == 0)) rfl (fun h31=>?_) (fun h31=>?_)
         ·replace h31:=eq_of_beq h31
          have hv:=szN_c (ss:=yY t k) h31
          refine kx [] [(0,some (bm qA (o.set k 1)))] (zM<|zM<|zE (aM nP k)<|zT (oSp hP k (1:Int))<|zZ) ?_
          exact ⟨1,wk,hv⟩
         ·replace h31:=ne_of_beq_false h31
          have hk0:=h31
          obtain ⟨a1,a2,a3,a4,a5⟩:=hN.a ho hk0
          refine jB<|kx [(135,(vb ((t.getD k tz).op == 6)))] [] (zE (kZ yK)<|zR (qS eP)<|zE yQ<|zM<|zZ) ?_
          refine jF (b:=((t.getD k tz).op == 6)) rfl (fun h32=>?_) (fun h32=>?_)
          ·replace h32:=eq_of_beq h32
           have hv:=szN_n hk0 h32 a3
           refine kx [] [(0,some (bm qA (o.set k (o.getD (((t.getD k tz).a).toNat) 0))))] (zM<|zM<|zM<|zE (kZ vZ)<|zR (qS hP)<|zE (aM nP (((t.getD k tz).a).toNat))<|zR (oLp hP (((t.getD k tz).a).toNat) (0:Int))<|zE (aM nP k)<|zT (oSp hP k (o.getD (((t.getD k tz).a).toNat) 0))<|zZ) ?_
           exact ⟨(o.getD (((t.getD k tz).a).toNat) 0),wk,hv⟩
          ·replace h32:=ne_of_beq_false h32
           have h6:=h32
           refine jB<|kx [(147,(vb ((t.getD k tz).op == 7)))] [] (zE (kZ yK)<|zR (qS eP)<|zE yQ<|zM<|zZ) ?_
           refine jF (b:=((t.getD k tz).op == 7)) rfl (fun h33=>?_) (fun h33=>?_)
           ·replace h33:=eq_of_beq h33
            have hv:=szN_q hk0 h33 a3
            refine kx [] [(0,some (bm qA (o.set k (2*(o.getD (((t.getD k tz).a).toNat) 0)))))] (zM<|zM<|zM<|zE (kZ vZ)<|zR (qS hP)<|zE (aM nP (((t.getD k tz).a).toNat))<|zR (oLp hP (((t.getD k tz).a).toNat) (0:Int))<|zE (zMl (2*(o.getD (((t.getD k tz).a).toNat) 0)))<|zE (aM nP k)<|zT (oSp hP k (2*(o.getD (((t.getD k tz).a).toNat) 0)))<|zZ) ?_
            exact ⟨(2*(o.getD (((t.getD k tz).a).toNat) 0)),wk,hv⟩
           ·replace h33:=ne_of_beq_false h33
            obtain ⟨b1,b2,b3,b4,b5⟩:=hN.b ho hk0 h6 h33
            have hv:=szN_b hk0 h6 h33 a3 b3
            refine kd [] [(0,some (bm qA (o.set k ((o.getD (((t.getD k tz).a).toNat) 0)+(o.getD (((t.getD k tz).b).toNat) 0)))))] mo (wM<|wM<|wM<|wE (kZ vZ)<|wR (qS hP)<|wE (aM nP (((t.getD k tz).a).toNat))<|wR (oLp hP (((t.getD k tz).a).toNat) (0:Int))<|wM<|wE (kZ yJ)<|wR (qS hP)<|wE (aM nP (((t.getD k tz).b).toNat))<|wR (oLp hP (((t.getD k tz).b).toNat) (0:Int))<|wE (zAd ((o.getD (((t.getD k tz).a).toNat) 0)+(o.getD (((t.getD k tz).b).toNat) 0)))<|wE (aM nP k)<|wT (oSp hP k ((o.getD (((t.getD k tz).a).toNat) 0)+(o.getD (((t.getD k tz).b).toNat) 0)))<|wZ) ?_
            exact ⟨((o.getD (((t.getD k tz).a).toNat) 0)+(o.getD (((t.getD k tz).b).toNat) 0)),wk,hv⟩
        ·rintro v hv
         have hsl:(o.set k v).length=o.length:=List.length_set
         refine jB<|kx [(164,(vb (decide (4096<((o.set k v).getD k 0)))))] [] (zM<|zM<|zE (aM nP k)<|zR (oLp hP k (0:Int))<|zE mT<|zZ) ?_
         refine jF (b:=decide (4096<((o.set k v).getD k 0))) rfl (fun h34=>?_) (fun h34=>?_)
         ·replace h34:=vI h34
          refine jB<|kx [(4,(vl 3 1 qA [])),(5,(jV 3))] [] (zE (dZ 3 1)<|zM<|zZ) ?_
          refine jE ⟨_,(.tmp (d:=(.sl 3 1 (List.map qA []))) rfl (.tmp (d:=(.val (.int .i64 (3)))) rfl .nil)),?_⟩
          have he:=hN.big hv (by omega) h34
          rw[he.1,he.2];rfl
         ·replace h34:=vM h34
          refine jD<|kx [(27,(jV (k+1)))] [] (zE (vY (k+1))<|zM<|zZ) ?_
          exact ⟨(k+1,o.set k v),wk,(hN.next hv ho (by omega)),(by first|omega|(dsimp only;omega))⟩
    ·replace h5:=vM h5
     refine kJ<|jB<|kx [(4,(.own 0 3 1 t.length)),(5,(jV 0))] [] (zM<|zM<|zM<|zZ) ?_
     refine kW (vX (t:=4) (k:=0) (es:=List.map qA o) rfl rfl (uS _ _ (fun _=>rfl)) (uT _ _ qU) (vS _ _ (fun _=>rfl) qU)) ?_
     refine jE ⟨_,(.tmp (d:=(.sl 3 1 (List.map qA o))) rfl (.tmp (d:=(.val (.int .i64 (0)))) rfl .nil)),?_⟩
     have he:=tm_end hz0 h0 h400 hk h5 ho hu
     rw[he.1,he.2];rfl
theorem cb67:callB Tryz.prog 67=true:=by kernel_rfl
theorem cb73:callB Tryz.prog 73=true:=by kernel_rfl
theorem fo161_4:xR Tryz.prog 161 4=some 4:=by kernel_rfl
theorem pl161:dT Tryz.prog 161=some [(0,1),(1,1),(2,1),(3,1),(4,1)]:=by kernel_rfl
theorem ze161:zJ Tryz.prog 161=some [.int .i64 0,.int .i64 0,.int .i64 0,.slice none 0 0,.bool false]:=by kernel_rfl
theorem zn161:aJ [.int .i64 0,.int .i64 0,.int .i64 0,.slice none 0 0,.bool false] [.val (.int .i64 0),.val (.int .i64 0),.val (.int .i64 0),.val (.slice none 0 0),.val (.bool false)]:=by simp [aJ,Value.oneCell']
def StepAt(bv:List R2)(L:List JV)(x:kN):Prop:=vO Tryz.prog 126 [(.ref 0 0),(.d (kK x)),(vl 61 8 jI (List.map kS bv))] [(0,some (xA bv.length 1 (L) false)),(1,some (xH (L)))] (.d (.tup [])) [(0,some (xA bv.length 18 (L++[nJ bv L x]) false)),(18,some (xH (L++[nJ bv L x])))]
theorem e_step(x:kN)(bv:List R2)(hbx:∀ x∈bv,GL 1048576 x)(L:List JV)(hst:StepAt bv L x):vO Tryz.prog 126 [(.ref 0 0),(.d (kK x)),(vl 61 8 jI (List.map kS bv))] [(0,some (xA bv.length 1 (L) false)),(1,some (xH (L)))] (.d (.tup [])) [(0,some (xA bv.length 18 (L++[nJ bv L x]) false)),(18,some (xH (L++[nJ bv L x])))]:=hst
structure fS (bv:List R2) (t:List kN):Prop where
 run:fH bv t
 st:∀ k,k<t.length→StepAt bv (jU bv t k) (t.getD k tz)
theorem runs_of{bv:List R2}{ts:List (List kN)}(h:∀ t∈ts,fS bv t):∀ t∈ts,fH bv t:=fun t ht=>(h t ht).run
theorem j_chk(t:List kN)(ht:xK 1048576 t)(z:Int):jQ Tryz.prog 73 [(.sl 83 7 (List.map kK t)),(.val (.int .i64 (z)))] (.val (.int .i64 ((((mP z t):Nat):Int)))):=by
 refine jG Tryz.func73 rfl cb73 rfl ?_
 show qK _ _ _ _ ⟨[(0,(vl 83 7 kK t)),(1,(vi z))],[]⟩
 refine jB<|kx [] [] (zM<|zZ) ?_
 refine jB<|kx [(6,(jV (mP z t)))] [] (zM<|zM<|zE (jZ (j_sizes t ht z))<|zM<|zE vT<|zE vT<|zM<|zM<|zZ) ?_
 refine jB<|kx [(4,(jV (mP z t)))] [] (zM<|zM<|zZ) ?_
 refine jE ⟨_,(.tmp (d:=(.val (.int .i64 ((((mP z t):Nat):Int))))) rfl .nil),?_⟩
 rfl
theorem j_jets(t:List kN)(ht:xK 1048576 t)(bv:List R2)(hbx:∀ x∈bv,GL 1048576 x)(hr:fS bv t):jQ Tryz.prog 67 [(.sl 83 7 (List.map kK t)),(.sl 61 8 (List.map jI (List.map kS bv))),(.val (.int .i64 (((1:Nat):Int)))),(.val (.int .i64 (-1)))] (.tup [(jJ (qF (xQ bv t))),(.val (.int .i64 (((0:Nat):Int))))]):=by
 have h0:=fF hr.run.c0
 let y3:=(jW.mk qM qM)
 let y2:=(bx (jJ (nE.mk y3 [] [])))
 let y1:=(bx (.agg [(.val (.int .i64 (((bv.length:Nat):Int)))),(.val (.int .i64 (((1:Nat):Int)))),(.val (.int .i64 (-1))),(.val (.slice none 0 0)),(.val (.bool (false)))]))
 refine jG Tryz.func67 rfl cb67 rfl ?_
 show qK _ _ _ _ ⟨[(0,(vl 83 7 kK t)),(1,(vl 61 8 jI (List.map kS bv))),(2,(jV 1)),(3,(vi (-1)))],[]⟩
 refine jB<|kx [(8,(.ref 0 0))] [(0,some y2)] (zN (uB 0 ze95 zo95)<|zM<|zZ) ?_
 refine jB<|jB<|kx [(16,(vl 61 8 jI (List.map kS bv))),(17,(jV bv.length)),(18,(jV 0))] [] (zM<|zE (oLn gN bv.length)<|zM<|zZ) ?_
 refine jH<|kL (α:=Nat) (fun i=>⟨[(0,(vl 83 7 kK t)),(1,(vl 61 8 jI (List.map kS bv))),(2,(jV 1)),(3,(vi (-1))),(8,(.ref 0 0)),(16,(vl 61 8 jI (List.map kS bv))),(17,(jV bv.length)),(18,(jV i))],[(0,some y2)]⟩) (fun i=>i≤bv.length) (fun i=>bv.length-i) 0 wk (Nat.zero_le _) ?_
 rintro i hi
 refine jB<|kx [(19,(vb (decide (((i:Nat):Int)<((bv.length:Nat):Int)))))] [] (zE xT<|zZ) ?_
 refine jB<|jF rfl (fun h1=>?_) (fun h1=>?_)
 ·replace h1:=vI h1
  refine jD<|jB<|jH<|jB<|kx [(11,(.ref 1 0))] [(1,some (bx (jI (kS (bv.getD i z2)))))] (zE (oXm gN kS i z2)<|zE (nA kF)<|zN (uB 1 uC uH)<|zT (qD kF)<|zZ) ?_
  refine jB<|kx [(24,(vb false))] [] (zR (kO kF)<|zE (jZ (by have h:=bJ (kS (bv.getD i z2)) (gW (⟨qL (jR (kC (vW hbx (by decide) i).1) (by decide:1048576≤1048576)),qL (jR (kC (vW hbx (by decide) i).2.1) (by decide:1048576≤1048576))⟩) (by decide));rw[show uG (kS (bv.getD i z2))=true from xX (vW hbx (by decide) i).2.2] at h;exact h))<|zE nF<|zZ) ?_
  refine kY ?_
  refine jD<|kx [(18,(jV (i+1)))] [] (zE (vY (i+1))<|zM<|zZ) ?_
  exact ⟨i+1,wk,(by omega),(by first|omega|(dsimp only;omega))⟩
 ·replace h1:=vM h1
  refine kJ<|jB<|jB<|kx [(36,(vb false))] [] (zM<|zE (xD false xT)<|zM<|zM<|zE (xD false mT)<|zE zG<|zM<|zM<|zE (xD false mT)<|zE zG<|zZ) ?_
  refine kY ?_
  refine jD<|jB<|jB<|kx [(12,(jV (mP ((bv.length:Nat):Int) t)))] [] (zM<|zM<|zE (oLn gN bv.length)<|zE (jZ (j_chk t ht ((bv.length:Nat):Int)))<|zM<|zZ) ?_
  refine jB<|kx [(43,(vb false))] [] (zM<|zE (xD false cM (by exact bne_eq_false_iff_eq.2 (by rw[show (mP ((bv.length:Nat):Int) t)=0 from hr.run.c0]<;>rfl)))<|zZ) ?_
  refine kY ?_
  refine jD<|jB<|kx [(13,(.ref 2 0))] [(2,some y1)] (zM<|zE (oLn gN bv.length)<|zM<|zM<|zE (bB pl161 ze161 zn161)<|zN (vN 2)<|zM<|zZ) ?_
  refine jB<|jB<|pwp_own 2 3 3 95 10 (cs:=y1) (h:=?_)
  refine kW (wk (l:=[(0,(vl 83 7 kK t)),(1,(vl 61 8 jI (List.map kS bv))),(8,(.ref 0 0)),(13,(.ref 2 0))]) (b:=[(0,some y2),(2,some [(jV bv.length),(jV 1),(vi (-1)),(.own 3 95 10 0),(vb false)]),(3,some (cC jJ []))])) ?_
  refine kx [(52,(vl 83 7 kK t)),(53,(jV t.length)),(54,(jV 0))] [] (zM<|zE (vC hH)<|zM<|zZ) ?_
  refine jH<|kL (α:=Nat) (fun k=>⟨[(1,(vl 61 8 jI (List.map kS bv))),(8,(.ref 0 0)),(13,(.ref 2 0)),(52,(vl 83 7 kK t)),(53,(jV t.length)),(54,(jV k))],[(0,some y2),(2,some (xA bv.length 3 (jU bv t k) false)),(3,some (xH (jU bv t k)))]⟩) (fun k=>k≤t.length) (fun k=>t.length-k) 0 wk (Nat.zero_le _) ?_
  rintro k hk
  have hju:=nU bv t k
  have hjm:(List.map qF (jU bv t k)).length=k:=by rw[List.length_map,hju]
  have hup:=hr.run.upto hk
  refine jB<|kx [(55,(vb (decide (((k:Nat):Int)<((t.length:Nat):Int)))))] [] (zE xT<|zZ) ?_
  refine jB<|jF rfl (fun h2=>?_) (fun h2=>?_)
  ·replace h2:=vI h2
   refine jD<|jB<|jH<|jB<|kx [(15,(.ref 4 0))] [(4,some (bx (kK (t.getD k tz))))] (zE (yL hH k (tz:kN))<|zE (nA aV)<|zH (uB 4 bE zo83)<|zT (qD aV)<|zZ) ?_
   refine jB<|kf [] [(2,some (xA bv.length 21 ((jU bv t k)++[(nJ bv (jU bv t k) (t.getD k tz))]) false)),(21,some (xH ((jU bv t k)++[(nJ bv (jU bv t k) (t.getD k tz))]))),(10,none),(11,none),(12,none),(13,none),(14,none),(15,none),(16,none),(17,none),(18,none),(19,none),(20,none),(3,none),(5,none),(6,none),(7,none),(8,none),(9,none)] (zM<|zR (kO aV)<|zM<|zSe (B2:=[(2,some (xA bv.length 3 (jU bv t k) false)),(3,some (xH (jU bv t k)))]) (B2':=[(2,some (xA bv.length 21 ((jU bv t k)++[(nJ bv (jU bv t k) (t.getD k tz))]) false)),(21,some (xH ((jU bv t k)++[(nJ bv (jU bv t k) (t.getD k tz))])))]) [2,3,5,6,7,8,9,10,11,12,13,14,15,16,17,18,19,20,21] [2] (e_step (t.getD k tz) bv hbx (jU bv t k) (hr.st k (show k<t.length by omega)))<|zF) ?_
   refine kW (wk (l:=[(1,(vl 61 8 jI (List.map kS bv))),(8,(.ref 0 0)),(13,(.ref 2 0)),(52,(vl 83 7 kK t)),(53,(jV t.length)),(54,(jV k))]) (b:=[(0,some y2),(2,some (xA bv.length 21 ((jU bv t k)++[(nJ bv (jU bv t k) (t.getD k tz))]) false)),(21,some (xH ((jU bv t k)++[(nJ bv (jU bv t k) (t.getD k tz))])))])) ?_
   refine kW (sim_ren2 (S':=[(1,(vl 61 8 jI (List.map kS bv))),(8,(.ref 0 0)),(13,(.ref 2 0)),(52,(vl 83 7 kK t)),(53,(jV t.length)),(54,(jV k))]) (B':=[(0,some y2),(2,some (xA bv.length 3 ((jU bv t k)++[(nJ bv (jU bv t k) (t.getD k tz))]) false)),(3,some (xH ((jU bv t k)++[(nJ bv (jU bv t k) (t.getD k tz))])))]) 3 21 2) ?_
   refine jB<|kx [(65,(vb false))] [] (zM<|zE oNc<|zE (kZ fo161_4)<|zR (qS aP)<|zZ) ?_
   refine kY ?_
   refine jD<|kx [(54,(jV (k+1)))] [] (zE (vY (k+1))<|zM<|zZ) ?_
   exact ⟨k+1,wk,(by omega),(by first|omega|(dsimp only;omega))⟩
  ·replace h2:=vM h2
   refine kJ<|jB<|kd [(9,(jV 0))] [(0,some (bx (jJ ((List.map qF (jU bv t k)).getD ((List.map qF (jU bv t k)).length-1) (nE.mk y3 [] [])))))] mo (wM<|wE oNc<|wE (kZ mZ)<|wR (qS sh143)<|wM<|wE oNc<|wE (kZ mZ)<|wR (qS sh143)<|wE (oLo el143)<|wE (oSb ((List.map qF (jU bv t k)).length-1))<|wE (oXO el143 ((List.map qF (jU bv t k)).length-1))<|wR (oLA eT ((List.map qF (jU bv t k)).length-1) (nE.mk y3 [] []))<|wT (qD eT)<|wM<|wZ) ?_
   refine jE ⟨_,(kP (cs:=(bx (jJ ((List.map qF (jU bv t k)).getD ((List.map qF (jU bv t k)).length-1) (nE.mk y3 [] []))))) (d:=(jJ ((List.map qF (jU bv t k)).getD ((List.map qF (jU bv t k)).length-1) (nE.mk y3 [] [])))) rfl rfl eT rfl rfl (.tmp (d:=(.val (.int .i64 (((0:Nat):Int))))) rfl .nil)),?_⟩
   obtain rfl:k=t.length:=by omega
   rw[List.length_map,hju,map_getD qF _ jz _ (by omega)]
   unfold xQ;rfl
theorem cb13:callB Tryz.prog 13=true:=by kernel_rfl
theorem cb68:callB Tryz.prog 68=true:=by kernel_rfl
theorem cb71:callB Tryz.prog 71=true:=by kernel_rfl
theorem cb74:callB Tryz.prog 74=true:=by kernel_rfl
theorem p_pts(xs:List Rat)(hx:∀ q∈xs,QL q 1048576)(hxb:xs.length≤1000000):jQ Tryz.prog 68 [(.sl 45 4 (List.map jK (List.map jP xs)))] (.sl 61 8 (List.map jI (List.map kS (List.map gD xs)))):=by
 refine jG Tryz.func68 rfl cb68 rfl ?_
 show qK _ _ _ _ ⟨[(0,(vl 45 4 jK (List.map jP xs)))],[]⟩
 refine jB<|kx [] [] (zE (dZ 61 8)<|zZ) ?_
 refine jB<|kx [(3,(.own 0 61 8 0))] [(0,some (cC jI []))] (zO 0 61 8<|zZ) ?_
 refine jB<|jB<|kx [(6,(vl 45 4 jK (List.map jP xs))),(7,(jV xs.length)),(8,(jV 0))] [] (zM<|zE (oLn uI xs.length)<|zM<|zZ) ?_
 refine jH<|kL (α:=Nat × List jW) (fun (i,o)=>⟨[(3,(.own 0 61 8 o.length)),(6,(vl 45 4 jK (List.map jP xs))),(7,(jV xs.length)),(8,(jV i))],[(0,some (cC jI o))]⟩) (fun (i,o)=>i≤xs.length∧o=(xs.take i).map (fun q=>kS (gD q))) (fun (i,o)=>xs.length-i) (0,[]) wk ⟨Nat.zero_le _,by simp⟩ ?_
 rintro ⟨i,o⟩ ⟨hi,ho⟩
 have hol:o.length=i:=by rw[ho,List.length_map,List.length_take];omega
 refine jB<|kx [(9,(vb (decide (((i:Nat):Int)<((xs.length:Nat):Int)))))] [] (zE xT<|zZ) ?_
 refine jB<|jF rfl (fun h1=>?_) (fun h1=>?_)
 ·replace h1:=vI h1
  refine jD<|jB<|jH<|jB<|kx [(5,(.ref 1 0))] [(1,some (bx (jK (jP (xs.getD i 0)))))] (zE (oXm uI jP i 0)<|zE (nA jS)<|zH (uB 1 uL uQ)<|zT (qD jS)<|zZ) ?_
  refine kf [(3,(.own 0 61 8 ((o++[(jW.mk (jP (xs.getD i 0)) (jP (xs.getD i 0)))]).length)))] [(0,some (cC jI (o++[(jW.mk (jP (xs.getD i 0)) (jP (xs.getD i 0)))])))] (zM<|zR (kO jS)<|zR (kO jS)<|zE (bB pl61 uC uH)<|zE (dG gN uC uH)<|zAS jI o [(jW.mk (jP (xs.getD i 0)) (jP (xs.getD i 0)))] rfl gN uC by61<|zM<|zF) ?_
  refine kx [(8,(jV (i+1)))] [] (zE (vY (i+1))<|zM<|zZ) ?_
  exact ⟨(i+1,o++[kS (gD (xs.getD i 0))]),wk,⟨by omega,by rw[ho];exact dJ (f:=fun q=>kS (gD q)) (by omega)⟩,(by first|omega|(dsimp only;omega))⟩
 ·replace h1:=vM h1
  refine kJ<|jB<|kx [(2,(.own 0 61 8 o.length))] [] (zM<|zM<|zZ) ?_
  refine kW (vX (t:=2) (k:=0) (es:=List.map jI o) rfl rfl (nD _ _ (fun _=>rfl)) (uT _ _ rfl) (mL jI o (fun _=>rfl) rfl)) ?_
  refine jE ⟨_,(.tmp (d:=(.sl 61 8 (List.map jI o))) rfl .nil),?_⟩
  rw[ho,show i=xs.length by omega,List.take_length,show List.map (fun q=>kS (gD q)) xs=List.map kS (List.map gD xs) from (by rw[List.map_map];rfl)];rfl
theorem p_val(bv:List R2)(hbx:∀ x∈bv,GL 1048576 x)(hbl:bv.length≤1000000):jQ Tryz.prog 71 [(.sl 61 8 (List.map jI (List.map kS bv)))] (.val (.bool (true))):=by
 refine jG Tryz.func71 rfl cb71 rfl ?_
 show qK _ _ _ _ ⟨[(0,(vl 61 8 jI (List.map kS bv)))],[]⟩
 refine jB<|kx [] [] (zM<|zZ) ?_
 refine jB<|jB<|kx [(5,(vl 61 8 jI (List.map kS bv))),(6,(jV bv.length)),(7,(jV 0))] [] (zM<|zE (oLn gN bv.length)<|zM<|zZ) ?_
 refine jH<|kL (α:=Nat) (fun i=>⟨[(5,(vl 61 8 jI (List.map kS bv))),(6,(jV bv.length)),(7,(jV i))],[]⟩) (fun i=>i≤bv.length) (fun i=>bv.length-i) 0 wk (Nat.zero_le _) ?_
 rintro i hi
 refine jB<|kx [(8,(vb (decide (((i:Nat):Int)<((bv.length:Nat):Int)))))] [] (zE xT<|zZ) ?_
 refine jB<|jF rfl (fun h1=>?_) (fun h1=>?_)
 ·replace h1:=vI h1
  refine jD<|jB<|jH<|jB<|kx [(4,(.ref 0 0))] [(0,some (bx (jI (kS (bv.getD i z2)))))] (zE (oXm gN kS i z2)<|zE (nA kF)<|zN (uB 0 uC uH)<|zT (qD kF)<|zZ) ?_
  refine jB<|kx [(13,(vb false))] [] (zR (kO kF)<|zE (jZ (by have h:=bJ (kS (bv.getD i z2)) (gW (⟨qL (jR (kC (vW hbx (by decide) i).1) (by decide:1048576≤1048576)),qL (jR (kC (vW hbx (by decide) i).2.1) (by decide:1048576≤1048576))⟩) (by decide));rw[show uG (kS (bv.getD i z2))=true from xX (vW hbx (by decide) i).2.2] at h;exact h))<|zE nF<|zZ) ?_
  refine kY ?_
  refine jD<|kx [(7,(jV (i+1)))] [] (zE (vY (i+1))<|zM<|zZ) ?_
  exact ⟨i+1,wk,(by omega),(by first|omega|(dsimp only;omega))⟩
 ·replace h1:=vM h1
  refine kJ<|jB<|kx [(2,(vb true))] [] (zM<|zZ) ?_
  refine jE ⟨_,(.tmp (d:=(.val (.bool (true)))) rfl .nil),?_⟩
  rfl
theorem p_fit(m:List (List jO))(hm:xG 1048576 m)(n:Nat)(hr:gQ m m.length (m.getD 0 []).length):jQ Tryz.prog 74 [(.sl 24 1 (List.map jL m)),(.val (.int .i64 (((n:Nat):Int))))] (.val (.int .i64 ((((mW m n):Nat):Int)))):=by
 have hmb:=hr.r64
 have hm1:=hr.r1
 have hm0:=hr.c64
 let y1:=qM
 refine jG Tryz.func74 rfl cb74 rfl ?_
 show qK _ _ _ _ ⟨[(0,(vl 24 1 jL m)),(1,(jV n))],[]⟩
 refine jB<|kx [] [] (zM<|zZ) ?_
 refine jB<|jB<|kx [(18,(vb ((((m.length:Nat):Int) != ((n:Nat):Int))||((((m.getD 0 []).length:Nat):Int) != ((n:Nat):Int)))))] [] ?_ ?_
 ·refine zM<|zE (vC mC)<|zM<|zE cM<|zE (oV (vb (((m.length:Nat):Int) != ((n:Nat):Int))) (kV (by kernel_rfl)))<|?_
  rcases hb1:(((m.length:Nat):Int) != ((n:Nat):Int)) with _ | _
  ·replace hb1:=bne_eq_false_iff_eq.1 hb1
   exact zM<|zE (yL mC 0 ([]:List (jO)))<|zE (yR yG)<|zE (vC uI (L:=(m.getD 0 [])))<|zM<|zE cM<|zE cL<|zZ
  ·replace hb1:=bne_iff_ne.1 hb1
   exact zK<|zK<|zK<|zK<|zK<|zK<|zE xS<|zZ
 refine jF rfl (fun h2=>?_) (fun h2=>?_)
 ·refine jB<|kx [(4,(jV 4))] [] (zM<|zZ) ?_
  refine jE ⟨_,(.tmp (d:=(.val (.int .i64 (4)))) rfl .nil),?_⟩
  rw[fit_1 h2];rfl
 ·have hs:=fit_0 h2
  refine jD<|jB<|jB<|kx [(20,(jV m.length)),(21,(jV 0))] [] (zM<|zE (vC mC)<|zM<|zZ) ?_
  refine jH<|kL (α:=Nat) (fun i=>⟨[(0,(vl 24 1 jL m)),(20,(jV m.length)),(21,(jV i))],[]⟩) (fun i=>i≤m.length∧symI m i) (fun i=>m.length-i) 0 wk ⟨Nat.zero_le _,symI_0 m⟩ ?_
  rintro i ⟨hi,hsy⟩
  refine jB<|kx [(22,(vb (decide (((i:Nat):Int)<((m.length:Nat):Int)))))] [] (zE xT<|zZ) ?_
  refine jB<|jF rfl (fun h3=>?_) (fun h3=>?_)
  ·replace h3:=vI h3
   have hri:=(hr.at (show i<m.length by omega)).1
   refine jD<|jB<|jH<|jB<|kx [(5,(jV i))] [] (zM<|zM<|zZ) ?_
   refine jB<|kx [(24,(jV i)),(25,(jV 0))] [] (zM<|zM<|zZ) ?_
   refine jH<|kL (α:=Nat) (fun j=>⟨[(0,(vl 24 1 jL m)),(5,(jV i)),(20,(jV m.length)),(21,(jV i)),(24,(jV i)),(25,(jV j))],[]⟩) (fun j=>j≤i∧∀ b,b<j→eqM m i b=true) (fun j=>i-j) 0 wk ⟨Nat.zero_le _,fun b hb=>by omega⟩ ?_
   rintro j ⟨hj,he⟩
   refine jB<|kx [(26,(vb (decide (((j:Nat):Int)<((i:Nat):Int)))))] [] (zE xT<|zZ) ?_
   refine jB<|jF rfl (fun h4=>?_) (fun h4=>?_)
   ·replace h4:=vI h4
    have hrj:=(hr.at (show j<m.length by omega)).1
    refine jD<|jB<|jH<|jB<|kx [(6,(jV j))] [] (zM<|zM<|zZ) ?_
    refine jB<|kd [(43,(vb ((yW (qJ ((m.getD i []).getD j y1)) (qJ ((m.getD j []).getD i y1))) != 0)))] [] mo (wM<|wM<|wE (yL mC i ([]:List (jO)))<|wE (yR yG)<|wM<|wE (yL uI j y1 (L:=(m.getD i [])))<|wE (nA jS)<|wM<|wM<|wE (yL mC j ([]:List (jO)))<|wE (yR yG)<|wM<|wE (yL uI i y1 (L:=(m.getD j [])))<|wE (nA jS)<|wE (jZ (cK ((m.getD i []).getD j y1) ((m.getD j []).getD i y1) (qJ ((m.getD i []).getD j y1)) (qJ ((m.getD j []).getD i y1)) (jR (xO (xM (d:=[]) hm (show i<m.length by omega)).1 (show j<(m.getD i []).length by omega)) (by decide)) (jR (xO (xM (d:=[]) hm (show j<m.length by omega)).1 (show i<(m.getD j []).length by omega)) (by decide))))<|wE cM<|wZ) ?_
    refine jF rfl (fun h5=>?_) (fun h5=>?_)
    ·replace h5:=bne_iff_ne.1 h5
     refine jB<|kx [(4,(jV 11))] [] (zM<|zZ) ?_
     refine jE ⟨_,(.tmp (d:=(.val (.int .i64 (11)))) rfl .nil),?_⟩
     rw[fit_11 hs (sym_no (i:=i) (j:=j) (by omega) (by omega) (eqm_f h5))];rfl
    ·replace h5:=bne_eq_false_iff_eq.1 h5
     refine jD<|kx [(25,(jV (j+1)))] [] (zE (vY (j+1))<|zM<|zZ) ?_
     exact ⟨j+1,wk,⟨by omega,eqm_s he h5⟩,(by first|omega|(dsimp only;omega))⟩
   ·replace h4:=vM h4
    have hsy2:=symI_s hsy (fun b hb=>he b (by omega))
    refine kJ<|kx [(21,(jV (i+1)))] [] (zE (vY (i+1))<|zM<|zZ) ?_
    exact ⟨i+1,wk,⟨by omega,hsy2⟩,(by first|omega|(dsimp only;omega))⟩
  ·replace h3:=vM h3
   refine kJ<|jB<|kx [(4,(jV 0))] [] (zM<|zZ) ?_
   refine jE ⟨_,(.tmp (d:=(.val (.int .i64 (0)))) rfl .nil),?_⟩
   obtain rfl:i=m.length:=by omega
   rw[fit_ok hs (sym_yes hsy)];rfl
theorem p_grd(t:List kN)(ht:xK 1048576 t)(xs:List Rat)(hx:∀ q∈xs,QL q 1048576)(hr:fS (List.map gD xs) t)(hxb:xs.length≤1000000):jQ Tryz.prog 13 [(.sl 83 7 (List.map kK t)),(.sl 45 4 (List.map jK (List.map jP xs)))] (.tup [(.sl 45 4 (List.map jK (qW xs t))),(.val (.int .i64 (((0:Nat):Int))))]):=by
 have hgl:(xQ (List.map gD xs) t).g.length=xs.length:=by rw[hr.run.last.2.2,List.length_map]
 refine jG Tryz.func13 rfl cb13 rfl ?_
 show qK _ _ _ _ ⟨[(0,(vl 83 7 kK t)),(1,(vl 45 4 jK (List.map jP xs)))],[]⟩
 refine jB<|kx [] [] (zE (dZ 45 4)<|zM<|zZ) ?_
 refine jB<|kx [(6,(.ref 0 0)),(7,(jV 0))] [(0,some (bx (jJ (qF (xQ (List.map gD xs) t)))))] (zM<|zM<|zE (jZ (p_pts xs hx hxb))<|zE (jZ (j_jets t ht (List.map gD xs) (pts_gl hx) hr))<|zM<|zE vT<|zE vT<|zN (uB 0 ze95 zo95)<|zT (qD eT)<|zM<|zZ) ?_
 refine jB<|jB<|kx [(19,(vb false))] [] (zM<|zE (xD false cM)<|zZ) ?_
 refine kY ?_
 refine jD<|jB<|kx [(8,(.own 1 45 4 0))] [(1,some (cC jK []))] (zO 1 45 4<|zZ) ?_
 refine jB<|jB<|kx [(22,(vl 61 8 jI (List.map kS ((xQ (List.map gD xs) t).g)))),(23,(jV (((xQ (List.map gD xs) t).g).length))),(24,(jV 0))] [] (zE (kZ nW)<|zR (oQr (.sl 61 8 (List.map jI (List.map kS ((xQ (List.map gD xs) t).g)))) (.sl 61 8 (List.map jI (List.map kS ((xQ (List.map gD xs) t).g)))) (qS bQ) (by exact rfl))<|zE (oLn gN (((xQ (List.map gD xs) t).g).length))<|zM<|zZ) ?_
 refine jH<|kL (α:=Nat × List jO) (fun (i,o)=>⟨[(8,(.own 1 45 4 o.length)),(22,(vl 61 8 jI (List.map kS ((xQ (List.map gD xs) t).g)))),(23,(jV (((xQ (List.map gD xs) t).g).length))),(24,(jV i))],[(1,some (cC jK o))]⟩) (fun (i,o)=>i≤(xQ (List.map gD xs) t).g.length∧o=((xQ (List.map gD xs) t).g.take i).map (fun y=>jP y.1)) (fun (i,o)=>(xQ (List.map gD xs) t).g.length-i) (0,[]) wk ⟨Nat.zero_le _,by simp⟩ ?_
 rintro ⟨i,o⟩ ⟨hi,ho⟩
 have hol:o.length=i:=by rw[ho,List.length_map,List.length_take];omega
 refine jB<|kx [(25,(vb (decide (((i:Nat):Int)<((((xQ (List.map gD xs) t).g).length:Nat):Int)))))] [] (zE xT<|zZ) ?_
 refine jB<|jF rfl (fun h1=>?_) (fun h1=>?_)
 ·replace h1:=vI h1
  refine jD<|jB<|jH<|jB<|kx [(10,(.ref 2 0))] [(2,some (bx (jI (kS (((xQ (List.map gD xs) t).g).getD i z2)))))] (zE (oXm gN kS i z2)<|zE (nA kF)<|zH (uB 2 uC uH)<|zT (qD kF)<|zZ) ?_
  refine kf [(8,(.own 1 45 4 ((o++[(jP ((((xQ (List.map gD xs) t).g).getD i z2).1))]).length)))] [(1,some (cC jK (o++[(jP ((((xQ (List.map gD xs) t).g).getD i z2).1))])))] (zM<|zE (kZ zB)<|zR (kO jS)<|zE (dG uI uL uQ)<|zAS jK o [(jP ((((xQ (List.map gD xs) t).g).getD i z2).1))] rfl uI uL by45<|zM<|zF) ?_
  refine kx [(24,(jV (i+1)))] [] (zE (vY (i+1))<|zM<|zZ) ?_
  exact ⟨(i+1,o++[jP ((xQ (List.map gD xs) t).g.getD i z2).1]),wk,⟨by omega,by rw[ho];exact gr_step (by omega)⟩,(by first|omega|(dsimp only;omega))⟩
 ·replace h1:=vM h1
  refine kJ<|jB<|kx [(4,(.own 1 45 4 o.length)),(5,(jV 0))] [] (zM<|zM<|zM<|zZ) ?_
  refine kW (vX (t:=4) (k:=1) (es:=List.map jK o) rfl rfl (nD _ _ (fun _=>rfl)) (uT _ _ rfl) (mL jK o (fun _=>rfl) rfl)) ?_
  refine jE ⟨_,(.tmp (d:=(.sl 45 4 (List.map jK o))) rfl (.tmp (d:=(.val (.int .i64 (((0:Nat):Int))))) rfl .nil)),?_⟩
  rw[ho,show i=(xQ (List.map gD xs) t).g.length by omega,List.take_length];rfl
end Go.Proofs.YtnajallgoaiahaaGreatDoor
