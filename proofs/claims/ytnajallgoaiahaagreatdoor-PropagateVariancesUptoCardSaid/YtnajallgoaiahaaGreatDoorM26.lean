/- Part 26 of a proof: rules, plain facts, and functions walked. -/
import Derived.Test.YtnajallgoaiahaaGreatDoorM25
import Derived.Test.YtnajallgoaiahaaGreatDoorM24
set_option linter.all false
set_option maxRecDepth 4000
namespace Go.Proofs.YtnajallgoaiahaaGreatDoor
open Go.Fid
theorem by3:yL Tryz.prog 3=some 8:=by kernel_rfl
theorem cb130:callB Tryz.prog 130=true:=by kernel_rfl
theorem iB:vM Tryz.prog 23=some (83,7):=by kernel_rfl
theorem mC:vM Tryz.prog 102=some (3,1):=by kernel_rfl
theorem bM:qW Tryz.prog 83=some (true,7):=by kernel_rfl
theorem ze83:yE Tryz.prog 83=some [.int .i64 0,.int .i64 0,.int .i64 0,.bool false,.slice none 0 0,.bool false,.slice none 0 0]:=by kernel_rfl
theorem zo83:bA [.int .i64 0,.int .i64 0,.int .i64 0,.bool false,.slice none 0 0,.bool false,.slice none 0 0] [.val (.int .i64 0),.val (.int .i64 0),.val (.int .i64 0),.val (.bool false),.sl 140 1 [],.val (.bool false),.sl 140 1 []]:=by simp [bA,Value.oneCell']
theorem j_sizes(t:List kV)(ht:vR 1048576 t)(z:Int):jR Tryz.prog 130 [(.sl 83 7 (List.map kM t)),(.val (.int .i64 (z)))] (.tup [(.sl 3 1 (List.map qI (tmL z t))),(.val (.int .i64 ((((nY z t):Nat):Int))))]):=by
 refine jJ Tryz.func130 rfl cb130 rfl ?_
 show qG _ _ _ _ ⟨[(0,(vl 83 7 kM t)),(1,(vi z))],[]⟩
 refine jB<|kx [] [] (zE (dD 3 1)<|zM<|zZ) ?_
 refine jB<|jB<|kx [(15,(vb (decide (z<0)||decide (64<z))))] [] ?_ ?_
 ·refine zM<|zE xK<|zE (oV (vb (decide (z<0))) (qC (by kernel_rfl)))<|?_
  rcases hb1:(decide (z<0)) with _ | _
  ·replace hb1:=uR hb1
   exact zM<|zE mL<|zE eP<|zZ
  ·replace hb1:=uP hb1
   exact zK<|zK<|zE gR<|zZ
 refine jG (b:=(decide (z<0)||decide (64<z))) rfl (fun h2=>?_) (fun h2=>?_)
 ·refine jB<|kx [(4,(vl 3 1 qI [])),(5,(jP 2))] [] (zE (dD 3 1)<|zM<|zZ) ?_
  refine jE ⟨_,(.tmp (d:=(.sl 3 1 (List.map qI []))) rfl (.tmp (d:=(.val (.int .i64 (2)))) rfl .nil)),?_⟩
  have he:=zb_t (t:=t) h2
  rw[he.1,he.2];rfl
 ·have hz0:=h2
  refine jD<|jB<|jB<|kx [(18,(vb (((t.length:Nat):Int) == 0)))] [] (zM<|zE (uW iB)<|zE xR<|zZ) ?_
  refine jG (b:=(((t.length:Nat):Int) == 0)) rfl (fun h3=>?_) (fun h3=>?_)
  ·replace h3:=eq_of_beq h3
   refine jB<|kx [(4,(vl 3 1 qI [])),(5,(jP 1))] [] (zE (dD 3 1)<|zM<|zZ) ?_
   refine jE ⟨_,(.tmp (d:=(.sl 3 1 (List.map qI []))) rfl (.tmp (d:=(.val (.int .i64 (1)))) rfl .nil)),?_⟩
   have he:=tm_l0 hz0 (show t.length=0 by omega)
   rw[he.1,he.2];rfl
  ·replace h3:=ne_of_beq_false h3
   have h0:=h3
   refine jD<|jB<|jB<|kx [(21,(vb (decide (400<((t.length:Nat):Int)))))] [] (zM<|zE (uW iB)<|zE mL<|zZ) ?_
   refine jG (b:=decide (400<((t.length:Nat):Int))) rfl (fun h4=>?_) (fun h4=>?_)
   ·replace h4:=uP h4
    refine jB<|kx [(4,(vl 3 1 qI [])),(5,(jP 3))] [] (zE (dD 3 1)<|zM<|zZ) ?_
    refine jE ⟨_,(.tmp (d:=(.sl 3 1 (List.map qI []))) rfl (.tmp (d:=(.val (.int .i64 (3)))) rfl .nil)),?_⟩
    have he:=tm_lb hz0 (show 400<t.length by omega)
    rw[he.1,he.2];rfl
   ·replace h4:=uR h4
    have h400:=h4
    refine jD<|jB<|kx [(6,(.own 0 3 1 t.length))] [(0,some (bm qI (List.replicate t.length 0)))] (zM<|zE (uW iB)<|zN (oMk 0 qI (0:Int) t.length t.length mC ze3 zo3 by3)<|zM<|zZ) ?_
    refine jB<|jB<|kx [(25,(vl 83 7 kM t)),(26,(jP t.length)),(27,(jP 0))] [] (zM<|zE (uW iB)<|zM<|zZ) ?_
    refine jH<|kA (α:=Nat × List Int) (fun (k,o)=>⟨[(1,(vi z)),(6,(.own 0 3 1 t.length)),(25,(vl 83 7 kM t)),(26,(jP t.length)),(27,(jP k))],[(0,some (bm qI o))]⟩) (fun (k,o)=>k≤t.length∧szI t k o∧szUp z t k) (fun (k,o)=>t.length-k) (0,List.replicate t.length 0) wk ⟨Nat.zero_le _,szI_0,szUp_0 _ _⟩ ?_
    rintro ⟨k,o⟩ ⟨hk,ho,hu⟩
    have uA:=ho.1
    refine jB<|kx [(28,(vb (decide (((k:Nat):Int)<((t.length:Nat):Int)))))] [] (zE xK<|zZ) ?_
    refine jB<|jG rfl (fun h5=>?_) (fun h5=>?_)
    ·replace h5:=uP h5
     have hR:=tmr hz0 h5 h400 hu
     have hkl:=hR.kl
     refine jD<|jB<|jH<|jB<|kx [(7,(jP k)),(8,(.ref 1 0))] [(1,some (bx (kM (t.getD k tz))))] (zM<|zE (xX iB k (tz:kV))<|zE (gE bM)<|zH (qV 1 ze83 zo83)<|zM<|zT (qA bM)<|zZ) ?_
     refine jB<|kx [(9,(vi (xM ((t.getD k tz).op))))] [] (zE (kY yW)<|zR (uM fC)<|zE (jY (j_kids ((t.getD k tz).op)))<|zM<|zZ) ?_
     refine jB<|jB<|kx [(72,(vb (((decide ((xM ((t.getD k tz).op))<0)||(decide ((xM ((t.getD k tz).op))<2)&&((t.getD k tz).b != 0)))||(((t.getD k tz).op == 0)&&(((t.getD k tz).a != 0)||!(kR ((t.getD k tz).n)))))||(((t.getD k tz).op != 0)&&!(unsB ((t.getD k tz).n))))))] [] ?_ ?_
     ·refine zM<|zE xK<|zE (oV (vb (decide ((xM ((t.getD k tz).op))<0))) (qC (by kernel_rfl)))<|?_
      rcases hb6:(decide ((xM ((t.getD k tz).op))<0)) with _ | _
      ·replace hb6:=uR hb6
       refine zM<|zE xK<|zE (oV (vb (decide ((xM ((t.getD k tz).op))<2))) (qC (by kernel_rfl)))<|?_
       rcases hb7:(decide ((xM ((t.getD k tz).op))<2)) with _ | _
       ·replace hb7:=uR hb7
        refine zK<|zK<|zK<|zE yP<|zE yP<|zM<|zE (kY yW)<|zR (uM fC)<|zE xR<|zE (oV (vb ((t.getD k tz).op == 0)) (qC (by kernel_rfl)))<|?_
        rcases hb8:((t.getD k tz).op == 0) with _ | _
        ·replace hb8:=ne_of_beq_false hb8
         refine zK<|zK<|zK<|zK<|zK<|zK<|zK<|zK<|zK<|zE yP<|zE yP<|zM<|zE (kY yW)<|zR (uM fC)<|zE nW<|zE (oV (vb ((t.getD k tz).op != 0)) (qC (by kernel_rfl)))<|?_
         rcases hb9:((t.getD k tz).op != 0) with _ | _
         ·replace hb9:=bne_eq_false_iff_eq.1 hb9
          exact zK<|zK<|zK<|zK<|zE yP<|zE yP<|zZ
         ·replace hb9:=bne_iff_ne.1 hb9
          exact zE (kY dM)<|zR (kK jS)<|zE (jY (j_unset ((t.getD k tz).n) (qP (t.getD k tz).n) (tn_get ht (show k<t.length by omega))))<|zE mD<|zE fA<|zE eP<|zZ
        ·replace hb8:=eq_of_beq hb8
         refine zE (kY gK)<|zR (uM cH)<|zE nW<|zE (oV (vb ((t.getD k tz).a != 0)) (qC (by kernel_rfl)))<|?_
         rcases hb10:((t.getD k tz).a != 0) with _ | _
         ·replace hb10:=bne_eq_false_iff_eq.1 hb10
          refine zE (kY dM)<|zR (kK jS)<|zE (jY (cQ ((t.getD k tz).n) (qP (t.getD k tz).n) (jO (tn_get ht (show k<t.length by omega)) (by decide))))<|zE mD<|zE eP<|zE fA<|zE eP<|zE (oV (vb (false||(true&&(false||!(kR ((t.getD k tz).n)))))) (qC (by kernel_rfl)))<|?_
          rcases hb11:(!(kR ((t.getD k tz).n))) with _ | _
          ·refine zE (kY yW)<|zR (uM fC)<|zE nW<|zE (oV (vb ((t.getD k tz).op != 0)) (qC (by kernel_rfl)))<|?_
           rcases hb12:((t.getD k tz).op != 0) with _ | _
           ·replace hb12:=bne_eq_false_iff_eq.1 hb12
            exact zK<|zK<|zK<|zK<|zE yP<|zE yP<|zZ
           ·replace hb12:=bne_iff_ne.1 hb12
            exact zE (kY dM)<|zR (kK jS)<|zE (jY (j_unset ((t.getD k tz).n) (qP (t.getD k tz).n) (tn_get ht (show k<t.length by omega))))<|zE mD<|zE fA<|zE eP<|zZ
          ·exact zK<|zK<|zK<|zK<|zK<|zK<|zK<|zK<|zK<|zE gR<|zZ
         ·replace hb10:=bne_iff_ne.1 hb10
          exact zK<|zK<|zK<|zK<|zE gR<|zE gR<|zE yP<|zM<|zK<|zK<|zK<|zK<|zK<|zK<|zK<|zK<|zK<|zE gR<|zZ
       ·replace hb7:=uP hb7
        refine zE (kY mK)<|zR (uM cH)<|zE nW<|zE fA<|zE eP<|zE (oV (vb (false||(true&&((t.getD k tz).b != 0)))) (qC (by kernel_rfl)))<|?_
        rcases hb13:((t.getD k tz).b != 0) with _ | _
        ·replace hb13:=bne_eq_false_iff_eq.1 hb13
         refine zE (kY yW)<|zR (uM fC)<|zE xR<|zE (oV (vb ((t.getD k tz).op == 0)) (qC (by kernel_rfl)))<|?_
         rcases hb14:((t.getD k tz).op == 0) with _ | _
         ·replace hb14:=ne_of_beq_false hb14
          refine zK<|zK<|zK<|zK<|zK<|zK<|zK<|zK<|zK<|zE yP<|zE yP<|zM<|zE (kY yW)<|zR (uM fC)<|zE nW<|zE (oV (vb ((t.getD k tz).op != 0)) (qC (by kernel_rfl)))<|?_
          rcases hb15:((t.getD k tz).op != 0) with _ | _
          ·replace hb15:=bne_eq_false_iff_eq.1 hb15
           exact zK<|zK<|zK<|zK<|zE yP<|zE yP<|zZ
          ·replace hb15:=bne_iff_ne.1 hb15
           exact zE (kY dM)<|zR (kK jS)<|zE (jY (j_unset ((t.getD k tz).n) (qP (t.getD k tz).n) (tn_get ht (show k<t.length by omega))))<|zE mD<|zE fA<|zE eP<|zZ
         ·replace hb14:=eq_of_beq hb14
          refine zE (kY gK)<|zR (uM cH)<|zE nW<|zE (oV (vb ((t.getD k tz).a != 0)) (qC (by kernel_rfl)))<|?_
          rcases hb16:((t.getD k tz).a != 0) with _ | _
          ·replace hb16:=bne_eq_false_iff_eq.1 hb16
           refine zE (kY dM)<|zR (kK jS)<|zE (jY (cQ ((t.getD k tz).n) (qP (t.getD k tz).n) (jO (tn_get ht (show k<t.length by omega)) (by decide))))<|zE mD<|zE eP<|zE fA<|zE eP<|zE (oV (vb (false||(true&&(false||!(kR ((t.getD k tz).n)))))) (qC (by kernel_rfl)))<|?_
           rcases hb17:(!(kR ((t.getD k tz).n))) with _ | _
           ·refine zE (kY yW)<|zR (uM fC)<|zE nW<|zE (oV (vb ((t.getD k tz).op != 0)) (qC (by kernel_rfl)))<|?_
            rcases hb18:((t.getD k tz).op != 0) with _ | _
            ·replace hb18:=bne_eq_false_iff_eq.1 hb18
             exact zK<|zK<|zK<|zK<|zE yP<|zE yP<|zZ
            ·replace hb18:=bne_iff_ne.1 hb18
             exact zE (kY dM)<|zR (kK jS)<|zE (jY (j_unset ((t.getD k tz).n) (qP (t.getD k tz).n) (tn_get ht (show k<t.length by omega))))<|zE mD<|zE fA<|zE eP<|zZ
           ·exact zK<|zK<|zK<|zK<|zK<|zK<|zK<|zK<|zK<|zE gR<|zZ
          ·replace hb16:=bne_iff_ne.1 hb16
           exact zK<|zK<|zK<|zK<|zE gR<|zE gR<|zE yP<|zM<|zK<|zK<|zK<|zK<|zK<|zK<|zK<|zK<|zK<|zE gR<|zZ
        ·replace hb13:=bne_iff_ne.1 hb13
         exact zK<|zK<|zK<|zK<|zK<|zK<|zK<|zK<|zK<|zK<|zK<|zK<|zK<|zK<|zE gR<|zM<|zK<|zK<|zK<|zK<|zK<|zK<|zK<|zK<|zK<|zE gR<|zZ
      ·replace hb6:=uP hb6
       exact zK<|zK<|zK<|zK<|zK<|zK<|zK<|zE gR<|zM<|zK<|zK<|zK<|zK<|zK<|zK<|zK<|zK<|zK<|zK<|zK<|zK<|zK<|zK<|zE gR<|zM<|zK<|zK<|zK<|zK<|zK<|zK<|zK<|zK<|zK<|zE gR<|zZ
     refine jG rfl (fun h19=>?_) (fun h19=>?_)
     ·refine jB<|kx [(4,(vl 3 1 qI [])),(5,(jP 1))] [] (zE (dD 3 1)<|zM<|zZ) ?_
      refine jE ⟨_,(.tmp (d:=(.sl 3 1 (List.map qI []))) rfl (.tmp (d:=(.val (.int .i64 (1)))) rfl .nil)),?_⟩
      have he:=hR.bad h19
      rw[he.1,he.2];rfl
     ·have hB:=h19
      refine jD<|jB<|jB<|kx [(100,(vb ((decide (0<(xM ((t.getD k tz).op)))&&(decide ((t.getD k tz).a<0)||decide (((k:Nat):Int)≤(t.getD k tz).a)))||(decide (1<(xM ((t.getD k tz).op)))&&(decide ((t.getD k tz).b<0)||decide (((k:Nat):Int)≤(t.getD k tz).b))))))] [] ?_ ?_
      ·refine zM<|zE mL<|zE (oV (vb (decide (0<(xM ((t.getD k tz).op))))) (qC (by kernel_rfl)))<|?_
       rcases hb20:(decide (0<(xM ((t.getD k tz).op)))) with _ | _
       ·replace hb20:=uR hb20
        refine zK<|zK<|zK<|zK<|zK<|zK<|zK<|zK<|zK<|zE yP<|zM<|zM<|zE mL<|zE (oV (vb (decide (1<(xM ((t.getD k tz).op))))) (qC (by kernel_rfl)))<|?_
        rcases hb21:(decide (1<(xM ((t.getD k tz).op)))) with _ | _
        ·replace hb21:=uR hb21
         exact zK<|zK<|zK<|zK<|zK<|zK<|zK<|zK<|zK<|zE yP<|zE yP<|zZ
        ·replace hb21:=uP hb21
         refine zE (kY mK)<|zR (uM cH)<|zE xK<|zE (oV (vb (decide ((t.getD k tz).b<0))) (qC (by kernel_rfl)))<|?_
         rcases hb22:(decide ((t.getD k tz).b<0)) with _ | _
         ·replace hb22:=uR hb22
          exact zE (kY mK)<|zR (uM cH)<|zM<|zE oGe<|zE eP<|zE fA<|zE eP<|zZ
         ·replace hb22:=uP hb22
          exact zK<|zK<|zK<|zK<|zE gR<|zE gR<|zE yP<|zZ
       ·replace hb20:=uP hb20
        refine zE (kY gK)<|zR (uM cH)<|zE xK<|zE (oV (vb (decide ((t.getD k tz).a<0))) (qC (by kernel_rfl)))<|?_
        rcases hb23:(decide ((t.getD k tz).a<0)) with _ | _
        ·replace hb23:=uR hb23
         refine zE (kY gK)<|zR (uM cH)<|zM<|zE oGe<|zE eP<|zE fA<|zE (oV (vb (true&&(false||decide (((k:Nat):Int)≤(t.getD k tz).a)))) (qC (by kernel_rfl)))<|?_
         rcases hb24:(decide (((k:Nat):Int)≤(t.getD k tz).a)) with _ | _
         ·replace hb24:=uR hb24
          refine zM<|zE mL<|zE (oV (vb (decide (1<(xM ((t.getD k tz).op))))) (qC (by kernel_rfl)))<|?_
          rcases hb25:(decide (1<(xM ((t.getD k tz).op)))) with _ | _
          ·replace hb25:=uR hb25
           exact zK<|zK<|zK<|zK<|zK<|zK<|zK<|zK<|zK<|zE yP<|zE yP<|zZ
          ·replace hb25:=uP hb25
           refine zE (kY mK)<|zR (uM cH)<|zE xK<|zE (oV (vb (decide ((t.getD k tz).b<0))) (qC (by kernel_rfl)))<|?_
           rcases hb26:(decide ((t.getD k tz).b<0)) with _ | _
           ·replace hb26:=uR hb26
            exact zE (kY mK)<|zR (uM cH)<|zM<|zE oGe<|zE eP<|zE fA<|zE eP<|zZ
           ·replace hb26:=uP hb26
            exact zK<|zK<|zK<|zK<|zE gR<|zE gR<|zE yP<|zZ
         ·replace hb24:=uP hb24
          exact zK<|zK<|zK<|zK<|zK<|zK<|zK<|zK<|zK<|zK<|zK<|zK<|zK<|zE gR<|zZ
        ·replace hb23:=uP hb23
         exact zK<|zK<|zK<|zK<|zE gR<|zE gR<|zM<|zK<|zK<|zK<|zK<|zK<|zK<|zK<|zK<|zK<|zK<|zK<|zK<|zK<|zE gR<|zZ
      refine jG rfl (fun h27=>?_) (fun h27=>?_)
      ·refine jB<|kx [(4,(vl 3 1 qI [])),(5,(jP 5))] [] (zE (dD 3 1)<|zM<|zZ) ?_
       refine jE ⟨_,(.tmp (d:=(.sl 3 1 (List.map qI []))) rfl (.tmp (d:=(.val (.int .i64 (5)))) rfl .nil)),?_⟩
       have he:=hR.ord hB h27
       rw[he.1,he.2];rfl
      ·have hO:=h27
       refine jD<|jB<|jB<|kx [(114,(vb (((t.getD k tz).op == 1)&&(decide ((t.getD k tz).a<0)||decide (z≤(t.getD k tz).a)))))] [] ?_ ?_
       ·refine zE (kY yW)<|zR (uM fC)<|zE xR<|zE (oV (vb ((t.getD k tz).op == 1)) (qC (by kernel_rfl)))<|?_
        rcases hb28:((t.getD k tz).op == 1) with _ | _
        ·replace hb28:=ne_of_beq_false hb28
         exact zK<|zK<|zK<|zK<|zK<|zK<|zK<|zK<|zK<|zE yP<|zZ
        ·replace hb28:=eq_of_beq hb28
         refine zE (kY gK)<|zR (uM cH)<|zE xK<|zE (oV (vb (decide ((t.getD k tz).a<0))) (qC (by kernel_rfl)))<|?_
         rcases hb29:(decide ((t.getD k tz).a<0)) with _ | _
         ·replace hb29:=uR hb29
          exact zE (kY gK)<|zR (uM cH)<|zM<|zE oGe<|zE eP<|zE fA<|zZ
         ·replace hb29:=uP hb29
          exact zK<|zK<|zK<|zK<|zE gR<|zE gR<|zZ
       refine jG rfl (fun h30=>?_) (fun h30=>?_)
       ·refine jB<|kx [(4,(vl 3 1 qI [])),(5,(jP 2))] [] (zE (dD 3 1)<|zM<|zZ) ?_
        refine jE ⟨_,(.tmp (d:=(.sl 3 1 (List.map qI []))) rfl (.tmp (d:=(.val (.int .i64 (2)))) rfl .nil)),?_⟩
        have he:=hR.rng hB hO h30
        rw[he.1,he.2];rfl
       ·have hN:=ndr hR hB hO h30
        refine jD<|pwp_seqjoin (α:=Int) (fun v=>⟨[(1,(vi z)),(6,(.own 0 3 1 t.length)),(7,(jP k)),(25,(vl 83 7 kM t)),(26,(jP t.length)),(27,(jP k))],[(0,some (bm qI (o.set k v)))]⟩) (fun v=>v=szN (cR t k) (t.getD k tz)) ?_ ?_
        ·refine jB<|kx [(129,(vb ((xM ((t.getD k tz).op)) == 0)))] [] (zM<|zE xR<|zM<|zZ) ?_
         refine jG (b:=((xM ((t.getD k tz).op)) == 0)) rfl (fun h31=>?_) (fun h31=>?_)
         ·replace h31:=eq_of_beq h31
          have hv:=szN_c (ss:=cR t k) h31
          refine kx [] [(0,some (bm qI (o.set k 1)))] (zM<|zM<|zE (aY mC k)<|zT (oSp cH k (1:Int))<|zZ) ?_
          exact ⟨1,wk,hv⟩
         ·replace h31:=ne_of_beq_false h31
          have hk0:=h31
          obtain ⟨a1,a2,a3,a4,a5⟩:=hN.a ho hk0
          refine jB<|kx [(135,(vb ((t.getD k tz).op == 6)))] [] (zE (kY yW)<|zR (uM fC)<|zE xR<|zM<|zZ) ?_
          refine jG (b:=((t.getD k tz).op == 6)) rfl (fun h32=>?_) (fun h32=>?_)
          ·replace h32:=eq_of_beq h32
           have hv:=szN_n hk0 h32 a3
           refine kx [] [(0,some (bm qI (o.set k (o.getD (((t.getD k tz).a).toNat) 0))))] (zM<|zM<|zM<|zE (kY gK)<|zR (uM cH)<|zE (aY mC (((t.getD k tz).a).toNat))<|zR (oLp cH (((t.getD k tz).a).toNat) (0:Int))<|zE (aY mC k)<|zT (oSp cH k (o.getD (((t.getD k tz).a).toNat) 0))<|zZ) ?_
           exact ⟨(o.getD (((t.getD k tz).a).toNat) 0),wk,hv⟩
          ·replace h32:=ne_of_beq_false h32
           have h6:=h32
           refine jB<|kx [(147,(vb ((t.getD k tz).op == 7)))] [] (zE (kY yW)<|zR (uM fC)<|zE xR<|zM<|zZ) ?_
           refine jG (b:=((t.getD k tz).op == 7)) rfl (fun h33=>?_) (fun h33=>?_)
           ·replace h33:=eq_of_beq h33
            have hv:=szN_q hk0 h33 a3
            refine kx [] [(0,some (bm qI (o.set k (2*(o.getD (((t.getD k tz).a).toNat) 0)))))] (zM<|zM<|zM<|zE (kY gK)<|zR (uM cH)<|zE (aY mC (((t.getD k tz).a).toNat))<|zR (oLp cH (((t.getD k tz).a).toNat) (0:Int))<|zE (zMl (2*(o.getD (((t.getD k tz).a).toNat) 0)))<|zE (aY mC k)<|zT (oSp cH k (2*(o.getD (((t.getD k tz).a).toNat) 0)))<|zZ) ?_
            exact ⟨(2*(o.getD (((t.getD k tz).a).toNat) 0)),wk,hv⟩
           ·replace h33:=ne_of_beq_false h33
            obtain ⟨b1,b2,b3,b4,b5⟩:=hN.b ho hk0 h6 h33
            have hv:=szN_b hk0 h6 h33 a3 b3
            refine kd [] [(0,some (bm qI (o.set k ((o.getD (((t.getD k tz).a).toNat) 0)+(o.getD (((t.getD k tz).b).toNat) 0)))))] mo (wM<|wM<|wM<|wE (kY gK)<|wR (uM cH)<|wE (aY mC (((t.getD k tz).a).toNat))<|wR (oLp cH (((t.getD k tz).a).toNat) (0:Int))<|wM<|wE (kY mK)<|wR (uM cH)<|wE (aY mC (((t.getD k tz).b).toNat))<|wR (oLp cH (((t.getD k tz).b).toNat) (0:Int))<|wE (zAd ((o.getD (((t.getD k tz).a).toNat) 0)+(o.getD (((t.getD k tz).b).toNat) 0)))<|wE (aY mC k)<|wT (oSp cH k ((o.getD (((t.getD k tz).a).toNat) 0)+(o.getD (((t.getD k tz).b).toNat) 0)))<|wZ) ?_
            exact ⟨((o.getD (((t.getD k tz).a).toNat) 0)+(o.getD (((t.getD k tz).b).toNat) 0)),wk,hv⟩
        ·rintro v hv
         have hsl:(o.set k v).length=o.length:=List.length_set
         refine jB<|kx [(164,(vb (decide (4096<((o.set k v).getD k 0)))))] [] (zM<|zM<|zE (aY mC k)<|zR (oLp cH k (0:Int))<|zE mL<|zZ) ?_
         refine jG (b:=decide (4096<((o.set k v).getD k 0))) rfl (fun h34=>?_) (fun h34=>?_)
         ·replace h34:=uP h34
          refine jB<|kx [(4,(vl 3 1 qI [])),(5,(jP 3))] [] (zE (dD 3 1)<|zM<|zZ) ?_
          refine jE ⟨_,(.tmp (d:=(.sl 3 1 (List.map qI []))) rfl (.tmp (d:=(.val (.int .i64 (3)))) rfl .nil)),?_⟩
          have he:=hN.big hv (by omega) h34
          rw[he.1,he.2];rfl
         ·replace h34:=uR h34
          refine jD<|kx [(27,(jP (k+1)))] [] (zE (vC (k+1))<|zM<|zZ) ?_
          exact ⟨(k+1,o.set k v),wk,(hN.next hv ho (by omega)),(by first|omega|(dsimp only;omega))⟩
    ·replace h5:=uR h5
     refine kB<|jB<|kx [(4,(.own 0 3 1 t.length)),(5,(jP 0))] [] (zM<|zM<|zM<|zZ) ?_
     refine kS (vD (t:=4) (k:=0) (es:=List.map qI o) rfl rfl (uQ _ _ (fun _=>rfl)) (uJ _ _ uA) (vQ _ _ (fun _=>rfl) uA)) ?_
     refine jE ⟨_,(.tmp (d:=(.sl 3 1 (List.map qI o))) rfl (.tmp (d:=(.val (.int .i64 (0)))) rfl .nil)),?_⟩
     have he:=tm_end hz0 h0 h400 hk h5 ho hu
     rw[he.1,he.2];rfl
theorem cb67:callB Tryz.prog 67=true:=by kernel_rfl
theorem cb73:callB Tryz.prog 73=true:=by kernel_rfl
theorem fo161_4:zG Tryz.prog 161 4=some 4:=by kernel_rfl
theorem pl161:eS Tryz.prog 161=some [(0,1),(1,1),(2,1),(3,1),(4,1)]:=by kernel_rfl
theorem ze161:yE Tryz.prog 161=some [.int .i64 0,.int .i64 0,.int .i64 0,.slice none 0 0,.bool false]:=by kernel_rfl
theorem zn161:bA [.int .i64 0,.int .i64 0,.int .i64 0,.slice none 0 0,.bool false] [.val (.int .i64 0),.val (.int .i64 0),.val (.int .i64 0),.val (.slice none 0 0),.val (.bool false)]:=by simp [bA,Value.oneCell']
def StepAt(bv:List R2)(L:List JV)(x:kV):Prop:=xH Tryz.prog 126 [(.ref 0 0),(.d (kM x)),(vl 61 8 jF (List.map kC bv))] [(0,some (xP bv.length 1 (L) false)),(1,some (xY (L)))] (.d (.tup [])) [(0,some (xP bv.length 18 (L++[nJ bv L x]) false)),(18,some (xY (L++[nJ bv L x])))]
theorem e_step(x:kV)(bv:List R2)(hbx:∀ x∈bv,GL 1048576 x)(L:List JV)(hst:StepAt bv L x):xH Tryz.prog 126 [(.ref 0 0),(.d (kM x)),(vl 61 8 jF (List.map kC bv))] [(0,some (xP bv.length 1 (L) false)),(1,some (xY (L)))] (.d (.tup [])) [(0,some (xP bv.length 18 (L++[nJ bv L x]) false)),(18,some (xY (L++[nJ bv L x])))]:=hst
structure JRunP (bv:List R2) (t:List kV):Prop where
 run:JRun bv t
 st:∀ k,k<t.length→StepAt bv (jU bv t k) (t.getD k tz)
theorem runs_of{bv:List R2}{ts:List (List kV)}(h:∀ t∈ts,JRunP bv t):∀ t∈ts,JRun bv t:=fun t ht=>(h t ht).run
theorem j_chk(t:List kV)(ht:vR 1048576 t)(z:Int):jR Tryz.prog 73 [(.sl 83 7 (List.map kM t)),(.val (.int .i64 (z)))] (.val (.int .i64 ((((nY z t):Nat):Int)))):=by
 refine jJ Tryz.func73 rfl cb73 rfl ?_
 show qG _ _ _ _ ⟨[(0,(vl 83 7 kM t)),(1,(vi z))],[]⟩
 refine jB<|kx [] [] (zM<|zZ) ?_
 refine jB<|kx [(6,(jP (nY z t)))] [] (zM<|zM<|zE (jY (j_sizes t ht z))<|zM<|zE uT<|zE uT<|zM<|zM<|zZ) ?_
 refine jB<|kx [(4,(jP (nY z t)))] [] (zM<|zM<|zZ) ?_
 refine jE ⟨_,(.tmp (d:=(.val (.int .i64 ((((nY z t):Nat):Int))))) rfl .nil),?_⟩
 rfl
theorem j_jets(t:List kV)(ht:vR 1048576 t)(bv:List R2)(hbx:∀ x∈bv,GL 1048576 x)(hr:JRunP bv t):jR Tryz.prog 67 [(.sl 83 7 (List.map kM t)),(.sl 61 8 (List.map jF (List.map kC bv))),(.val (.int .i64 (((1:Nat):Int)))),(.val (.int .i64 (-1)))] (.tup [(jL (qJ (vZ bv t))),(.val (.int .i64 (((0:Nat):Int))))]):=by
 have h0:=tm_0 hr.run.c0
 let y3:=(jV.mk kZ kZ)
 let y2:=(bx (jL (xL.mk y3 [] [])))
 let y1:=(bx (.agg [(.val (.int .i64 (((bv.length:Nat):Int)))),(.val (.int .i64 (((1:Nat):Int)))),(.val (.int .i64 (-1))),(.val (.slice none 0 0)),(.val (.bool (false)))]))
 refine jJ Tryz.func67 rfl cb67 rfl ?_
 show qG _ _ _ _ ⟨[(0,(vl 83 7 kM t)),(1,(vl 61 8 jF (List.map kC bv))),(2,(jP 1)),(3,(vi (-1)))],[]⟩
 refine jB<|kx [(8,(.ref 0 0))] [(0,some y2)] (zN (qV 0 cZ fK)<|zM<|zZ) ?_
 refine jB<|jB<|kx [(16,(vl 61 8 jF (List.map kC bv))),(17,(jP bv.length)),(18,(jP 0))] [] (zM<|zE (oLn xI bv.length)<|zM<|zZ) ?_
 refine jH<|kA (α:=Nat) (fun i=>⟨[(0,(vl 83 7 kM t)),(1,(vl 61 8 jF (List.map kC bv))),(2,(jP 1)),(3,(vi (-1))),(8,(.ref 0 0)),(16,(vl 61 8 jF (List.map kC bv))),(17,(jP bv.length)),(18,(jP i))],[(0,some y2)]⟩) (fun i=>i≤bv.length) (fun i=>bv.length-i) 0 wk (Nat.zero_le _) ?_
 rintro i hi
 refine jB<|kx [(19,(vb (decide (((i:Nat):Int)<((bv.length:Nat):Int)))))] [] (zE xK<|zZ) ?_
 refine jB<|jG rfl (fun h1=>?_) (fun h1=>?_)
 ·replace h1:=uP h1
  refine jD<|jB<|jH<|jB<|kx [(11,(.ref 1 0))] [(1,some (bx (jF (kC (bv.getD i z2)))))] (zE (oXm xI kC i z2)<|zE (gE jW)<|zN (qV 1 qO qS)<|zT (qA jW)<|zZ) ?_
  refine jB<|kx [(24,(vb false))] [] (zR (kK jW)<|zE (jY (by have h:=iH (kC (bv.getD i z2)) (hZ (⟨qR (jO (jZ (uU hbx (by decide) i).1) (by decide:1048576≤1048576)),qR (jO (jZ (uU hbx (by decide) i).2.1) (by decide:1048576≤1048576))⟩) (by decide));rw[show uK (kC (bv.getD i z2))=true from zU (uU hbx (by decide) i).2.2] at h;exact h))<|zE mD<|zZ) ?_
  refine kU ?_
  refine jD<|kx [(18,(jP (i+1)))] [] (zE (vC (i+1))<|zM<|zZ) ?_
  exact ⟨i+1,wk,(by omega),(by first|omega|(dsimp only;omega))⟩
 ·replace h1:=uR h1
  refine kB<|jB<|jB<|kx [(36,(vb false))] [] (zM<|zE (vW false xK)<|zM<|zM<|zE (vW false mL)<|zE yP<|zM<|zM<|zE (vW false mL)<|zE yP<|zZ) ?_
  refine kU ?_
  refine jD<|jB<|jB<|kx [(12,(jP (nY ((bv.length:Nat):Int) t)))] [] (zM<|zM<|zE (oLn xI bv.length)<|zE (jY (j_chk t ht ((bv.length:Nat):Int)))<|zM<|zZ) ?_
  refine jB<|kx [(43,(vb false))] [] (zM<|zE (vW false nW (by exact bne_eq_false_iff_eq.2 (by rw[show (nY ((bv.length:Nat):Int) t)=0 from hr.run.c0]<;>rfl)))<|zZ) ?_
  refine kU ?_
  refine jD<|jB<|kx [(13,(.ref 2 0))] [(2,some y1)] (zM<|zE (oLn xI bv.length)<|zM<|zM<|zE (eX pl161 ze161 zn161)<|zN (vA 2)<|zM<|zZ) ?_
  refine jB<|jB<|aI 2 3 3 95 10 (cs:=y1) (h:=?_)
  refine kS (wk (l:=[(0,(vl 83 7 kM t)),(1,(vl 61 8 jF (List.map kC bv))),(8,(.ref 0 0)),(13,(.ref 2 0))]) (b:=[(0,some y2),(2,some [(jP bv.length),(jP 1),(vi (-1)),(.own 3 95 10 0),(vb false)]),(3,some (yG jL []))])) ?_
  refine kx [(52,(vl 83 7 kM t)),(53,(jP t.length)),(54,(jP 0))] [] (zM<|zE (uW iB)<|zM<|zZ) ?_
  refine jH<|kA (α:=Nat) (fun k=>⟨[(1,(vl 61 8 jF (List.map kC bv))),(8,(.ref 0 0)),(13,(.ref 2 0)),(52,(vl 83 7 kM t)),(53,(jP t.length)),(54,(jP k))],[(0,some y2),(2,some (xP bv.length 3 (jU bv t k) false)),(3,some (xY (jU bv t k)))]⟩) (fun k=>k≤t.length) (fun k=>t.length-k) 0 wk (Nat.zero_le _) ?_
  rintro k hk
  have hju:=dP bv t k
  have hjm:(List.map qJ (jU bv t k)).length=k:=by rw[List.length_map,hju]
  have hup:=hr.run.upto hk
  refine jB<|kx [(55,(vb (decide (((k:Nat):Int)<((t.length:Nat):Int)))))] [] (zE xK<|zZ) ?_
  refine jB<|jG rfl (fun h2=>?_) (fun h2=>?_)
  ·replace h2:=uP h2
   refine jD<|jB<|jH<|jB<|kx [(15,(.ref 4 0))] [(4,some (bx (kM (t.getD k tz))))] (zE (xX iB k (tz:kV))<|zE (gE bM)<|zH (qV 4 ze83 zo83)<|zT (qA bM)<|zZ) ?_
   refine jB<|kf [] [(2,some (xP bv.length 21 ((jU bv t k)++[(nJ bv (jU bv t k) (t.getD k tz))]) false)),(21,some (xY ((jU bv t k)++[(nJ bv (jU bv t k) (t.getD k tz))]))),(10,none),(11,none),(12,none),(13,none),(14,none),(15,none),(16,none),(17,none),(18,none),(19,none),(20,none),(3,none),(5,none),(6,none),(7,none),(8,none),(9,none)] (zM<|zR (kK bM)<|zM<|zSe (B2:=[(2,some (xP bv.length 3 (jU bv t k) false)),(3,some (xY (jU bv t k)))]) (B2':=[(2,some (xP bv.length 21 ((jU bv t k)++[(nJ bv (jU bv t k) (t.getD k tz))]) false)),(21,some (xY ((jU bv t k)++[(nJ bv (jU bv t k) (t.getD k tz))])))]) [2,3,5,6,7,8,9,10,11,12,13,14,15,16,17,18,19,20,21] [2] (e_step (t.getD k tz) bv hbx (jU bv t k) (hr.st k (show k<t.length by omega)))<|zF) ?_
   refine kS (wk (l:=[(1,(vl 61 8 jF (List.map kC bv))),(8,(.ref 0 0)),(13,(.ref 2 0)),(52,(vl 83 7 kM t)),(53,(jP t.length)),(54,(jP k))]) (b:=[(0,some y2),(2,some (xP bv.length 21 ((jU bv t k)++[(nJ bv (jU bv t k) (t.getD k tz))]) false)),(21,some (xY ((jU bv t k)++[(nJ bv (jU bv t k) (t.getD k tz))])))])) ?_
   refine kS (bN (S':=[(1,(vl 61 8 jF (List.map kC bv))),(8,(.ref 0 0)),(13,(.ref 2 0)),(52,(vl 83 7 kM t)),(53,(jP t.length)),(54,(jP k))]) (B':=[(0,some y2),(2,some (xP bv.length 3 ((jU bv t k)++[(nJ bv (jU bv t k) (t.getD k tz))]) false)),(3,some (xY ((jU bv t k)++[(nJ bv (jU bv t k) (t.getD k tz))])))]) 3 21 2) ?_
   refine jB<|kx [(65,(vb false))] [] (zM<|zE oNc<|zE (kY fo161_4)<|zR (uM aX)<|zZ) ?_
   refine kU ?_
   refine jD<|kx [(54,(jP (k+1)))] [] (zE (vC (k+1))<|zM<|zZ) ?_
   exact ⟨k+1,wk,(by omega),(by first|omega|(dsimp only;omega))⟩
  ·replace h2:=uR h2
   refine kB<|jB<|kd [(9,(jP 0))] [(0,some (bx (jL ((List.map qJ (jU bv t k)).getD ((List.map qJ (jU bv t k)).length-1) (xL.mk y3 [] [])))))] mo (wM<|wE oNc<|wE (kY cM)<|wR (uM sh143)<|wM<|wE oNc<|wE (kY cM)<|wR (uM sh143)<|wE (oLo dR)<|wE (oSb ((List.map qJ (jU bv t k)).length-1))<|wE (oXO dR ((List.map qJ (jU bv t k)).length-1))<|wR (oLA nL ((List.map qJ (jU bv t k)).length-1) (xL.mk y3 [] []))<|wT (qA nL)<|wM<|wZ) ?_
   refine jE ⟨_,(kH (cs:=(bx (jL ((List.map qJ (jU bv t k)).getD ((List.map qJ (jU bv t k)).length-1) (xL.mk y3 [] []))))) (d:=(jL ((List.map qJ (jU bv t k)).getD ((List.map qJ (jU bv t k)).length-1) (xL.mk y3 [] [])))) rfl rfl nL rfl rfl (.tmp (d:=(.val (.int .i64 (((0:Nat):Int))))) rfl .nil)),?_⟩
   obtain rfl:k=t.length:=by omega
   rw[List.length_map,hju,bR qJ _ jz _ (by omega)]
   unfold vZ;rfl
theorem cb13:callB Tryz.prog 13=true:=by kernel_rfl
theorem cb68:callB Tryz.prog 68=true:=by kernel_rfl
theorem cb71:callB Tryz.prog 71=true:=by kernel_rfl
theorem cb74:callB Tryz.prog 74=true:=by kernel_rfl
theorem p_pts(xs:List Rat)(hx:∀ q∈xs,QL q 1048576)(hxb:xs.length≤1000000):jR Tryz.prog 68 [(.sl 45 4 (List.map jK (List.map jN xs)))] (.sl 61 8 (List.map jF (List.map kC (List.map yF xs)))):=by
 refine jJ Tryz.func68 rfl cb68 rfl ?_
 show qG _ _ _ _ ⟨[(0,(vl 45 4 jK (List.map jN xs)))],[]⟩
 refine jB<|kx [] [] (zE (dD 61 8)<|zZ) ?_
 refine jB<|kx [(3,(.own 0 61 8 0))] [(0,some (yG jF []))] (zO 0 61 8<|zZ) ?_
 refine jB<|jB<|kx [(6,(vl 45 4 jK (List.map jN xs))),(7,(jP xs.length)),(8,(jP 0))] [] (zM<|zE (oLn uE xs.length)<|zM<|zZ) ?_
 refine jH<|kA (α:=Nat × List jV) (fun (i,o)=>⟨[(3,(.own 0 61 8 o.length)),(6,(vl 45 4 jK (List.map jN xs))),(7,(jP xs.length)),(8,(jP i))],[(0,some (yG jF o))]⟩) (fun (i,o)=>i≤xs.length∧o=(xs.take i).map (fun q=>kC (yF q))) (fun (i,o)=>xs.length-i) (0,[]) wk ⟨Nat.zero_le _,by simp⟩ ?_
 rintro ⟨i,o⟩ ⟨hi,ho⟩
 have hol:o.length=i:=by rw[ho,List.length_map,List.length_take];omega
 refine jB<|kx [(9,(vb (decide (((i:Nat):Int)<((xs.length:Nat):Int)))))] [] (zE xK<|zZ) ?_
 refine jB<|jG rfl (fun h1=>?_) (fun h1=>?_)
 ·replace h1:=uP h1
  refine jD<|jB<|jH<|jB<|kx [(5,(.ref 1 0))] [(1,some (bx (jK (jN (xs.getD i 0)))))] (zE (oXm uE jN i 0)<|zE (gE jS)<|zH (qV 1 qU qY)<|zT (qA jS)<|zZ) ?_
  refine kf [(3,(.own 0 61 8 ((o++[(jV.mk (jN (xs.getD i 0)) (jN (xs.getD i 0)))]).length)))] [(0,some (yG jF (o++[(jV.mk (jN (xs.getD i 0)) (jN (xs.getD i 0)))])))] (zM<|zR (kK jS)<|zR (kK jS)<|zE (eX pl61 qO qS)<|zE (cN xI qO qS)<|zAS jF o [(jV.mk (jN (xs.getD i 0)) (jN (xs.getD i 0)))] rfl xI qO by61<|zM<|zF) ?_
  refine kx [(8,(jP (i+1)))] [] (zE (vC (i+1))<|zM<|zZ) ?_
  exact ⟨(i+1,o++[kC (yF (xs.getD i 0))]),wk,⟨by omega,by rw[ho];exact mS (f:=fun q=>kC (yF q)) (by omega)⟩,(by first|omega|(dsimp only;omega))⟩
 ·replace h1:=uR h1
  refine kB<|jB<|kx [(2,(.own 0 61 8 o.length))] [] (zM<|zM<|zZ) ?_
  refine kS (vD (t:=2) (k:=0) (es:=List.map jF o) rfl rfl (zL _ _ (fun _=>rfl)) (uJ _ _ rfl) (yS jF o (fun _=>rfl) rfl)) ?_
  refine jE ⟨_,(.tmp (d:=(.sl 61 8 (List.map jF o))) rfl .nil),?_⟩
  rw[ho,show i=xs.length by omega,List.take_length,show List.map (fun q=>kC (yF q)) xs=List.map kC (List.map yF xs) from (by rw[List.map_map];rfl)];rfl
theorem p_val(bv:List R2)(hbx:∀ x∈bv,GL 1048576 x)(hbl:bv.length≤1000000):jR Tryz.prog 71 [(.sl 61 8 (List.map jF (List.map kC bv)))] (.val (.bool (true))):=by
 refine jJ Tryz.func71 rfl cb71 rfl ?_
 show qG _ _ _ _ ⟨[(0,(vl 61 8 jF (List.map kC bv)))],[]⟩
 refine jB<|kx [] [] (zM<|zZ) ?_
 refine jB<|jB<|kx [(5,(vl 61 8 jF (List.map kC bv))),(6,(jP bv.length)),(7,(jP 0))] [] (zM<|zE (oLn xI bv.length)<|zM<|zZ) ?_
 refine jH<|kA (α:=Nat) (fun i=>⟨[(5,(vl 61 8 jF (List.map kC bv))),(6,(jP bv.length)),(7,(jP i))],[]⟩) (fun i=>i≤bv.length) (fun i=>bv.length-i) 0 wk (Nat.zero_le _) ?_
 rintro i hi
 refine jB<|kx [(8,(vb (decide (((i:Nat):Int)<((bv.length:Nat):Int)))))] [] (zE xK<|zZ) ?_
 refine jB<|jG rfl (fun h1=>?_) (fun h1=>?_)
 ·replace h1:=uP h1
  refine jD<|jB<|jH<|jB<|kx [(4,(.ref 0 0))] [(0,some (bx (jF (kC (bv.getD i z2)))))] (zE (oXm xI kC i z2)<|zE (gE jW)<|zN (qV 0 qO qS)<|zT (qA jW)<|zZ) ?_
  refine jB<|kx [(13,(vb false))] [] (zR (kK jW)<|zE (jY (by have h:=iH (kC (bv.getD i z2)) (hZ (⟨qR (jO (jZ (uU hbx (by decide) i).1) (by decide:1048576≤1048576)),qR (jO (jZ (uU hbx (by decide) i).2.1) (by decide:1048576≤1048576))⟩) (by decide));rw[show uK (kC (bv.getD i z2))=true from zU (uU hbx (by decide) i).2.2] at h;exact h))<|zE mD<|zZ) ?_
  refine kU ?_
  refine jD<|kx [(7,(jP (i+1)))] [] (zE (vC (i+1))<|zM<|zZ) ?_
  exact ⟨i+1,wk,(by omega),(by first|omega|(dsimp only;omega))⟩
 ·replace h1:=uR h1
  refine kB<|jB<|kx [(2,(vb true))] [] (zM<|zZ) ?_
  refine jE ⟨_,(.tmp (d:=(.val (.bool (true)))) rfl .nil),?_⟩
  rfl
theorem p_fit(m:List (List jQ))(hm:vN 1048576 m)(n:Nat)(hr:gJ m m.length (m.getD 0 []).length):jR Tryz.prog 74 [(.sl 24 1 (List.map jI m)),(.val (.int .i64 (((n:Nat):Int))))] (.val (.int .i64 ((((mV m n):Nat):Int)))):=by
 have hmb:=hr.r64
 have hm1:=hr.r1
 have hm0:=hr.c64
 let y1:=kZ
 refine jJ Tryz.func74 rfl cb74 rfl ?_
 show qG _ _ _ _ ⟨[(0,(vl 24 1 jI m)),(1,(jP n))],[]⟩
 refine jB<|kx [] [] (zM<|zZ) ?_
 refine jB<|jB<|kx [(18,(vb ((((m.length:Nat):Int) != ((n:Nat):Int))||((((m.getD 0 []).length:Nat):Int) != ((n:Nat):Int)))))] [] ?_ ?_
 ·refine zM<|zE (uW zW)<|zM<|zE nW<|zE (oV (vb (((m.length:Nat):Int) != ((n:Nat):Int))) (qC (by kernel_rfl)))<|?_
  rcases hb1:(((m.length:Nat):Int) != ((n:Nat):Int)) with _ | _
  ·replace hb1:=bne_eq_false_iff_eq.1 hb1
   exact zM<|zE (xX zW 0 ([]:List (jQ)))<|zE (xZ mR)<|zE (uW uE (L:=(m.getD 0 [])))<|zM<|zE nW<|zE eP<|zZ
  ·replace hb1:=bne_iff_ne.1 hb1
   exact zK<|zK<|zK<|zK<|zK<|zK<|zE gR<|zZ
 refine jG rfl (fun h2=>?_) (fun h2=>?_)
 ·refine jB<|kx [(4,(jP 4))] [] (zM<|zZ) ?_
  refine jE ⟨_,(.tmp (d:=(.val (.int .i64 (4)))) rfl .nil),?_⟩
  rw[fit_1 h2];rfl
 ·have hs:=fit_0 h2
  refine jD<|jB<|jB<|kx [(20,(jP m.length)),(21,(jP 0))] [] (zM<|zE (uW zW)<|zM<|zZ) ?_
  refine jH<|kA (α:=Nat) (fun i=>⟨[(0,(vl 24 1 jI m)),(20,(jP m.length)),(21,(jP i))],[]⟩) (fun i=>i≤m.length∧symI m i) (fun i=>m.length-i) 0 wk ⟨Nat.zero_le _,symI_0 m⟩ ?_
  rintro i ⟨hi,hsy⟩
  refine jB<|kx [(22,(vb (decide (((i:Nat):Int)<((m.length:Nat):Int)))))] [] (zE xK<|zZ) ?_
  refine jB<|jG rfl (fun h3=>?_) (fun h3=>?_)
  ·replace h3:=uP h3
   have hri:=(hr.at (show i<m.length by omega)).1
   refine jD<|jB<|jH<|jB<|kx [(5,(jP i))] [] (zM<|zM<|zZ) ?_
   refine jB<|kx [(24,(jP i)),(25,(jP 0))] [] (zM<|zM<|zZ) ?_
   refine jH<|kA (α:=Nat) (fun j=>⟨[(0,(vl 24 1 jI m)),(5,(jP i)),(20,(jP m.length)),(21,(jP i)),(24,(jP i)),(25,(jP j))],[]⟩) (fun j=>j≤i∧∀ b,b<j→eqM m i b=true) (fun j=>i-j) 0 wk ⟨Nat.zero_le _,fun b hb=>by omega⟩ ?_
   rintro j ⟨hj,he⟩
   refine jB<|kx [(26,(vb (decide (((j:Nat):Int)<((i:Nat):Int)))))] [] (zE xK<|zZ) ?_
   refine jB<|jG rfl (fun h4=>?_) (fun h4=>?_)
   ·replace h4:=uP h4
    have hrj:=(hr.at (show j<m.length by omega)).1
    refine jD<|jB<|jH<|jB<|kx [(6,(jP j))] [] (zM<|zM<|zZ) ?_
    refine jB<|kd [(43,(vb ((yC (qP ((m.getD i []).getD j y1)) (qP ((m.getD j []).getD i y1))) != 0)))] [] mo (wM<|wM<|wE (xX zW i ([]:List (jQ)))<|wE (xZ mR)<|wM<|wE (xX uE j y1 (L:=(m.getD i [])))<|wE (gE jS)<|wM<|wM<|wE (xX zW j ([]:List (jQ)))<|wE (xZ mR)<|wM<|wE (xX uE i y1 (L:=(m.getD j [])))<|wE (gE jS)<|wE (jY (cY ((m.getD i []).getD j y1) ((m.getD j []).getD i y1) (qP ((m.getD i []).getD j y1)) (qP ((m.getD j []).getD i y1)) (jO (vE (xA (d:=[]) hm (show i<m.length by omega)).1 (show j<(m.getD i []).length by omega)) (by decide)) (jO (vE (xA (d:=[]) hm (show j<m.length by omega)).1 (show i<(m.getD j []).length by omega)) (by decide))))<|wE nW<|wZ) ?_
    refine jG rfl (fun h5=>?_) (fun h5=>?_)
    ·replace h5:=bne_iff_ne.1 h5
     refine jB<|kx [(4,(jP 11))] [] (zM<|zZ) ?_
     refine jE ⟨_,(.tmp (d:=(.val (.int .i64 (11)))) rfl .nil),?_⟩
     rw[fit_11 hs (sym_no (i:=i) (j:=j) (by omega) (by omega) (eqm_f h5))];rfl
    ·replace h5:=bne_eq_false_iff_eq.1 h5
     refine jD<|kx [(25,(jP (j+1)))] [] (zE (vC (j+1))<|zM<|zZ) ?_
     exact ⟨j+1,wk,⟨by omega,eqm_s he h5⟩,(by first|omega|(dsimp only;omega))⟩
   ·replace h4:=uR h4
    have hsy2:=symI_s hsy (fun b hb=>he b (by omega))
    refine kB<|kx [(21,(jP (i+1)))] [] (zE (vC (i+1))<|zM<|zZ) ?_
    exact ⟨i+1,wk,⟨by omega,hsy2⟩,(by first|omega|(dsimp only;omega))⟩
  ·replace h3:=uR h3
   refine kB<|jB<|kx [(4,(jP 0))] [] (zM<|zZ) ?_
   refine jE ⟨_,(.tmp (d:=(.val (.int .i64 (0)))) rfl .nil),?_⟩
   obtain rfl:i=m.length:=by omega
   rw[fit_ok hs (sym_yes hsy)];rfl
theorem p_grd(t:List kV)(ht:vR 1048576 t)(xs:List Rat)(hx:∀ q∈xs,QL q 1048576)(hr:JRunP (List.map yF xs) t)(hxb:xs.length≤1000000):jR Tryz.prog 13 [(.sl 83 7 (List.map kM t)),(.sl 45 4 (List.map jK (List.map jN xs)))] (.tup [(.sl 45 4 (List.map jK (vT xs t))),(.val (.int .i64 (((0:Nat):Int))))]):=by
 have hgl:(vZ (List.map yF xs) t).g.length=xs.length:=by rw[hr.run.last.2.2,List.length_map]
 refine jJ Tryz.func13 rfl cb13 rfl ?_
 show qG _ _ _ _ ⟨[(0,(vl 83 7 kM t)),(1,(vl 45 4 jK (List.map jN xs)))],[]⟩
 refine jB<|kx [] [] (zE (dD 45 4)<|zM<|zZ) ?_
 refine jB<|kx [(6,(.ref 0 0)),(7,(jP 0))] [(0,some (bx (jL (qJ (vZ (List.map yF xs) t)))))] (zM<|zM<|zE (jY (p_pts xs hx hxb))<|zE (jY (j_jets t ht (List.map yF xs) (pts_gl hx) hr))<|zM<|zE uT<|zE uT<|zN (qV 0 cZ fK)<|zT (qA nL)<|zM<|zZ) ?_
 refine jB<|jB<|kx [(19,(vb false))] [] (zM<|zE (vW false nW)<|zZ) ?_
 refine kU ?_
 refine jD<|jB<|kx [(8,(.own 1 45 4 0))] [(1,some (yG jK []))] (zO 1 45 4<|zZ) ?_
 refine jB<|jB<|kx [(22,(vl 61 8 jF (List.map kC ((vZ (List.map yF xs) t).g)))),(23,(jP (((vZ (List.map yF xs) t).g).length))),(24,(jP 0))] [] (zE (kY xV)<|zR (oQr (.sl 61 8 (List.map jF (List.map kC ((vZ (List.map yF xs) t).g)))) (.sl 61 8 (List.map jF (List.map kC ((vZ (List.map yF xs) t).g)))) (uM cJ) (by exact rfl))<|zE (oLn xI (((vZ (List.map yF xs) t).g).length))<|zM<|zZ) ?_
 refine jH<|kA (α:=Nat × List jQ) (fun (i,o)=>⟨[(8,(.own 1 45 4 o.length)),(22,(vl 61 8 jF (List.map kC ((vZ (List.map yF xs) t).g)))),(23,(jP (((vZ (List.map yF xs) t).g).length))),(24,(jP i))],[(1,some (yG jK o))]⟩) (fun (i,o)=>i≤(vZ (List.map yF xs) t).g.length∧o=((vZ (List.map yF xs) t).g.take i).map (fun y=>jN y.1)) (fun (i,o)=>(vZ (List.map yF xs) t).g.length-i) (0,[]) wk ⟨Nat.zero_le _,by simp⟩ ?_
 rintro ⟨i,o⟩ ⟨hi,ho⟩
 have hol:o.length=i:=by rw[ho,List.length_map,List.length_take];omega
 refine jB<|kx [(25,(vb (decide (((i:Nat):Int)<((((vZ (List.map yF xs) t).g).length:Nat):Int)))))] [] (zE xK<|zZ) ?_
 refine jB<|jG rfl (fun h1=>?_) (fun h1=>?_)
 ·replace h1:=uP h1
  refine jD<|jB<|jH<|jB<|kx [(10,(.ref 2 0))] [(2,some (bx (jF (kC (((vZ (List.map yF xs) t).g).getD i z2)))))] (zE (oXm xI kC i z2)<|zE (gE jW)<|zH (qV 2 qO qS)<|zT (qA jW)<|zZ) ?_
  refine kf [(8,(.own 1 45 4 ((o++[(jN ((((vZ (List.map yF xs) t).g).getD i z2).1))]).length)))] [(1,some (yG jK (o++[(jN ((((vZ (List.map yF xs) t).g).getD i z2).1))])))] (zM<|zE (kY vK)<|zR (kK jS)<|zE (cN uE qU qY)<|zAS jK o [(jN ((((vZ (List.map yF xs) t).g).getD i z2).1))] rfl uE qU by45<|zM<|zF) ?_
  refine kx [(24,(jP (i+1)))] [] (zE (vC (i+1))<|zM<|zZ) ?_
  exact ⟨(i+1,o++[jN ((vZ (List.map yF xs) t).g.getD i z2).1]),wk,⟨by omega,by rw[ho];exact gr_step (by omega)⟩,(by first|omega|(dsimp only;omega))⟩
 ·replace h1:=uR h1
  refine kB<|jB<|kx [(4,(.own 1 45 4 o.length)),(5,(jP 0))] [] (zM<|zM<|zM<|zZ) ?_
  refine kS (vD (t:=4) (k:=1) (es:=List.map jK o) rfl rfl (zL _ _ (fun _=>rfl)) (uJ _ _ rfl) (yS jK o (fun _=>rfl) rfl)) ?_
  refine jE ⟨_,(.tmp (d:=(.sl 45 4 (List.map jK o))) rfl (.tmp (d:=(.val (.int .i64 (((0:Nat):Int))))) rfl .nil)),?_⟩
  rw[ho,show i=(vZ (List.map yF xs) t).g.length by omega,List.take_length];rfl
end Go.Proofs.YtnajallgoaiahaaGreatDoor
