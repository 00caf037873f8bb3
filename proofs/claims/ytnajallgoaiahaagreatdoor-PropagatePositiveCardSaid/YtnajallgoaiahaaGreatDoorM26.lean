/- Part 26 of a proof: rules, plain facts, and functions walked. -/
import Derived.Test.YtnajallgoaiahaaGreatDoorM25
import Derived.Test.YtnajallgoaiahaaGreatDoorM23
set_option linter.all false
set_option maxRecDepth 4000
namespace Go.Proofs.YtnajallgoaiahaaGreatDoor
open Go.Fid
theorem by3:yE Tryz.prog 3=some 8:=by kernel_rfl
theorem cb130:callB Tryz.prog 130=true:=by kernel_rfl
theorem el23:vF Tryz.prog 23=some (83,7):=by kernel_rfl
theorem nT:vF Tryz.prog 102=some (3,1):=by kernel_rfl
theorem sh83:qO Tryz.prog 83=some (true,7):=by kernel_rfl
theorem ze83:xX Tryz.prog 83=some [.int .i64 0,.int .i64 0,.int .i64 0,.bool false,.slice none 0 0,.bool false,.slice none 0 0]:=by kernel_rfl
theorem zo83:aN [.int .i64 0,.int .i64 0,.int .i64 0,.bool false,.slice none 0 0,.bool false,.slice none 0 0] [.val (.int .i64 0),.val (.int .i64 0),.val (.int .i64 0),.val (.bool false),.sl 140 1 [],.val (.bool false),.sl 140 1 []]:=by simp [aN,Value.oneCell']
theorem j_sizes(t:List kW)(ht:yM 1048576 t)(z:Int):jP Tryz.prog 130 [(.sl 83 7 (List.map qA t)),(.val (.int .i64 (z)))] (.tup [(.sl 3 1 (List.map qD (tmL z t))),(.val (.int .i64 ((((cB z t):Nat):Int))))]):=by
 refine jI Tryz.func130 rfl cb130 rfl ?_
 show qJ _ _ _ _ ⟨[(0,(vl 83 7 qA t)),(1,(vi z))],[]⟩
 refine jB<|kx [] [] (zE (cT 3 1)<|zM<|zZ) ?_
 refine jB<|jB<|kx [(15,(vb (decide (z<0)||decide (64<z))))] [] ?_ ?_
 ·refine zM<|zE xG<|zE (oV (vb (decide (z<0))) (kR (by kernel_rfl)))<|?_
  rcases hb1:(decide (z<0)) with _ | _
  ·replace hb1:=uX hb1
   exact zM<|zE mA<|zE cG<|zZ
  ·replace hb1:=uW hb1
   exact zK<|zK<|zE xA<|zZ
 refine jF (b:=(decide (z<0)||decide (64<z))) rfl (fun h2=>?_) (fun h2=>?_)
 ·refine jB<|kx [(4,(vl 3 1 qD [])),(5,(jR 2))] [] (zE (cT 3 1)<|zM<|zZ) ?_
  refine jE ⟨_,(.tmp (d:=(.sl 3 1 (List.map qD []))) rfl (.tmp (d:=(.val (.int .i64 (2)))) rfl .nil)),?_⟩
  have he:=zb_t (t:=t) h2
  rw[he.1,he.2];rfl
 ·have hz0:=h2
  refine jD<|jB<|jB<|kx [(18,(vb (((t.length:Nat):Int) == 0)))] [] (zM<|zE (uE el23)<|zE gD<|zZ) ?_
  refine jF (b:=(((t.length:Nat):Int) == 0)) rfl (fun h3=>?_) (fun h3=>?_)
  ·replace h3:=eq_of_beq h3
   refine jB<|kx [(4,(vl 3 1 qD [])),(5,(jR 1))] [] (zE (cT 3 1)<|zM<|zZ) ?_
   refine jE ⟨_,(.tmp (d:=(.sl 3 1 (List.map qD []))) rfl (.tmp (d:=(.val (.int .i64 (1)))) rfl .nil)),?_⟩
   have he:=tm_l0 hz0 (show t.length=0 by omega)
   rw[he.1,he.2];rfl
  ·replace h3:=ne_of_beq_false h3
   have h0:=h3
   refine jD<|jB<|jB<|kx [(21,(vb (decide (400<((t.length:Nat):Int)))))] [] (zM<|zE (uE el23)<|zE mA<|zZ) ?_
   refine jF (b:=decide (400<((t.length:Nat):Int))) rfl (fun h4=>?_) (fun h4=>?_)
   ·replace h4:=uW h4
    refine jB<|kx [(4,(vl 3 1 qD [])),(5,(jR 3))] [] (zE (cT 3 1)<|zM<|zZ) ?_
    refine jE ⟨_,(.tmp (d:=(.sl 3 1 (List.map qD []))) rfl (.tmp (d:=(.val (.int .i64 (3)))) rfl .nil)),?_⟩
    have he:=tm_lb hz0 (show 400<t.length by omega)
    rw[he.1,he.2];rfl
   ·replace h4:=uX h4
    have h400:=h4
    refine jD<|jB<|kx [(6,(.own 0 3 1 t.length))] [(0,some (bm qD (List.replicate t.length 0)))] (zM<|zE (uE el23)<|zN (oMk 0 qD (0:Int) t.length t.length nT ze3 zo3 by3)<|zM<|zZ) ?_
    refine jB<|jB<|kx [(25,(vl 83 7 qA t)),(26,(jR t.length)),(27,(jR 0))] [] (zM<|zE (uE el23)<|zM<|zZ) ?_
    refine jH<|kB (α:=Nat × List Int) (fun (k,o)=>⟨[(1,(vi z)),(6,(.own 0 3 1 t.length)),(25,(vl 83 7 qA t)),(26,(jR t.length)),(27,(jR k))],[(0,some (bm qD o))]⟩) (fun (k,o)=>k≤t.length∧szI t k o∧szUp z t k) (fun (k,o)=>t.length-k) (0,List.replicate t.length 0) wk ⟨Nat.zero_le _,szI_0,szUp_0 _ _⟩ ?_
    rintro ⟨k,o⟩ ⟨hk,ho,hu⟩
    have qV:=ho.1
    refine jB<|kx [(28,(vb (decide (((k:Nat):Int)<((t.length:Nat):Int)))))] [] (zE xG<|zZ) ?_
    refine jB<|jF rfl (fun h5=>?_) (fun h5=>?_)
    ·replace h5:=uW h5
     have hR:=tmr hz0 h5 h400 hu
     have hkl:=hR.kl
     refine jD<|jB<|jH<|jB<|kx [(7,(jR k)),(8,(.ref 1 0))] [(1,some (bx (qA (t.getD k tz))))] (zM<|zE (xJ el23 k (tz:kW))<|zE (nR sh83)<|zH (uF 1 ze83 zo83)<|zM<|zT (qK sh83)<|zZ) ?_
     refine jB<|kx [(9,(vi (xS ((t.getD k tz).op))))] [] (zE (qE nC)<|zR (uN bC)<|zE (jX (j_kids ((t.getD k tz).op)))<|zM<|zZ) ?_
     refine jB<|jB<|kx [(72,(vb (((decide ((xS ((t.getD k tz).op))<0)||(decide ((xS ((t.getD k tz).op))<2)&&((t.getD k tz).b != 0)))||(((t.getD k tz).op == 0)&&(((t.getD k tz).a != 0)||!(kL ((t.getD k tz).n)))))||(((t.getD k tz).op != 0)&&!(unsB ((t.getD k tz).n))))))] [] ?_ ?_
     ·refine zM<|zE xG<|zE (oV (vb (decide ((xS ((t.getD k tz).op))<0))) (kR (by kernel_rfl)))<|?_
      rcases hb6:(decide ((xS ((t.getD k tz).op))<0)) with _ | _
      ·replace hb6:=uX hb6
       refine zM<|zE xG<|zE (oV (vb (decide ((xS ((t.getD k tz).op))<2))) (kR (by kernel_rfl)))<|?_
       rcases hb7:(decide ((xS ((t.getD k tz).op))<2)) with _ | _
       ·replace hb7:=uX hb7
        refine zK<|zK<|zK<|zE xN<|zE xN<|zM<|zE (qE nC)<|zR (uN bC)<|zE gD<|zE (oV (vb ((t.getD k tz).op == 0)) (kR (by kernel_rfl)))<|?_
        rcases hb8:((t.getD k tz).op == 0) with _ | _
        ·replace hb8:=ne_of_beq_false hb8
         refine zK<|zK<|zK<|zK<|zK<|zK<|zK<|zK<|zK<|zE xN<|zE xN<|zM<|zE (qE nC)<|zR (uN bC)<|zE mC<|zE (oV (vb ((t.getD k tz).op != 0)) (kR (by kernel_rfl)))<|?_
         rcases hb9:((t.getD k tz).op != 0) with _ | _
         ·replace hb9:=bne_eq_false_iff_eq.1 hb9
          exact zK<|zK<|zK<|zK<|zE xN<|zE xN<|zZ
         ·replace hb9:=bne_iff_ne.1 hb9
          exact zE (qE dU)<|zR (kM jT)<|zE (jX (j_unset ((t.getD k tz).n) (qM (t.getD k tz).n) (tn_get ht (show k<t.length by omega))))<|zE nY<|zE fM<|zE cG<|zZ
        ·replace hb8:=eq_of_beq hb8
         refine zE (qE nA)<|zR (uN cS)<|zE mC<|zE (oV (vb ((t.getD k tz).a != 0)) (kR (by kernel_rfl)))<|?_
         rcases hb10:((t.getD k tz).a != 0) with _ | _
         ·replace hb10:=bne_eq_false_iff_eq.1 hb10
          refine zE (qE dU)<|zR (kM jT)<|zE (jX (cK ((t.getD k tz).n) (qM (t.getD k tz).n) (jV (tn_get ht (show k<t.length by omega)) (by decide))))<|zE nY<|zE cG<|zE fM<|zE cG<|zE (oV (vb (false||(true&&(false||!(kL ((t.getD k tz).n)))))) (kR (by kernel_rfl)))<|?_
          rcases hb11:(!(kL ((t.getD k tz).n))) with _ | _
          ·refine zE (qE nC)<|zR (uN bC)<|zE mC<|zE (oV (vb ((t.getD k tz).op != 0)) (kR (by kernel_rfl)))<|?_
           rcases hb12:((t.getD k tz).op != 0) with _ | _
           ·replace hb12:=bne_eq_false_iff_eq.1 hb12
            exact zK<|zK<|zK<|zK<|zE xN<|zE xN<|zZ
           ·replace hb12:=bne_iff_ne.1 hb12
            exact zE (qE dU)<|zR (kM jT)<|zE (jX (j_unset ((t.getD k tz).n) (qM (t.getD k tz).n) (tn_get ht (show k<t.length by omega))))<|zE nY<|zE fM<|zE cG<|zZ
          ·exact zK<|zK<|zK<|zK<|zK<|zK<|zK<|zK<|zK<|zE xA<|zZ
         ·replace hb10:=bne_iff_ne.1 hb10
          exact zK<|zK<|zK<|zK<|zE xA<|zE xA<|zE xN<|zM<|zK<|zK<|zK<|zK<|zK<|zK<|zK<|zK<|zK<|zE xA<|zZ
       ·replace hb7:=uW hb7
        refine zE (qE mZ)<|zR (uN cS)<|zE mC<|zE fM<|zE cG<|zE (oV (vb (false||(true&&((t.getD k tz).b != 0)))) (kR (by kernel_rfl)))<|?_
        rcases hb13:((t.getD k tz).b != 0) with _ | _
        ·replace hb13:=bne_eq_false_iff_eq.1 hb13
         refine zE (qE nC)<|zR (uN bC)<|zE gD<|zE (oV (vb ((t.getD k tz).op == 0)) (kR (by kernel_rfl)))<|?_
         rcases hb14:((t.getD k tz).op == 0) with _ | _
         ·replace hb14:=ne_of_beq_false hb14
          refine zK<|zK<|zK<|zK<|zK<|zK<|zK<|zK<|zK<|zE xN<|zE xN<|zM<|zE (qE nC)<|zR (uN bC)<|zE mC<|zE (oV (vb ((t.getD k tz).op != 0)) (kR (by kernel_rfl)))<|?_
          rcases hb15:((t.getD k tz).op != 0) with _ | _
          ·replace hb15:=bne_eq_false_iff_eq.1 hb15
           exact zK<|zK<|zK<|zK<|zE xN<|zE xN<|zZ
          ·replace hb15:=bne_iff_ne.1 hb15
           exact zE (qE dU)<|zR (kM jT)<|zE (jX (j_unset ((t.getD k tz).n) (qM (t.getD k tz).n) (tn_get ht (show k<t.length by omega))))<|zE nY<|zE fM<|zE cG<|zZ
         ·replace hb14:=eq_of_beq hb14
          refine zE (qE nA)<|zR (uN cS)<|zE mC<|zE (oV (vb ((t.getD k tz).a != 0)) (kR (by kernel_rfl)))<|?_
          rcases hb16:((t.getD k tz).a != 0) with _ | _
          ·replace hb16:=bne_eq_false_iff_eq.1 hb16
           refine zE (qE dU)<|zR (kM jT)<|zE (jX (cK ((t.getD k tz).n) (qM (t.getD k tz).n) (jV (tn_get ht (show k<t.length by omega)) (by decide))))<|zE nY<|zE cG<|zE fM<|zE cG<|zE (oV (vb (false||(true&&(false||!(kL ((t.getD k tz).n)))))) (kR (by kernel_rfl)))<|?_
           rcases hb17:(!(kL ((t.getD k tz).n))) with _ | _
           ·refine zE (qE nC)<|zR (uN bC)<|zE mC<|zE (oV (vb ((t.getD k tz).op != 0)) (kR (by kernel_rfl)))<|?_
            rcases hb18:((t.getD k tz).op != 0) with _ | _
            ·replace hb18:=bne_eq_false_iff_eq.1 hb18
             exact zK<|zK<|zK<|zK<|zE xN<|zE xN<|zZ
            ·replace hb18:=bne_iff_ne.1 hb18
             exact zE (qE dU)<|zR (kM jT)<|zE (jX (j_unset ((t.getD k tz).n) (qM (t.getD k tz).n) (tn_get ht (show k<t.length by omega))))<|zE nY<|zE fM<|zE cG<|zZ
           ·exact zK<|zK<|zK<|zK<|zK<|zK<|zK<|zK<|zK<|zE xA<|zZ
          ·replace hb16:=bne_iff_ne.1 hb16
           exact zK<|zK<|zK<|zK<|zE xA<|zE xA<|zE xN<|zM<|zK<|zK<|zK<|zK<|zK<|zK<|zK<|zK<|zK<|zE xA<|zZ
        ·replace hb13:=bne_iff_ne.1 hb13
         exact zK<|zK<|zK<|zK<|zK<|zK<|zK<|zK<|zK<|zK<|zK<|zK<|zK<|zK<|zE xA<|zM<|zK<|zK<|zK<|zK<|zK<|zK<|zK<|zK<|zK<|zE xA<|zZ
      ·replace hb6:=uW hb6
       exact zK<|zK<|zK<|zK<|zK<|zK<|zK<|zE xA<|zM<|zK<|zK<|zK<|zK<|zK<|zK<|zK<|zK<|zK<|zK<|zK<|zK<|zK<|zK<|zE xA<|zM<|zK<|zK<|zK<|zK<|zK<|zK<|zK<|zK<|zK<|zE xA<|zZ
     refine jF rfl (fun h19=>?_) (fun h19=>?_)
     ·refine jB<|kx [(4,(vl 3 1 qD [])),(5,(jR 1))] [] (zE (cT 3 1)<|zM<|zZ) ?_
      refine jE ⟨_,(.tmp (d:=(.sl 3 1 (List.map qD []))) rfl (.tmp (d:=(.val (.int .i64 (1)))) rfl .nil)),?_⟩
      have he:=hR.bad h19
      rw[he.1,he.2];rfl
     ·have hB:=h19
      refine jD<|jB<|jB<|kx [(100,(vb ((decide (0<(xS ((t.getD k tz).op)))&&(decide ((t.getD k tz).a<0)||decide (((k:Nat):Int)≤(t.getD k tz).a)))||(decide (1<(xS ((t.getD k tz).op)))&&(decide ((t.getD k tz).b<0)||decide (((k:Nat):Int)≤(t.getD k tz).b))))))] [] ?_ ?_
      ·refine zM<|zE mA<|zE (oV (vb (decide (0<(xS ((t.getD k tz).op))))) (kR (by kernel_rfl)))<|?_
       rcases hb20:(decide (0<(xS ((t.getD k tz).op)))) with _ | _
       ·replace hb20:=uX hb20
        refine zK<|zK<|zK<|zK<|zK<|zK<|zK<|zK<|zK<|zE xN<|zM<|zM<|zE mA<|zE (oV (vb (decide (1<(xS ((t.getD k tz).op))))) (kR (by kernel_rfl)))<|?_
        rcases hb21:(decide (1<(xS ((t.getD k tz).op)))) with _ | _
        ·replace hb21:=uX hb21
         exact zK<|zK<|zK<|zK<|zK<|zK<|zK<|zK<|zK<|zE xN<|zE xN<|zZ
        ·replace hb21:=uW hb21
         refine zE (qE mZ)<|zR (uN cS)<|zE xG<|zE (oV (vb (decide ((t.getD k tz).b<0))) (kR (by kernel_rfl)))<|?_
         rcases hb22:(decide ((t.getD k tz).b<0)) with _ | _
         ·replace hb22:=uX hb22
          exact zE (qE mZ)<|zR (uN cS)<|zM<|zE oGe<|zE cG<|zE fM<|zE cG<|zZ
         ·replace hb22:=uW hb22
          exact zK<|zK<|zK<|zK<|zE xA<|zE xA<|zE xN<|zZ
       ·replace hb20:=uW hb20
        refine zE (qE nA)<|zR (uN cS)<|zE xG<|zE (oV (vb (decide ((t.getD k tz).a<0))) (kR (by kernel_rfl)))<|?_
        rcases hb23:(decide ((t.getD k tz).a<0)) with _ | _
        ·replace hb23:=uX hb23
         refine zE (qE nA)<|zR (uN cS)<|zM<|zE oGe<|zE cG<|zE fM<|zE (oV (vb (true&&(false||decide (((k:Nat):Int)≤(t.getD k tz).a)))) (kR (by kernel_rfl)))<|?_
         rcases hb24:(decide (((k:Nat):Int)≤(t.getD k tz).a)) with _ | _
         ·replace hb24:=uX hb24
          refine zM<|zE mA<|zE (oV (vb (decide (1<(xS ((t.getD k tz).op))))) (kR (by kernel_rfl)))<|?_
          rcases hb25:(decide (1<(xS ((t.getD k tz).op)))) with _ | _
          ·replace hb25:=uX hb25
           exact zK<|zK<|zK<|zK<|zK<|zK<|zK<|zK<|zK<|zE xN<|zE xN<|zZ
          ·replace hb25:=uW hb25
           refine zE (qE mZ)<|zR (uN cS)<|zE xG<|zE (oV (vb (decide ((t.getD k tz).b<0))) (kR (by kernel_rfl)))<|?_
           rcases hb26:(decide ((t.getD k tz).b<0)) with _ | _
           ·replace hb26:=uX hb26
            exact zE (qE mZ)<|zR (uN cS)<|zM<|zE oGe<|zE cG<|zE fM<|zE cG<|zZ
           ·replace hb26:=uW hb26
            exact zK<|zK<|zK<|zK<|zE xA<|zE xA<|zE xN<|zZ
         ·replace hb24:=uW hb24
          exact zK<|zK<|zK<|zK<|zK<|zK<|zK<|zK<|zK<|zK<|zK<|zK<|zK<|zE xA<|zZ
        ·replace hb23:=uW hb23
         exact zK<|zK<|zK<|zK<|zE xA<|zE xA<|zM<|zK<|zK<|zK<|zK<|zK<|zK<|zK<|zK<|zK<|zK<|zK<|zK<|zK<|zE xA<|zZ
      refine jF rfl (fun h27=>?_) (fun h27=>?_)
      ·refine jB<|kx [(4,(vl 3 1 qD [])),(5,(jR 5))] [] (zE (cT 3 1)<|zM<|zZ) ?_
       refine jE ⟨_,(.tmp (d:=(.sl 3 1 (List.map qD []))) rfl (.tmp (d:=(.val (.int .i64 (5)))) rfl .nil)),?_⟩
       have he:=hR.ord hB h27
       rw[he.1,he.2];rfl
      ·have hO:=h27
       refine jD<|jB<|jB<|kx [(114,(vb (((t.getD k tz).op == 1)&&(decide ((t.getD k tz).a<0)||decide (z≤(t.getD k tz).a)))))] [] ?_ ?_
       ·refine zE (qE nC)<|zR (uN bC)<|zE gD<|zE (oV (vb ((t.getD k tz).op == 1)) (kR (by kernel_rfl)))<|?_
        rcases hb28:((t.getD k tz).op == 1) with _ | _
        ·replace hb28:=ne_of_beq_false hb28
         exact zK<|zK<|zK<|zK<|zK<|zK<|zK<|zK<|zK<|zE xN<|zZ
        ·replace hb28:=eq_of_beq hb28
         refine zE (qE nA)<|zR (uN cS)<|zE xG<|zE (oV (vb (decide ((t.getD k tz).a<0))) (kR (by kernel_rfl)))<|?_
         rcases hb29:(decide ((t.getD k tz).a<0)) with _ | _
         ·replace hb29:=uX hb29
          exact zE (qE nA)<|zR (uN cS)<|zM<|zE oGe<|zE cG<|zE fM<|zZ
         ·replace hb29:=uW hb29
          exact zK<|zK<|zK<|zK<|zE xA<|zE xA<|zZ
       refine jF rfl (fun h30=>?_) (fun h30=>?_)
       ·refine jB<|kx [(4,(vl 3 1 qD [])),(5,(jR 2))] [] (zE (cT 3 1)<|zM<|zZ) ?_
        refine jE ⟨_,(.tmp (d:=(.sl 3 1 (List.map qD []))) rfl (.tmp (d:=(.val (.int .i64 (2)))) rfl .nil)),?_⟩
        have he:=hR.rng hB hO h30
        rw[he.1,he.2];rfl
       ·have hN:=ndr hR hB hO h30
        refine jD<|pwp_seqjoin (α:=Int) (fun v=>⟨[(1,(vi z)),(6,(.own 0 3 1 t.length)),(7,(jR k)),(25,(vl 83 7 qA t)),(26,(jR t.length)),(27,(jR k))],[(0,some (bm qD (o.set k v)))]⟩) (fun v=>v=szN (cL t k) (t.getD k tz)) ?_ ?_
        ·refine jB<|kx [(129,(vb ((xS ((t.getD k tz).op)) == 0)))] [] (zM<|zE gD<|zM<|zZ) ?_
         refine jF (b:=((xS ((t.getD k tz).op)) == 0)) rfl (fun h31=>?_) (fun h31=>?_)
         ·replace h31:=eq_of_beq h31
          have hv:=szN_c (ss:=cL t k) h31
          refine kx [] [(0,some (bm qD (o.set k 1)))] (zM<|zM<|zE (fV nT k)<|zT (oSp cS k (1:Int))<|zZ) ?_
          exact ⟨1,wk,hv⟩
         ·replace h31:=ne_of_beq_false h31
          have hk0:=h31
          obtain ⟨a1,a2,a3,a4,a5⟩:=hN.a ho hk0
          refine jB<|kx [(135,(vb ((t.getD k tz).op == 6)))] [] (zE (qE nC)<|zR (uN bC)<|zE gD<|zM<|zZ) ?_
          refine jF (b:=((t.getD k tz).op == 6)) rfl (fun h32=>?_) (fun h32=>?_)
          ·replace h32:=eq_of_beq h32
           have hv:=szN_n hk0 h32 a3
           refine kx [] [(0,some (bm qD (o.set k (o.getD (((t.getD k tz).a).toNat) 0))))] (zM<|zM<|zM<|zE (qE nA)<|zR (uN cS)<|zE (fV nT (((t.getD k tz).a).toNat))<|zR (oLp cS (((t.getD k tz).a).toNat) (0:Int))<|zE (fV nT k)<|zT (oSp cS k (o.getD (((t.getD k tz).a).toNat) 0))<|zZ) ?_
           exact ⟨(o.getD (((t.getD k tz).a).toNat) 0),wk,hv⟩
          ·replace h32:=ne_of_beq_false h32
           have h6:=h32
           refine jB<|kx [(147,(vb ((t.getD k tz).op == 7)))] [] (zE (qE nC)<|zR (uN bC)<|zE gD<|zM<|zZ) ?_
           refine jF (b:=((t.getD k tz).op == 7)) rfl (fun h33=>?_) (fun h33=>?_)
           ·replace h33:=eq_of_beq h33
            have hv:=szN_q hk0 h33 a3
            refine kx [] [(0,some (bm qD (o.set k (2*(o.getD (((t.getD k tz).a).toNat) 0)))))] (zM<|zM<|zM<|zE (qE nA)<|zR (uN cS)<|zE (fV nT (((t.getD k tz).a).toNat))<|zR (oLp cS (((t.getD k tz).a).toNat) (0:Int))<|zE (zMl (2*(o.getD (((t.getD k tz).a).toNat) 0)))<|zE (fV nT k)<|zT (oSp cS k (2*(o.getD (((t.getD k tz).a).toNat) 0)))<|zZ) ?_
            exact ⟨(2*(o.getD (((t.getD k tz).a).toNat) 0)),wk,hv⟩
           ·replace h33:=ne_of_beq_false h33
            obtain ⟨b1,b2,b3,b4,b5⟩:=hN.b ho hk0 h6 h33
            have hv:=szN_b hk0 h6 h33 a3 b3
            refine kd [] [(0,some (bm qD (o.set k ((o.getD (((t.getD k tz).a).toNat) 0)+(o.getD (((t.getD k tz).b).toNat) 0)))))] mo (wM<|wM<|wM<|wE (qE nA)<|wR (uN cS)<|wE (fV nT (((t.getD k tz).a).toNat))<|wR (oLp cS (((t.getD k tz).a).toNat) (0:Int))<|wM<|wE (qE mZ)<|wR (uN cS)<|wE (fV nT (((t.getD k tz).b).toNat))<|wR (oLp cS (((t.getD k tz).b).toNat) (0:Int))<|wE (zAd ((o.getD (((t.getD k tz).a).toNat) 0)+(o.getD (((t.getD k tz).b).toNat) 0)))<|wE (fV nT k)<|wT (oSp cS k ((o.getD (((t.getD k tz).a).toNat) 0)+(o.getD (((t.getD k tz).b).toNat) 0)))<|wZ) ?_
            exact ⟨((o.getD (((t.getD k tz).a).toNat) 0)+(o.getD (((t.getD k tz).b).toNat) 0)),wk,hv⟩
        ·rintro v hv
         have hsl:(o.set k v).length=o.length:=List.length_set
         refine jB<|kx [(164,(vb (decide (4096<((o.set k v).getD k 0)))))] [] (zM<|zM<|zE (fV nT k)<|zR (oLp cS k (0:Int))<|zE mA<|zZ) ?_
         refine jF (b:=decide (4096<((o.set k v).getD k 0))) rfl (fun h34=>?_) (fun h34=>?_)
         ·replace h34:=uW h34
          refine jB<|kx [(4,(vl 3 1 qD [])),(5,(jR 3))] [] (zE (cT 3 1)<|zM<|zZ) ?_
          refine jE ⟨_,(.tmp (d:=(.sl 3 1 (List.map qD []))) rfl (.tmp (d:=(.val (.int .i64 (3)))) rfl .nil)),?_⟩
          have he:=hN.big hv (by omega) h34
          rw[he.1,he.2];rfl
         ·replace h34:=uX h34
          refine jD<|kx [(27,(jR (k+1)))] [] (zE (vT (k+1))<|zM<|zZ) ?_
          exact ⟨(k+1,o.set k v),wk,(hN.next hv ho (by omega)),(by first|omega|(dsimp only;omega))⟩
    ·replace h5:=uX h5
     refine kC<|jB<|kx [(4,(.own 0 3 1 t.length)),(5,(jR 0))] [] (zM<|zM<|zM<|zZ) ?_
     refine kV (vN (t:=4) (k:=0) (es:=List.map qD o) rfl rfl (uI _ _ (fun _=>rfl)) (uT _ _ qV) (vH _ _ (fun _=>rfl) qV)) ?_
     refine jE ⟨_,(.tmp (d:=(.sl 3 1 (List.map qD o))) rfl (.tmp (d:=(.val (.int .i64 (0)))) rfl .nil)),?_⟩
     have he:=tm_end hz0 h0 h400 hk h5 ho hu
     rw[he.1,he.2];rfl
theorem cb67:callB Tryz.prog 67=true:=by kernel_rfl
theorem cb73:callB Tryz.prog 73=true:=by kernel_rfl
theorem fo161_4:xP Tryz.prog 161 4=some 4:=by kernel_rfl
theorem pl161:eB Tryz.prog 161=some [(0,1),(1,1),(2,1),(3,1),(4,1)]:=by kernel_rfl
theorem ze161:xX Tryz.prog 161=some [.int .i64 0,.int .i64 0,.int .i64 0,.slice none 0 0,.bool false]:=by kernel_rfl
theorem zn161:aN [.int .i64 0,.int .i64 0,.int .i64 0,.slice none 0 0,.bool false] [.val (.int .i64 0),.val (.int .i64 0),.val (.int .i64 0),.val (.slice none 0 0),.val (.bool false)]:=by simp [aN,Value.oneCell']
def StepAt(bv:List R2)(L:List JV)(x:kW):Prop:=vR Tryz.prog 126 [(.ref 0 0),(.d (qA x)),(vl 61 8 jJ (List.map kP bv))] [(0,some (xF bv.length 1 (L) false)),(1,some (xL (L)))] (.d (.tup [])) [(0,some (xF bv.length 18 (L++[nJ bv L x]) false)),(18,some (xL (L++[nJ bv L x])))]
theorem e_step(x:kW)(bv:List R2)(hbx:∀ x∈bv,GL 1048576 x)(L:List JV)(hst:StepAt bv L x):vR Tryz.prog 126 [(.ref 0 0),(.d (qA x)),(vl 61 8 jJ (List.map kP bv))] [(0,some (xF bv.length 1 (L) false)),(1,some (xL (L)))] (.d (.tup [])) [(0,some (xF bv.length 18 (L++[nJ bv L x]) false)),(18,some (xL (L++[nJ bv L x])))]:=hst
structure JRunP (bv:List R2) (t:List kW):Prop where
 run:bI bv t
 st:∀ k,k<t.length→StepAt bv (jU bv t k) (t.getD k tz)
theorem iD{bv:List R2}{ts:List (List kW)}(h:∀ t∈ts,JRunP bv t):∀ t∈ts,bI bv t:=fun t ht=>(h t ht).run
theorem j_chk(t:List kW)(ht:yM 1048576 t)(z:Int):jP Tryz.prog 73 [(.sl 83 7 (List.map qA t)),(.val (.int .i64 (z)))] (.val (.int .i64 ((((cB z t):Nat):Int)))):=by
 refine jI Tryz.func73 rfl cb73 rfl ?_
 show qJ _ _ _ _ ⟨[(0,(vl 83 7 qA t)),(1,(vi z))],[]⟩
 refine jB<|kx [] [] (zM<|zZ) ?_
 refine jB<|kx [(6,(jR (cB z t)))] [] (zM<|zM<|zE (jX (j_sizes t ht z))<|zM<|zE xD<|zE xD<|zM<|zM<|zZ) ?_
 refine jB<|kx [(4,(jR (cB z t)))] [] (zM<|zM<|zZ) ?_
 refine jE ⟨_,(.tmp (d:=(.val (.int .i64 ((((cB z t):Nat):Int))))) rfl .nil),?_⟩
 rfl
theorem j_jets(t:List kW)(ht:yM 1048576 t)(bv:List R2)(hbx:∀ x∈bv,GL 1048576 x)(hr:JRunP bv t):jP Tryz.prog 67 [(.sl 83 7 (List.map qA t)),(.sl 61 8 (List.map jJ (List.map kP bv))),(.val (.int .i64 (((1:Nat):Int)))),(.val (.int .i64 (-1)))] (.tup [(jL (qI (hP bv t))),(.val (.int .i64 (((0:Nat):Int))))]):=by
 have h0:=tm_0 hr.run.c0
 let y3:=(jZ.mk qH qH)
 let y2:=(bx (jL (nN.mk y3 [] [])))
 let y1:=(bx (.agg [(.val (.int .i64 (((bv.length:Nat):Int)))),(.val (.int .i64 (((1:Nat):Int)))),(.val (.int .i64 (-1))),(.val (.slice none 0 0)),(.val (.bool (false)))]))
 refine jI Tryz.func67 rfl cb67 rfl ?_
 show qJ _ _ _ _ ⟨[(0,(vl 83 7 qA t)),(1,(vl 61 8 jJ (List.map kP bv))),(2,(jR 1)),(3,(vi (-1)))],[]⟩
 refine jB<|kx [(8,(.ref 0 0))] [(0,some y2)] (zN (uF 0 ze95 zo95)<|zM<|zZ) ?_
 refine jB<|jB<|kx [(16,(vl 61 8 jJ (List.map kP bv))),(17,(jR bv.length)),(18,(jR 0))] [] (zM<|zE (oLn gP bv.length)<|zM<|zZ) ?_
 refine jH<|kB (α:=Nat) (fun i=>⟨[(0,(vl 83 7 qA t)),(1,(vl 61 8 jJ (List.map kP bv))),(2,(jR 1)),(3,(vi (-1))),(8,(.ref 0 0)),(16,(vl 61 8 jJ (List.map kP bv))),(17,(jR bv.length)),(18,(jR i))],[(0,some y2)]⟩) (fun i=>i≤bv.length) (fun i=>bv.length-i) 0 wk (Nat.zero_le _) ?_
 rintro i hi
 refine jB<|kx [(19,(vb (decide (((i:Nat):Int)<((bv.length:Nat):Int)))))] [] (zE xG<|zZ) ?_
 refine jB<|jF rfl (fun h1=>?_) (fun h1=>?_)
 ·replace h1:=uW h1
  refine jD<|jB<|jH<|jB<|kx [(11,(.ref 1 0))] [(1,some (bx (jJ (kP (bv.getD i z2)))))] (zE (oXm gP kP i z2)<|zE (nR kI)<|zN (uF 1 uH uR)<|zT (qK kI)<|zZ) ?_
  refine jB<|kx [(24,(vb false))] [] (zR (kM kI)<|zE (jX (by have h:=bS (kP (bv.getD i z2)) (gZ (⟨qQ (jV (kG (xB hbx (by decide) i).1) (by decide:1048576≤1048576)),qQ (jV (kG (xB hbx (by decide) i).2.1) (by decide:1048576≤1048576))⟩) (by decide));rw[show uO (kP (bv.getD i z2))=true from zL (xB hbx (by decide) i).2.2] at h;exact h))<|zE nY<|zZ) ?_
  refine kS ?_
  refine jD<|kx [(18,(jR (i+1)))] [] (zE (vT (i+1))<|zM<|zZ) ?_
  exact ⟨i+1,wk,(by omega),(by first|omega|(dsimp only;omega))⟩
 ·replace h1:=uX h1
  refine kC<|jB<|jB<|kx [(36,(vb false))] [] (zM<|zE (vZ false xG)<|zM<|zM<|zE (vZ false mA)<|zE xN<|zM<|zM<|zE (vZ false mA)<|zE xN<|zZ) ?_
  refine kS ?_
  refine jD<|jB<|jB<|kx [(12,(jR (cB ((bv.length:Nat):Int) t)))] [] (zM<|zM<|zE (oLn gP bv.length)<|zE (jX (j_chk t ht ((bv.length:Nat):Int)))<|zM<|zZ) ?_
  refine jB<|kx [(43,(vb false))] [] (zM<|zE (vZ false mC (by exact bne_eq_false_iff_eq.2 (by rw[show (cB ((bv.length:Nat):Int) t)=0 from hr.run.c0]<;>rfl)))<|zZ) ?_
  refine kS ?_
  refine jD<|jB<|kx [(13,(.ref 2 0))] [(2,some y1)] (zM<|zE (oLn gP bv.length)<|zM<|zM<|zE (bY pl161 ze161 zn161)<|zN (vW 2)<|zM<|zZ) ?_
  refine jB<|jB<|pwp_own 2 3 3 95 10 (cs:=y1) (h:=?_)
  refine kV (wk (l:=[(0,(vl 83 7 qA t)),(1,(vl 61 8 jJ (List.map kP bv))),(8,(.ref 0 0)),(13,(.ref 2 0))]) (b:=[(0,some y2),(2,some [(jR bv.length),(jR 1),(vi (-1)),(.own 3 95 10 0),(vb false)]),(3,some (nD jL []))])) ?_
  refine kx [(52,(vl 83 7 qA t)),(53,(jR t.length)),(54,(jR 0))] [] (zM<|zE (uE el23)<|zM<|zZ) ?_
  refine jH<|kB (α:=Nat) (fun k=>⟨[(1,(vl 61 8 jJ (List.map kP bv))),(8,(.ref 0 0)),(13,(.ref 2 0)),(52,(vl 83 7 qA t)),(53,(jR t.length)),(54,(jR k))],[(0,some y2),(2,some (xF bv.length 3 (jU bv t k) false)),(3,some (xL (jU bv t k)))]⟩) (fun k=>k≤t.length) (fun k=>t.length-k) 0 wk (Nat.zero_le _) ?_
  rintro k hk
  have hju:=dQ bv t k
  have hjm:(List.map qI (jU bv t k)).length=k:=by rw[List.length_map,hju]
  have hup:=hr.run.upto hk
  refine jB<|kx [(55,(vb (decide (((k:Nat):Int)<((t.length:Nat):Int)))))] [] (zE xG<|zZ) ?_
  refine jB<|jF rfl (fun h2=>?_) (fun h2=>?_)
  ·replace h2:=uW h2
   refine jD<|jB<|jH<|jB<|kx [(15,(.ref 4 0))] [(4,some (bx (qA (t.getD k tz))))] (zE (xJ el23 k (tz:kW))<|zE (nR sh83)<|zH (uF 4 ze83 zo83)<|zT (qK sh83)<|zZ) ?_
   refine jB<|kf [] [(2,some (xF bv.length 21 ((jU bv t k)++[(nJ bv (jU bv t k) (t.getD k tz))]) false)),(21,some (xL ((jU bv t k)++[(nJ bv (jU bv t k) (t.getD k tz))]))),(10,none),(11,none),(12,none),(13,none),(14,none),(15,none),(16,none),(17,none),(18,none),(19,none),(20,none),(3,none),(5,none),(6,none),(7,none),(8,none),(9,none)] (zM<|zR (kM sh83)<|zM<|zSe (B2:=[(2,some (xF bv.length 3 (jU bv t k) false)),(3,some (xL (jU bv t k)))]) (B2':=[(2,some (xF bv.length 21 ((jU bv t k)++[(nJ bv (jU bv t k) (t.getD k tz))]) false)),(21,some (xL ((jU bv t k)++[(nJ bv (jU bv t k) (t.getD k tz))])))]) [2,3,5,6,7,8,9,10,11,12,13,14,15,16,17,18,19,20,21] [2] (e_step (t.getD k tz) bv hbx (jU bv t k) (hr.st k (show k<t.length by omega)))<|zF) ?_
   refine kV (wk (l:=[(1,(vl 61 8 jJ (List.map kP bv))),(8,(.ref 0 0)),(13,(.ref 2 0)),(52,(vl 83 7 qA t)),(53,(jR t.length)),(54,(jR k))]) (b:=[(0,some y2),(2,some (xF bv.length 21 ((jU bv t k)++[(nJ bv (jU bv t k) (t.getD k tz))]) false)),(21,some (xL ((jU bv t k)++[(nJ bv (jU bv t k) (t.getD k tz))])))])) ?_
   refine kV (sim_ren2 (S':=[(1,(vl 61 8 jJ (List.map kP bv))),(8,(.ref 0 0)),(13,(.ref 2 0)),(52,(vl 83 7 qA t)),(53,(jR t.length)),(54,(jR k))]) (B':=[(0,some y2),(2,some (xF bv.length 3 ((jU bv t k)++[(nJ bv (jU bv t k) (t.getD k tz))]) false)),(3,some (xL ((jU bv t k)++[(nJ bv (jU bv t k) (t.getD k tz))])))]) 3 21 2) ?_
   refine jB<|kx [(65,(vb false))] [] (zM<|zE oNc<|zE (qE fo161_4)<|zR (uN aU)<|zZ) ?_
   refine kS ?_
   refine jD<|kx [(54,(jR (k+1)))] [] (zE (vT (k+1))<|zM<|zZ) ?_
   exact ⟨k+1,wk,(by omega),(by first|omega|(dsimp only;omega))⟩
  ·replace h2:=uX h2
   refine kC<|jB<|kd [(9,(jR 0))] [(0,some (bx (jL ((List.map qI (jU bv t k)).getD ((List.map qI (jU bv t k)).length-1) (nN.mk y3 [] [])))))] mo (wM<|wE oNc<|wE (qE cE)<|wR (uN sh143)<|wM<|wE oNc<|wE (qE cE)<|wR (uN sh143)<|wE (oLo el143)<|wE (oSb ((List.map qI (jU bv t k)).length-1))<|wE (oXO el143 ((List.map qI (jU bv t k)).length-1))<|wR (oLA eR ((List.map qI (jU bv t k)).length-1) (nN.mk y3 [] []))<|wT (qK eR)<|wM<|wZ) ?_
   refine jE ⟨_,(kN (cs:=(bx (jL ((List.map qI (jU bv t k)).getD ((List.map qI (jU bv t k)).length-1) (nN.mk y3 [] []))))) (d:=(jL ((List.map qI (jU bv t k)).getD ((List.map qI (jU bv t k)).length-1) (nN.mk y3 [] [])))) rfl rfl eR rfl rfl (.tmp (d:=(.val (.int .i64 (((0:Nat):Int))))) rfl .nil)),?_⟩
   obtain rfl:k=t.length:=by omega
   rw[List.length_map,hju,map_getD qI _ jz _ (by omega)]
   unfold hP;rfl
theorem cb13:callB Tryz.prog 13=true:=by kernel_rfl
theorem cb68:callB Tryz.prog 68=true:=by kernel_rfl
theorem cb71:callB Tryz.prog 71=true:=by kernel_rfl
theorem cb74:callB Tryz.prog 74=true:=by kernel_rfl
theorem p_pts(xs:List Rat)(hx:∀ q∈xs,QL q 1048576)(hxb:xs.length≤1000000):jP Tryz.prog 68 [(.sl 45 4 (List.map jK (List.map jQ xs)))] (.sl 61 8 (List.map jJ (List.map kP (List.map mH xs)))):=by
 refine jI Tryz.func68 rfl cb68 rfl ?_
 show qJ _ _ _ _ ⟨[(0,(vl 45 4 jK (List.map jQ xs)))],[]⟩
 refine jB<|kx [] [] (zE (cT 61 8)<|zZ) ?_
 refine jB<|kx [(3,(.own 0 61 8 0))] [(0,some (nD jJ []))] (zO 0 61 8<|zZ) ?_
 refine jB<|jB<|kx [(6,(vl 45 4 jK (List.map jQ xs))),(7,(jR xs.length)),(8,(jR 0))] [] (zM<|zE (oLn qY xs.length)<|zM<|zZ) ?_
 refine jH<|kB (α:=Nat × List jZ) (fun (i,o)=>⟨[(3,(.own 0 61 8 o.length)),(6,(vl 45 4 jK (List.map jQ xs))),(7,(jR xs.length)),(8,(jR i))],[(0,some (nD jJ o))]⟩) (fun (i,o)=>i≤xs.length∧o=(xs.take i).map (fun q=>kP (mH q))) (fun (i,o)=>xs.length-i) (0,[]) wk ⟨Nat.zero_le _,by simp⟩ ?_
 rintro ⟨i,o⟩ ⟨hi,ho⟩
 have hol:o.length=i:=by rw[ho,List.length_map,List.length_take];omega
 refine jB<|kx [(9,(vb (decide (((i:Nat):Int)<((xs.length:Nat):Int)))))] [] (zE xG<|zZ) ?_
 refine jB<|jF rfl (fun h1=>?_) (fun h1=>?_)
 ·replace h1:=uW h1
  refine jD<|jB<|jH<|jB<|kx [(5,(.ref 1 0))] [(1,some (bx (jK (jQ (xs.getD i 0)))))] (zE (oXm qY jQ i 0)<|zE (nR jT)<|zH (uF 1 uG uQ)<|zT (qK jT)<|zZ) ?_
  refine kf [(3,(.own 0 61 8 ((o++[(jZ.mk (jQ (xs.getD i 0)) (jQ (xs.getD i 0)))]).length)))] [(0,some (nD jJ (o++[(jZ.mk (jQ (xs.getD i 0)) (jQ (xs.getD i 0)))])))] (zM<|zR (kM jT)<|zR (kM jT)<|zE (bY pl61 uH uR)<|zE (eC gP uH uR)<|zAS jJ o [(jZ.mk (jQ (xs.getD i 0)) (jQ (xs.getD i 0)))] rfl gP uH by61<|zM<|zF) ?_
  refine kx [(8,(jR (i+1)))] [] (zE (vT (i+1))<|zM<|zZ) ?_
  exact ⟨(i+1,o++[kP (mH (xs.getD i 0))]),wk,⟨by omega,by rw[ho];exact mR (f:=fun q=>kP (mH q)) (by omega)⟩,(by first|omega|(dsimp only;omega))⟩
 ·replace h1:=uX h1
  refine kC<|jB<|kx [(2,(.own 0 61 8 o.length))] [] (zM<|zM<|zZ) ?_
  refine kV (vN (t:=2) (k:=0) (es:=List.map jJ o) rfl rfl (nL _ _ (fun _=>rfl)) (uT _ _ rfl) (mT jJ o (fun _=>rfl) rfl)) ?_
  refine jE ⟨_,(.tmp (d:=(.sl 61 8 (List.map jJ o))) rfl .nil),?_⟩
  rw[ho,show i=xs.length by omega,List.take_length,show List.map (fun q=>kP (mH q)) xs=List.map kP (List.map mH xs) from (by rw[List.map_map];rfl)];rfl
theorem p_val(bv:List R2)(hbx:∀ x∈bv,GL 1048576 x)(hbl:bv.length≤1000000):jP Tryz.prog 71 [(.sl 61 8 (List.map jJ (List.map kP bv)))] (.val (.bool (true))):=by
 refine jI Tryz.func71 rfl cb71 rfl ?_
 show qJ _ _ _ _ ⟨[(0,(vl 61 8 jJ (List.map kP bv)))],[]⟩
 refine jB<|kx [] [] (zM<|zZ) ?_
 refine jB<|jB<|kx [(5,(vl 61 8 jJ (List.map kP bv))),(6,(jR bv.length)),(7,(jR 0))] [] (zM<|zE (oLn gP bv.length)<|zM<|zZ) ?_
 refine jH<|kB (α:=Nat) (fun i=>⟨[(5,(vl 61 8 jJ (List.map kP bv))),(6,(jR bv.length)),(7,(jR i))],[]⟩) (fun i=>i≤bv.length) (fun i=>bv.length-i) 0 wk (Nat.zero_le _) ?_
 rintro i hi
 refine jB<|kx [(8,(vb (decide (((i:Nat):Int)<((bv.length:Nat):Int)))))] [] (zE xG<|zZ) ?_
 refine jB<|jF rfl (fun h1=>?_) (fun h1=>?_)
 ·replace h1:=uW h1
  refine jD<|jB<|jH<|jB<|kx [(4,(.ref 0 0))] [(0,some (bx (jJ (kP (bv.getD i z2)))))] (zE (oXm gP kP i z2)<|zE (nR kI)<|zN (uF 0 uH uR)<|zT (qK kI)<|zZ) ?_
  refine jB<|kx [(13,(vb false))] [] (zR (kM kI)<|zE (jX (by have h:=bS (kP (bv.getD i z2)) (gZ (⟨qQ (jV (kG (xB hbx (by decide) i).1) (by decide:1048576≤1048576)),qQ (jV (kG (xB hbx (by decide) i).2.1) (by decide:1048576≤1048576))⟩) (by decide));rw[show uO (kP (bv.getD i z2))=true from zL (xB hbx (by decide) i).2.2] at h;exact h))<|zE nY<|zZ) ?_
  refine kS ?_
  refine jD<|kx [(7,(jR (i+1)))] [] (zE (vT (i+1))<|zM<|zZ) ?_
  exact ⟨i+1,wk,(by omega),(by first|omega|(dsimp only;omega))⟩
 ·replace h1:=uX h1
  refine kC<|jB<|kx [(2,(vb true))] [] (zM<|zZ) ?_
  refine jE ⟨_,(.tmp (d:=(.val (.bool (true)))) rfl .nil),?_⟩
  rfl
theorem p_fit(m:List (List jN))(hm:qS 1048576 m)(n:Nat)(hr:yI m m.length (m.getD 0 []).length):jP Tryz.prog 74 [(.sl 24 1 (List.map jG m)),(.val (.int .i64 (((n:Nat):Int))))] (.val (.int .i64 ((((dJ m n):Nat):Int)))):=by
 have hmb:=hr.r64
 have hm1:=hr.r1
 have hm0:=hr.c64
 let y1:=qH
 refine jI Tryz.func74 rfl cb74 rfl ?_
 show qJ _ _ _ _ ⟨[(0,(vl 24 1 jG m)),(1,(jR n))],[]⟩
 refine jB<|kx [] [] (zM<|zZ) ?_
 refine jB<|jB<|kx [(18,(vb ((((m.length:Nat):Int) != ((n:Nat):Int))||((((m.getD 0 []).length:Nat):Int) != ((n:Nat):Int)))))] [] ?_ ?_
 ·refine zM<|zE (uE uV)<|zM<|zE mC<|zE (oV (vb (((m.length:Nat):Int) != ((n:Nat):Int))) (kR (by kernel_rfl)))<|?_
  rcases hb1:(((m.length:Nat):Int) != ((n:Nat):Int)) with _ | _
  ·replace hb1:=bne_eq_false_iff_eq.1 hb1
   exact zM<|zE (xJ uV 0 ([]:List (jN)))<|zE (xO gB)<|zE (uE qY (L:=(m.getD 0 [])))<|zM<|zE mC<|zE cG<|zZ
  ·replace hb1:=bne_iff_ne.1 hb1
   exact zK<|zK<|zK<|zK<|zK<|zK<|zE xA<|zZ
 refine jF rfl (fun h2=>?_) (fun h2=>?_)
 ·refine jB<|kx [(4,(jR 4))] [] (zM<|zZ) ?_
  refine jE ⟨_,(.tmp (d:=(.val (.int .i64 (4)))) rfl .nil),?_⟩
  rw[fit_1 h2];rfl
 ·have hs:=fit_0 h2
  refine jD<|jB<|jB<|kx [(20,(jR m.length)),(21,(jR 0))] [] (zM<|zE (uE uV)<|zM<|zZ) ?_
  refine jH<|kB (α:=Nat) (fun i=>⟨[(0,(vl 24 1 jG m)),(20,(jR m.length)),(21,(jR i))],[]⟩) (fun i=>i≤m.length∧symI m i) (fun i=>m.length-i) 0 wk ⟨Nat.zero_le _,symI_0 m⟩ ?_
  rintro i ⟨hi,hsy⟩
  refine jB<|kx [(22,(vb (decide (((i:Nat):Int)<((m.length:Nat):Int)))))] [] (zE xG<|zZ) ?_
  refine jB<|jF rfl (fun h3=>?_) (fun h3=>?_)
  ·replace h3:=uW h3
   have hri:=(hr.at (show i<m.length by omega)).1
   refine jD<|jB<|jH<|jB<|kx [(5,(jR i))] [] (zM<|zM<|zZ) ?_
   refine jB<|kx [(24,(jR i)),(25,(jR 0))] [] (zM<|zM<|zZ) ?_
   refine jH<|kB (α:=Nat) (fun j=>⟨[(0,(vl 24 1 jG m)),(5,(jR i)),(20,(jR m.length)),(21,(jR i)),(24,(jR i)),(25,(jR j))],[]⟩) (fun j=>j≤i∧∀ b,b<j→eqM m i b=true) (fun j=>i-j) 0 wk ⟨Nat.zero_le _,fun b hb=>by omega⟩ ?_
   rintro j ⟨hj,he⟩
   refine jB<|kx [(26,(vb (decide (((j:Nat):Int)<((i:Nat):Int)))))] [] (zE xG<|zZ) ?_
   refine jB<|jF rfl (fun h4=>?_) (fun h4=>?_)
   ·replace h4:=uW h4
    have hrj:=(hr.at (show j<m.length by omega)).1
    refine jD<|jB<|jH<|jB<|kx [(6,(jR j))] [] (zM<|zM<|zZ) ?_
    refine jB<|kd [(43,(vb ((yW (qM ((m.getD i []).getD j y1)) (qM ((m.getD j []).getD i y1))) != 0)))] [] mo (wM<|wM<|wE (xJ uV i ([]:List (jN)))<|wE (xO gB)<|wM<|wE (xJ qY j y1 (L:=(m.getD i [])))<|wE (nR jT)<|wM<|wM<|wE (xJ uV j ([]:List (jN)))<|wE (xO gB)<|wM<|wE (xJ qY i y1 (L:=(m.getD j [])))<|wE (nR jT)<|wE (jX (cQ ((m.getD i []).getD j y1) ((m.getD j []).getD i y1) (qM ((m.getD i []).getD j y1)) (qM ((m.getD j []).getD i y1)) (jV (vM (uL (d:=[]) hm (show i<m.length by omega)).1 (show j<(m.getD i []).length by omega)) (by decide)) (jV (vM (uL (d:=[]) hm (show j<m.length by omega)).1 (show i<(m.getD j []).length by omega)) (by decide))))<|wE mC<|wZ) ?_
    refine jF rfl (fun h5=>?_) (fun h5=>?_)
    ·replace h5:=bne_iff_ne.1 h5
     refine jB<|kx [(4,(jR 11))] [] (zM<|zZ) ?_
     refine jE ⟨_,(.tmp (d:=(.val (.int .i64 (11)))) rfl .nil),?_⟩
     rw[fit_11 hs (sym_no (i:=i) (j:=j) (by omega) (by omega) (eqm_f h5))];rfl
    ·replace h5:=bne_eq_false_iff_eq.1 h5
     refine jD<|kx [(25,(jR (j+1)))] [] (zE (vT (j+1))<|zM<|zZ) ?_
     exact ⟨j+1,wk,⟨by omega,eqm_s he h5⟩,(by first|omega|(dsimp only;omega))⟩
   ·replace h4:=uX h4
    have hsy2:=symI_s hsy (fun b hb=>he b (by omega))
    refine kC<|kx [(21,(jR (i+1)))] [] (zE (vT (i+1))<|zM<|zZ) ?_
    exact ⟨i+1,wk,⟨by omega,hsy2⟩,(by first|omega|(dsimp only;omega))⟩
  ·replace h3:=uX h3
   refine kC<|jB<|kx [(4,(jR 0))] [] (zM<|zZ) ?_
   refine jE ⟨_,(.tmp (d:=(.val (.int .i64 (0)))) rfl .nil),?_⟩
   obtain rfl:i=m.length:=by omega
   rw[fit_ok hs (sym_yes hsy)];rfl
theorem p_grd(t:List kW)(ht:yM 1048576 t)(xs:List Rat)(hx:∀ q∈xs,QL q 1048576)(hr:JRunP (List.map mH xs) t)(hxb:xs.length≤1000000):jP Tryz.prog 13 [(.sl 83 7 (List.map qA t)),(.sl 45 4 (List.map jK (List.map jQ xs)))] (.tup [(.sl 45 4 (List.map jK (xY xs t))),(.val (.int .i64 (((0:Nat):Int))))]):=by
 have hgl:(hP (List.map mH xs) t).g.length=xs.length:=by rw[hr.run.last.2.2,List.length_map]
 refine jI Tryz.func13 rfl cb13 rfl ?_
 show qJ _ _ _ _ ⟨[(0,(vl 83 7 qA t)),(1,(vl 45 4 jK (List.map jQ xs)))],[]⟩
 refine jB<|kx [] [] (zE (cT 45 4)<|zM<|zZ) ?_
 refine jB<|kx [(6,(.ref 0 0)),(7,(jR 0))] [(0,some (bx (jL (qI (hP (List.map mH xs) t)))))] (zM<|zM<|zE (jX (p_pts xs hx hxb))<|zE (jX (j_jets t ht (List.map mH xs) (pts_gl hx) hr))<|zM<|zE xD<|zE xD<|zN (uF 0 ze95 zo95)<|zT (qK eR)<|zM<|zZ) ?_
 refine jB<|jB<|kx [(19,(vb false))] [] (zM<|zE (vZ false mC)<|zZ) ?_
 refine kS ?_
 refine jD<|jB<|kx [(8,(.own 1 45 4 0))] [(1,some (nD jK []))] (zO 1 45 4<|zZ) ?_
 refine jB<|jB<|kx [(22,(vl 61 8 jJ (List.map kP ((hP (List.map mH xs) t).g)))),(23,(jR (((hP (List.map mH xs) t).g).length))),(24,(jR 0))] [] (zE (qE nZ)<|zR (oQr (.sl 61 8 (List.map jJ (List.map kP ((hP (List.map mH xs) t).g)))) (.sl 61 8 (List.map jJ (List.map kP ((hP (List.map mH xs) t).g)))) (uN iG) (by exact rfl))<|zE (oLn gP (((hP (List.map mH xs) t).g).length))<|zM<|zZ) ?_
 refine jH<|kB (α:=Nat × List jN) (fun (i,o)=>⟨[(8,(.own 1 45 4 o.length)),(22,(vl 61 8 jJ (List.map kP ((hP (List.map mH xs) t).g)))),(23,(jR (((hP (List.map mH xs) t).g).length))),(24,(jR i))],[(1,some (nD jK o))]⟩) (fun (i,o)=>i≤(hP (List.map mH xs) t).g.length∧o=((hP (List.map mH xs) t).g.take i).map (fun y=>jQ y.1)) (fun (i,o)=>(hP (List.map mH xs) t).g.length-i) (0,[]) wk ⟨Nat.zero_le _,by simp⟩ ?_
 rintro ⟨i,o⟩ ⟨hi,ho⟩
 have hol:o.length=i:=by rw[ho,List.length_map,List.length_take];omega
 refine jB<|kx [(25,(vb (decide (((i:Nat):Int)<((((hP (List.map mH xs) t).g).length:Nat):Int)))))] [] (zE xG<|zZ) ?_
 refine jB<|jF rfl (fun h1=>?_) (fun h1=>?_)
 ·replace h1:=uW h1
  refine jD<|jB<|jH<|jB<|kx [(10,(.ref 2 0))] [(2,some (bx (jJ (kP (((hP (List.map mH xs) t).g).getD i z2)))))] (zE (oXm gP kP i z2)<|zE (nR kI)<|zH (uF 2 uH uR)<|zT (qK kI)<|zZ) ?_
  refine kf [(8,(.own 1 45 4 ((o++[(jQ ((((hP (List.map mH xs) t).g).getD i z2).1))]).length)))] [(1,some (nD jK (o++[(jQ ((((hP (List.map mH xs) t).g).getD i z2).1))])))] (zM<|zE (qE zB)<|zR (kM jT)<|zE (eC qY uG uQ)<|zAS jK o [(jQ ((((hP (List.map mH xs) t).g).getD i z2).1))] rfl qY uG by45<|zM<|zF) ?_
  refine kx [(24,(jR (i+1)))] [] (zE (vT (i+1))<|zM<|zZ) ?_
  exact ⟨(i+1,o++[jQ ((hP (List.map mH xs) t).g.getD i z2).1]),wk,⟨by omega,by rw[ho];exact gr_step (by omega)⟩,(by first|omega|(dsimp only;omega))⟩
 ·replace h1:=uX h1
  refine kC<|jB<|kx [(4,(.own 1 45 4 o.length)),(5,(jR 0))] [] (zM<|zM<|zM<|zZ) ?_
  refine kV (vN (t:=4) (k:=1) (es:=List.map jK o) rfl rfl (nL _ _ (fun _=>rfl)) (uT _ _ rfl) (mT jK o (fun _=>rfl) rfl)) ?_
  refine jE ⟨_,(.tmp (d:=(.sl 45 4 (List.map jK o))) rfl (.tmp (d:=(.val (.int .i64 (((0:Nat):Int))))) rfl .nil)),?_⟩
  rw[ho,show i=(hP (List.map mH xs) t).g.length by omega,List.take_length];rfl
end Go.Proofs.YtnajallgoaiahaaGreatDoor
