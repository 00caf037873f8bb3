/- Part 30 of a proof: rules, plain facts, and functions walked. -/
import Derived.Test.YtckccjhflbljgaaGreatDoorM29
set_option linter.all false
set_option maxRecDepth 4000
namespace Go.Proofs.YtckccjhflbljgaaGreatDoor
open Go.Fid
theorem j_sizes(t:List jO)(ht:uL 1048576 t)(z:Int):jQ Tryz.prog 80 [(.sl 72 7 (List.map jK t)),(.val (.int .i64 (z)))] (.tup [(.sl 3 1 (List.map jL (tmL z t))),(.val (.int .i64 ((((zP z t):Nat):Int))))]):=by
 refine uR Tryz.func80 ?_
 refine jB<|kx [] [] (zE (aY 3 1)<|zM<|zZ) ?_
 refine jB<|jB<|kx [(15,(vb (decide (z<0)||decide (64<z))))] [] ?_ ?_
 ·refine zM<|zE gZ<|zE (oV (vb (decide (z<0))) (kW (by kernel_rfl)))<|?_
  rcases hb1:(decide (z<0)) with _ | _
  ·replace hb1:=xC hb1
   exact zM<|zE dV<|zE aC<|zZ
  ·replace hb1:=vY hb1
   exact zK<|zK<|zE yH<|zZ
 refine jE (b:=(decide (z<0)||decide (64<z))) rfl (fun h2=>?_) (fun h2=>?_)
 ·refine jB<|kx [(4,(vl 3 1 jL [])),(5,(kF 2))] [] (zE (aY 3 1)<|zM<|zZ) ?_
  refine jF ⟨_,(.tmp (d:=(.sl 3 1 (List.map jL []))) rfl (.tmp (d:=(.val (.int .i64 (2)))) rfl .nil)),?_⟩
  have he:=zb_t (t:=t) h2
  rw[he.1,he.2];rfl
 ·have hz0:=h2
  refine jD<|jB<|jB<|kx [(18,(vb (((t.length:Nat):Int) == 0)))] [] (zM<|zE (xW vE)<|zE xU<|zZ) ?_
  refine jE (b:=(((t.length:Nat):Int) == 0)) rfl (fun h3=>?_) (fun h3=>?_)
  ·replace h3:=eq_of_beq h3
   refine jB<|kx [(4,(vl 3 1 jL [])),(5,(kF 1))] [] (zE (aY 3 1)<|zM<|zZ) ?_
   refine jF ⟨_,(.tmp (d:=(.sl 3 1 (List.map jL []))) rfl (.tmp (d:=(.val (.int .i64 (1)))) rfl .nil)),?_⟩
   have he:=tm_l0 hz0 (show t.length=0 by omega)
   rw[he.1,he.2];rfl
  ·replace h3:=ne_of_beq_false h3
   have h0:=h3
   refine jD<|jB<|jB<|kx [(21,(vb (decide (400<((t.length:Nat):Int)))))] [] (zM<|zE (xW vE)<|zE dV<|zZ) ?_
   refine jE (b:=decide (400<((t.length:Nat):Int))) rfl (fun h4=>?_) (fun h4=>?_)
   ·replace h4:=vY h4
    refine jB<|kx [(4,(vl 3 1 jL [])),(5,(kF 3))] [] (zE (aY 3 1)<|zM<|zZ) ?_
    refine jF ⟨_,(.tmp (d:=(.sl 3 1 (List.map jL []))) rfl (.tmp (d:=(.val (.int .i64 (3)))) rfl .nil)),?_⟩
    have he:=tm_lb hz0 (show 400<t.length by omega)
    rw[he.1,he.2];rfl
   ·replace h4:=xC h4
    have h400:=h4
    refine jD<|jB<|kx [(6,(.own 0 3 1 t.length))] [(0,some (bm jL (List.replicate t.length 0)))] (zM<|zE (xW vE)<|zN (oMk 0 jL (0:Int) t.length t.length uI ze3 zo3 by3)<|zM<|zZ) ?_
    refine jB<|jB<|kx [(25,(vl 72 7 jK t)),(26,(kF t.length)),(27,(kF 0))] [] (zM<|zE (xW vE)<|zM<|zZ) ?_
    refine jH<|kO (α:=Nat × List Int) (fun (k,o)=>⟨[(1,(vi z)),(6,(.own 0 3 1 t.length)),(25,(vl 72 7 jK t)),(26,(kF t.length)),(27,(kF k))],[(0,some (bm jL o))]⟩) (fun (k,o)=>k<=t.length/\szI t k o/\dD z t k) (fun (k,o)=>t.length-k) (0,List.replicate t.length 0) wk ⟨Nat.zero_le _,szI_0,szUp_0 _ _⟩ ?_
    rintro ⟨k,o⟩ ⟨hk,ho,hu⟩
    have qK:=ho.1
    refine jB<|kx [(28,(vb (decide (((k:Nat):Int)<((t.length:Nat):Int)))))] [] (zE gZ<|zZ) ?_
    refine jB<|jE rfl (fun h5=>?_) (fun h5=>?_)
    ·replace h5:=vY h5
     have hR:=tmr hz0 h5 h400 hu
     have hkl:=hR.kl
     refine jD<|jB<|jH<|jB<|kx [(7,(kF k)),(8,(.ref 1 0))] [(1,some (bx (jK (t.getD k tz))))] (zM<|zE (cT vE k (tz:jO))<|zE (eJ cN)<|zH (vH 1 mD dH)<|zM<|zT (qJ cN)<|zZ) ?_
     refine jB<|kx [(9,(vi (kZ ((t.getD k tz).op))))] [] (zE (kI xV)<|zR (qH dG)<|zE (jY (j_kids ((t.getD k tz).op)))<|zM<|zZ) ?_
     refine jB<|jB<|kx [(72,(vb (((decide ((kZ ((t.getD k tz).op))<0)||(decide ((kZ ((t.getD k tz).op))<2)&&((t.getD k tz).b != 0)))||(((t.getD k tz).op == 0)&&(((t.getD k tz).a != 0)||!(kM ((t.getD k tz).n)))))||(((t.getD k tz).op != 0)&&!(unsB ((t.getD k tz).n))))))] [] ?_ ?_
     ·refine zM<|zE gZ<|zE (oV (vb (decide ((kZ ((t.getD k tz).op))<0))) (kW (by kernel_rfl)))<|?_
      rcases hb6:(decide ((kZ ((t.getD k tz).op))<0)) with _ | _
      ·replace hb6:=xC hb6
       refine zM<|zE gZ<|zE (oV (vb (decide ((kZ ((t.getD k tz).op))<2))) (kW (by kernel_rfl)))<|?_
       rcases hb7:(decide ((kZ ((t.getD k tz).op))<2)) with _ | _
       ·replace hb7:=xC hb7
        refine zK<|zK<|zK<|zE vL<|zE vL<|zM<|zE (kI xV)<|zR (qH dG)<|zE xU<|zE (oV (vb ((t.getD k tz).op == 0)) (kW (by kernel_rfl)))<|?_
        rcases hb8:((t.getD k tz).op == 0) with _ | _
        ·replace hb8:=ne_of_beq_false hb8
         refine zK<|zK<|zK<|zK<|zK<|zK<|zK<|zK<|zK<|zE vL<|zE vL<|zM<|zE (kI xV)<|zR (qH dG)<|zE cK<|zE (oV (vb ((t.getD k tz).op != 0)) (kW (by kernel_rfl)))<|?_
         rcases hb9:((t.getD k tz).op != 0) with _ | _
         ·replace hb9:=bne_eq_false_iff_eq.1 hb9
          exact zK<|zK<|zK<|zK<|zE vL<|zE vL<|zZ
         ·replace hb9:=bne_iff_ne.1 hb9
          exact zE (kI nR)<|zR (kP jT)<|zE (jY (j_unset ((t.getD k tz).n) (vC (t.getD k tz).n) (tn_get ht (show k<t.length by omega))))<|zE yT<|zE aD<|zE aC<|zZ
        ·replace hb8:=eq_of_beq hb8
         refine zE (kI kV)<|zR (qH qZ)<|zE cK<|zE (oV (vb ((t.getD k tz).a != 0)) (kW (by kernel_rfl)))<|?_
         rcases hb10:((t.getD k tz).a != 0) with _ | _
         ·replace hb10:=bne_eq_false_iff_eq.1 hb10
          refine zE (kI nR)<|zR (kP jT)<|zE (jY (f_valid ((t.getD k tz).n) (vC (t.getD k tz).n) (jW (tn_get ht (show k<t.length by omega)))))<|zE yT<|zE aC<|zE aD<|zE aC<|zE (oV (vb (false||(true&&(false||!(kM ((t.getD k tz).n)))))) (kW (by kernel_rfl)))<|?_
          rcases hb11:(!(kM ((t.getD k tz).n))) with _ | _
          ·refine zE (kI xV)<|zR (qH dG)<|zE cK<|zE (oV (vb ((t.getD k tz).op != 0)) (kW (by kernel_rfl)))<|?_
           rcases hb12:((t.getD k tz).op != 0) with _ | _
           ·replace hb12:=bne_eq_false_iff_eq.1 hb12
            exact zK<|zK<|zK<|zK<|zE vL<|zE vL<|zZ
           ·replace hb12:=bne_iff_ne.1 hb12
            exact zE (kI nR)<|zR (kP jT)<|zE (jY (j_unset ((t.getD k tz).n) (vC (t.getD k tz).n) (tn_get ht (show k<t.length by omega))))<|zE yT<|zE aD<|zE aC<|zZ
          ·exact zK<|zK<|zK<|zK<|zK<|zK<|zK<|zK<|zK<|zE yH<|zZ
         ·replace hb10:=bne_iff_ne.1 hb10
          exact zK<|zK<|zK<|zK<|zE yH<|zE yH<|zE vL<|zM<|zK<|zK<|zK<|zK<|zK<|zK<|zK<|zK<|zK<|zE yH<|zZ
       ·replace hb7:=vY hb7
        refine zE (kI qW)<|zR (qH qZ)<|zE cK<|zE aD<|zE aC<|zE (oV (vb (false||(true&&((t.getD k tz).b != 0)))) (kW (by kernel_rfl)))<|?_
        rcases hb13:((t.getD k tz).b != 0) with _ | _
        ·replace hb13:=bne_eq_false_iff_eq.1 hb13
         refine zE (kI xV)<|zR (qH dG)<|zE xU<|zE (oV (vb ((t.getD k tz).op == 0)) (kW (by kernel_rfl)))<|?_
         rcases hb14:((t.getD k tz).op == 0) with _ | _
         ·replace hb14:=ne_of_beq_false hb14
          refine zK<|zK<|zK<|zK<|zK<|zK<|zK<|zK<|zK<|zE vL<|zE vL<|zM<|zE (kI xV)<|zR (qH dG)<|zE cK<|zE (oV (vb ((t.getD k tz).op != 0)) (kW (by kernel_rfl)))<|?_
          rcases hb15:((t.getD k tz).op != 0) with _ | _
          ·replace hb15:=bne_eq_false_iff_eq.1 hb15
           exact zK<|zK<|zK<|zK<|zE vL<|zE vL<|zZ
          ·replace hb15:=bne_iff_ne.1 hb15
           exact zE (kI nR)<|zR (kP jT)<|zE (jY (j_unset ((t.getD k tz).n) (vC (t.getD k tz).n) (tn_get ht (show k<t.length by omega))))<|zE yT<|zE aD<|zE aC<|zZ
         ·replace hb14:=eq_of_beq hb14
          refine zE (kI kV)<|zR (qH qZ)<|zE cK<|zE (oV (vb ((t.getD k tz).a != 0)) (kW (by kernel_rfl)))<|?_
          rcases hb16:((t.getD k tz).a != 0) with _ | _
          ·replace hb16:=bne_eq_false_iff_eq.1 hb16
           refine zE (kI nR)<|zR (kP jT)<|zE (jY (f_valid ((t.getD k tz).n) (vC (t.getD k tz).n) (jW (tn_get ht (show k<t.length by omega)))))<|zE yT<|zE aC<|zE aD<|zE aC<|zE (oV (vb (false||(true&&(false||!(kM ((t.getD k tz).n)))))) (kW (by kernel_rfl)))<|?_
           rcases hb17:(!(kM ((t.getD k tz).n))) with _ | _
           ·refine zE (kI xV)<|zR (qH dG)<|zE cK<|zE (oV (vb ((t.getD k tz).op != 0)) (kW (by kernel_rfl)))<|?_
            rcases hb18:((t.getD k tz).op != 0) with _ | _
            ·replace hb18:=bne_eq_false_iff_eq.1 hb18
             exact zK<|zK<|zK<|zK<|zE vL<|zE vL<|zZ
            ·replace hb18:=bne_iff_ne.1 hb18
             exact zE (kI nR)<|zR (kP jT)<|zE (jY (j_unset ((t.getD k tz).n) (vC (t.getD k tz).n) (tn_get ht (show k<t.length by omega))))<|zE yT<|zE aD<|zE aC<|zZ
           ·exact zK<|zK<|zK<|zK<|zK<|zK<|zK<|zK<|zK<|zE yH<|zZ
          ·replace hb16:=bne_iff_ne.1 hb16
           exact zK<|zK<|zK<|zK<|zE yH<|zE yH<|zE vL<|zM<|zK<|zK<|zK<|zK<|zK<|zK<|zK<|zK<|zK<|zE yH<|zZ
        ·replace hb13:=bne_iff_ne.1 hb13
         exact zK<|zK<|zK<|zK<|zK<|zK<|zK<|zK<|zK<|zK<|zK<|zK<|zK<|zK<|zE yH<|zM<|zK<|zK<|zK<|zK<|zK<|zK<|zK<|zK<|zK<|zE yH<|zZ
      ·replace hb6:=vY hb6
       exact zK<|zK<|zK<|zK<|zK<|zK<|zK<|zE yH<|zM<|zK<|zK<|zK<|zK<|zK<|zK<|zK<|zK<|zK<|zK<|zK<|zK<|zK<|zK<|zE yH<|zM<|zK<|zK<|zK<|zK<|zK<|zK<|zK<|zK<|zK<|zE yH<|zZ
     refine jE rfl (fun h19=>?_) (fun h19=>?_)
     ·refine jB<|kx [(4,(vl 3 1 jL [])),(5,(kF 1))] [] (zE (aY 3 1)<|zM<|zZ) ?_
      refine jF ⟨_,(.tmp (d:=(.sl 3 1 (List.map jL []))) rfl (.tmp (d:=(.val (.int .i64 (1)))) rfl .nil)),?_⟩
      have he:=hR.bad h19
      rw[he.1,he.2];rfl
     ·have hB:=h19
      refine jD<|jB<|jB<|kx [(100,(vb ((decide (0<(kZ ((t.getD k tz).op)))&&(decide ((t.getD k tz).a<0)||decide (((k:Nat):Int)<=(t.getD k tz).a)))||(decide (1<(kZ ((t.getD k tz).op)))&&(decide ((t.getD k tz).b<0)||decide (((k:Nat):Int)<=(t.getD k tz).b))))))] [] ?_ ?_
      ·refine zM<|zE dV<|zE (oV (vb (decide (0<(kZ ((t.getD k tz).op))))) (kW (by kernel_rfl)))<|?_
       rcases hb20:(decide (0<(kZ ((t.getD k tz).op)))) with _ | _
       ·replace hb20:=xC hb20
        refine zK<|zK<|zK<|zK<|zK<|zK<|zK<|zK<|zK<|zE vL<|zM<|zM<|zE dV<|zE (oV (vb (decide (1<(kZ ((t.getD k tz).op))))) (kW (by kernel_rfl)))<|?_
        rcases hb21:(decide (1<(kZ ((t.getD k tz).op)))) with _ | _
        ·replace hb21:=xC hb21
         exact zK<|zK<|zK<|zK<|zK<|zK<|zK<|zK<|zK<|zE vL<|zE vL<|zZ
        ·replace hb21:=vY hb21
         refine zE (kI qW)<|zR (qH qZ)<|zE gZ<|zE (oV (vb (decide ((t.getD k tz).b<0))) (kW (by kernel_rfl)))<|?_
         rcases hb22:(decide ((t.getD k tz).b<0)) with _ | _
         ·replace hb22:=xC hb22
          exact zE (kI qW)<|zR (qH qZ)<|zM<|zE oGe<|zE aC<|zE aD<|zE aC<|zZ
         ·replace hb22:=vY hb22
          exact zK<|zK<|zK<|zK<|zE yH<|zE yH<|zE vL<|zZ
       ·replace hb20:=vY hb20
        refine zE (kI kV)<|zR (qH qZ)<|zE gZ<|zE (oV (vb (decide ((t.getD k tz).a<0))) (kW (by kernel_rfl)))<|?_
        rcases hb23:(decide ((t.getD k tz).a<0)) with _ | _
        ·replace hb23:=xC hb23
         refine zE (kI kV)<|zR (qH qZ)<|zM<|zE oGe<|zE aC<|zE aD<|zE (oV (vb (true&&(false||decide (((k:Nat):Int)<=(t.getD k tz).a)))) (kW (by kernel_rfl)))<|?_
         rcases hb24:(decide (((k:Nat):Int)<=(t.getD k tz).a)) with _ | _
         ·replace hb24:=xC hb24
          refine zM<|zE dV<|zE (oV (vb (decide (1<(kZ ((t.getD k tz).op))))) (kW (by kernel_rfl)))<|?_
          rcases hb25:(decide (1<(kZ ((t.getD k tz).op)))) with _ | _
          ·replace hb25:=xC hb25
           exact zK<|zK<|zK<|zK<|zK<|zK<|zK<|zK<|zK<|zE vL<|zE vL<|zZ
          ·replace hb25:=vY hb25
           refine zE (kI qW)<|zR (qH qZ)<|zE gZ<|zE (oV (vb (decide ((t.getD k tz).b<0))) (kW (by kernel_rfl)))<|?_
           rcases hb26:(decide ((t.getD k tz).b<0)) with _ | _
           ·replace hb26:=xC hb26
            exact zE (kI qW)<|zR (qH qZ)<|zM<|zE oGe<|zE aC<|zE aD<|zE aC<|zZ
           ·replace hb26:=vY hb26
            exact zK<|zK<|zK<|zK<|zE yH<|zE yH<|zE vL<|zZ
         ·replace hb24:=vY hb24
          exact zK<|zK<|zK<|zK<|zK<|zK<|zK<|zK<|zK<|zK<|zK<|zK<|zK<|zE yH<|zZ
        ·replace hb23:=vY hb23
         exact zK<|zK<|zK<|zK<|zE yH<|zE yH<|zM<|zK<|zK<|zK<|zK<|zK<|zK<|zK<|zK<|zK<|zK<|zK<|zK<|zK<|zE yH<|zZ
      refine jE rfl (fun h27=>?_) (fun h27=>?_)
      ·refine jB<|kx [(4,(vl 3 1 jL [])),(5,(kF 5))] [] (zE (aY 3 1)<|zM<|zZ) ?_
       refine jF ⟨_,(.tmp (d:=(.sl 3 1 (List.map jL []))) rfl (.tmp (d:=(.val (.int .i64 (5)))) rfl .nil)),?_⟩
       have he:=hR.ord hB h27
       rw[he.1,he.2];rfl
      ·have hO:=h27
       refine jD<|jB<|jB<|kx [(114,(vb (((t.getD k tz).op == 1)&&(decide ((t.getD k tz).a<0)||decide (z<=(t.getD k tz).a)))))] [] ?_ ?_
       ·refine zE (kI xV)<|zR (qH dG)<|zE xU<|zE (oV (vb ((t.getD k tz).op == 1)) (kW (by kernel_rfl)))<|?_
        rcases hb28:((t.getD k tz).op == 1) with _ | _
        ·replace hb28:=ne_of_beq_false hb28
         exact zK<|zK<|zK<|zK<|zK<|zK<|zK<|zK<|zK<|zE vL<|zZ
        ·replace hb28:=eq_of_beq hb28
         refine zE (kI kV)<|zR (qH qZ)<|zE gZ<|zE (oV (vb (decide ((t.getD k tz).a<0))) (kW (by kernel_rfl)))<|?_
         rcases hb29:(decide ((t.getD k tz).a<0)) with _ | _
         ·replace hb29:=xC hb29
          exact zE (kI kV)<|zR (qH qZ)<|zM<|zE oGe<|zE aC<|zE aD<|zZ
         ·replace hb29:=vY hb29
          exact zK<|zK<|zK<|zK<|zE yH<|zE yH<|zZ
       refine jE rfl (fun h30=>?_) (fun h30=>?_)
       ·refine jB<|kx [(4,(vl 3 1 jL [])),(5,(kF 2))] [] (zE (aY 3 1)<|zM<|zZ) ?_
        refine jF ⟨_,(.tmp (d:=(.sl 3 1 (List.map jL []))) rfl (.tmp (d:=(.val (.int .i64 (2)))) rfl .nil)),?_⟩
        have he:=hR.rng hB hO h30
        rw[he.1,he.2];rfl
       ·have hN:=ndr hR hB hO h30
        refine jD<|pwp_seqjoin (α:=Int) (fun v=>⟨[(1,(vi z)),(6,(.own 0 3 1 t.length)),(7,(kF k)),(25,(vl 72 7 jK t)),(26,(kF t.length)),(27,(kF k))],[(0,some (bm jL (o.set k v)))]⟩) (fun v=>v=gN (vZ t k) (t.getD k tz)) ?_ ?_
        ·refine jB<|kx [(129,(vb ((kZ ((t.getD k tz).op)) == 0)))] [] (zM<|zE xU<|zM<|zZ) ?_
         refine jE (b:=((kZ ((t.getD k tz).op)) == 0)) rfl (fun h31=>?_) (fun h31=>?_)
         ·replace h31:=eq_of_beq h31
          have hv:=szN_c (ss:=vZ t k) h31
          refine kx [] [(0,some (bm jL (o.set k 1)))] (zM<|zM<|zE (yE uI k)<|zT (eX qZ k (1:Int))<|zZ) ?_
          exact ⟨1,wk,hv⟩
         ·replace h31:=ne_of_beq_false h31
          have hk0:=h31
          obtain ⟨a1,a2,a3,a4,a5⟩:=hN.a ho hk0
          refine jB<|kx [(135,(vb ((t.getD k tz).op == 6)))] [] (zE (kI xV)<|zR (qH dG)<|zE xU<|zM<|zZ) ?_
          refine jE (b:=((t.getD k tz).op == 6)) rfl (fun h32=>?_) (fun h32=>?_)
          ·replace h32:=eq_of_beq h32
           have hv:=szN_n hk0 h32 a3
           refine kx [] [(0,some (bm jL (o.set k (o.getD (((t.getD k tz).a).toNat) 0))))] (zM<|zM<|zM<|zE (kI kV)<|zR (qH qZ)<|zE (yE uI (((t.getD k tz).a).toNat))<|zR (eZ qZ (((t.getD k tz).a).toNat) (0:Int))<|zE (yE uI k)<|zT (eX qZ k (o.getD (((t.getD k tz).a).toNat) 0))<|zZ) ?_
           exact ⟨(o.getD (((t.getD k tz).a).toNat) 0),wk,hv⟩
          ·replace h32:=ne_of_beq_false h32
           have h6:=h32
           refine jB<|kx [(147,(vb ((t.getD k tz).op == 7)))] [] (zE (kI xV)<|zR (qH dG)<|zE xU<|zM<|zZ) ?_
           refine jE (b:=((t.getD k tz).op == 7)) rfl (fun h33=>?_) (fun h33=>?_)
           ·replace h33:=eq_of_beq h33
            have hv:=szN_q hk0 h33 a3
            refine kx [] [(0,some (bm jL (o.set k (2*(o.getD (((t.getD k tz).a).toNat) 0)))))] (zM<|zM<|zM<|zE (kI kV)<|zR (qH qZ)<|zE (yE uI (((t.getD k tz).a).toNat))<|zR (eZ qZ (((t.getD k tz).a).toNat) (0:Int))<|zE (zMl (2*(o.getD (((t.getD k tz).a).toNat) 0)))<|zE (yE uI k)<|zT (eX qZ k (2*(o.getD (((t.getD k tz).a).toNat) 0)))<|zZ) ?_
            exact ⟨(2*(o.getD (((t.getD k tz).a).toNat) 0)),wk,hv⟩
           ·replace h33:=ne_of_beq_false h33
            obtain ⟨b1,b2,b3,b4,b5⟩:=hN.b ho hk0 h6 h33
            have hv:=szN_b hk0 h6 h33 a3 b3
            refine kd [] [(0,some (bm jL (o.set k ((o.getD (((t.getD k tz).a).toNat) 0)+(o.getD (((t.getD k tz).b).toNat) 0)))))] mo (wM<|wM<|wM<|wE (kI kV)<|wR (qH qZ)<|wE (yE uI (((t.getD k tz).a).toNat))<|wR (eZ qZ (((t.getD k tz).a).toNat) (0:Int))<|wM<|wE (kI qW)<|wR (qH qZ)<|wE (yE uI (((t.getD k tz).b).toNat))<|wR (eZ qZ (((t.getD k tz).b).toNat) (0:Int))<|wE (zAd ((o.getD (((t.getD k tz).a).toNat) 0)+(o.getD (((t.getD k tz).b).toNat) 0)))<|wE (yE uI k)<|wT (eX qZ k ((o.getD (((t.getD k tz).a).toNat) 0)+(o.getD (((t.getD k tz).b).toNat) 0)))<|wZ) ?_
            exact ⟨((o.getD (((t.getD k tz).a).toNat) 0)+(o.getD (((t.getD k tz).b).toNat) 0)),wk,hv⟩
        ·rintro v hv
         have hsl:(o.set k v).length=o.length:=List.length_set
         refine jB<|kx [(164,(vb (decide (4096<((o.set k v).getD k 0)))))] [] (zM<|zM<|zE (yE uI k)<|zR (eZ qZ k (0:Int))<|zE dV<|zZ) ?_
         refine jE (b:=decide (4096<((o.set k v).getD k 0))) rfl (fun h34=>?_) (fun h34=>?_)
         ·replace h34:=vY h34
          refine jB<|kx [(4,(vl 3 1 jL [])),(5,(kF 3))] [] (zE (aY 3 1)<|zM<|zZ) ?_
          refine jF ⟨_,(.tmp (d:=(.sl 3 1 (List.map jL []))) rfl (.tmp (d:=(.val (.int .i64 (3)))) rfl .nil)),?_⟩
          have he:=hN.big hv (by omega) h34
          rw[he.1,he.2];rfl
         ·replace h34:=xC h34
          refine jD<|kx [(27,(kF (k+1)))] [] (zE (vT (k+1))<|zM<|zZ) ?_
          exact ⟨(k+1,o.set k v),wk,(hN.next hv ho (by omega)),(by first|omega|(dsimp only;omega))⟩
    ·replace h5:=xC h5
     refine kL<|jB<|kx [(4,(.own 0 3 1 t.length)),(5,(kF 0))] [] (zM<|zM<|zM<|zZ) ?_
     refine qG (yG (t:=4) (k:=0) (es:=List.map jL o) rfl rfl (vW _ _ (fun _=>rfl)) (xR _ _ qK) (xY _ _ (fun _=>rfl) qK)) ?_
     refine jF ⟨_,(.tmp (d:=(.sl 3 1 (List.map jL o))) rfl (.tmp (d:=(.val (.int .i64 (0)))) rfl .nil)),?_⟩
     have he:=tm_end hz0 h0 h400 hk h5 ho hu
     rw[he.1,he.2];rfl
theorem fo113_4:uU Tryz.prog 113 4=some 4:=by kernel_rfl
theorem pl113:eF Tryz.prog 113=some [(0,1),(1,1),(2,1),(3,1),(4,1)]:=by kernel_rfl
theorem ze113:vX Tryz.prog 113=some [.int .i64 0,.int .i64 0,.int .i64 0,.slice none 0 0,.bool false]:=by kernel_rfl
theorem zn113:eL [.int .i64 0,.int .i64 0,.int .i64 0,.slice none 0 0,.bool false] [.val (.int .i64 0),.val (.int .i64 0),.val (.int .i64 0),.val (.slice none 0 0),.val (.bool false)]:=by simp [eL,Value.oneCell']
def StepAt(bv:List R2)(L:List JV)(x:jO):Prop:=xG Tryz.prog 77 [(.ref 0 0),(.d (jK x)),(vl 42 8 jN (List.map qI bv))] [(0,some (gK bv.length 1 (L) false)),(1,some (gM (L)))] (.d (.tup [])) [(0,some (gK bv.length 18 (L++[nJ bv L x]) false)),(18,some (gM (L++[nJ bv L x])))]
theorem e_step(x:jO)(bv:List R2)(hbx:∀ x∈bv,GL 1048576 x)(L:List JV)(hst:StepAt bv L x):xG Tryz.prog 77 [(.ref 0 0),(.d (jK x)),(vl 42 8 jN (List.map qI bv))] [(0,some (gK bv.length 1 (L) false)),(1,some (gM (L)))] (.d (.tup [])) [(0,some (gK bv.length 18 (L++[nJ bv L x]) false)),(18,some (gM (L++[nJ bv L x])))]:=hst
structure JRunP (bv:List R2) (t:List jO):Prop where
 run:JRun bv t
 st:∀ k,k<t.length->StepAt bv (jU bv t k) (t.getD k tz)
theorem j_chk(t:List jO)(ht:uL 1048576 t)(z:Int):jQ Tryz.prog 39 [(.sl 72 7 (List.map jK t)),(.val (.int .i64 (z)))] (.val (.int .i64 ((((zP z t):Nat):Int)))):=by
 refine uR Tryz.func39 ?_
 refine jB<|kx [] [] (zM<|zZ) ?_
 refine jB<|kx [(6,(kF (zP z t)))] [] (zM<|zM<|zE (jY (j_sizes t ht z))<|zM<|zE xJ<|zE xJ<|zM<|zM<|zZ) ?_
 refine jB<|kx [(4,(kF (zP z t)))] [] (zM<|zM<|zZ) ?_
 refine jF ⟨_,(.tmp (d:=(.val (.int .i64 ((((zP z t):Nat):Int))))) rfl .nil),?_⟩
 rfl
theorem j_jets(t:List jO)(ht:uL 1048576 t)(bv:List R2)(hbx:∀ x∈bv,GL 1048576 x)(hr:JRunP bv t):jQ Tryz.prog 29 [(.sl 72 7 (List.map jK t)),(.sl 42 8 (List.map jN (List.map qI bv))),(.val (.int .i64 (((1:Nat):Int)))),(.val (.int .i64 (-1)))] (.tup [(jP (uW (dL bv t))),(.val (.int .i64 (((0:Nat):Int))))]):=by
 have h0:=mQ hr.run.c0
 let y3:=(kK.mk uG uG)
 let y2:=(bx (jP (lD.mk y3 [] [])))
 let y1:=(bx (.agg [(.val (.int .i64 (((bv.length:Nat):Int)))),(.val (.int .i64 (((1:Nat):Int)))),(.val (.int .i64 (-1))),(.val (.slice none 0 0)),(.val (.bool (false)))]))
 refine uR Tryz.func29 ?_
 refine jB<|kx [(8,(.ref 0 0))] [(0,some y2)] (zN (vH 0 ze46 zo46)<|zM<|zZ) ?_
 refine jB<|jB<|kx [(16,(vl 42 8 jN (List.map qI bv))),(17,(kF bv.length)),(18,(kF 0))] [] (zM<|zE (oLn dX bv.length)<|zM<|zZ) ?_
 refine jH<|kO (α:=Nat) (fun i=>⟨[(0,(vl 72 7 jK t)),(1,(vl 42 8 jN (List.map qI bv))),(2,(kF 1)),(3,(vi (-1))),(8,(.ref 0 0)),(16,(vl 42 8 jN (List.map qI bv))),(17,(kF bv.length)),(18,(kF i))],[(0,some y2)]⟩) (fun i=>i<=bv.length) (fun i=>bv.length-i) 0 wk (Nat.zero_le _) ?_
 rintro i hi
 refine jB<|kx [(19,(vb (decide (((i:Nat):Int)<((bv.length:Nat):Int)))))] [] (zE gZ<|zZ) ?_
 refine jB<|jE rfl (fun h1=>?_) (fun h1=>?_)
 ·replace h1:=vY h1
  refine jD<|jB<|jH<|jB<|kx [(11,(.ref 1 0))] [(1,some (bx (jN (qI (bv.getD i z2)))))] (zE (oXm dX qI i z2)<|zE (eJ kN)<|zN (vH 1 xT xZ)<|zT (qJ kN)<|zZ) ?_
  refine jB<|kx [(24,(vb false))] [] (zR (kP kN)<|zE (jY (by have h:=i_valid (qI (bv.getD i z2)) (cQ (⟨qX (jW (kC (yD hbx (by decide) i).1) (by decide:1048576<=1048576)),qX (jW (kC (yD hbx (by decide) i).2.1) (by decide:1048576<=1048576))⟩));rw[show zJ (qI (bv.getD i z2))=true from nP (yD hbx (by decide) i).2.2] at h;exact h))<|zE yT<|zZ) ?_
  refine qE ?_
  refine jD<|kx [(18,(kF (i+1)))] [] (zE (vT (i+1))<|zM<|zZ) ?_
  exact ⟨i+1,wk,(by omega),(by first|omega|(dsimp only;omega))⟩
 ·replace h1:=xC h1
  refine kL<|jB<|jB<|kx [(36,(vb false))] [] (zM<|zE (vS false gZ)<|zM<|zM<|zE (vS false dV)<|zE vL<|zM<|zM<|zE (vS false dV)<|zE vL<|zZ) ?_
  refine qE ?_
  refine jD<|jB<|jB<|kx [(12,(kF (zP ((bv.length:Nat):Int) t)))] [] (zM<|zM<|zE (oLn dX bv.length)<|zE (jY (j_chk t ht ((bv.length:Nat):Int)))<|zM<|zZ) ?_
  refine jB<|kx [(43,(vb false))] [] (zM<|zE (vS false cK (by exact bne_eq_false_iff_eq.2 (by rw[show (zP ((bv.length:Nat):Int) t)=0 from hr.run.c0]<;>rfl)))<|zZ) ?_
  refine qE ?_
  refine jD<|jB<|kx [(13,(.ref 2 0))] [(2,some y1)] (zM<|zE (oLn dX bv.length)<|zM<|zM<|zE (oBd pl113 ze113 zn113)<|zN (xO 2)<|zM<|zZ) ?_
  refine jB<|jB<|pwp_own 2 3 3 46 10 (cs:=y1) (h:=?_)
  refine qG (wk (l:=[(0,(vl 72 7 jK t)),(1,(vl 42 8 jN (List.map qI bv))),(8,(.ref 0 0)),(13,(.ref 2 0))]) (b:=[(0,some y2),(2,some [(kF bv.length),(kF 1),(vi (-1)),(.own 3 46 10 0),(vb false)]),(3,some (uK jP []))])) ?_
  refine kx [(52,(vl 72 7 jK t)),(53,(kF t.length)),(54,(kF 0))] [] (zM<|zE (xW vE)<|zM<|zZ) ?_
  refine jH<|kO (α:=Nat) (fun k=>⟨[(1,(vl 42 8 jN (List.map qI bv))),(8,(.ref 0 0)),(13,(.ref 2 0)),(52,(vl 72 7 jK t)),(53,(kF t.length)),(54,(kF k))],[(0,some y2),(2,some (gK bv.length 3 (jU bv t k) false)),(3,some (gM (jU bv t k)))]⟩) (fun k=>k<=t.length) (fun k=>t.length-k) 0 wk (Nat.zero_le _) ?_
  rintro k hk
  have hju:=bD bv t k
  have hjm:(List.map uW (jU bv t k)).length=k:=by rw[List.length_map,hju]
  have hup:=hr.run.upto hk
  refine jB<|kx [(55,(vb (decide (((k:Nat):Int)<((t.length:Nat):Int)))))] [] (zE gZ<|zZ) ?_
  refine jB<|jE rfl (fun h2=>?_) (fun h2=>?_)
  ·replace h2:=vY h2
   refine jD<|jB<|jH<|jB<|kx [(15,(.ref 4 0))] [(4,some (bx (jK (t.getD k tz))))] (zE (cT vE k (tz:jO))<|zE (eJ cN)<|zH (vH 4 mD dH)<|zT (qJ cN)<|zZ) ?_
   refine jB<|kf [] [(2,some (gK bv.length 21 ((jU bv t k)++[(nJ bv (jU bv t k) (t.getD k tz))]) false)),(21,some (gM ((jU bv t k)++[(nJ bv (jU bv t k) (t.getD k tz))]))),(10,none),(11,none),(12,none),(13,none),(14,none),(15,none),(16,none),(17,none),(18,none),(19,none),(20,none),(3,none),(5,none),(6,none),(7,none),(8,none),(9,none)] (zM<|zR (kP cN)<|zM<|zSe (B2:=[(2,some (gK bv.length 3 (jU bv t k) false)),(3,some (gM (jU bv t k)))]) (B2':=[(2,some (gK bv.length 21 ((jU bv t k)++[(nJ bv (jU bv t k) (t.getD k tz))]) false)),(21,some (gM ((jU bv t k)++[(nJ bv (jU bv t k) (t.getD k tz))])))]) [2,3,5,6,7,8,9,10,11,12,13,14,15,16,17,18,19,20,21] [2] (e_step (t.getD k tz) bv hbx (jU bv t k) (hr.st k (show k<t.length by omega)))<|zF) ?_
   refine qG (wk (l:=[(1,(vl 42 8 jN (List.map qI bv))),(8,(.ref 0 0)),(13,(.ref 2 0)),(52,(vl 72 7 jK t)),(53,(kF t.length)),(54,(kF k))]) (b:=[(0,some y2),(2,some (gK bv.length 21 ((jU bv t k)++[(nJ bv (jU bv t k) (t.getD k tz))]) false)),(21,some (gM ((jU bv t k)++[(nJ bv (jU bv t k) (t.getD k tz))])))])) ?_
   refine qG (sim_ren2 (S':=[(1,(vl 42 8 jN (List.map qI bv))),(8,(.ref 0 0)),(13,(.ref 2 0)),(52,(vl 72 7 jK t)),(53,(kF t.length)),(54,(kF k))]) (B':=[(0,some y2),(2,some (gK bv.length 3 ((jU bv t k)++[(nJ bv (jU bv t k) (t.getD k tz))]) false)),(3,some (gM ((jU bv t k)++[(nJ bv (jU bv t k) (t.getD k tz))])))]) 3 21 2) ?_
   refine jB<|kx [(65,(vb false))] [] (zM<|zE oNc<|zE (kI fo113_4)<|zR (qH aU)<|zZ) ?_
   refine qE ?_
   refine jD<|kx [(54,(kF (k+1)))] [] (zE (vT (k+1))<|zM<|zZ) ?_
   exact ⟨k+1,wk,(by omega),(by first|omega|(dsimp only;omega))⟩
  ·replace h2:=xC h2
   refine kL<|jB<|kd [(9,(kF 0))] [(0,some (bx (jP ((List.map uW (jU bv t k)).getD ((List.map uW (jU bv t k)).length-1) (lD.mk y3 [] [])))))] mo (wM<|wE oNc<|wE (kI fo113_3)<|wR (qH sh88)<|wM<|wE oNc<|wE (kI fo113_3)<|wR (qH sh88)<|wE (oLo el88)<|wE (oSb ((List.map uW (jU bv t k)).length-1))<|wE (fK el88 ((List.map uW (jU bv t k)).length-1))<|wR (oLA sh46 ((List.map uW (jU bv t k)).length-1) (lD.mk y3 [] []))<|wT (qJ sh46)<|wM<|wZ) ?_
   refine jF ⟨_,(kR (cs:=(bx (jP ((List.map uW (jU bv t k)).getD ((List.map uW (jU bv t k)).length-1) (lD.mk y3 [] []))))) (d:=(jP ((List.map uW (jU bv t k)).getD ((List.map uW (jU bv t k)).length-1) (lD.mk y3 [] [])))) rfl rfl sh46 rfl rfl (.tmp (d:=(.val (.int .i64 (((0:Nat):Int))))) rfl .nil)),?_⟩
   obtain rfl:k=t.length:=by omega
   rw[List.length_map,hju,map_getD uW _ jz _ (by omega)]
   unfold dL;rfl
end Go.Proofs.YtckccjhflbljgaaGreatDoor
