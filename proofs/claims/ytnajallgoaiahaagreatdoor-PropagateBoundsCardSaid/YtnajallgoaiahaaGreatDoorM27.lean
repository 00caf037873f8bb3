/- Part 27 of a proof: rules, plain facts, and functions walked. -/
import Derived.Test.YtnajallgoaiahaaGreatDoorM26
import Derived.Test.YtnajallgoaiahaaGreatDoorM25
set_option linter.all false
set_option maxRecDepth 4000
namespace Go.Proofs.YtnajallgoaiahaaGreatDoor
open Go.Fid
theorem by3:yQ Tryz.prog 3=some 8:=by kernel_rfl
theorem iW:vN Tryz.prog 23=some (83,7):=by kernel_rfl
theorem nW:vN Tryz.prog 102=some (3,1):=by kernel_rfl
theorem iR:qX Tryz.prog 83=some (true,7):=by kernel_rfl
theorem ze83:yI Tryz.prog 83=some [.int .i64 0,.int .i64 0,.int .i64 0,.bool false,.slice none 0 0,.bool false,.slice none 0 0]:=by kernel_rfl
theorem zo83:iB [.int .i64 0,.int .i64 0,.int .i64 0,.bool false,.slice none 0 0,.bool false,.slice none 0 0] [.val (.int .i64 0),.val (.int .i64 0),.val (.int .i64 0),.val (.bool false),.sl 140 1 [],.val (.bool false),.sl 140 1 []]:=by simp [iB,Value.oneCell']
theorem j_sizes(t:List qB)(ht:zL 1048576 t)(z:Int):jO Tryz.prog 130 [(.sl 83 7 (List.map kS t)),(.val (.int .i64 (z)))] (.tup [(.sl 3 1 (List.map qK (eG z t))),(.val (.int .i64 ((((gK z t):Nat):Int))))]):=by
 refine qY Tryz.func130 ?_
 refine jB<|kx [] [] (zE (aZ 3 1)<|zM<|zZ) ?_
 refine jB<|jB<|kx [(15,(vb (decide (z<0)||decide (64<z))))] [] ?_ ?_
 ·refine zM<|zE xK<|zE (oV (vb (decide (z<0))) (qC (by kernel_rfl)))<|?_
  rcases hb1:(decide (z<0)) with _ | _
  ·replace hb1:=vB hb1
   exact zM<|zE hH<|zE dG<|zZ
  ·replace hb1:=uV hb1
   exact zK<|zK<|zE yR<|zZ
 refine jG (b:=(decide (z<0)||decide (64<z))) rfl (fun h2=>?_) (fun h2=>?_)
 ·refine jB<|kx [(4,(vl 3 1 qK [])),(5,(jS 2))] [] (zE (aZ 3 1)<|zM<|zZ) ?_
  refine jE ⟨_,(.tmp (d:=(.sl 3 1 (List.map qK []))) rfl (.tmp (d:=(.val (.int .i64 (2)))) rfl .nil)),?_⟩
  have he:=zb_t (t:=t) h2
  rw[he.1,he.2];rfl
 ·have hz0:=h2
  refine jC<|jB<|jB<|kx [(18,(vb (((t.length:Nat):Int) == 0)))] [] (zM<|zE (vP iW)<|zE xR<|zZ) ?_
  refine jG (b:=(((t.length:Nat):Int) == 0)) rfl (fun h3=>?_) (fun h3=>?_)
  ·replace h3:=eq_of_beq h3
   refine jB<|kx [(4,(vl 3 1 qK [])),(5,(jS 1))] [] (zE (aZ 3 1)<|zM<|zZ) ?_
   refine jE ⟨_,(.tmp (d:=(.sl 3 1 (List.map qK []))) rfl (.tmp (d:=(.val (.int .i64 (1)))) rfl .nil)),?_⟩
   have he:=tm_l0 hz0 (show t.length=0 by omega)
   rw[he.1,he.2];rfl
  ·replace h3:=ne_of_beq_false h3
   have h0:=h3
   refine jC<|jB<|jB<|kx [(21,(vb (decide (400<((t.length:Nat):Int)))))] [] (zM<|zE (vP iW)<|zE hH<|zZ) ?_
   refine jG (b:=decide (400<((t.length:Nat):Int))) rfl (fun h4=>?_) (fun h4=>?_)
   ·replace h4:=uV h4
    refine jB<|kx [(4,(vl 3 1 qK [])),(5,(jS 3))] [] (zE (aZ 3 1)<|zM<|zZ) ?_
    refine jE ⟨_,(.tmp (d:=(.sl 3 1 (List.map qK []))) rfl (.tmp (d:=(.val (.int .i64 (3)))) rfl .nil)),?_⟩
    have he:=tm_lb hz0 (show 400<t.length by omega)
    rw[he.1,he.2];rfl
   ·replace h4:=vB h4
    have h400:=h4
    refine jC<|jB<|kx [(6,(.own 0 3 1 t.length))] [(0,some (bm qK (List.replicate t.length 0)))] (zM<|zE (vP iW)<|zN (oMk 0 qK (0:Int) t.length t.length nW ze3 zo3 by3)<|zM<|zZ) ?_
    refine jB<|jB<|kx [(25,(vl 83 7 kS t)),(26,(jS t.length)),(27,(jS 0))] [] (zM<|zE (vP iW)<|zM<|zZ) ?_
    refine jH<|kF (α:=Nat × List Int) (fun (k,o)=>⟨[(1,(vi z)),(6,(.own 0 3 1 t.length)),(25,(vl 83 7 kS t)),(26,(jS t.length)),(27,(jS k))],[(0,some (bm qK o))]⟩) (fun (k,o)=>k<=t.length/\szI t k o/\lT z t k) (fun (k,o)=>t.length-k) (0,List.replicate t.length 0) wk ⟨Nat.zero_le _,szI_0,szUp_0 _ _⟩ ?_
    rintro ⟨k,o⟩ ⟨hk,ho,hu⟩
    have uF:=ho.1
    refine jB<|kx [(28,(vb (decide (((k:Nat):Int)<((t.length:Nat):Int)))))] [] (zE xK<|zZ) ?_
    refine jB<|jG rfl (fun h5=>?_) (fun h5=>?_)
    ·replace h5:=uV h5
     have hR:=tmr hz0 h5 h400 hu
     have hkl:=hR.kl
     refine jC<|jB<|jH<|jB<|kx [(7,(jS k)),(8,(.ref 1 0))] [(1,some (bx (kS (t.getD k tz))))] (zM<|zE (yE iW k (tz:qB))<|zE (yJ iR)<|zH (qR 1 ze83 zo83)<|zM<|zT (qA iR)<|zZ) ?_
     refine jB<|kx [(9,(vi (xG ((t.getD k tz).op))))] [] (zE (kV gB)<|zR (uE fM)<|zE (jV (j_kids ((t.getD k tz).op)))<|zM<|zZ) ?_
     refine jB<|jB<|kx [(72,(vb (((decide ((xG ((t.getD k tz).op))<0)||(decide ((xG ((t.getD k tz).op))<2)&&((t.getD k tz).b != 0)))||(((t.getD k tz).op == 0)&&(((t.getD k tz).a != 0)||!(kR ((t.getD k tz).n)))))||(((t.getD k tz).op != 0)&&!(unsB ((t.getD k tz).n))))))] [] ?_ ?_
     ·refine zM<|zE xK<|zE (oV (vb (decide ((xG ((t.getD k tz).op))<0))) (qC (by kernel_rfl)))<|?_
      rcases hb6:(decide ((xG ((t.getD k tz).op))<0)) with _ | _
      ·replace hb6:=vB hb6
       refine zM<|zE xK<|zE (oV (vb (decide ((xG ((t.getD k tz).op))<2))) (qC (by kernel_rfl)))<|?_
       rcases hb7:(decide ((xG ((t.getD k tz).op))<2)) with _ | _
       ·replace hb7:=vB hb7
        refine zK<|zK<|zK<|zE xQ<|zE xQ<|zM<|zE (kV gB)<|zR (uE fM)<|zE xR<|zE (oV (vb ((t.getD k tz).op == 0)) (qC (by kernel_rfl)))<|?_
        rcases hb8:((t.getD k tz).op == 0) with _ | _
        ·replace hb8:=ne_of_beq_false hb8
         refine zK<|zK<|zK<|zK<|zK<|zK<|zK<|zK<|zK<|zE xQ<|zE xQ<|zM<|zE (kV gB)<|zR (uE fM)<|zE mF<|zE (oV (vb ((t.getD k tz).op != 0)) (qC (by kernel_rfl)))<|?_
         rcases hb9:((t.getD k tz).op != 0) with _ | _
         ·replace hb9:=bne_eq_false_iff_eq.1 hb9
          exact zK<|zK<|zK<|zK<|zE xQ<|zE xQ<|zZ
         ·replace hb9:=bne_iff_ne.1 hb9
          exact zE (kV dP)<|zR (kJ jQ)<|zE (jV (j_unset ((t.getD k tz).n) (qS (t.getD k tz).n) (tn_get ht (show k<t.length by omega))))<|zE gD<|zE fR<|zE dG<|zZ
        ·replace hb8:=eq_of_beq hb8
         refine zE (kV gS)<|zR (uE cL)<|zE mF<|zE (oV (vb ((t.getD k tz).a != 0)) (qC (by kernel_rfl)))<|?_
         rcases hb10:((t.getD k tz).a != 0) with _ | _
         ·replace hb10:=bne_eq_false_iff_eq.1 hb10
          refine zE (kV dP)<|zR (kJ jQ)<|zE (jV (cQ ((t.getD k tz).n) (qS (t.getD k tz).n) (jM (tn_get ht (show k<t.length by omega)))))<|zE gD<|zE dG<|zE fR<|zE dG<|zE (oV (vb (false||(true&&(false||!(kR ((t.getD k tz).n)))))) (qC (by kernel_rfl)))<|?_
          rcases hb11:(!(kR ((t.getD k tz).n))) with _ | _
          ·refine zE (kV gB)<|zR (uE fM)<|zE mF<|zE (oV (vb ((t.getD k tz).op != 0)) (qC (by kernel_rfl)))<|?_
           rcases hb12:((t.getD k tz).op != 0) with _ | _
           ·replace hb12:=bne_eq_false_iff_eq.1 hb12
            exact zK<|zK<|zK<|zK<|zE xQ<|zE xQ<|zZ
           ·replace hb12:=bne_iff_ne.1 hb12
            exact zE (kV dP)<|zR (kJ jQ)<|zE (jV (j_unset ((t.getD k tz).n) (qS (t.getD k tz).n) (tn_get ht (show k<t.length by omega))))<|zE gD<|zE fR<|zE dG<|zZ
          ·exact zK<|zK<|zK<|zK<|zK<|zK<|zK<|zK<|zK<|zE yR<|zZ
         ·replace hb10:=bne_iff_ne.1 hb10
          exact zK<|zK<|zK<|zK<|zE yR<|zE yR<|zE xQ<|zM<|zK<|zK<|zK<|zK<|zK<|zK<|zK<|zK<|zK<|zE yR<|zZ
       ·replace hb7:=uV hb7
        refine zE (kV mT)<|zR (uE cL)<|zE mF<|zE fR<|zE dG<|zE (oV (vb (false||(true&&((t.getD k tz).b != 0)))) (qC (by kernel_rfl)))<|?_
        rcases hb13:((t.getD k tz).b != 0) with _ | _
        ·replace hb13:=bne_eq_false_iff_eq.1 hb13
         refine zE (kV gB)<|zR (uE fM)<|zE xR<|zE (oV (vb ((t.getD k tz).op == 0)) (qC (by kernel_rfl)))<|?_
         rcases hb14:((t.getD k tz).op == 0) with _ | _
         ·replace hb14:=ne_of_beq_false hb14
          refine zK<|zK<|zK<|zK<|zK<|zK<|zK<|zK<|zK<|zE xQ<|zE xQ<|zM<|zE (kV gB)<|zR (uE fM)<|zE mF<|zE (oV (vb ((t.getD k tz).op != 0)) (qC (by kernel_rfl)))<|?_
          rcases hb15:((t.getD k tz).op != 0) with _ | _
          ·replace hb15:=bne_eq_false_iff_eq.1 hb15
           exact zK<|zK<|zK<|zK<|zE xQ<|zE xQ<|zZ
          ·replace hb15:=bne_iff_ne.1 hb15
           exact zE (kV dP)<|zR (kJ jQ)<|zE (jV (j_unset ((t.getD k tz).n) (qS (t.getD k tz).n) (tn_get ht (show k<t.length by omega))))<|zE gD<|zE fR<|zE dG<|zZ
         ·replace hb14:=eq_of_beq hb14
          refine zE (kV gS)<|zR (uE cL)<|zE mF<|zE (oV (vb ((t.getD k tz).a != 0)) (qC (by kernel_rfl)))<|?_
          rcases hb16:((t.getD k tz).a != 0) with _ | _
          ·replace hb16:=bne_eq_false_iff_eq.1 hb16
           refine zE (kV dP)<|zR (kJ jQ)<|zE (jV (cQ ((t.getD k tz).n) (qS (t.getD k tz).n) (jM (tn_get ht (show k<t.length by omega)))))<|zE gD<|zE dG<|zE fR<|zE dG<|zE (oV (vb (false||(true&&(false||!(kR ((t.getD k tz).n)))))) (qC (by kernel_rfl)))<|?_
           rcases hb17:(!(kR ((t.getD k tz).n))) with _ | _
           ·refine zE (kV gB)<|zR (uE fM)<|zE mF<|zE (oV (vb ((t.getD k tz).op != 0)) (qC (by kernel_rfl)))<|?_
            rcases hb18:((t.getD k tz).op != 0) with _ | _
            ·replace hb18:=bne_eq_false_iff_eq.1 hb18
             exact zK<|zK<|zK<|zK<|zE xQ<|zE xQ<|zZ
            ·replace hb18:=bne_iff_ne.1 hb18
             exact zE (kV dP)<|zR (kJ jQ)<|zE (jV (j_unset ((t.getD k tz).n) (qS (t.getD k tz).n) (tn_get ht (show k<t.length by omega))))<|zE gD<|zE fR<|zE dG<|zZ
           ·exact zK<|zK<|zK<|zK<|zK<|zK<|zK<|zK<|zK<|zE yR<|zZ
          ·replace hb16:=bne_iff_ne.1 hb16
           exact zK<|zK<|zK<|zK<|zE yR<|zE yR<|zE xQ<|zM<|zK<|zK<|zK<|zK<|zK<|zK<|zK<|zK<|zK<|zE yR<|zZ
        ·replace hb13:=bne_iff_ne.1 hb13
         exact zK<|zK<|zK<|zK<|zK<|zK<|zK<|zK<|zK<|zK<|zK<|zK<|zK<|zK<|zE yR<|zM<|zK<|zK<|zK<|zK<|zK<|zK<|zK<|zK<|zK<|zE yR<|zZ
      ·replace hb6:=uV hb6
       exact zK<|zK<|zK<|zK<|zK<|zK<|zK<|zE yR<|zM<|zK<|zK<|zK<|zK<|zK<|zK<|zK<|zK<|zK<|zK<|zK<|zK<|zK<|zK<|zE yR<|zM<|zK<|zK<|zK<|zK<|zK<|zK<|zK<|zK<|zK<|zE yR<|zZ
     refine jG rfl (fun h19=>?_) (fun h19=>?_)
     ·refine jB<|kx [(4,(vl 3 1 qK [])),(5,(jS 1))] [] (zE (aZ 3 1)<|zM<|zZ) ?_
      refine jE ⟨_,(.tmp (d:=(.sl 3 1 (List.map qK []))) rfl (.tmp (d:=(.val (.int .i64 (1)))) rfl .nil)),?_⟩
      have he:=hR.bad h19
      rw[he.1,he.2];rfl
     ·have hB:=h19
      refine jC<|jB<|jB<|kx [(100,(vb ((decide (0<(xG ((t.getD k tz).op)))&&(decide ((t.getD k tz).a<0)||decide (((k:Nat):Int)<=(t.getD k tz).a)))||(decide (1<(xG ((t.getD k tz).op)))&&(decide ((t.getD k tz).b<0)||decide (((k:Nat):Int)<=(t.getD k tz).b))))))] [] ?_ ?_
      ·refine zM<|zE hH<|zE (oV (vb (decide (0<(xG ((t.getD k tz).op))))) (qC (by kernel_rfl)))<|?_
       rcases hb20:(decide (0<(xG ((t.getD k tz).op)))) with _ | _
       ·replace hb20:=vB hb20
        refine zK<|zK<|zK<|zK<|zK<|zK<|zK<|zK<|zK<|zE xQ<|zM<|zM<|zE hH<|zE (oV (vb (decide (1<(xG ((t.getD k tz).op))))) (qC (by kernel_rfl)))<|?_
        rcases hb21:(decide (1<(xG ((t.getD k tz).op)))) with _ | _
        ·replace hb21:=vB hb21
         exact zK<|zK<|zK<|zK<|zK<|zK<|zK<|zK<|zK<|zE xQ<|zE xQ<|zZ
        ·replace hb21:=uV hb21
         refine zE (kV mT)<|zR (uE cL)<|zE xK<|zE (oV (vb (decide ((t.getD k tz).b<0))) (qC (by kernel_rfl)))<|?_
         rcases hb22:(decide ((t.getD k tz).b<0)) with _ | _
         ·replace hb22:=vB hb22
          exact zE (kV mT)<|zR (uE cL)<|zM<|zE oGe<|zE dG<|zE fR<|zE dG<|zZ
         ·replace hb22:=uV hb22
          exact zK<|zK<|zK<|zK<|zE yR<|zE yR<|zE xQ<|zZ
       ·replace hb20:=uV hb20
        refine zE (kV gS)<|zR (uE cL)<|zE xK<|zE (oV (vb (decide ((t.getD k tz).a<0))) (qC (by kernel_rfl)))<|?_
        rcases hb23:(decide ((t.getD k tz).a<0)) with _ | _
        ·replace hb23:=vB hb23
         refine zE (kV gS)<|zR (uE cL)<|zM<|zE oGe<|zE dG<|zE fR<|zE (oV (vb (true&&(false||decide (((k:Nat):Int)<=(t.getD k tz).a)))) (qC (by kernel_rfl)))<|?_
         rcases hb24:(decide (((k:Nat):Int)<=(t.getD k tz).a)) with _ | _
         ·replace hb24:=vB hb24
          refine zM<|zE hH<|zE (oV (vb (decide (1<(xG ((t.getD k tz).op))))) (qC (by kernel_rfl)))<|?_
          rcases hb25:(decide (1<(xG ((t.getD k tz).op)))) with _ | _
          ·replace hb25:=vB hb25
           exact zK<|zK<|zK<|zK<|zK<|zK<|zK<|zK<|zK<|zE xQ<|zE xQ<|zZ
          ·replace hb25:=uV hb25
           refine zE (kV mT)<|zR (uE cL)<|zE xK<|zE (oV (vb (decide ((t.getD k tz).b<0))) (qC (by kernel_rfl)))<|?_
           rcases hb26:(decide ((t.getD k tz).b<0)) with _ | _
           ·replace hb26:=vB hb26
            exact zE (kV mT)<|zR (uE cL)<|zM<|zE oGe<|zE dG<|zE fR<|zE dG<|zZ
           ·replace hb26:=uV hb26
            exact zK<|zK<|zK<|zK<|zE yR<|zE yR<|zE xQ<|zZ
         ·replace hb24:=uV hb24
          exact zK<|zK<|zK<|zK<|zK<|zK<|zK<|zK<|zK<|zK<|zK<|zK<|zK<|zE yR<|zZ
        ·replace hb23:=uV hb23
         exact zK<|zK<|zK<|zK<|zE yR<|zE yR<|zM<|zK<|zK<|zK<|zK<|zK<|zK<|zK<|zK<|zK<|zK<|zK<|zK<|zK<|zE yR<|zZ
      refine jG rfl (fun h27=>?_) (fun h27=>?_)
      ·refine jB<|kx [(4,(vl 3 1 qK [])),(5,(jS 5))] [] (zE (aZ 3 1)<|zM<|zZ) ?_
       refine jE ⟨_,(.tmp (d:=(.sl 3 1 (List.map qK []))) rfl (.tmp (d:=(.val (.int .i64 (5)))) rfl .nil)),?_⟩
       have he:=hR.ord hB h27
       rw[he.1,he.2];rfl
      ·have hO:=h27
       refine jC<|jB<|jB<|kx [(114,(vb (((t.getD k tz).op == 1)&&(decide ((t.getD k tz).a<0)||decide (z<=(t.getD k tz).a)))))] [] ?_ ?_
       ·refine zE (kV gB)<|zR (uE fM)<|zE xR<|zE (oV (vb ((t.getD k tz).op == 1)) (qC (by kernel_rfl)))<|?_
        rcases hb28:((t.getD k tz).op == 1) with _ | _
        ·replace hb28:=ne_of_beq_false hb28
         exact zK<|zK<|zK<|zK<|zK<|zK<|zK<|zK<|zK<|zE xQ<|zZ
        ·replace hb28:=eq_of_beq hb28
         refine zE (kV gS)<|zR (uE cL)<|zE xK<|zE (oV (vb (decide ((t.getD k tz).a<0))) (qC (by kernel_rfl)))<|?_
         rcases hb29:(decide ((t.getD k tz).a<0)) with _ | _
         ·replace hb29:=vB hb29
          exact zE (kV gS)<|zR (uE cL)<|zM<|zE oGe<|zE dG<|zE fR<|zZ
         ·replace hb29:=uV hb29
          exact zK<|zK<|zK<|zK<|zE yR<|zE yR<|zZ
       refine jG rfl (fun h30=>?_) (fun h30=>?_)
       ·refine jB<|kx [(4,(vl 3 1 qK [])),(5,(jS 2))] [] (zE (aZ 3 1)<|zM<|zZ) ?_
        refine jE ⟨_,(.tmp (d:=(.sl 3 1 (List.map qK []))) rfl (.tmp (d:=(.val (.int .i64 (2)))) rfl .nil)),?_⟩
        have he:=hR.rng hB hO h30
        rw[he.1,he.2];rfl
       ·have hN:=ndr hR hB hO h30
        refine jC<|pwp_seqjoin (α:=Int) (fun v=>⟨[(1,(vi z)),(6,(.own 0 3 1 t.length)),(7,(jS k)),(25,(vl 83 7 kS t)),(26,(jS t.length)),(27,(jS k))],[(0,some (bm qK (o.set k v)))]⟩) (fun v=>v=szN (cW t k) (t.getD k tz)) ?_ ?_
        ·refine jB<|kx [(129,(vb ((xG ((t.getD k tz).op)) == 0)))] [] (zM<|zE xR<|zM<|zZ) ?_
         refine jG (b:=((xG ((t.getD k tz).op)) == 0)) rfl (fun h31=>?_) (fun h31=>?_)
         ·replace h31:=eq_of_beq h31
          have hv:=szN_c (ss:=cW t k) h31
          refine kx [] [(0,some (bm qK (o.set k 1)))] (zM<|zM<|zE (iE nW k)<|zT (oSp cL k (1:Int))<|zZ) ?_
          exact ⟨1,wk,hv⟩
         ·replace h31:=ne_of_beq_false h31
          have hk0:=h31
          obtain ⟨a1,a2,a3,a4,a5⟩:=hN.a ho hk0
          refine jB<|kx [(135,(vb ((t.getD k tz).op == 6)))] [] (zE (kV gB)<|zR (uE fM)<|zE xR<|zM<|zZ) ?_
          refine jG (b:=((t.getD k tz).op == 6)) rfl (fun h32=>?_) (fun h32=>?_)
          ·replace h32:=eq_of_beq h32
           have hv:=szN_n hk0 h32 a3
           refine kx [] [(0,some (bm qK (o.set k (o.getD (((t.getD k tz).a).toNat) 0))))] (zM<|zM<|zM<|zE (kV gS)<|zR (uE cL)<|zE (iE nW (((t.getD k tz).a).toNat))<|zR (oLp cL (((t.getD k tz).a).toNat) (0:Int))<|zE (iE nW k)<|zT (oSp cL k (o.getD (((t.getD k tz).a).toNat) 0))<|zZ) ?_
           exact ⟨(o.getD (((t.getD k tz).a).toNat) 0),wk,hv⟩
          ·replace h32:=ne_of_beq_false h32
           have h6:=h32
           refine jB<|kx [(147,(vb ((t.getD k tz).op == 7)))] [] (zE (kV gB)<|zR (uE fM)<|zE xR<|zM<|zZ) ?_
           refine jG (b:=((t.getD k tz).op == 7)) rfl (fun h33=>?_) (fun h33=>?_)
           ·replace h33:=eq_of_beq h33
            have hv:=szN_q hk0 h33 a3
            refine kx [] [(0,some (bm qK (o.set k (2*(o.getD (((t.getD k tz).a).toNat) 0)))))] (zM<|zM<|zM<|zE (kV gS)<|zR (uE cL)<|zE (iE nW (((t.getD k tz).a).toNat))<|zR (oLp cL (((t.getD k tz).a).toNat) (0:Int))<|zE (zMl (2*(o.getD (((t.getD k tz).a).toNat) 0)))<|zE (iE nW k)<|zT (oSp cL k (2*(o.getD (((t.getD k tz).a).toNat) 0)))<|zZ) ?_
            exact ⟨(2*(o.getD (((t.getD k tz).a).toNat) 0)),wk,hv⟩
           ·replace h33:=ne_of_beq_false h33
            obtain ⟨b1,b2,b3,b4,b5⟩:=hN.b ho hk0 h6 h33
            have hv:=szN_b hk0 h6 h33 a3 b3
            refine kd [] [(0,some (bm qK (o.set k ((o.getD (((t.getD k tz).a).toNat) 0)+(o.getD (((t.getD k tz).b).toNat) 0)))))] mo (wM<|wM<|wM<|wE (kV gS)<|wR (uE cL)<|wE (iE nW (((t.getD k tz).a).toNat))<|wR (oLp cL (((t.getD k tz).a).toNat) (0:Int))<|wM<|wE (kV mT)<|wR (uE cL)<|wE (iE nW (((t.getD k tz).b).toNat))<|wR (oLp cL (((t.getD k tz).b).toNat) (0:Int))<|wE (zAd ((o.getD (((t.getD k tz).a).toNat) 0)+(o.getD (((t.getD k tz).b).toNat) 0)))<|wE (iE nW k)<|wT (oSp cL k ((o.getD (((t.getD k tz).a).toNat) 0)+(o.getD (((t.getD k tz).b).toNat) 0)))<|wZ) ?_
            exact ⟨((o.getD (((t.getD k tz).a).toNat) 0)+(o.getD (((t.getD k tz).b).toNat) 0)),wk,hv⟩
        ·rintro v hv
         have hsl:(o.set k v).length=o.length:=List.length_set
         refine jB<|kx [(164,(vb (decide (4096<((o.set k v).getD k 0)))))] [] (zM<|zM<|zE (iE nW k)<|zR (oLp cL k (0:Int))<|zE hH<|zZ) ?_
         refine jG (b:=decide (4096<((o.set k v).getD k 0))) rfl (fun h34=>?_) (fun h34=>?_)
         ·replace h34:=uV h34
          refine jB<|kx [(4,(vl 3 1 qK [])),(5,(jS 3))] [] (zE (aZ 3 1)<|zM<|zZ) ?_
          refine jE ⟨_,(.tmp (d:=(.sl 3 1 (List.map qK []))) rfl (.tmp (d:=(.val (.int .i64 (3)))) rfl .nil)),?_⟩
          have he:=hN.big hv (by omega) h34
          rw[he.1,he.2];rfl
         ·replace h34:=vB h34
          refine jC<|kx [(27,(jS (k+1)))] [] (zE (vO (k+1))<|zM<|zZ) ?_
          exact ⟨(k+1,o.set k v),wk,(hN.next hv ho (by omega)),(by first|omega|(dsimp only;omega))⟩
    ·replace h5:=vB h5
     refine kD<|jB<|kx [(4,(.own 0 3 1 t.length)),(5,(jS 0))] [] (zM<|zM<|zM<|zZ) ?_
     refine kU (xC (t:=4) (k:=0) (es:=List.map qK o) rfl rfl (vD _ _ (fun _=>rfl)) (uW _ _ uF) (xE _ _ (fun _=>rfl) uF)) ?_
     refine jE ⟨_,(.tmp (d:=(.sl 3 1 (List.map qK o))) rfl (.tmp (d:=(.val (.int .i64 (0)))) rfl .nil)),?_⟩
     have he:=tm_end hz0 h0 h400 hk h5 ho hu
     rw[he.1,he.2];rfl
theorem fo161_4:xV Tryz.prog 161 4=some 4:=by kernel_rfl
theorem pl161:eW Tryz.prog 161=some [(0,1),(1,1),(2,1),(3,1),(4,1)]:=by kernel_rfl
theorem ze161:yI Tryz.prog 161=some [.int .i64 0,.int .i64 0,.int .i64 0,.slice none 0 0,.bool false]:=by kernel_rfl
theorem zn161:iB [.int .i64 0,.int .i64 0,.int .i64 0,.slice none 0 0,.bool false] [.val (.int .i64 0),.val (.int .i64 0),.val (.int .i64 0),.val (.slice none 0 0),.val (.bool false)]:=by simp [iB,Value.oneCell']
def StepAt(bv:List R2)(L:List JV)(x:qB):Prop:=xA Tryz.prog 126 [(.ref 0 0),(.d (kS x)),(vl 61 8 jF (List.map jY bv))] [(0,some (xZ bv.length 1 (L) false)),(1,some (yA (L)))] (.d (.tup [])) [(0,some (xZ bv.length 18 (L++[nJ bv L x]) false)),(18,some (yA (L++[nJ bv L x])))]
theorem e_step(x:qB)(bv:List R2)(hbx:∀ x∈bv,GL 1048576 x)(L:List JV)(hst:StepAt bv L x):xA Tryz.prog 126 [(.ref 0 0),(.d (kS x)),(vl 61 8 jF (List.map jY bv))] [(0,some (xZ bv.length 1 (L) false)),(1,some (yA (L)))] (.d (.tup [])) [(0,some (xZ bv.length 18 (L++[nJ bv L x]) false)),(18,some (yA (L++[nJ bv L x])))]:=hst
structure JRunP (bv:List R2) (t:List qB):Prop where
 run:JRun bv t
 st:∀ k,k<t.length->StepAt bv (jU bv t k) (t.getD k tz)
theorem runs_of{bv:List R2}{ts:List (List qB)}(h:∀ t∈ts,JRunP bv t):∀ t∈ts,JRun bv t:=fun t ht=>(h t ht).run
theorem j_chk(t:List qB)(ht:zL 1048576 t)(z:Int):jO Tryz.prog 73 [(.sl 83 7 (List.map kS t)),(.val (.int .i64 (z)))] (.val (.int .i64 ((((gK z t):Nat):Int)))):=by
 refine qY Tryz.func73 ?_
 refine jB<|kx [] [] (zM<|zZ) ?_
 refine jB<|kx [(6,(jS (gK z t)))] [] (zM<|zM<|zE (jV (j_sizes t ht z))<|zM<|zE uX<|zE uX<|zM<|zM<|zZ) ?_
 refine jB<|kx [(4,(jS (gK z t)))] [] (zM<|zM<|zZ) ?_
 refine jE ⟨_,(.tmp (d:=(.val (.int .i64 ((((gK z t):Nat):Int))))) rfl .nil),?_⟩
 rfl
theorem j_jets(t:List qB)(ht:zL 1048576 t)(bv:List R2)(hbx:∀ x∈bv,GL 1048576 x)(hr:JRunP bv t):jO Tryz.prog 67 [(.sl 83 7 (List.map kS t)),(.sl 61 8 (List.map jF (List.map jY bv))),(.val (.int .i64 (((1:Nat):Int)))),(.val (.int .i64 (-1)))] (.tup [(jI (qW (kA bv t))),(.val (.int .i64 (((0:Nat):Int))))]):=by
 have h0:=tm_0 hr.run.c0
 let y3:=(jL.mk kH kH)
 let y2:=(bx (jI (vX.mk y3 [] [])))
 let y1:=(bx (.agg [(.val (.int .i64 (((bv.length:Nat):Int)))),(.val (.int .i64 (((1:Nat):Int)))),(.val (.int .i64 (-1))),(.val (.slice none 0 0)),(.val (.bool (false)))]))
 refine qY Tryz.func67 ?_
 refine jB<|kx [(8,(.ref 0 0))] [(0,some y2)] (zN (qR 0 mE cG)<|zM<|zZ) ?_
 refine jB<|jB<|kx [(16,(vl 61 8 jF (List.map jY bv))),(17,(jS bv.length)),(18,(jS 0))] [] (zM<|zE (fO uA bv.length)<|zM<|zZ) ?_
 refine jH<|kF (α:=Nat) (fun i=>⟨[(0,(vl 83 7 kS t)),(1,(vl 61 8 jF (List.map jY bv))),(2,(jS 1)),(3,(vi (-1))),(8,(.ref 0 0)),(16,(vl 61 8 jF (List.map jY bv))),(17,(jS bv.length)),(18,(jS i))],[(0,some y2)]⟩) (fun i=>i<=bv.length) (fun i=>bv.length-i) 0 wk (Nat.zero_le _) ?_
 rintro i hi
 refine jB<|kx [(19,(vb (decide (((i:Nat):Int)<((bv.length:Nat):Int)))))] [] (zE xK<|zZ) ?_
 refine jB<|jG rfl (fun h1=>?_) (fun h1=>?_)
 ·replace h1:=uV h1
  refine jC<|jB<|jH<|jB<|kx [(11,(.ref 1 0))] [(1,some (bx (jF (jY (bv.getD i z2)))))] (zE (bC uA jY i z2)<|zE (yJ jP)<|zN (qR 1 qJ qL)<|zT (qA jP)<|zZ) ?_
  refine jB<|kx [(24,(vb false))] [] (zR (kJ jP)<|zE (jV (by have h:=lP (jY (bv.getD i z2)) (zU (⟨qQ (jM (jW (kZ hbx (by decide) i).1) (by decide:1048576<=1048576)),qQ (jM (jW (kZ hbx (by decide) i).2.1) (by decide:1048576<=1048576))⟩));rw[show uJ (jY (bv.getD i z2))=true from zW (kZ hbx (by decide) i).2.2] at h;exact h))<|zE gD<|zZ) ?_
  refine kM ?_
  refine jC<|kx [(18,(jS (i+1)))] [] (zE (vO (i+1))<|zM<|zZ) ?_
  exact ⟨i+1,wk,(by omega),(by first|omega|(dsimp only;omega))⟩
 ·replace h1:=vB h1
  refine kD<|jB<|jB<|kx [(36,(vb false))] [] (zM<|zE (uP false xK)<|zM<|zM<|zE (uP false hH)<|zE xQ<|zM<|zM<|zE (uP false hH)<|zE xQ<|zZ) ?_
  refine kM ?_
  refine jC<|jB<|jB<|kx [(12,(jS (gK ((bv.length:Nat):Int) t)))] [] (zM<|zM<|zE (fO uA bv.length)<|zE (jV (j_chk t ht ((bv.length:Nat):Int)))<|zM<|zZ) ?_
  refine jB<|kx [(43,(vb false))] [] (zM<|zE (uP false mF (by exact bne_eq_false_iff_eq.2 (by rw[show (gK ((bv.length:Nat):Int) t)=0 from hr.run.c0]<;>rfl)))<|zZ) ?_
  refine kM ?_
  refine jC<|jB<|kx [(13,(.ref 2 0))] [(2,some y1)] (zM<|zE (fO uA bv.length)<|zM<|zM<|zE (eD pl161 ze161 zn161)<|zN (uU 2)<|zM<|zZ) ?_
  refine jB<|jB<|bN 2 3 3 95 10 (cs:=y1) (h:=?_)
  refine kU (wk (l:=[(0,(vl 83 7 kS t)),(1,(vl 61 8 jF (List.map jY bv))),(8,(.ref 0 0)),(13,(.ref 2 0))]) (b:=[(0,some y2),(2,some [(jS bv.length),(jS 1),(vi (-1)),(.own 3 95 10 0),(vb false)]),(3,some (yU jI []))])) ?_
  refine kx [(52,(vl 83 7 kS t)),(53,(jS t.length)),(54,(jS 0))] [] (zM<|zE (vP iW)<|zM<|zZ) ?_
  refine jH<|kF (α:=Nat) (fun k=>⟨[(1,(vl 61 8 jF (List.map jY bv))),(8,(.ref 0 0)),(13,(.ref 2 0)),(52,(vl 83 7 kS t)),(53,(jS t.length)),(54,(jS k))],[(0,some y2),(2,some (xZ bv.length 3 (jU bv t k) false)),(3,some (yA (jU bv t k)))]⟩) (fun k=>k<=t.length) (fun k=>t.length-k) 0 wk (Nat.zero_le _) ?_
  rintro k hk
  have hju:=cX bv t k
  have hjm:(List.map qW (jU bv t k)).length=k:=by rw[List.length_map,hju]
  have hup:=hr.run.upto hk
  refine jB<|kx [(55,(vb (decide (((k:Nat):Int)<((t.length:Nat):Int)))))] [] (zE xK<|zZ) ?_
  refine jB<|jG rfl (fun h2=>?_) (fun h2=>?_)
  ·replace h2:=uV h2
   refine jC<|jB<|jH<|jB<|kx [(15,(.ref 4 0))] [(4,some (bx (kS (t.getD k tz))))] (zE (yE iW k (tz:qB))<|zE (yJ iR)<|zH (qR 4 ze83 zo83)<|zT (qA iR)<|zZ) ?_
   refine jB<|kf [] [(2,some (xZ bv.length 21 ((jU bv t k)++[(nJ bv (jU bv t k) (t.getD k tz))]) false)),(21,some (yA ((jU bv t k)++[(nJ bv (jU bv t k) (t.getD k tz))]))),(10,none),(11,none),(12,none),(13,none),(14,none),(15,none),(16,none),(17,none),(18,none),(19,none),(20,none),(3,none),(5,none),(6,none),(7,none),(8,none),(9,none)] (zM<|zR (kJ iR)<|zM<|zSe (B2:=[(2,some (xZ bv.length 3 (jU bv t k) false)),(3,some (yA (jU bv t k)))]) (B2':=[(2,some (xZ bv.length 21 ((jU bv t k)++[(nJ bv (jU bv t k) (t.getD k tz))]) false)),(21,some (yA ((jU bv t k)++[(nJ bv (jU bv t k) (t.getD k tz))])))]) [2,3,5,6,7,8,9,10,11,12,13,14,15,16,17,18,19,20,21] [2] (e_step (t.getD k tz) bv hbx (jU bv t k) (hr.st k (show k<t.length by omega)))<|zF) ?_
   refine kU (wk (l:=[(1,(vl 61 8 jF (List.map jY bv))),(8,(.ref 0 0)),(13,(.ref 2 0)),(52,(vl 83 7 kS t)),(53,(jS t.length)),(54,(jS k))]) (b:=[(0,some y2),(2,some (xZ bv.length 21 ((jU bv t k)++[(nJ bv (jU bv t k) (t.getD k tz))]) false)),(21,some (yA ((jU bv t k)++[(nJ bv (jU bv t k) (t.getD k tz))])))])) ?_
   refine kU (iY (S':=[(1,(vl 61 8 jF (List.map jY bv))),(8,(.ref 0 0)),(13,(.ref 2 0)),(52,(vl 83 7 kS t)),(53,(jS t.length)),(54,(jS k))]) (B':=[(0,some y2),(2,some (xZ bv.length 3 ((jU bv t k)++[(nJ bv (jU bv t k) (t.getD k tz))]) false)),(3,some (yA ((jU bv t k)++[(nJ bv (jU bv t k) (t.getD k tz))])))]) 3 21 2) ?_
   refine jB<|kx [(65,(vb false))] [] (zM<|zE oNc<|zE (kV fo161_4)<|zR (uE iP)<|zZ) ?_
   refine kM ?_
   refine jC<|kx [(54,(jS (k+1)))] [] (zE (vO (k+1))<|zM<|zZ) ?_
   exact ⟨k+1,wk,(by omega),(by first|omega|(dsimp only;omega))⟩
  ·replace h2:=vB h2
   refine kD<|jB<|kd [(9,(jS 0))] [(0,some (bx (jI ((List.map qW (jU bv t k)).getD ((List.map qW (jU bv t k)).length-1) (vX.mk y3 [] [])))))] mo (wM<|wE oNc<|wE (kV cU)<|wR (uE sh143)<|wM<|wE oNc<|wE (kV cU)<|wR (uE sh143)<|wE (oLo dY)<|wE (oSb ((List.map qW (jU bv t k)).length-1))<|wE (oXO dY ((List.map qW (jU bv t k)).length-1))<|wR (oLA gU ((List.map qW (jU bv t k)).length-1) (vX.mk y3 [] []))<|wT (qA gU)<|wM<|wZ) ?_
   refine jE ⟨_,(kI (cs:=(bx (jI ((List.map qW (jU bv t k)).getD ((List.map qW (jU bv t k)).length-1) (vX.mk y3 [] []))))) (d:=(jI ((List.map qW (jU bv t k)).getD ((List.map qW (jU bv t k)).length-1) (vX.mk y3 [] [])))) rfl rfl gU rfl rfl (.tmp (d:=(.val (.int .i64 (((0:Nat):Int))))) rfl .nil)),?_⟩
   obtain rfl:k=t.length:=by omega
   rw[List.length_map,hju,cP qW _ jz _ (by omega)]
   unfold kA;rfl
theorem p_pts(xs:List Rat)(hx:∀ q∈xs,QL q 1048576)(hxb:xs.length<=1000000):jO Tryz.prog 68 [(.sl 45 4 (List.map jJ (List.map jN xs)))] (.sl 61 8 (List.map jF (List.map jY (List.map yX xs)))):=by
 refine qY Tryz.func68 ?_
 refine jB<|kx [] [] (zE (aZ 61 8)<|zZ) ?_
 refine jB<|kx [(3,(.own 0 61 8 0))] [(0,some (yU jF []))] (zO 0 61 8<|zZ) ?_
 refine jB<|jB<|kx [(6,(vl 45 4 jJ (List.map jN xs))),(7,(jS xs.length)),(8,(jS 0))] [] (zM<|zE (fO uQ xs.length)<|zM<|zZ) ?_
 refine jH<|kF (α:=Nat × List jL) (fun (i,o)=>⟨[(3,(.own 0 61 8 o.length)),(6,(vl 45 4 jJ (List.map jN xs))),(7,(jS xs.length)),(8,(jS i))],[(0,some (yU jF o))]⟩) (fun (i,o)=>i<=xs.length/\o=(xs.take i).map (fun q=>jY (yX q))) (fun (i,o)=>xs.length-i) (0,[]) wk ⟨Nat.zero_le _,by simp⟩ ?_
 rintro ⟨i,o⟩ ⟨hi,ho⟩
 have hol:o.length=i:=by rw[ho,List.length_map,List.length_take];omega
 refine jB<|kx [(9,(vb (decide (((i:Nat):Int)<((xs.length:Nat):Int)))))] [] (zE xK<|zZ) ?_
 refine jB<|jG rfl (fun h1=>?_) (fun h1=>?_)
 ·replace h1:=uV h1
  refine jC<|jB<|jH<|jB<|kx [(5,(.ref 1 0))] [(1,some (bx (jJ (jN (xs.getD i 0)))))] (zE (bC uQ jN i 0)<|zE (yJ jQ)<|zH (qR 1 qZ uG)<|zT (qA jQ)<|zZ) ?_
  refine kf [(3,(.own 0 61 8 ((o++[(jL.mk (jN (xs.getD i 0)) (jN (xs.getD i 0)))]).length)))] [(0,some (yU jF (o++[(jL.mk (jN (xs.getD i 0)) (jN (xs.getD i 0)))])))] (zM<|zR (kJ jQ)<|zR (kJ jQ)<|zE (eD iJ qJ qL)<|zE (eE uA qJ qL)<|zAS jF o [(jL.mk (jN (xs.getD i 0)) (jN (xs.getD i 0)))] rfl uA qJ by61<|zM<|zF) ?_
  refine kx [(8,(jS (i+1)))] [] (zE (vO (i+1))<|zM<|zZ) ?_
  exact ⟨(i+1,o++[jY (yX (xs.getD i 0))]),wk,⟨by omega,by rw[ho];exact iT (f:=fun q=>jY (yX q)) (by omega)⟩,(by first|omega|(dsimp only;omega))⟩
 ·replace h1:=vB h1
  refine kD<|jB<|kx [(2,(.own 0 61 8 o.length))] [] (zM<|zM<|zZ) ?_
  refine kU (xC (t:=2) (k:=0) (es:=List.map jF o) rfl rfl (gC _ _ (fun _=>rfl)) (uW _ _ rfl) (hZ jF o (fun _=>rfl) rfl)) ?_
  refine jE ⟨_,(.tmp (d:=(.sl 61 8 (List.map jF o))) rfl .nil),?_⟩
  rw[ho,show i=xs.length by omega,List.take_length,show List.map (fun q=>jY (yX q)) xs=List.map jY (List.map yX xs) from (by rw[List.map_map];rfl)];rfl
theorem p_val(bv:List R2)(hbx:∀ x∈bv,GL 1048576 x)(hbl:bv.length<=1000000):jO Tryz.prog 71 [(.sl 61 8 (List.map jF (List.map jY bv)))] (.val (.bool (true))):=by
 refine qY Tryz.func71 ?_
 refine jB<|kx [] [] (zM<|zZ) ?_
 refine jB<|jB<|kx [(5,(vl 61 8 jF (List.map jY bv))),(6,(jS bv.length)),(7,(jS 0))] [] (zM<|zE (fO uA bv.length)<|zM<|zZ) ?_
 refine jH<|kF (α:=Nat) (fun i=>⟨[(5,(vl 61 8 jF (List.map jY bv))),(6,(jS bv.length)),(7,(jS i))],[]⟩) (fun i=>i<=bv.length) (fun i=>bv.length-i) 0 wk (Nat.zero_le _) ?_
 rintro i hi
 refine jB<|kx [(8,(vb (decide (((i:Nat):Int)<((bv.length:Nat):Int)))))] [] (zE xK<|zZ) ?_
 refine jB<|jG rfl (fun h1=>?_) (fun h1=>?_)
 ·replace h1:=uV h1
  refine jC<|jB<|jH<|jB<|kx [(4,(.ref 0 0))] [(0,some (bx (jF (jY (bv.getD i z2)))))] (zE (bC uA jY i z2)<|zE (yJ jP)<|zN (qR 0 qJ qL)<|zT (qA jP)<|zZ) ?_
  refine jB<|kx [(13,(vb false))] [] (zR (kJ jP)<|zE (jV (by have h:=lP (jY (bv.getD i z2)) (zU (⟨qQ (jM (jW (kZ hbx (by decide) i).1) (by decide:1048576<=1048576)),qQ (jM (jW (kZ hbx (by decide) i).2.1) (by decide:1048576<=1048576))⟩));rw[show uJ (jY (bv.getD i z2))=true from zW (kZ hbx (by decide) i).2.2] at h;exact h))<|zE gD<|zZ) ?_
  refine kM ?_
  refine jC<|kx [(7,(jS (i+1)))] [] (zE (vO (i+1))<|zM<|zZ) ?_
  exact ⟨i+1,wk,(by omega),(by first|omega|(dsimp only;omega))⟩
 ·replace h1:=vB h1
  refine kD<|jB<|kx [(2,(vb true))] [] (zM<|zZ) ?_
  refine jE ⟨_,(.tmp (d:=(.val (.bool (true)))) rfl .nil),?_⟩
  rfl
theorem p_fit(m:List (List jR))(hm:uY 1048576 m)(n:Nat)(hr:yL m m.length (m.getD 0 []).length):jO Tryz.prog 74 [(.sl 24 1 (List.map jT m)),(.val (.int .i64 (((n:Nat):Int))))] (.val (.int .i64 ((((nP m n):Nat):Int)))):=by
 have hmb:=hr.r64
 have hm1:=hr.r1
 have hm0:=hr.c64
 let y1:=kH
 refine qY Tryz.func74 ?_
 refine jB<|kx [] [] (zM<|zZ) ?_
 refine jB<|jB<|kx [(18,(vb ((((m.length:Nat):Int) != ((n:Nat):Int))||((((m.getD 0 []).length:Nat):Int) != ((n:Nat):Int)))))] [] ?_ ?_
 ·refine zM<|zE (vP yH)<|zM<|zE mF<|zE (oV (vb (((m.length:Nat):Int) != ((n:Nat):Int))) (qC (by kernel_rfl)))<|?_
  rcases hb1:(((m.length:Nat):Int) != ((n:Nat):Int)) with _ | _
  ·replace hb1:=bne_eq_false_iff_eq.1 hb1
   exact zM<|zE (yE yH 0 ([]:List (jR)))<|zE (yV cF)<|zE (vP uQ (L:=(m.getD 0 [])))<|zM<|zE mF<|zE dG<|zZ
  ·replace hb1:=bne_iff_ne.1 hb1
   exact zK<|zK<|zK<|zK<|zK<|zK<|zE yR<|zZ
 refine jG rfl (fun h2=>?_) (fun h2=>?_)
 ·refine jB<|kx [(4,(jS 4))] [] (zM<|zZ) ?_
  refine jE ⟨_,(.tmp (d:=(.val (.int .i64 (4)))) rfl .nil),?_⟩
  rw[fit_1 h2];rfl
 ·have hs:=fit_0 h2
  refine jC<|jB<|jB<|kx [(20,(jS m.length)),(21,(jS 0))] [] (zM<|zE (vP yH)<|zM<|zZ) ?_
  refine jH<|kF (α:=Nat) (fun i=>⟨[(0,(vl 24 1 jT m)),(20,(jS m.length)),(21,(jS i))],[]⟩) (fun i=>i<=m.length/\symI m i) (fun i=>m.length-i) 0 wk ⟨Nat.zero_le _,symI_0 m⟩ ?_
  rintro i ⟨hi,hsy⟩
  refine jB<|kx [(22,(vb (decide (((i:Nat):Int)<((m.length:Nat):Int)))))] [] (zE xK<|zZ) ?_
  refine jB<|jG rfl (fun h3=>?_) (fun h3=>?_)
  ·replace h3:=uV h3
   have hri:=(hr.at (show i<m.length by omega)).1
   refine jC<|jB<|jH<|jB<|kx [(5,(jS i))] [] (zM<|zM<|zZ) ?_
   refine jB<|kx [(24,(jS i)),(25,(jS 0))] [] (zM<|zM<|zZ) ?_
   refine jH<|kF (α:=Nat) (fun j=>⟨[(0,(vl 24 1 jT m)),(5,(jS i)),(20,(jS m.length)),(21,(jS i)),(24,(jS i)),(25,(jS j))],[]⟩) (fun j=>j<=i/\∀ b,b<j->eqM m i b=true) (fun j=>i-j) 0 wk ⟨Nat.zero_le _,fun b hb=>by omega⟩ ?_
   rintro j ⟨hj,he⟩
   refine jB<|kx [(26,(vb (decide (((j:Nat):Int)<((i:Nat):Int)))))] [] (zE xK<|zZ) ?_
   refine jB<|jG rfl (fun h4=>?_) (fun h4=>?_)
   ·replace h4:=uV h4
    have hrj:=(hr.at (show j<m.length by omega)).1
    refine jC<|jB<|jH<|jB<|kx [(6,(jS j))] [] (zM<|zM<|zZ) ?_
    refine jB<|kd [(43,(vb ((yB (qS ((m.getD i []).getD j y1)) (qS ((m.getD j []).getD i y1))) != 0)))] [] mo (wM<|wM<|wE (yE yH i ([]:List (jR)))<|wE (yV cF)<|wM<|wE (yE uQ j y1 (L:=(m.getD i [])))<|wE (yJ jQ)<|wM<|wM<|wE (yE yH j ([]:List (jR)))<|wE (yV cF)<|wM<|wE (yE uQ i y1 (L:=(m.getD j [])))<|wE (yJ jQ)<|wE (jV (dD ((m.getD i []).getD j y1) ((m.getD j []).getD i y1) (qS ((m.getD i []).getD j y1)) (qS ((m.getD j []).getD i y1)) (jM (xL (vT (d:=[]) hm (show i<m.length by omega)).1 (show j<(m.getD i []).length by omega))) (jM (xL (vT (d:=[]) hm (show j<m.length by omega)).1 (show i<(m.getD j []).length by omega)))))<|wE mF<|wZ) ?_
    refine jG rfl (fun h5=>?_) (fun h5=>?_)
    ·replace h5:=bne_iff_ne.1 h5
     refine jB<|kx [(4,(jS 11))] [] (zM<|zZ) ?_
     refine jE ⟨_,(.tmp (d:=(.val (.int .i64 (11)))) rfl .nil),?_⟩
     rw[fit_11 hs (sym_no (i:=i) (j:=j) (by omega) (by omega) (eqm_f h5))];rfl
    ·replace h5:=bne_eq_false_iff_eq.1 h5
     refine jC<|kx [(25,(jS (j+1)))] [] (zE (vO (j+1))<|zM<|zZ) ?_
     exact ⟨j+1,wk,⟨by omega,eqm_s he h5⟩,(by first|omega|(dsimp only;omega))⟩
   ·replace h4:=vB h4
    have hsy2:=symI_s hsy (fun b hb=>he b (by omega))
    refine kD<|kx [(21,(jS (i+1)))] [] (zE (vO (i+1))<|zM<|zZ) ?_
    exact ⟨i+1,wk,⟨by omega,hsy2⟩,(by first|omega|(dsimp only;omega))⟩
  ·replace h3:=vB h3
   refine kD<|jB<|kx [(4,(jS 0))] [] (zM<|zZ) ?_
   refine jE ⟨_,(.tmp (d:=(.val (.int .i64 (0)))) rfl .nil),?_⟩
   obtain rfl:i=m.length:=by omega
   rw[fit_ok hs (sym_yes hsy)];rfl
theorem p_grd(t:List qB)(ht:zL 1048576 t)(xs:List Rat)(hx:∀ q∈xs,QL q 1048576)(hr:JRunP (List.map yX xs) t)(hxb:xs.length<=1000000):jO Tryz.prog 13 [(.sl 83 7 (List.map kS t)),(.sl 45 4 (List.map jJ (List.map jN xs)))] (.tup [(.sl 45 4 (List.map jJ (gP xs t))),(.val (.int .i64 (((0:Nat):Int))))]):=by
 have hgl:(kA (List.map yX xs) t).g.length=xs.length:=by rw[hr.run.last.2.2,List.length_map]
 refine qY Tryz.func13 ?_
 refine jB<|kx [] [] (zE (aZ 45 4)<|zM<|zZ) ?_
 refine jB<|kx [(6,(.ref 0 0)),(7,(jS 0))] [(0,some (bx (jI (qW (kA (List.map yX xs) t)))))] (zM<|zM<|zE (jV (p_pts xs hx hxb))<|zE (jV (j_jets t ht (List.map yX xs) (pts_gl hx) hr))<|zM<|zE uX<|zE uX<|zN (qR 0 mE cG)<|zT (qA gU)<|zM<|zZ) ?_
 refine jB<|jB<|kx [(19,(vb false))] [] (zM<|zE (uP false mF)<|zZ) ?_
 refine kM ?_
 refine jC<|jB<|kx [(8,(.own 1 45 4 0))] [(1,some (yU jJ []))] (zO 1 45 4<|zZ) ?_
 refine jB<|jB<|kx [(22,(vl 61 8 jF (List.map jY ((kA (List.map yX xs) t).g)))),(23,(jS (((kA (List.map yX xs) t).g).length))),(24,(jS 0))] [] (zE (kV xO)<|zR (oQr (.sl 61 8 (List.map jF (List.map jY ((kA (List.map yX xs) t).g)))) (.sl 61 8 (List.map jF (List.map jY ((kA (List.map yX xs) t).g)))) (uE cB) (by exact rfl))<|zE (fO uA (((kA (List.map yX xs) t).g).length))<|zM<|zZ) ?_
 refine jH<|kF (α:=Nat × List jR) (fun (i,o)=>⟨[(8,(.own 1 45 4 o.length)),(22,(vl 61 8 jF (List.map jY ((kA (List.map yX xs) t).g)))),(23,(jS (((kA (List.map yX xs) t).g).length))),(24,(jS i))],[(1,some (yU jJ o))]⟩) (fun (i,o)=>i<=(kA (List.map yX xs) t).g.length/\o=((kA (List.map yX xs) t).g.take i).map (fun y=>jN y.1)) (fun (i,o)=>(kA (List.map yX xs) t).g.length-i) (0,[]) wk ⟨Nat.zero_le _,by simp⟩ ?_
 rintro ⟨i,o⟩ ⟨hi,ho⟩
 have hol:o.length=i:=by rw[ho,List.length_map,List.length_take];omega
 refine jB<|kx [(25,(vb (decide (((i:Nat):Int)<((((kA (List.map yX xs) t).g).length:Nat):Int)))))] [] (zE xK<|zZ) ?_
 refine jB<|jG rfl (fun h1=>?_) (fun h1=>?_)
 ·replace h1:=uV h1
  refine jC<|jB<|jH<|jB<|kx [(10,(.ref 2 0))] [(2,some (bx (jF (jY (((kA (List.map yX xs) t).g).getD i z2)))))] (zE (bC uA jY i z2)<|zE (yJ jP)<|zH (qR 2 qJ qL)<|zT (qA jP)<|zZ) ?_
  refine kf [(8,(.own 1 45 4 ((o++[(jN ((((kA (List.map yX xs) t).g).getD i z2).1))]).length)))] [(1,some (yU jJ (o++[(jN ((((kA (List.map yX xs) t).g).getD i z2).1))])))] (zM<|zE (kV uO)<|zR (kJ jQ)<|zE (eE uQ qZ uG)<|zAS jJ o [(jN ((((kA (List.map yX xs) t).g).getD i z2).1))] rfl uQ qZ by45<|zM<|zF) ?_
  refine kx [(24,(jS (i+1)))] [] (zE (vO (i+1))<|zM<|zZ) ?_
  exact ⟨(i+1,o++[jN ((kA (List.map yX xs) t).g.getD i z2).1]),wk,⟨by omega,by rw[ho];exact gr_step (by omega)⟩,(by first|omega|(dsimp only;omega))⟩
 ·replace h1:=vB h1
  refine kD<|jB<|kx [(4,(.own 1 45 4 o.length)),(5,(jS 0))] [] (zM<|zM<|zM<|zZ) ?_
  refine kU (xC (t:=4) (k:=1) (es:=List.map jJ o) rfl rfl (gC _ _ (fun _=>rfl)) (uW _ _ rfl) (hZ jJ o (fun _=>rfl) rfl)) ?_
  refine jE ⟨_,(.tmp (d:=(.sl 45 4 (List.map jJ o))) rfl (.tmp (d:=(.val (.int .i64 (((0:Nat):Int))))) rfl .nil)),?_⟩
  rw[ho,show i=(kA (List.map yX xs) t).g.length by omega,List.take_length];rfl
end Go.Proofs.YtnajallgoaiahaaGreatDoor
