/- Part 33 of a proof: rules, plain facts, and functions walked. -/
import Derived.Test.YtnajallgoaiahaaGreatDoorM32
import Derived.Test.YtnajallgoaiahaaGreatDoorM23
import Derived.Test.YtnajallgoaiahaaGreatDoorM18
set_option linter.unusedVariables false
set_option linter.unusedSimpArgs false
set_option maxRecDepth 4000
namespace Go.Proofs.YtnajallgoaiahaaGreatDoor
open Go.Fid
theorem cb20:callB Tryz.prog 20=true:=by kernel_rfl
theorem cb76:callB Tryz.prog 76=true:=by kernel_rfl
theorem cb133:callB Tryz.prog 133=true:=by kernel_rfl
theorem u_uns(x:qC)(hx:gX x.n (qN x.n) 1048576):jS Tryz.prog 133 [(kG x)] (.val (.bool ((unuB x)))):=by
 refine jJ Tryz.func133 rfl cb133 rfl ?_
 show qM _ _ _ _ ⟨[(0,(.d (kG x)))],[]⟩
 refine jB<|kx [(1,(.ref 0 0))] [(0,some (bx (kG x)))] (zN (uY 0)<|zM<|zZ) ?_
 refine jB<|kx [(3,(vi (xP x.op)))] [] (zE (qA vK)<|zR (qX nQ)<|zE (kA (r_kids x.op))<|zM<|zZ) ?_
 refine jB<|jB<|kx [(9,(vb (x.op == 0)))] [] (zE (qA vK)<|zR (qX nQ)<|zE xR<|zZ) ?_
 refine jH (b:=(x.op == 0)) rfl (fun h1=>?_) (fun h1=>?_)
 ·replace h1:=eq_of_beq h1
  refine jB<|kx [(2,(vb (((x.a != 0)||(x.b != 0))||!(kW x.n))))] [] ?_ ?_
  ·refine zE (qA yD)<|zR (qX gI)<|zE cR<|zE (oV (vb (x.a != 0)) (qQ (by kernel_rfl)))<|?_
   rcases hb2:(x.a != 0) with _ | _
   ·replace hb2:=bne_eq_false_iff_eq.1 hb2
    refine zE (qA nM)<|zR (qX gI)<|zE cR<|zE fU<|zE (oV (vb (false||(x.b != 0))) (qQ (by kernel_rfl)))<|?_
    rcases hb3:(false||(x.b != 0)) with _ | _
    ·exact zE (qA dP)<|zR (kP jW)<|zE (kA (iA x.n (qN x.n) (jQ hx (by decide))))<|zE mT<|zE fU<|zM<|zZ
    ·exact zK<|zK<|zK<|zK<|zE nY<|zM<|zZ
   ·replace hb2:=bne_iff_ne.1 hb2
    exact zK<|zK<|zK<|zE nY<|zM<|zK<|zK<|zK<|zK<|zE nY<|zM<|zZ
  refine jG ⟨_,(.tmp (d:=(.val (.bool ((((x.a != 0)||(x.b != 0))||!(kW x.n)))))) rfl .nil),?_⟩
  rw[show unuB x=_ from if_pos h1];rfl
 ·replace h1:=ne_of_beq_false h1
  refine jF<|jB<|kx [(2,(vb ((decide ((xP x.op)<0)||(decide ((xP x.op)<2)&&(x.b != 0)))||!(zeroR x.n))))] [] ?_ ?_
  ·refine zM<|zE xY<|zE (oV (vb (decide ((xP x.op)<0))) (qQ (by kernel_rfl)))<|?_
   rcases hb4:(decide ((xP x.op)<0)) with _ | _
   ·replace hb4:=vM hb4
    refine zM<|zE xY<|zE (oV (vb (decide ((xP x.op)<2))) (qQ (by kernel_rfl)))<|?_
    rcases hb5:(decide ((xP x.op)<2)) with _ | _
    ·replace hb5:=vM hb5
     exact zK<|zK<|zK<|zE gE<|zE gE<|zM<|zE (qA dP)<|zR (kP jW)<|zE (kA (g_zero x.n (qN x.n) (jQ hx (by decide))))<|zE mT<|zE fU<|zM<|zZ
    ·replace hb5:=vJ hb5
     refine zE (qA nM)<|zR (qX gI)<|zE cR<|zE fA<|zE fU<|zE (oV (vb (false||(true&&(x.b != 0)))) (qQ (by kernel_rfl)))<|?_
     rcases hb6:(false||(true&&(x.b != 0))) with _ | _
     ·exact zE (qA dP)<|zR (kP jW)<|zE (kA (g_zero x.n (qN x.n) (jQ hx (by decide))))<|zE mT<|zE fU<|zM<|zZ
     ·exact zK<|zK<|zK<|zK<|zE nY<|zM<|zZ
   ·replace hb4:=vJ hb4
    exact zK<|zK<|zK<|zK<|zK<|zK<|zK<|zE nY<|zM<|zK<|zK<|zK<|zK<|zE nY<|zM<|zZ
  refine jG ⟨_,(.tmp (d:=(.val (.bool (((decide ((xP x.op)<0)||(decide ((xP x.op)<2)&&(x.b != 0)))||!(zeroR x.n)))))) rfl .nil),?_⟩
  rw[show unuB x=_ from if_neg h1];rfl
theorem u_sizes(t:List qC)(ht:yI 1048576 t)(z:Int):jS Tryz.prog 76 [(.sl 83 7 (List.map kG t)),(.val (.int .i64 (z)))] (.tup [(.sl 3 1 (List.map qE (tmL z t))),(.val (.int .i64 ((((gQ z t):Nat):Int))))]):=by
 refine jJ Tryz.func76 rfl cb76 rfl ?_
 show qM _ _ _ _ ⟨[(0,(vl 83 7 kG t)),(1,(vi z))],[]⟩
 refine jB<|kx [] [] (zE (cP 3 1)<|zM<|zZ) ?_
 refine jB<|jB<|kx [(16,(vb (decide (z<0)||decide (64<z))))] [] ?_ ?_
 ·refine zM<|zE xY<|zE (oV (vb (decide (z<0))) (qQ (by kernel_rfl)))<|?_
  rcases hb1:(decide (z<0)) with _ | _
  ·replace hb1:=vM hb1
   exact zM<|zE gD<|zE fU<|zZ
  ·replace hb1:=vJ hb1
   exact zK<|zK<|zE nY<|zZ
 refine jH (b:=(decide (z<0)||decide (64<z))) rfl (fun h2=>?_) (fun h2=>?_)
 ·refine jB<|kx [(4,(vl 3 1 qE [])),(5,(jK 2))] [] (zE (cP 3 1)<|zM<|zZ) ?_
  refine jG ⟨_,(.tmp (d:=(.sl 3 1 (List.map qE []))) rfl (.tmp (d:=(.val (.int .i64 (2)))) rfl .nil)),?_⟩
  have he:=zb_t (t:=t) h2
  rw[he.1,he.2];rfl
 ·have hz0:=h2
  refine jF<|jB<|jB<|kx [(19,(vb (((t.length:Nat):Int) == 0)))] [] (zM<|zE (zD bD)<|zE xR<|zZ) ?_
  refine jH (b:=(((t.length:Nat):Int) == 0)) rfl (fun h3=>?_) (fun h3=>?_)
  ·replace h3:=eq_of_beq h3
   refine jB<|kx [(4,(vl 3 1 qE [])),(5,(jK 1))] [] (zE (cP 3 1)<|zM<|zZ) ?_
   refine jG ⟨_,(.tmp (d:=(.sl 3 1 (List.map qE []))) rfl (.tmp (d:=(.val (.int .i64 (1)))) rfl .nil)),?_⟩
   have he:=tm_l0 hz0 (show t.length=0 by omega)
   rw[he.1,he.2];rfl
  ·replace h3:=ne_of_beq_false h3
   have h0:=h3
   refine jF<|jB<|jB<|kx [(22,(vb (decide (400<((t.length:Nat):Int)))))] [] (zM<|zE (zD bD)<|zE gD<|zZ) ?_
   refine jH (b:=decide (400<((t.length:Nat):Int))) rfl (fun h4=>?_) (fun h4=>?_)
   ·replace h4:=vJ h4
    refine jB<|kx [(4,(vl 3 1 qE [])),(5,(jK 3))] [] (zE (cP 3 1)<|zM<|zZ) ?_
    refine jG ⟨_,(.tmp (d:=(.sl 3 1 (List.map qE []))) rfl (.tmp (d:=(.val (.int .i64 (3)))) rfl .nil)),?_⟩
    have he:=tm_lb hz0 (show 400<t.length by omega)
    rw[he.1,he.2];rfl
   ·replace h4:=vM h4
    have h400:=h4
    refine jF<|jB<|kx [(6,(.own 0 3 1 0))] [(0,some (bm qE []))] (zN (oBo 0 yU ze3 zo3)<|zM<|zZ) ?_
    refine jB<|jB<|kx [(24,(vl 83 7 kG t)),(25,(jK t.length)),(26,(jK 0))] [] (zM<|zE (zD bD)<|zM<|zZ) ?_
    refine jI<|kM (α:=Nat × List Int) (fun (k,o)=>⟨[(1,(vi z)),(6,(.own 0 3 1 o.length)),(24,(vl 83 7 kG t)),(25,(jK t.length)),(26,(jK k))],[(0,some (bm qE o))]⟩) (fun (k,o)=>k≤t.length∧o=mZ t k∧szUp z t k) (fun (k,o)=>t.length-k) (0,[]) wk ⟨Nat.zero_le _,rfl,szUp_0 _ _⟩ ?_
    rintro ⟨k,o⟩ ⟨hk,ho,hu⟩
    have hol:o.length=k:=by rw[ho];exact nH _ _
    refine jB<|kx [(27,(vb (decide (((k:Nat):Int)<((t.length:Nat):Int)))))] [] (zE xY<|zZ) ?_
    refine jB<|jH rfl (fun h5=>?_) (fun h5=>?_)
    ·replace h5:=vJ h5
     have hR:=tmr hz0 h5 h400 hu
     have hkl:=hR.kl
     refine jF<|jB<|jI<|jB<|kx [(7,(jK k)),(8,(.ref 1 0))] [(1,some (bx (kG (t.getD k tz))))] (zM<|zE (nE bD k (tz:qC))<|zE (gN bL)<|zH (qW 1 ze83 zo83)<|zM<|zT (qF bL)<|zZ) ?_
     refine jB<|jB<|kx [(32,(vb (unuB (t.getD k tz))))] [] (zR (kP bL)<|zE (kA (u_uns (t.getD k tz) (tn_get ht (show k<t.length by omega))))<|zZ) ?_
     refine jH (b:=(unuB (t.getD k tz))) rfl (fun h6=>?_) (fun h6=>?_)
     ·refine jB<|kx [(4,(vl 3 1 qE [])),(5,(jK 1))] [] (zE (cP 3 1)<|zM<|zZ) ?_
      refine jG ⟨_,(.tmp (d:=(.sl 3 1 (List.map qE []))) rfl (.tmp (d:=(.val (.int .i64 (1)))) rfl .nil)),?_⟩
      have he:=hR.bad (by rw[← unu_bad];exact h6)
      rw[he.1,he.2];rfl
     ·have hB:badB (t.getD k tz)=false:=by rw[← unu_bad];exact h6
      refine jF<|jB<|kx [(9,(vi (xP ((t.getD k tz).op))))] [] (zE (qA vK)<|zR (qX nQ)<|zE (kA (r_kids ((t.getD k tz).op)))<|zM<|zZ) ?_
      refine jB<|jB<|kx [(63,(vb ((decide (1≤(xP ((t.getD k tz).op)))&&(decide ((t.getD k tz).a<0)||decide (((k:Nat):Int)≤(t.getD k tz).a)))||(((xP ((t.getD k tz).op)) == 2)&&(decide ((t.getD k tz).b<0)||decide (((k:Nat):Int)≤(t.getD k tz).b))))))] [] ?_ ?_
      ·refine zM<|zE oGe<|zE (oV (vb (decide (1≤(xP ((t.getD k tz).op))))) (qQ (by kernel_rfl)))<|?_
       rcases hb7:(decide (1≤(xP ((t.getD k tz).op)))) with _ | _
       ·replace hb7:=vM hb7
        refine zK<|zK<|zK<|zK<|zK<|zK<|zK<|zK<|zK<|zE gE<|zM<|zM<|zE xR<|zE (oV (vb ((xP ((t.getD k tz).op)) == 2)) (qQ (by kernel_rfl)))<|?_
        rcases hb8:((xP ((t.getD k tz).op)) == 2) with _ | _
        ·replace hb8:=ne_of_beq_false hb8
         exact zK<|zK<|zK<|zK<|zK<|zK<|zK<|zK<|zK<|zE gE<|zE gE<|zZ
        ·replace hb8:=eq_of_beq hb8
         refine zE (qA nM)<|zR (qX gI)<|zE xY<|zE (oV (vb (decide ((t.getD k tz).b<0))) (qQ (by kernel_rfl)))<|?_
         rcases hb9:(decide ((t.getD k tz).b<0)) with _ | _
         ·replace hb9:=vM hb9
          exact zE (qA nM)<|zR (qX gI)<|zM<|zE oGe<|zE fU<|zE fA<|zE fU<|zZ
         ·replace hb9:=vJ hb9
          exact zK<|zK<|zK<|zK<|zE nY<|zE nY<|zE gE<|zZ
       ·replace hb7:=vJ hb7
        refine zE (qA yD)<|zR (qX gI)<|zE xY<|zE (oV (vb (decide ((t.getD k tz).a<0))) (qQ (by kernel_rfl)))<|?_
        rcases hb10:(decide ((t.getD k tz).a<0)) with _ | _
        ·replace hb10:=vM hb10
         refine zE (qA yD)<|zR (qX gI)<|zM<|zE oGe<|zE fU<|zE fA<|zE (oV (vb (true&&(false||decide (((k:Nat):Int)≤(t.getD k tz).a)))) (qQ (by kernel_rfl)))<|?_
         rcases hb11:(decide (((k:Nat):Int)≤(t.getD k tz).a)) with _ | _
         ·replace hb11:=vM hb11
          refine zM<|zE xR<|zE (oV (vb ((xP ((t.getD k tz).op)) == 2)) (qQ (by kernel_rfl)))<|?_
          rcases hb12:((xP ((t.getD k tz).op)) == 2) with _ | _
          ·replace hb12:=ne_of_beq_false hb12
           exact zK<|zK<|zK<|zK<|zK<|zK<|zK<|zK<|zK<|zE gE<|zE gE<|zZ
          ·replace hb12:=eq_of_beq hb12
           refine zE (qA nM)<|zR (qX gI)<|zE xY<|zE (oV (vb (decide ((t.getD k tz).b<0))) (qQ (by kernel_rfl)))<|?_
           rcases hb13:(decide ((t.getD k tz).b<0)) with _ | _
           ·replace hb13:=vM hb13
            exact zE (qA nM)<|zR (qX gI)<|zM<|zE oGe<|zE fU<|zE fA<|zE fU<|zZ
           ·replace hb13:=vJ hb13
            exact zK<|zK<|zK<|zK<|zE nY<|zE nY<|zE gE<|zZ
         ·replace hb11:=vJ hb11
          exact zK<|zK<|zK<|zK<|zK<|zK<|zK<|zK<|zK<|zK<|zK<|zK<|zK<|zE nY<|zZ
        ·replace hb10:=vJ hb10
         exact zK<|zK<|zK<|zK<|zE nY<|zE nY<|zM<|zK<|zK<|zK<|zK<|zK<|zK<|zK<|zK<|zK<|zK<|zK<|zK<|zK<|zE nY<|zZ
      refine jH rfl (fun h14=>?_) (fun h14=>?_)
      ·refine jB<|kx [(4,(vl 3 1 qE [])),(5,(jK 5))] [] (zE (cP 3 1)<|zM<|zZ) ?_
       refine jG ⟨_,(.tmp (d:=(.sl 3 1 (List.map qE []))) rfl (.tmp (d:=(.val (.int .i64 (5)))) rfl .nil)),?_⟩
       have he:=hR.ord hB (by rw[← orD_eq];exact h14)
       rw[he.1,he.2];rfl
      ·have hO:ordB ((k:Nat):Int) (t.getD k tz)=false:=by rw[← orD_eq];exact h14
       refine jF<|jB<|jB<|kx [(77,(vb (((t.getD k tz).op == 1)&&(decide ((t.getD k tz).a<0)||decide (z≤(t.getD k tz).a)))))] [] ?_ ?_
       ·refine zE (qA vK)<|zR (qX nQ)<|zE xR<|zE (oV (vb ((t.getD k tz).op == 1)) (qQ (by kernel_rfl)))<|?_
        rcases hb15:((t.getD k tz).op == 1) with _ | _
        ·replace hb15:=ne_of_beq_false hb15
         exact zK<|zK<|zK<|zK<|zK<|zK<|zK<|zK<|zK<|zE gE<|zZ
        ·replace hb15:=eq_of_beq hb15
         refine zE (qA yD)<|zR (qX gI)<|zE xY<|zE (oV (vb (decide ((t.getD k tz).a<0))) (qQ (by kernel_rfl)))<|?_
         rcases hb16:(decide ((t.getD k tz).a<0)) with _ | _
         ·replace hb16:=vM hb16
          exact zE (qA yD)<|zR (qX gI)<|zM<|zE oGe<|zE fU<|zE fA<|zZ
         ·replace hb16:=vJ hb16
          exact zK<|zK<|zK<|zK<|zE nY<|zE nY<|zZ
       refine jH rfl (fun h17=>?_) (fun h17=>?_)
       ·refine jB<|kx [(4,(vl 3 1 qE [])),(5,(jK 2))] [] (zE (cP 3 1)<|zM<|zZ) ?_
        refine jG ⟨_,(.tmp (d:=(.sl 3 1 (List.map qE []))) rfl (.tmp (d:=(.val (.int .i64 (2)))) rfl .nil)),?_⟩
        have he:=hR.rng hB hO h17
        rw[he.1,he.2];rfl
       ·have hN:=ndr hR hB hO h17
        refine jF<|jB<|kx [(10,(jK 1))] [] (zM<|zZ) ?_
        refine jB<|jB<|kx [(79,(vb (decide (1≤(xP ((t.getD k tz).op))))))] [] (zM<|zE oGe<|zZ) ?_
        refine jH (b:=decide (1≤(xP ((t.getD k tz).op)))) rfl (fun h18=>?_) (fun h18=>?_)
        ·replace h18:=vJ h18
         have hka:=h18
         obtain ⟨a1,a2,a3,a4⟩:=hN.a2 h18
         rw[← ho] at a3 a4
         refine kx [(10,(vi (o.getD (((t.getD k tz).a).toNat) 0)))] [] (zM<|zE (qA yD)<|zR (qX gI)<|zE (fV yU (((t.getD k tz).a).toNat))<|zR (oLp gI (((t.getD k tz).a).toNat) (0:Int))<|zM<|zZ) ?_
         refine jB<|jB<|kx [(87,(vb ((t.getD k tz).op == 7)))] [] (zE (qA vK)<|zR (qX nQ)<|zE xR<|zZ) ?_
         refine jH (b:=((t.getD k tz).op == 7)) rfl (fun h19=>?_) (fun h19=>?_)
         ·replace h19:=eq_of_beq h19
          have hq7:=h19
          refine kx [(10,(vi (2*(o.getD (((t.getD k tz).a).toNat) 0))))] [] (zM<|zE (zMl (2*(o.getD (((t.getD k tz).a).toNat) 0)))<|zM<|zZ) ?_
          refine jB<|jB<|kx [(91,(vb ((xP ((t.getD k tz).op)) == 2)))] [] (zM<|zE xR<|zZ) ?_
          refine jH (b:=((xP ((t.getD k tz).op)) == 2)) rfl (fun h20=>?_) (fun h20=>?_)
          ·replace h20:=eq_of_beq h20
           exfalso;have hk2:=h20;have hb0:=hN.bad;first | (have:=kd_7 hq7;omega) | (unfold eN at hb0;omega)
          ·replace h20:=ne_of_beq_false h20
           have hk2:=h20
           have hv:(2*(o.getD (((t.getD k tz).a).toNat) 0))=szN (mZ t k) (t.getD k tz):=by rw[ho];exact (szD_q hka hq7)
           refine jF<|jB<|jB<|kx [(100,(vb (decide (4096<(2*(o.getD (((t.getD k tz).a).toNat) 0))))))] [] (zM<|zE gD<|zZ) ?_
           refine jH rfl (fun h21=>?_) (fun h21=>?_)
           ·replace h21:=vJ h21
            refine jB<|kx [(4,(vl 3 1 qE [])),(5,(jK 3))] [] (zE (cP 3 1)<|zM<|zZ) ?_
            refine jG ⟨_,(.tmp (d:=(.sl 3 1 (List.map qE []))) rfl (.tmp (d:=(.val (.int .i64 (3)))) rfl .nil)),?_⟩
            have he:=hN.bg hv h21
            rw[he.1,he.2];rfl
           ·replace h21:=vM h21
            refine jF<|kf [(6,(.own 0 3 1 ((o++[(2*(o.getD (((t.getD k tz).a).toNat) 0))]).length)))] [(0,some (bm qE (o++[(2*(o.getD (((t.getD k tz).a).toNat) 0))])))] (zM<|zM<|zE (mC yU ze3 zo3)<|zA qE o [(2*(o.getD (((t.getD k tz).a).toNat) 0))] rfl yU ze3 by3<|zM<|zF) ?_
            refine jV (wk (l:=[(1,(vi z)),(6,(.own 0 3 1 ((o++[(2*(o.getD (((t.getD k tz).a).toNat) 0))]).length))),(24,(vl 83 7 kG t)),(25,(jK t.length)),(26,(jK k))]) (b:=[(0,some (bm qE (o++[(2*(o.getD (((t.getD k tz).a).toNat) 0))])))])) ?_
            refine kx [(26,(jK (k+1)))] [] (zE (xE (k+1))<|zM<|zZ) ?_
            exact ⟨(k+1,o++[(2*(o.getD (((t.getD k tz).a).toNat) 0))]),wk,(by obtain ⟨q1,q2⟩:=hN.nx hv h21;exact ⟨by omega,by rw[← q2,ho],q1⟩),(by first|omega|(dsimp only;omega))⟩
         ·replace h19:=ne_of_beq_false h19
          have hq7:=h19
          refine jF<|jB<|jB<|kx [(91,(vb ((xP ((t.getD k tz).op)) == 2)))] [] (zM<|zE xR<|zZ) ?_
          refine jH (b:=((xP ((t.getD k tz).op)) == 2)) rfl (fun h22=>?_) (fun h22=>?_)
          ·replace h22:=eq_of_beq h22
           have hk2:=h22
           have hv:((o.getD (((t.getD k tz).a).toNat) 0)+(o.getD (((t.getD k tz).b).toNat) 0))=szN (mZ t k) (t.getD k tz):=by rw[ho];exact (szD_b hk2)
           obtain ⟨b1,b2,b3,b4⟩:=hN.b2 h22
           rw[← ho] at b3 b4
           refine kx [(10,(vi ((o.getD (((t.getD k tz).a).toNat) 0)+(o.getD (((t.getD k tz).b).toNat) 0))))] [] (zM<|zM<|zE (qA nM)<|zR (qX gI)<|zE (fV yU (((t.getD k tz).b).toNat))<|zR (oLp gI (((t.getD k tz).b).toNat) (0:Int))<|zE (zAd ((o.getD (((t.getD k tz).a).toNat) 0)+(o.getD (((t.getD k tz).b).toNat) 0)))<|zM<|zZ) ?_
           refine jB<|jB<|kx [(100,(vb (decide (4096<((o.getD (((t.getD k tz).a).toNat) 0)+(o.getD (((t.getD k tz).b).toNat) 0))))))] [] (zM<|zE gD<|zZ) ?_
           refine jH rfl (fun h23=>?_) (fun h23=>?_)
           ·replace h23:=vJ h23
            refine jB<|kx [(4,(vl 3 1 qE [])),(5,(jK 3))] [] (zE (cP 3 1)<|zM<|zZ) ?_
            refine jG ⟨_,(.tmp (d:=(.sl 3 1 (List.map qE []))) rfl (.tmp (d:=(.val (.int .i64 (3)))) rfl .nil)),?_⟩
            have he:=hN.bg hv h23
            rw[he.1,he.2];rfl
           ·replace h23:=vM h23
            refine jF<|kf [(6,(.own 0 3 1 ((o++[((o.getD (((t.getD k tz).a).toNat) 0)+(o.getD (((t.getD k tz).b).toNat) 0))]).length)))] [(0,some (bm qE (o++[((o.getD (((t.getD k tz).a).toNat) 0)+(o.getD (((t.getD k tz).b).toNat) 0))])))] (zM<|zM<|zE (mC yU ze3 zo3)<|zA qE o [((o.getD (((t.getD k tz).a).toNat) 0)+(o.getD (((t.getD k tz).b).toNat) 0))] rfl yU ze3 by3<|zM<|zF) ?_
            refine jV (wk (l:=[(1,(vi z)),(6,(.own 0 3 1 ((o++[((o.getD (((t.getD k tz).a).toNat) 0)+(o.getD (((t.getD k tz).b).toNat) 0))]).length))),(24,(vl 83 7 kG t)),(25,(jK t.length)),(26,(jK k))]) (b:=[(0,some (bm qE (o++[((o.getD (((t.getD k tz).a).toNat) 0)+(o.getD (((t.getD k tz).b).toNat) 0))])))])) ?_
            refine kx [(26,(jK (k+1)))] [] (zE (xE (k+1))<|zM<|zZ) ?_
            exact ⟨(k+1,o++[((o.getD (((t.getD k tz).a).toNat) 0)+(o.getD (((t.getD k tz).b).toNat) 0))]),wk,(by obtain ⟨q1,q2⟩:=hN.nx hv h23;exact ⟨by omega,by rw[← q2,ho],q1⟩),(by first|omega|(dsimp only;omega))⟩
          ·replace h22:=ne_of_beq_false h22
           have hk2:=h22
           have hv:(o.getD (((t.getD k tz).a).toNat) 0)=szN (mZ t k) (t.getD k tz):=by rw[ho];exact (szD_n hka hq7 hk2)
           refine jF<|jB<|jB<|kx [(100,(vb (decide (4096<(o.getD (((t.getD k tz).a).toNat) 0)))))] [] (zM<|zE gD<|zZ) ?_
           refine jH rfl (fun h24=>?_) (fun h24=>?_)
           ·replace h24:=vJ h24
            refine jB<|kx [(4,(vl 3 1 qE [])),(5,(jK 3))] [] (zE (cP 3 1)<|zM<|zZ) ?_
            refine jG ⟨_,(.tmp (d:=(.sl 3 1 (List.map qE []))) rfl (.tmp (d:=(.val (.int .i64 (3)))) rfl .nil)),?_⟩
            have he:=hN.bg hv h24
            rw[he.1,he.2];rfl
           ·replace h24:=vM h24
            refine jF<|kf [(6,(.own 0 3 1 ((o++[(o.getD (((t.getD k tz).a).toNat) 0)]).length)))] [(0,some (bm qE (o++[(o.getD (((t.getD k tz).a).toNat) 0)])))] (zM<|zM<|zE (mC yU ze3 zo3)<|zA qE o [(o.getD (((t.getD k tz).a).toNat) 0)] rfl yU ze3 by3<|zM<|zF) ?_
            refine kx [(26,(jK (k+1)))] [] (zE (xE (k+1))<|zM<|zZ) ?_
            exact ⟨(k+1,o++[(o.getD (((t.getD k tz).a).toNat) 0)]),wk,(by obtain ⟨q1,q2⟩:=hN.nx hv h24;exact ⟨by omega,by rw[← q2,ho],q1⟩),(by first|omega|(dsimp only;omega))⟩
        ·replace h18:=vM h18
         have hka:=h18
         refine jF<|jB<|jB<|kx [(87,(vb ((t.getD k tz).op == 7)))] [] (zE (qA vK)<|zR (qX nQ)<|zE xR<|zZ) ?_
         refine jH (b:=((t.getD k tz).op == 7)) rfl (fun h25=>?_) (fun h25=>?_)
         ·replace h25:=eq_of_beq h25
          have hq7:=h25
          refine kx [(10,(jK (2*1)))] [] (zM<|zE (oMl (2*1))<|zM<|zZ) ?_
          refine jB<|jB<|kx [(91,(vb ((xP ((t.getD k tz).op)) == 2)))] [] (zM<|zE xR<|zZ) ?_
          refine jH (b:=((xP ((t.getD k tz).op)) == 2)) rfl (fun h26=>?_) (fun h26=>?_)
          ·replace h26:=eq_of_beq h26
           exfalso;have hk2:=h26;have hb0:=hN.bad;first | (have:=kd_7 hq7;omega) | (unfold eN at hb0;omega)
          ·replace h26:=ne_of_beq_false h26
           exfalso;have hk2:=h26;have hb0:=hN.bad;first | (have:=kd_7 hq7;omega) | (unfold eN at hb0;omega)
         ·replace h25:=ne_of_beq_false h25
          have hq7:=h25
          refine jF<|jB<|jB<|kx [(91,(vb ((xP ((t.getD k tz).op)) == 2)))] [] (zM<|zE xR<|zZ) ?_
          refine jH (b:=((xP ((t.getD k tz).op)) == 2)) rfl (fun h27=>?_) (fun h27=>?_)
          ·replace h27:=eq_of_beq h27
           exfalso;have hk2:=h27;have hb0:=hN.bad;first | (have:=kd_7 hq7;omega) | (unfold eN at hb0;omega)
          ·replace h27:=ne_of_beq_false h27
           have hk2:=h27
           have hv:(1:Int)=szN (mZ t k) (t.getD k tz):=(szD_c hN.bad hka)
           refine jF<|jB<|jB<|kx [(100,(vb (decide (4096<1))))] [] (zM<|zE gD<|zZ) ?_
           refine jH (b:=decide (4096<1)) rfl (fun h28=>?_) (fun h28=>?_)
           ·replace h28:=vJ h28
            exact absurd h28 (by decide)
           ·replace h28:=vM h28
            refine jF<|kf [(6,(.own 0 3 1 ((o++[1]).length)))] [(0,some (bm qE (o++[1])))] (zM<|zM<|zE (mC yU ze3 zo3)<|zA qE o [1] rfl yU ze3 by3<|zM<|zF) ?_
            refine kx [(26,(jK (k+1)))] [] (zE (xE (k+1))<|zM<|zZ) ?_
            exact ⟨(k+1,o++[(1:Int)]),wk,(by obtain ⟨q1,q2⟩:=hN.nx hv (by decide);exact ⟨by omega,by rw[← q2,ho],q1⟩),(by first|omega|(dsimp only;omega))⟩
    ·replace h5:=vM h5
     refine kL<|jB<|kx [(4,(.own 0 3 1 o.length)),(5,(jK 0))] [] (zM<|zM<|zM<|zZ) ?_
     refine jV (xA (t:=4) (k:=0) (es:=List.map qE o) rfl rfl (uI _ _ (fun _=>rfl)) (qY _ _ rfl) (uU _ _ (fun _=>rfl) rfl)) ?_
     refine jG ⟨_,(.tmp (d:=(.sl 3 1 (List.map qE o))) rfl (.tmp (d:=(.val (.int .i64 (0)))) rfl .nil)),?_⟩
     have he:=tm_end2 hz0 h0 h400 hk h5 hu
     rw[he.1,he.2,← ho];rfl
theorem u_chk(t:List qC)(ht:yI 1048576 t)(z:Int):jS Tryz.prog 20 [(.sl 83 7 (List.map kG t)),(.val (.int .i64 (z)))] (.val (.int .i64 ((((gQ z t):Nat):Int)))):=by
 refine jJ Tryz.func20 rfl cb20 rfl ?_
 show qM _ _ _ _ ⟨[(0,(vl 83 7 kG t)),(1,(vi z))],[]⟩
 refine jB<|kx [] [] (zM<|zZ) ?_
 refine jB<|kx [(6,(jK (gQ z t)))] [] (zM<|zM<|zE (kA (u_sizes t ht z))<|zM<|zE vI<|zE vI<|zM<|zM<|zZ) ?_
 refine jB<|kx [(4,(jK (gQ z t)))] [] (zM<|zM<|zZ) ?_
 refine jG ⟨_,(.tmp (d:=(.val (.int .i64 ((((gQ z t):Nat):Int))))) rfl .nil),?_⟩
 rfl
theorem cb50:callB Tryz.prog 50=true:=by kernel_rfl
theorem cb51:callB Tryz.prog 51=true:=by kernel_rfl
theorem u_wF(x:qC)(y z:jO)(bv:List R2)(hbx:∀ x∈bv,GL 1048576 x)(L:List JV)(hdz:DzOk L x)(hLk:∀ e9∈L,nF 1048576 bv.length e9)(hy:1≤xP x.op→y=jP (jA L x.a).v)(hz:xP x.op=2→z=jP (jA L x.b).v):jS Tryz.prog 110 [(kG x),(jD y),(jD z),(.sl 61 8 (List.map jD (List.map jP bv)))] (.tup [(jD (jO.mk kR kR)),(.val (.int .i64 (((14:Nat):Int))))]):=by
 have hk:=hdz.kd
 obtain ⟨a,b,rfl,ha,hb,hz0⟩:=hdz
 rw[hy (by omega),hz hk]
 exact u_vF _ _ _ (dA hLk ha).1 _ (dA hLk hb).1 _ hz0
theorem u_vlR(rb:List jO)(hrb:∀ a∈rb,GOk 1048576 a)(hbl:rb.length≤1000000):jS Tryz.prog 50 [(.sl 61 8 (List.map jD rb))] (.val (.bool ((List.all rb vA)))):=by
 let y1:=(jO.mk kR kR)
 refine jJ Tryz.func50 rfl cb50 rfl ?_
 show qM _ _ _ _ ⟨[(0,(vl 61 8 jD rb))],[]⟩
 refine jB<|kx [] [] (zM<|zZ) ?_
 refine jB<|jB<|kx [(5,(vl 61 8 jD rb)),(6,(jK rb.length)),(7,(jK 0))] [] (zM<|zE (zD uW)<|zM<|zZ) ?_
 refine jI<|kM (α:=Nat) (fun i=>⟨[(5,(vl 61 8 jD rb)),(6,(jK rb.length)),(7,(jK i))],[]⟩) (fun i=>i≤rb.length∧(rb.take i).all vA=true) (fun i=>rb.length-i) 0 wk ⟨Nat.zero_le _,by simp⟩ ?_
 rintro i ⟨hi,hal⟩
 refine jB<|kx [(8,(vb (decide (((i:Nat):Int)<((rb.length:Nat):Int)))))] [] (zE xY<|zZ) ?_
 refine jB<|jH rfl (fun h1=>?_) (fun h1=>?_)
 ·replace h1:=vJ h1
  refine jF<|jB<|jI<|jB<|kx [(4,(.ref 0 0))] [(0,some (bx (jD (rb.getD i y1))))] (zE (nE uW i y1)<|zE (gN jY)<|zN (qW 0 qL qR)<|zT (qF jY)<|zZ) ?_
  refine jB<|kx [(13,(vb (!(vA (rb.getD i y1)))))] [] (zR (kP jY)<|zE (kA (h_valid (rb.getD i y1) (gV (gok_get hrb (show i<rb.length by omega)) (by decide))))<|zE mT<|zZ) ?_
  refine jH rfl (fun h2=>?_) (fun h2=>?_)
  ·refine jB<|kx [(2,(vb false))] [] (zM<|zZ) ?_
   refine jG ⟨_,(.tmp (d:=(.val (.bool (false)))) rfl .nil),?_⟩
   rw[all_not (f:=vA) (l:=rb) (i:=i) (d:=(jO.mk kR kR)) (by omega) (by simpa using h2)];rfl
  ·refine jF<|kx [(7,(jK (i+1)))] [] (zE (xE (i+1))<|zM<|zZ) ?_
   exact ⟨(i+1),wk,⟨by omega,all_take (d:=(jO.mk kR kR)) (by omega) hal (by simpa using h2)⟩,(by first|omega|(dsimp only;omega))⟩
 ·replace h1:=vM h1
  have hie:i=rb.length:=by omega
  rw[hie,List.take_length] at hal
  refine kL<|jB<|kx [(2,(vb true))] [] (zM<|zZ) ?_
  refine jG ⟨_,(.tmp (d:=(.val (.bool (true)))) rfl .nil),?_⟩
  rw[hal];rfl
theorem u_vlB(bv:List R2)(hbx:∀ x∈bv,GL 1048576 x)(hbl:bv.length≤1000000):jS Tryz.prog 50 [(.sl 61 8 (List.map jD (List.map jP bv)))] (.val (.bool true)):=by
 have h:=u_vlR (List.map jP bv) (gok_map hbx) (by rw[List.length_map];exact hbl)
 rw[valid_map hbx] at h
 exact h
theorem u_jetsU(t:List qC)(ht:yI 1048576 t)(bv:List R2)(hbx:∀ x∈bv,GL 1048576 x)(k0:Nat)(hr:DEnd bv t k0)(hbl:bv.length≤1000000):jS Tryz.prog 51 [(.sl 83 7 (List.map kG t)),(.sl 61 8 (List.map jD (List.map jP bv))),(.val (.int .i64 (((1:Nat):Int)))),(.val (.int .i64 (-1)))] (.tup [(jC (dJ bv t k0)),(.val (.int .i64 ((((dC t k0):Nat):Int))))]):=by
 have h0:=tm_0 hr.c0
 have hle:=hr.le
 let y2:=(jO.mk kR kR)
 let y1:=(bx (jC (qK.mk y2 [] [])))
 refine jJ Tryz.func51 rfl cb51 rfl ?_
 show qM _ _ _ _ ⟨[(0,(vl 83 7 kG t)),(1,(vl 61 8 jD (List.map jP bv))),(2,(jK 1)),(3,(vi (-1)))],[]⟩
 refine jB<|kx [(8,(.ref 0 0))] [(0,some y1)] (zN (qW 0 vL zL)<|zM<|zZ) ?_
 refine jB<|jB<|kx [(25,(vb false))] [] (zM<|zE (kA (u_vlB bv hbx hbl))<|zE mT<|zZ) ?_
 refine kI ?_
 refine jF<|jB<|jB<|kx [(36,(vb false))] [] (zM<|zE (uR false xY)<|zM<|zM<|zE (uR false gD)<|zE gE<|zM<|zM<|zE (uR false gD)<|zE gE<|zZ) ?_
 refine kI ?_
 refine jF<|jB<|jB<|kx [(10,(jK (gQ ((bv.length:Nat):Int) t)))] [] (zM<|zM<|zE (oLn uW bv.length)<|zE (kA (u_chk t ht ((bv.length:Nat):Int)))<|zM<|zZ) ?_
 refine jB<|kx [(43,(vb ((((gQ ((bv.length:Nat):Int) t):Nat):Int) != ((0:Nat):Int))))] [] (zM<|zE cR<|zZ) ?_
 refine jH rfl (fun h=>absurd (Eq.trans (Eq.symm (show (((((gQ ((bv.length:Nat):Int) t):Nat):Int) != ((0:Nat):Int)))=false from bne_eq_false_iff_eq.2 (by rw[show (gQ ((bv.length:Nat):Int) t)=0 from hr.c0]<;>rfl))) h) (by decide)) (fun _=>?_)
 refine jF<|jB<|kx [(11,(.own 1 95 10 0))] [(1,some (qB jC []))] (zN (oBo 1 zG vL zL)<|zM<|zZ) ?_
 refine jB<|jB<|kx [(47,(vl 83 7 kG t)),(48,(jK t.length)),(49,(jK 0))] [] (zM<|zE (zD bD)<|zM<|zZ) ?_
 refine jI<|kM (α:=Nat × List qK) (fun (k,o)=>⟨[(1,(vl 61 8 jD (List.map jP bv))),(2,(jK 1)),(3,(vi (-1))),(8,(.ref 0 0)),(11,(.own 1 95 10 o.length)),(47,(vl 83 7 kG t)),(48,(jK t.length)),(49,(jK k))],[(0,some y1),(1,some (qB jC o))]⟩) (fun (k,o)=>k≤k0∧o=List.map jN (jU bv t k)) (fun (k,o)=>t.length-k) (0,[]) wk ⟨Nat.zero_le _,rfl⟩ ?_
 rintro ⟨k,o⟩ ⟨hk,ho⟩
 have hju:=dH bv t k
 have hol:o.length=k:=by rw[ho,List.length_map,hju]
 have hget:∀ j,j<k→o.getD j (qK.mk (jO.mk kR kR) [] [])=jN ((jU bv t k).getD j jz):=fun j hj=>by rw[ho];exact gY jN _ jz _ (by omega)
 refine jB<|kx [(50,(vb (decide (((k:Nat):Int)<((t.length:Nat):Int)))))] [] (zE xY<|zZ) ?_
 refine jB<|jH rfl (fun h1=>?_) (fun h1=>?_)
 ·replace h1:=vJ h1
  have hl9:k<t.length:=by omega
  have hS:=hr.st hk hl9
  refine jF<|jB<|jI<|jB<|kx [(13,(.ref 2 0))] [(2,some (bx (kG (t.getD k tz))))] (zE (nE bD k (tz:qC))<|zE (gN bL)<|zH (qW 2 ze83 zo83)<|zT (qF bL)<|zZ) ?_
  refine jB<|kx [(14,(.ref 3 0)),(15,(.ref 4 0))] [(3,some y1),(4,some y1)] (zE (cS pl95 vL zL)<|zE (cS pl95 vL zL)<|zH (qW 3 vL zL)<|zH (qW 4 vL zL)<|zT (qF vP)<|zT (qF vP)<|zZ) ?_
  refine pwp_meet (α:=qK) (fun y=>⟨[(1,(vl 61 8 jD (List.map jP bv))),(2,(jK 1)),(3,(vi (-1))),(8,(.ref 0 0)),(11,(.own 1 95 10 o.length)),(13,(.ref 2 0)),(14,(.ref 3 0)),(15,(.ref 4 0)),(47,(vl 83 7 kG t)),(48,(jK t.length)),(49,(jK k))],[(0,some y1),(1,some (qB jC o)),(2,some (bx (kG (t.getD k tz)))),(3,some (bx (jC y))),(4,some y1)]⟩) (fun y=>1≤xP (t.getD k tz).op→y=jN (jA (jU bv t k) (t.getD k tz).a)) ?_ ?_
  ·refine jB<|kx [(58,(vb (decide (((1:Nat):Int)≤(xP ((t.getD k tz).op))))))] [] (zE (qA vK)<|zR (qX nQ)<|zE (kA (r_kids ((t.getD k tz).op)))<|zE oGe<|zZ) ?_
   refine jH rfl (fun h2=>?_) (fun h2=>?_)
   ·replace h2:=vJ h2
    obtain ⟨a1,a2⟩:=hS.a (by omega)
    refine kx [] [(3,some (bx (jC (jN ((jU bv t k).getD (t.getD k tz).a.toNat jz)))))] (zM<|zE (qA yD)<|zR (qX gI)<|zE (oXO zG (((t.getD k tz).a).toNat))<|zR (aT (jC (o.getD (((t.getD k tz).a).toNat) (qK.mk y2 [] []))) (jC (jN ((jU bv t k).getD (t.getD k tz).a.toNat jz))) (oLA vP (((t.getD k tz).a).toNat) (qK.mk y2 [] [])) (by exact (congrArg jC (hget _ (show (t.getD k tz).a.toNat<k by omega)))))<|zT (qF vP)<|zZ) ?_
    exact met (jN (jA (jU bv t k) (t.getD k tz).a)) wk (fun _=>rfl)
   ·replace h2:=vM h2
    refine jF ?_
    exact met (qK.mk (jO.mk kR kR) [] []) wk (fun hx=>absurd hx (by omega))
  ·rintro y hy
   refine pwp_meet (α:=qK) (fun z=>⟨[(1,(vl 61 8 jD (List.map jP bv))),(2,(jK 1)),(3,(vi (-1))),(8,(.ref 0 0)),(11,(.own 1 95 10 o.length)),(13,(.ref 2 0)),(14,(.ref 3 0)),(15,(.ref 4 0)),(47,(vl 83 7 kG t)),(48,(jK t.length)),(49,(jK k))],[(0,some y1),(1,some (qB jC o)),(2,some (bx (kG (t.getD k tz)))),(3,some (bx (jC y))),(4,some (bx (jC z)))]⟩) (fun z=>xP (t.getD k tz).op=2→z=jN (jA (jU bv t k) (t.getD k tz).b)) ?_ ?_
   ·refine jB<|kx [(67,(vb ((xP ((t.getD k tz).op)) == ((2:Nat):Int))))] [] (zE (qA vK)<|zR (qX nQ)<|zE (kA (r_kids ((t.getD k tz).op)))<|zE xR<|zZ) ?_
    refine jH rfl (fun h3=>?_) (fun h3=>?_)
    ·replace h3:=eq_of_beq h3
     obtain ⟨b1,b2⟩:=hS.b h3
     refine kx [] [(4,some (bx (jC (jN ((jU bv t k).getD (t.getD k tz).b.toNat jz)))))] (zM<|zE (qA nM)<|zR (qX gI)<|zE (oXO zG (((t.getD k tz).b).toNat))<|zR (aT (jC (o.getD (((t.getD k tz).b).toNat) (qK.mk y2 [] []))) (jC (jN ((jU bv t k).getD (t.getD k tz).b.toNat jz))) (oLA vP (((t.getD k tz).b).toNat) (qK.mk y2 [] [])) (by exact (congrArg jC (hget _ (show (t.getD k tz).b.toNat<k by omega)))))<|zT (qF vP)<|zZ) ?_
     exact met (jN (jA (jU bv t k) (t.getD k tz).b)) wk (fun _=>rfl)
    ·replace h3:=ne_of_beq_false h3
     refine jF ?_
     exact met (qK.mk (jO.mk kR kR) [] []) wk (fun hx=>absurd hx h3)
   ·rintro z hz
    refine jB ?_
    rcases hlt0:(decide (k<k0)) with _ | _
    ·have hd9:=hr.dzk hk hl9 (vM hlt0)
     refine kx [(16,(.ref 5 0)),(17,(jK 14))] [(5,some (bx (jD y2)))] (zR (kP bL)<|zE (qA yC)<|zR (kP jY)<|zE (qA yC)<|zR (kP jY)<|zM<|zE (kA (u_wF (t.getD k tz) y.value z.value bv hbx (jU bv t k) hd9 (hr.ok k hk) (fun hx=>congrArg qK.value (hy hx)) (fun hx=>congrArg qK.value (hz hx))))<|zM<|zE vI<|zE vI<|zH (qW 5 qL qR)<|zT (qF jY)<|zM<|zZ) ?_
     refine jB<|jB<|kx [(84,(vb true))] [] (zM<|zE (uR true cR)<|zZ) ?_
     refine uD ?_
     refine jB<|kx [(9,(jK 14))] [(0,some y1)] (zE (cS pl95 vL zL)<|zM<|zT (qF vP)<|zM<|zZ) ?_
     refine jG ⟨_,(kJ (cs:=(bx (jC (qK.mk (jO.mk kR kR) [] [])))) (d:=(jC (qK.mk (jO.mk kR kR) [] []))) rfl rfl vP rfl rfl (.tmp (d:=(.val (.int .i64 (((14:Nat):Int))))) rfl .nil)),?_⟩
     have hk0:k0=k:=by have:=vM hlt0;omega
     rw[hk0,dJ_n hl9,dC_n hl9];rfl
    ·refine kx [(16,(.ref 5 0)),(17,(jK 0))] [(5,some (bx (jD (jP (nV bv (jU bv t k) (t.getD k tz))))))] (zR (kP bL)<|zE (qA yC)<|zR (kP jY)<|zE (qA yC)<|zR (kP jY)<|zM<|zE (kA (u_w (t.getD k tz) y.value z.value bv hbx (jU bv t k) hbl (hr.nd k (vJ hlt0)) (hr.ok k hk) (hr.nv k (vJ hlt0)) (fun hx=>congrArg qK.value (hy hx)) (fun hx=>congrArg qK.value (hz hx))))<|zM<|zE vI<|zE vI<|zH (qW 5 qL qR)<|zT (qF jY)<|zM<|zZ) ?_
     refine jB<|jB<|kx [(84,(vb false))] [] (zM<|zE (uR false cR)<|zZ) ?_
     refine kI ?_
     refine jF<|jB<|kx [(18,(.ref 6 0))] [(6,some (bx (.agg (jZ.cells (jD (jP (nV bv (jU bv t k) (t.getD k tz))))++[(.val (.slice none 0 0)),(.val (.slice none 0 0))]))))] (zR (kP jY)<|zM<|zE (kA (u_held (nV bv (jU bv t k) (t.getD k tz)) (qI ((hr.nv k (vJ hlt0)).1) (by decide))))<|zE (cS pl95 vL zn95)<|zH (qW 6 vL zL)<|zT (qF vP)<|zZ) ?_
     refine jB<|jB<|kx [(92,(vb true))] [] (zM<|zE (uR true oGe)<|zZ) ?_
     refine uD ?_
     refine jB<|yG 6 8 7 61 8 (cs:=(bx (.agg (jZ.cells (jD (jP (nV bv (jU bv t k) (t.getD k tz))))++[(.val (.slice none 0 0)),(.val (.slice none 0 0))])))) (h:=?_)
     refine jV (wk (l:=[(1,(vl 61 8 jD (List.map jP bv))),(2,(jK 1)),(3,(vi (-1))),(8,(.ref 0 0)),(11,(.own 1 95 10 o.length)),(13,(.ref 2 0)),(14,(.ref 3 0)),(15,(.ref 4 0)),(18,(.ref 6 0)),(47,(vl 83 7 kG t)),(48,(jK t.length)),(49,(jK k)),(92,(vb true))]) (b:=[(0,some y1),(1,some (qB jC o)),(2,some (bx (kG (t.getD k tz)))),(3,some (bx (jC y))),(4,some (bx (jC z))),(6,some (bx (jD (jP (nV bv (jU bv t k) (t.getD k tz))))++[(.own 7 61 8 0),(.d (.val (.slice none 0 0)))])),(7,some (qB jD []))])) ?_
     refine yG 6 9 8 86 1 (cs:=(bx (jD (jP (nV bv (jU bv t k) (t.getD k tz))))++[(.own 7 61 8 0),(.d (.val (.slice none 0 0)))])) (h:=?_)
     refine jV (wk (l:=[(1,(vl 61 8 jD (List.map jP bv))),(2,(jK 1)),(3,(vi (-1))),(8,(.ref 0 0)),(11,(.own 1 95 10 o.length)),(13,(.ref 2 0)),(14,(.ref 3 0)),(15,(.ref 4 0)),(18,(.ref 6 0)),(47,(vl 83 7 kG t)),(48,(jK t.length)),(49,(jK k)),(92,(vb true))]) (b:=[(0,some y1),(1,some (qB jC o)),(2,some (bx (kG (t.getD k tz)))),(3,some (bx (jC y))),(4,some (bx (jC z))),(6,some (bx (jD (jP (nV bv (jU bv t k) (t.getD k tz))))++[(.own 7 61 8 0),(.own 8 86 1 0)])),(7,some (qB jD [])),(8,some (bm jX []))])) ?_
     refine kx [(94,(jK bv.length)),(95,(jK 0))] [] (zM<|zE (oLn uW bv.length)<|zM<|zZ) ?_
     refine jI<|kM (α:=Nat × List jO) (fun (i,gl)=>⟨[(1,(vl 61 8 jD (List.map jP bv))),(2,(jK 1)),(3,(vi (-1))),(8,(.ref 0 0)),(11,(.own 1 95 10 o.length)),(13,(.ref 2 0)),(14,(.ref 3 0)),(15,(.ref 4 0)),(18,(.ref 6 0)),(47,(vl 83 7 kG t)),(48,(jK t.length)),(49,(jK k)),(94,(jK bv.length)),(95,(jK i))],[(0,some y1),(1,some (qB jC o)),(2,some (bx (kG (t.getD k tz)))),(3,some (bx (jC y))),(4,some (bx (jC z))),(6,some (bx (jD (jP (nV bv (jU bv t k) (t.getD k tz))))++[(.own 7 61 8 gl.length),(.own 8 86 1 0)])),(7,some (qB jD gl)),(8,some (bm jX []))]⟩) (fun (i,gl)=>i≤bv.length∧gl=List.map jP (List.map (fun (i:Nat)=>nG bv (jU bv t k) (t.getD k tz) i) (List.range i))) (fun (i,gl)=>bv.length-i) (0,[]) wk ⟨Nat.zero_le _,rfl⟩ ?_
     rintro ⟨i,gl⟩ ⟨hi,hg⟩
     have hgl:gl.length=i:=aO (G:=(fun (i:Nat)=>nG bv (jU bv t k) (t.getD k tz) i)) hg
     refine jB<|kx [(96,(vb (decide (((i:Nat):Int)<((bv.length:Nat):Int)))))] [] (zE xY<|zZ) ?_
     refine jB<|jH rfl (fun h4=>?_) (fun h4=>?_)
     ·replace h4:=vJ h4
      refine jF<|jB<|jI<|jB<|kx [(19,(jK i))] [] (zM<|zM<|zZ) ?_
      refine kd [] [(6,some (bx (jD (jP (nV bv (jU bv t k) (t.getD k tz))))++[(.own 9 61 8 ((gl++[(jP (nG bv (jU bv t k) (t.getD k tz) i))]).length)),(.own 8 86 1 0)])),(9,some (qB jD (gl++[(jP (nG bv (jU bv t k) (t.getD k tz) i))]))),(7,none)] mo (wE (qA uX)<|wR (qX gS)<|wR (kP bL)<|wR (kP vP)<|wR (kP vP)<|wE (qA yC)<|wR (kP jY)<|wM<|wE (kA (u_x (t.getD k tz) y z (jP (nV bv (jU bv t k) (t.getD k tz))) i bv (jU bv t k) (hr.nd k (vJ hlt0)) (hr.ok k hk) (hr.nv k (vJ hlt0)) (by omega) (by assumption) (by assumption) rfl))<|wM<|wE (kA (u_held (nG bv (jU bv t k) (t.getD k tz) i) (qI (nG_gl (hr.nv k (vJ hlt0)) (by omega)) (by decide))))<|wE (mC uW qL qR)<|wAS (k:=7) 9 jD gl [(jP (nG bv (jU bv t k) (t.getD k tz) i))] rfl uW qL by61<|wE (qA uX)<|wT (oSx gS)<|wZ) ?_
      refine jV (wk (l:=[(1,(vl 61 8 jD (List.map jP bv))),(2,(jK 1)),(3,(vi (-1))),(8,(.ref 0 0)),(11,(.own 1 95 10 o.length)),(13,(.ref 2 0)),(14,(.ref 3 0)),(15,(.ref 4 0)),(18,(.ref 6 0)),(47,(vl 83 7 kG t)),(48,(jK t.length)),(49,(jK k)),(94,(jK bv.length)),(95,(jK i))]) (b:=[(0,some y1),(1,some (qB jC o)),(2,some (bx (kG (t.getD k tz)))),(3,some (bx (jC y))),(4,some (bx (jC z))),(6,some (bx (jD (jP (nV bv (jU bv t k) (t.getD k tz))))++[(.own 9 61 8 ((gl++[(jP (nG bv (jU bv t k) (t.getD k tz) i))]).length)),(.own 8 86 1 0)])),(8,some (bm jX [])),(9,some (qB jD (gl++[(jP (nG bv (jU bv t k) (t.getD k tz) i))])))])) ?_
      refine jV (nP (S':=[(1,(vl 61 8 jD (List.map jP bv))),(2,(jK 1)),(3,(vi (-1))),(8,(.ref 0 0)),(11,(.own 1 95 10 o.length)),(13,(.ref 2 0)),(14,(.ref 3 0)),(15,(.ref 4 0)),(18,(.ref 6 0)),(47,(vl 83 7 kG t)),(48,(jK t.length)),(49,(jK k)),(94,(jK bv.length)),(95,(jK i))]) (B':=[(0,some y1),(1,some (qB jC o)),(2,some (bx (kG (t.getD k tz)))),(3,some (bx (jC y))),(4,some (bx (jC z))),(6,some (bx (jD (jP (nV bv (jU bv t k) (t.getD k tz))))++[(.own 7 61 8 ((gl++[(jP (nG bv (jU bv t k) (t.getD k tz) i))]).length)),(.own 8 86 1 0)])),(7,some (qB jD (gl++[(jP (nG bv (jU bv t k) (t.getD k tz) i))]))),(8,some (bm jX []))]) 7 9 6) ?_
      refine kx [(95,(jK (i+1)))] [] (zE (xE (i+1))<|zM<|zZ) ?_
      exact ⟨(i+1,gl++[jP (nG bv (jU bv t k) (t.getD k tz) i)]),wk,⟨by omega,eJ (G:=(fun (i:Nat)=>nG bv (jU bv t k) (t.getD k tz) i)) hg⟩,(by first|omega|(dsimp only;omega))⟩
     ·replace h4:=vM h4
      refine kL<|jB<|jB<|kx [(114,(vb false))] [] (zM<|zE (uR false xR)<|zZ) ?_
      refine kI ?_
      refine jF<|jV (xO (j:=6) (k:=7) (pre:=(bx (jD (jP (nV bv (jU bv t k) (t.getD k tz)))))) (post:=[(.own 8 86 1 0)]) (es:=List.map jD gl) rfl (by decide) rfl (vD _ _ (fun _=>rfl)) (qY _ _ rfl) (xB jD gl (fun _=>rfl) rfl)) ?_
      refine jV (wk (l:=[(1,(vl 61 8 jD (List.map jP bv))),(2,(jK 1)),(3,(vi (-1))),(8,(.ref 0 0)),(11,(.own 1 95 10 o.length)),(13,(.ref 2 0)),(14,(.ref 3 0)),(15,(.ref 4 0)),(18,(.ref 6 0)),(47,(vl 83 7 kG t)),(48,(jK t.length)),(49,(jK k)),(114,(vb false))]) (b:=[(0,some y1),(1,some (qB jC o)),(2,some (bx (kG (t.getD k tz)))),(3,some (bx (jC y))),(4,some (bx (jC z))),(6,some (bx (jD (jP (nV bv (jU bv t k) (t.getD k tz))))++[(vl 61 8 jD gl),(.own 8 86 1 0)])),(8,some (bm jX []))])) ?_
      refine jV (xO (j:=6) (k:=8) (pre:=(bx (jD (jP (nV bv (jU bv t k) (t.getD k tz))))++[(vl 61 8 jD gl)])) (post:=[]) (es:=List.map jX []) rfl (by decide) rfl (uI _ _ (fun _=>rfl)) (qY _ _ rfl) (uU _ _ (fun _=>rfl) rfl)) ?_
      refine jV (wk (l:=[(1,(vl 61 8 jD (List.map jP bv))),(2,(jK 1)),(3,(vi (-1))),(8,(.ref 0 0)),(11,(.own 1 95 10 o.length)),(13,(.ref 2 0)),(14,(.ref 3 0)),(15,(.ref 4 0)),(18,(.ref 6 0)),(47,(vl 83 7 kG t)),(48,(jK t.length)),(49,(jK k)),(114,(vb false))]) (b:=[(0,some y1),(1,some (qB jC o)),(2,some (bx (kG (t.getD k tz)))),(3,some (bx (jC y))),(4,some (bx (jC z))),(6,some (bx (jC (qK.mk (jP (nV bv (jU bv t k) (t.getD k tz))) gl []))))])) ?_
      refine kf [(11,(.own 1 95 10 ((o++[(qK.mk (jP (nV bv (jU bv t k) (t.getD k tz))) gl [])]).length)))] [(1,some (qB jC (o++[(qK.mk (jP (nV bv (jU bv t k) (t.getD k tz))) gl [])])))] (zM<|zR (kP vP)<|zE (mC zG vL zL)<|zAS jC o [(qK.mk (jP (nV bv (jU bv t k) (t.getD k tz))) gl [])] rfl zG vL by95<|zM<|zF) ?_
      refine kx [(49,(jK (k+1)))] [] (zE (xE (k+1))<|zM<|zZ) ?_
      exact ⟨(k+1,o++[qK.mk (jP (nV bv (jU bv t k) (t.getD k tz))) gl []]),wk,⟨by have:=vJ hlt0;omega,jU_nx ho hg (by omega)⟩,(by first|omega|(dsimp only;omega))⟩
 ·replace h1:=vM h1
  refine kL<|jB<|kx [(9,(jK 0))] [(0,some (bx (jC (o.getD (o.length-1) (qK.mk y2 [] [])))))] (zM<|zM<|zE (oLo zG)<|zE (oSb (o.length-1))<|zE (oXO zG (o.length-1))<|zR (oLA vP (o.length-1) (qK.mk y2 [] []))<|zT (qF vP)<|zM<|zZ) ?_
  refine jG ⟨_,(kJ (cs:=(bx (jC (o.getD (o.length-1) (qK.mk (jO.mk kR kR) [] []))))) (d:=(jC (o.getD (o.length-1) (qK.mk (jO.mk kR kR) [] [])))) rfl rfl vP rfl rfl (.tmp (d:=(.val (.int .i64 (((0:Nat):Int))))) rfl .nil)),?_⟩
  obtain rfl:k=t.length:=by omega
  obtain rfl:k0=t.length:=by omega
  rw[hol,hget _ (show t.length-1<t.length by omega),dJ_y,dC_y];rfl
end Go.Proofs.YtnajallgoaiahaaGreatDoor
