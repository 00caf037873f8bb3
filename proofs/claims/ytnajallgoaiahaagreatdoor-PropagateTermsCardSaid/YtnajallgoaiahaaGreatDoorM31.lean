/- Part 31 of a proof: rules, plain facts, and functions walked. -/
import Derived.Test.YtnajallgoaiahaaGreatDoorM29
import Derived.Test.YtnajallgoaiahaaGreatDoorM30
import Derived.Test.YtnajallgoaiahaaGreatDoorM20
import Derived.Test.YtnajallgoaiahaaGreatDoorM28
import Derived.Test.YtnajallgoaiahaaGreatDoorM26
namespace Go.Proofs.YtnajallgoaiahaaGreatDoor
open Go.Fid
set_option maxRecDepth 4000
set_option linter.unusedVariables false
set_option linter.unusedSimpArgs false
theorem cb20 : callB Tryz.prog 20 = true := by kernel_rfl
theorem cb76 : callB Tryz.prog 76 = true := by kernel_rfl
theorem cb133 : callB Tryz.prog 133 = true := by kernel_rfl
theorem yU : vR Tryz.prog 83 0 = some 0 := by kernel_rfl
theorem xM : vR Tryz.prog 83 1 = some 1 := by kernel_rfl
theorem gI : vR Tryz.prog 83 2 = some 2 := by kernel_rfl
theorem eN : vR Tryz.prog 83 3 = some 3 := by kernel_rfl
theorem fG : qL Tryz.prog 81 = some (false, 1) := by kernel_rfl
theorem sh83 : qL Tryz.prog 83 = some (true, 7) := by kernel_rfl
theorem u_uns (x : kK) (hx : mF x.n (qB x.n) 1048576) : jT Tryz.prog 133 [(jS x)] (.val (.bool ((unuB x)))) := by
 refine jJ Tryz.func133 rfl cb133 rfl ?_
 show qR _ _ _ _ ⟨[(0, (.d (jS x)))], []⟩
 refine jB<|kx [(1, (.ref 0 0))] [(0, some (bx (jS x)))] (zN (xA 0)<|zM<|zZ) ?_
 refine jB<|kx [(3, (vi (xV x.op)))] [] (zE (qD yU)<|zR (uL fG)<|zE (jZ (r_kids x.op))<|zM<|zZ) ?_
 refine jB<|jB<|kx [(9, (vb (x.op == 0)))] [] (zE (qD yU)<|zR (uL fG)<|zE gA<|zZ) ?_
 refine jF (b := (x.op == 0)) rfl (fun h1 => ?_) (fun h1 => ?_)
 ·replace h1 := eq_of_beq h1
  refine jB<|kx [(2, (vb (((x.a != 0) || (x.b != 0)) || !(kN x.n))))] [] ?_ ?_
  ·refine zE (qD xM)<|zR (uL yV)<|zE nR<|zE (oV (vb (x.a != 0)) (qH (by kernel_rfl)))<|?_
   rcases hb2 : (x.a != 0) with _ | _
   ·replace hb2 := bne_eq_false_iff_eq.1 hb2
    refine zE (qD gI)<|zR (uL yV)<|zE nR<|zE aO<|zE (oV (vb (false || (x.b != 0))) (qH (by kernel_rfl)))<|?_
    rcases hb3 : (false || (x.b != 0)) with _ | _
    ·exact zE (qD eN)<|zR (kP jO)<|zE (jZ (iC x.n (qB x.n) (jP hx (by decide))))<|zE fC<|zE aO<|zM<|zZ
    ·exact zK<|zK<|zK<|zK<|zE hZ<|zM<|zZ
   ·replace hb2 := bne_iff_ne.1 hb2
    exact zK<|zK<|zK<|zE hZ<|zM<|zK<|zK<|zK<|zK<|zE hZ<|zM<|zZ
  refine jE ⟨_, (.tmp (d := (.val (.bool ((((x.a != 0) || (x.b != 0)) || !(kN x.n)))))) rfl .nil), ?_⟩
  rw [show unuB x = _ from if_pos h1]; rfl
 ·replace h1 := ne_of_beq_false h1
  refine jD<|jB<|kx [(2, (vb ((decide ((xV x.op) < 0) || (decide ((xV x.op) < 2) && (x.b != 0))) || !(zeroR x.n))))] [] ?_ ?_
  ·refine zM<|zE vZ<|zE (oV (vb (decide ((xV x.op) < 0))) (qH (by kernel_rfl)))<|?_
   rcases hb4 : (decide ((xV x.op) < 0)) with _ | _
   ·replace hb4 := vB hb4
    refine zM<|zE vZ<|zE (oV (vb (decide ((xV x.op) < 2))) (qH (by kernel_rfl)))<|?_
    rcases hb5 : (decide ((xV x.op) < 2)) with _ | _
    ·replace hb5 := vB hb5
     exact zK<|zK<|zK<|zE yM<|zE yM<|zM<|zE (qD eN)<|zR (kP jO)<|zE (jZ (g_zero x.n (qB x.n) (jP hx (by decide))))<|zE fC<|zE aO<|zM<|zZ
    ·replace hb5 := uH hb5
     refine zE (qD gI)<|zR (uL yV)<|zE nR<|zE aJ<|zE aO<|zE (oV (vb (false || (true && (x.b != 0)))) (qH (by kernel_rfl)))<|?_
     rcases hb6 : (false || (true && (x.b != 0))) with _ | _
     ·exact zE (qD eN)<|zR (kP jO)<|zE (jZ (g_zero x.n (qB x.n) (jP hx (by decide))))<|zE fC<|zE aO<|zM<|zZ
     ·exact zK<|zK<|zK<|zK<|zE hZ<|zM<|zZ
   ·replace hb4 := uH hb4
    exact zK<|zK<|zK<|zK<|zK<|zK<|zK<|zE hZ<|zM<|zK<|zK<|zK<|zK<|zE hZ<|zM<|zZ
  refine jE ⟨_, (.tmp (d := (.val (.bool (((decide ((xV x.op) < 0) || (decide ((xV x.op) < 2) && (x.b != 0))) || !(zeroR x.n)))))) rfl .nil), ?_⟩
  rw [show unuB x = _ from if_neg h1]; rfl
theorem u_sizes (t : List kK) (ht : TnsOk 1048576 t) (z : Int) : jT Tryz.prog 76 [(.sl 83 7 (List.map jS t)), (.val (.int .i64 (z)))] (.tup [(.sl 3 1 (List.map jI (tmL z t))), (.val (.int .i64 ((((eY z t) : Nat) : Int))))]) := by
 refine jJ Tryz.func76 rfl cb76 rfl ?_
 show qR _ _ _ _ ⟨[(0, (vl 83 7 jS t)), (1, (vi z))], []⟩
 refine jB<|kx [] [] (zE (mP 3 1)<|zM<|zZ) ?_
 refine jB<|jB<|kx [(16, (vb (decide (z < 0) || decide (64 < z))))] [] ?_ ?_
 ·refine zM<|zE vZ<|zE (oV (vb (decide (z < 0))) (qH (by kernel_rfl)))<|?_
  rcases hb1 : (decide (z < 0)) with _ | _
  ·replace hb1 := vB hb1
   exact zM<|zE mO<|zE aO<|zZ
  ·replace hb1 := uH hb1
   exact zK<|zK<|zE hZ<|zZ
 refine jF (b := (decide (z < 0) || decide (64 < z))) rfl (fun h2 => ?_) (fun h2 => ?_)
 ·refine jB<|kx [(4, (vl 3 1 jI [])), (5, (jN 2))] [] (zE (mP 3 1)<|zM<|zZ) ?_
  refine jE ⟨_, (.tmp (d := (.sl 3 1 (List.map jI []))) rfl (.tmp (d := (.val (.int .i64 (2)))) rfl .nil)), ?_⟩
  have he := zb_t (t := t) h2
  rw [he.1, he.2]; rfl
 ·have hz0 := h2
  refine jD<|jB<|jB<|kx [(19, (vb (((t.length : Nat) : Int) == 0)))] [] (zM<|zE (vX aF)<|zE gA<|zZ) ?_
  refine jF (b := (((t.length : Nat) : Int) == 0)) rfl (fun h3 => ?_) (fun h3 => ?_)
  ·replace h3 := eq_of_beq h3
   refine jB<|kx [(4, (vl 3 1 jI [])), (5, (jN 1))] [] (zE (mP 3 1)<|zM<|zZ) ?_
   refine jE ⟨_, (.tmp (d := (.sl 3 1 (List.map jI []))) rfl (.tmp (d := (.val (.int .i64 (1)))) rfl .nil)), ?_⟩
   have he := tm_l0 hz0 (show t.length = 0 by omega)
   rw [he.1, he.2]; rfl
  ·replace h3 := ne_of_beq_false h3
   have h0 := h3
   refine jD<|jB<|jB<|kx [(22, (vb (decide (400 < ((t.length : Nat) : Int)))))] [] (zM<|zE (vX aF)<|zE mO<|zZ) ?_
   refine jF (b := decide (400 < ((t.length : Nat) : Int))) rfl (fun h4 => ?_) (fun h4 => ?_)
   ·replace h4 := uH h4
    refine jB<|kx [(4, (vl 3 1 jI [])), (5, (jN 3))] [] (zE (mP 3 1)<|zM<|zZ) ?_
    refine jE ⟨_, (.tmp (d := (.sl 3 1 (List.map jI []))) rfl (.tmp (d := (.val (.int .i64 (3)))) rfl .nil)), ?_⟩
    have he := tm_lb hz0 (show 400 < t.length by omega)
    rw [he.1, he.2]; rfl
   ·replace h4 := vB h4
    have h400 := h4
    refine jD<|jB<|kx [(6, (.own 0 3 1 0))] [(0, some (bm jI []))] (zN (oBo 0 qP ze3 zo3)<|zM<|zZ) ?_
    refine jB<|jB<|kx [(24, (vl 83 7 jS t)), (25, (jN t.length)), (26, (jN 0))] [] (zM<|zE (vX aF)<|zM<|zZ) ?_
    refine jG<|kI (α := Nat × List Int) (fun (k, o) => ⟨[(1, (vi z)), (6, (.own 0 3 1 o.length)), (24, (vl 83 7 jS t)), (25, (jN t.length)), (26, (jN k))], [(0, some (bm jI o))]⟩) (fun (k, o) => k ≤ t.length ∧ o = cG t k ∧ szUp z t k) (fun (k, o) => t.length - k) (0, []) wk ⟨Nat.zero_le _, rfl, szUp_0 _ _⟩ ?_
    rintro ⟨k, o⟩ ⟨hk, ho, hu⟩
    have hol : o.length = k := by rw [ho]; exact mA _ _
    refine jB<|kx [(27, (vb (decide (((k : Nat) : Int) < ((t.length : Nat) : Int)))))] [] (zE vZ<|zZ) ?_
    refine jB<|jF rfl (fun h5 => ?_) (fun h5 => ?_)
    ·replace h5 := uH h5
     have hR := tmr hz0 h5 h400 hu
     have hkl := hR.kl
     refine jD<|jB<|jG<|jB<|kx [(7, (jN k)), (8, (.ref 1 0))] [(1, some (bx (jS (t.getD k tz))))] (zM<|zE (zU aF k (tz : kK))<|zE (dM sh83)<|zH (uU 1 ze83 zo83)<|zM<|zT (qM sh83)<|zZ) ?_
     refine jB<|jB<|kx [(32, (vb (unuB (t.getD k tz))))] [] (zR (kP sh83)<|zE (jZ (u_uns (t.getD k tz) (tn_get ht (show k < t.length by omega))))<|zZ) ?_
     refine jF (b := (unuB (t.getD k tz))) rfl (fun h6 => ?_) (fun h6 => ?_)
     ·refine jB<|kx [(4, (vl 3 1 jI [])), (5, (jN 1))] [] (zE (mP 3 1)<|zM<|zZ) ?_
      refine jE ⟨_, (.tmp (d := (.sl 3 1 (List.map jI []))) rfl (.tmp (d := (.val (.int .i64 (1)))) rfl .nil)), ?_⟩
      have he := hR.bad (by rw [← unu_bad]; exact h6)
      rw [he.1, he.2]; rfl
     ·have hB : badB (t.getD k tz) = false := by rw [← unu_bad]; exact h6
      refine jD<|jB<|kx [(9, (vi (xV ((t.getD k tz).op))))] [] (zE (qD yU)<|zR (uL fG)<|zE (jZ (r_kids ((t.getD k tz).op)))<|zM<|zZ) ?_
      refine jB<|jB<|kx [(63, (vb ((decide (1 ≤ (xV ((t.getD k tz).op))) && (decide ((t.getD k tz).a < 0) || decide (((k : Nat) : Int) ≤ (t.getD k tz).a))) || (((xV ((t.getD k tz).op)) == 2) && (decide ((t.getD k tz).b < 0) || decide (((k : Nat) : Int) ≤ (t.getD k tz).b))))))] [] ?_ ?_
      ·refine zM<|zE oGe<|zE (oV (vb (decide (1 ≤ (xV ((t.getD k tz).op))))) (qH (by kernel_rfl)))<|?_
       rcases hb7 : (decide (1 ≤ (xV ((t.getD k tz).op)))) with _ | _
       ·replace hb7 := vB hb7
        refine zK<|zK<|zK<|zK<|zK<|zK<|zK<|zK<|zK<|zE yM<|zM<|zM<|zE gA<|zE (oV (vb ((xV ((t.getD k tz).op)) == 2)) (qH (by kernel_rfl)))<|?_
        rcases hb8 : ((xV ((t.getD k tz).op)) == 2) with _ | _
        ·replace hb8 := ne_of_beq_false hb8
         exact zK<|zK<|zK<|zK<|zK<|zK<|zK<|zK<|zK<|zE yM<|zE yM<|zZ
        ·replace hb8 := eq_of_beq hb8
         refine zE (qD gI)<|zR (uL yV)<|zE vZ<|zE (oV (vb (decide ((t.getD k tz).b < 0))) (qH (by kernel_rfl)))<|?_
         rcases hb9 : (decide ((t.getD k tz).b < 0)) with _ | _
         ·replace hb9 := vB hb9
          exact zE (qD gI)<|zR (uL yV)<|zM<|zE oGe<|zE aO<|zE aJ<|zE aO<|zZ
         ·replace hb9 := uH hb9
          exact zK<|zK<|zK<|zK<|zE hZ<|zE hZ<|zE yM<|zZ
       ·replace hb7 := uH hb7
        refine zE (qD xM)<|zR (uL yV)<|zE vZ<|zE (oV (vb (decide ((t.getD k tz).a < 0))) (qH (by kernel_rfl)))<|?_
        rcases hb10 : (decide ((t.getD k tz).a < 0)) with _ | _
        ·replace hb10 := vB hb10
         refine zE (qD xM)<|zR (uL yV)<|zM<|zE oGe<|zE aO<|zE aJ<|zE (oV (vb (true && (false || decide (((k : Nat) : Int) ≤ (t.getD k tz).a)))) (qH (by kernel_rfl)))<|?_
         rcases hb11 : (decide (((k : Nat) : Int) ≤ (t.getD k tz).a)) with _ | _
         ·replace hb11 := vB hb11
          refine zM<|zE gA<|zE (oV (vb ((xV ((t.getD k tz).op)) == 2)) (qH (by kernel_rfl)))<|?_
          rcases hb12 : ((xV ((t.getD k tz).op)) == 2) with _ | _
          ·replace hb12 := ne_of_beq_false hb12
           exact zK<|zK<|zK<|zK<|zK<|zK<|zK<|zK<|zK<|zE yM<|zE yM<|zZ
          ·replace hb12 := eq_of_beq hb12
           refine zE (qD gI)<|zR (uL yV)<|zE vZ<|zE (oV (vb (decide ((t.getD k tz).b < 0))) (qH (by kernel_rfl)))<|?_
           rcases hb13 : (decide ((t.getD k tz).b < 0)) with _ | _
           ·replace hb13 := vB hb13
            exact zE (qD gI)<|zR (uL yV)<|zM<|zE oGe<|zE aO<|zE aJ<|zE aO<|zZ
           ·replace hb13 := uH hb13
            exact zK<|zK<|zK<|zK<|zE hZ<|zE hZ<|zE yM<|zZ
         ·replace hb11 := uH hb11
          exact zK<|zK<|zK<|zK<|zK<|zK<|zK<|zK<|zK<|zK<|zK<|zK<|zK<|zE hZ<|zZ
        ·replace hb10 := uH hb10
         exact zK<|zK<|zK<|zK<|zE hZ<|zE hZ<|zM<|zK<|zK<|zK<|zK<|zK<|zK<|zK<|zK<|zK<|zK<|zK<|zK<|zK<|zE hZ<|zZ
      refine jF rfl (fun h14 => ?_) (fun h14 => ?_)
      ·refine jB<|kx [(4, (vl 3 1 jI [])), (5, (jN 5))] [] (zE (mP 3 1)<|zM<|zZ) ?_
       refine jE ⟨_, (.tmp (d := (.sl 3 1 (List.map jI []))) rfl (.tmp (d := (.val (.int .i64 (5)))) rfl .nil)), ?_⟩
       have he := hR.ord hB (by rw [← orD_eq]; exact h14)
       rw [he.1, he.2]; rfl
      ·have hO : ordB ((k : Nat) : Int) (t.getD k tz) = false := by rw [← orD_eq]; exact h14
       refine jD<|jB<|jB<|kx [(77, (vb (((t.getD k tz).op == 1) && (decide ((t.getD k tz).a < 0) || decide (z ≤ (t.getD k tz).a)))))] [] ?_ ?_
       ·refine zE (qD yU)<|zR (uL fG)<|zE gA<|zE (oV (vb ((t.getD k tz).op == 1)) (qH (by kernel_rfl)))<|?_
        rcases hb15 : ((t.getD k tz).op == 1) with _ | _
        ·replace hb15 := ne_of_beq_false hb15
         exact zK<|zK<|zK<|zK<|zK<|zK<|zK<|zK<|zK<|zE yM<|zZ
        ·replace hb15 := eq_of_beq hb15
         refine zE (qD xM)<|zR (uL yV)<|zE vZ<|zE (oV (vb (decide ((t.getD k tz).a < 0))) (qH (by kernel_rfl)))<|?_
         rcases hb16 : (decide ((t.getD k tz).a < 0)) with _ | _
         ·replace hb16 := vB hb16
          exact zE (qD xM)<|zR (uL yV)<|zM<|zE oGe<|zE aO<|zE aJ<|zZ
         ·replace hb16 := uH hb16
          exact zK<|zK<|zK<|zK<|zE hZ<|zE hZ<|zZ
       refine jF rfl (fun h17 => ?_) (fun h17 => ?_)
       ·refine jB<|kx [(4, (vl 3 1 jI [])), (5, (jN 2))] [] (zE (mP 3 1)<|zM<|zZ) ?_
        refine jE ⟨_, (.tmp (d := (.sl 3 1 (List.map jI []))) rfl (.tmp (d := (.val (.int .i64 (2)))) rfl .nil)), ?_⟩
        have he := hR.rng hB hO h17
        rw [he.1, he.2]; rfl
       ·have hN := ndr hR hB hO h17
        refine jD<|jB<|kx [(10, (jN 1))] [] (zM<|zZ) ?_
        refine jB<|jB<|kx [(79, (vb (decide (1 ≤ (xV ((t.getD k tz).op))))))] [] (zM<|zE oGe<|zZ) ?_
        refine jF (b := decide (1 ≤ (xV ((t.getD k tz).op)))) rfl (fun h18 => ?_) (fun h18 => ?_)
        ·replace h18 := uH h18
         have hka := h18
         obtain ⟨a1, a2, a3, a4⟩ := hN.a2 h18
         rw [← ho] at a3 a4
         refine kx [(10, (vi (o.getD (((t.getD k tz).a).toNat) 0)))] [] (zM<|zE (qD xM)<|zR (uL yV)<|zE (fJ qP (((t.getD k tz).a).toNat))<|zR (oLp yV (((t.getD k tz).a).toNat) (0 : Int))<|zM<|zZ) ?_
         refine jB<|jB<|kx [(87, (vb ((t.getD k tz).op == 7)))] [] (zE (qD yU)<|zR (uL fG)<|zE gA<|zZ) ?_
         refine jF (b := ((t.getD k tz).op == 7)) rfl (fun h19 => ?_) (fun h19 => ?_)
         ·replace h19 := eq_of_beq h19
          have hq7 := h19
          refine kx [(10, (vi (2 * (o.getD (((t.getD k tz).a).toNat) 0))))] [] (zM<|zE (zMl (2 * (o.getD (((t.getD k tz).a).toNat) 0)))<|zM<|zZ) ?_
          refine jB<|jB<|kx [(91, (vb ((xV ((t.getD k tz).op)) == 2)))] [] (zM<|zE gA<|zZ) ?_
          refine jF (b := ((xV ((t.getD k tz).op)) == 2)) rfl (fun h20 => ?_) (fun h20 => ?_)
          ·replace h20 := eq_of_beq h20
           exfalso; have hk2 := h20; have hb0 := hN.bad; first | (have := kd_7 hq7; omega) | (unfold cO at hb0; omega)
          ·replace h20 := ne_of_beq_false h20
           have hk2 := h20
           have hv : (2 * (o.getD (((t.getD k tz).a).toNat) 0)) = bN (cG t k) (t.getD k tz) := by rw [ho]; exact (szD_q hka hq7)
           refine jD<|jB<|jB<|kx [(100, (vb (decide (4096 < (2 * (o.getD (((t.getD k tz).a).toNat) 0))))))] [] (zM<|zE mO<|zZ) ?_
           refine jF rfl (fun h21 => ?_) (fun h21 => ?_)
           ·replace h21 := uH h21
            refine jB<|kx [(4, (vl 3 1 jI [])), (5, (jN 3))] [] (zE (mP 3 1)<|zM<|zZ) ?_
            refine jE ⟨_, (.tmp (d := (.sl 3 1 (List.map jI []))) rfl (.tmp (d := (.val (.int .i64 (3)))) rfl .nil)), ?_⟩
            have he := hN.bg hv h21
            rw [he.1, he.2]; rfl
           ·replace h21 := vB h21
            refine jD<|kf [(6, (.own 0 3 1 ((o ++ [(2 * (o.getD (((t.getD k tz).a).toNat) 0))]).length)))] [(0, some (bm jI (o ++ [(2 * (o.getD (((t.getD k tz).a).toNat) 0))])))] (zM<|zM<|zE (gN qP ze3 zo3)<|zA jI o [(2 * (o.getD (((t.getD k tz).a).toNat) 0))] rfl qP ze3 by3<|zM<|zF) ?_
            refine kH (wk (l := [(1, (vi z)), (6, (.own 0 3 1 ((o ++ [(2 * (o.getD (((t.getD k tz).a).toNat) 0))]).length))), (24, (vl 83 7 jS t)), (25, (jN t.length)), (26, (jN k))]) (b := [(0, some (bm jI (o ++ [(2 * (o.getD (((t.getD k tz).a).toNat) 0))])))])) ?_
            refine kx [(26, (jN (k + 1)))] [] (zE (vG (k + 1))<|zM<|zZ) ?_
            exact ⟨(k + 1, o ++ [(2 * (o.getD (((t.getD k tz).a).toNat) 0))]), wk, (by obtain ⟨q1, q2⟩ := hN.nx hv h21; exact ⟨by omega, by rw [← q2, ho], q1⟩), (by first|omega|(dsimp only;omega))⟩
         ·replace h19 := ne_of_beq_false h19
          have hq7 := h19
          refine jD<|jB<|jB<|kx [(91, (vb ((xV ((t.getD k tz).op)) == 2)))] [] (zM<|zE gA<|zZ) ?_
          refine jF (b := ((xV ((t.getD k tz).op)) == 2)) rfl (fun h22 => ?_) (fun h22 => ?_)
          ·replace h22 := eq_of_beq h22
           have hk2 := h22
           have hv : ((o.getD (((t.getD k tz).a).toNat) 0) + (o.getD (((t.getD k tz).b).toNat) 0)) = bN (cG t k) (t.getD k tz) := by rw [ho]; exact (szD_b hk2)
           obtain ⟨b1, b2, b3, b4⟩ := hN.b2 h22
           rw [← ho] at b3 b4
           refine kx [(10, (vi ((o.getD (((t.getD k tz).a).toNat) 0) + (o.getD (((t.getD k tz).b).toNat) 0))))] [] (zM<|zM<|zE (qD gI)<|zR (uL yV)<|zE (fJ qP (((t.getD k tz).b).toNat))<|zR (oLp yV (((t.getD k tz).b).toNat) (0 : Int))<|zE (zAd ((o.getD (((t.getD k tz).a).toNat) 0) + (o.getD (((t.getD k tz).b).toNat) 0)))<|zM<|zZ) ?_
           refine jB<|jB<|kx [(100, (vb (decide (4096 < ((o.getD (((t.getD k tz).a).toNat) 0) + (o.getD (((t.getD k tz).b).toNat) 0))))))] [] (zM<|zE mO<|zZ) ?_
           refine jF rfl (fun h23 => ?_) (fun h23 => ?_)
           ·replace h23 := uH h23
            refine jB<|kx [(4, (vl 3 1 jI [])), (5, (jN 3))] [] (zE (mP 3 1)<|zM<|zZ) ?_
            refine jE ⟨_, (.tmp (d := (.sl 3 1 (List.map jI []))) rfl (.tmp (d := (.val (.int .i64 (3)))) rfl .nil)), ?_⟩
            have he := hN.bg hv h23
            rw [he.1, he.2]; rfl
           ·replace h23 := vB h23
            refine jD<|kf [(6, (.own 0 3 1 ((o ++ [((o.getD (((t.getD k tz).a).toNat) 0) + (o.getD (((t.getD k tz).b).toNat) 0))]).length)))] [(0, some (bm jI (o ++ [((o.getD (((t.getD k tz).a).toNat) 0) + (o.getD (((t.getD k tz).b).toNat) 0))])))] (zM<|zM<|zE (gN qP ze3 zo3)<|zA jI o [((o.getD (((t.getD k tz).a).toNat) 0) + (o.getD (((t.getD k tz).b).toNat) 0))] rfl qP ze3 by3<|zM<|zF) ?_
            refine kH (wk (l := [(1, (vi z)), (6, (.own 0 3 1 ((o ++ [((o.getD (((t.getD k tz).a).toNat) 0) + (o.getD (((t.getD k tz).b).toNat) 0))]).length))), (24, (vl 83 7 jS t)), (25, (jN t.length)), (26, (jN k))]) (b := [(0, some (bm jI (o ++ [((o.getD (((t.getD k tz).a).toNat) 0) + (o.getD (((t.getD k tz).b).toNat) 0))])))])) ?_
            refine kx [(26, (jN (k + 1)))] [] (zE (vG (k + 1))<|zM<|zZ) ?_
            exact ⟨(k + 1, o ++ [((o.getD (((t.getD k tz).a).toNat) 0) + (o.getD (((t.getD k tz).b).toNat) 0))]), wk, (by obtain ⟨q1, q2⟩ := hN.nx hv h23; exact ⟨by omega, by rw [← q2, ho], q1⟩), (by first|omega|(dsimp only;omega))⟩
          ·replace h22 := ne_of_beq_false h22
           have hk2 := h22
           have hv : (o.getD (((t.getD k tz).a).toNat) 0) = bN (cG t k) (t.getD k tz) := by rw [ho]; exact (szD_n hka hq7 hk2)
           refine jD<|jB<|jB<|kx [(100, (vb (decide (4096 < (o.getD (((t.getD k tz).a).toNat) 0)))))] [] (zM<|zE mO<|zZ) ?_
           refine jF rfl (fun h24 => ?_) (fun h24 => ?_)
           ·replace h24 := uH h24
            refine jB<|kx [(4, (vl 3 1 jI [])), (5, (jN 3))] [] (zE (mP 3 1)<|zM<|zZ) ?_
            refine jE ⟨_, (.tmp (d := (.sl 3 1 (List.map jI []))) rfl (.tmp (d := (.val (.int .i64 (3)))) rfl .nil)), ?_⟩
            have he := hN.bg hv h24
            rw [he.1, he.2]; rfl
           ·replace h24 := vB h24
            refine jD<|kf [(6, (.own 0 3 1 ((o ++ [(o.getD (((t.getD k tz).a).toNat) 0)]).length)))] [(0, some (bm jI (o ++ [(o.getD (((t.getD k tz).a).toNat) 0)])))] (zM<|zM<|zE (gN qP ze3 zo3)<|zA jI o [(o.getD (((t.getD k tz).a).toNat) 0)] rfl qP ze3 by3<|zM<|zF) ?_
            refine kx [(26, (jN (k + 1)))] [] (zE (vG (k + 1))<|zM<|zZ) ?_
            exact ⟨(k + 1, o ++ [(o.getD (((t.getD k tz).a).toNat) 0)]), wk, (by obtain ⟨q1, q2⟩ := hN.nx hv h24; exact ⟨by omega, by rw [← q2, ho], q1⟩), (by first|omega|(dsimp only;omega))⟩
        ·replace h18 := vB h18
         have hka := h18
         refine jD<|jB<|jB<|kx [(87, (vb ((t.getD k tz).op == 7)))] [] (zE (qD yU)<|zR (uL fG)<|zE gA<|zZ) ?_
         refine jF (b := ((t.getD k tz).op == 7)) rfl (fun h25 => ?_) (fun h25 => ?_)
         ·replace h25 := eq_of_beq h25
          have hq7 := h25
          refine kx [(10, (jN (2 * 1)))] [] (zM<|zE (oMl (2 * 1))<|zM<|zZ) ?_
          refine jB<|jB<|kx [(91, (vb ((xV ((t.getD k tz).op)) == 2)))] [] (zM<|zE gA<|zZ) ?_
          refine jF (b := ((xV ((t.getD k tz).op)) == 2)) rfl (fun h26 => ?_) (fun h26 => ?_)
          ·replace h26 := eq_of_beq h26
           exfalso; have hk2 := h26; have hb0 := hN.bad; first | (have := kd_7 hq7; omega) | (unfold cO at hb0; omega)
          ·replace h26 := ne_of_beq_false h26
           exfalso; have hk2 := h26; have hb0 := hN.bad; first | (have := kd_7 hq7; omega) | (unfold cO at hb0; omega)
         ·replace h25 := ne_of_beq_false h25
          have hq7 := h25
          refine jD<|jB<|jB<|kx [(91, (vb ((xV ((t.getD k tz).op)) == 2)))] [] (zM<|zE gA<|zZ) ?_
          refine jF (b := ((xV ((t.getD k tz).op)) == 2)) rfl (fun h27 => ?_) (fun h27 => ?_)
          ·replace h27 := eq_of_beq h27
           exfalso; have hk2 := h27; have hb0 := hN.bad; first | (have := kd_7 hq7; omega) | (unfold cO at hb0; omega)
          ·replace h27 := ne_of_beq_false h27
           have hk2 := h27
           have hv : (1 : Int) = bN (cG t k) (t.getD k tz) := (szD_c hN.bad hka)
           refine jD<|jB<|jB<|kx [(100, (vb (decide (4096 < 1))))] [] (zM<|zE mO<|zZ) ?_
           refine jF (b := decide (4096 < 1)) rfl (fun h28 => ?_) (fun h28 => ?_)
           ·replace h28 := uH h28
            exact absurd h28 (by decide)
           ·replace h28 := vB h28
            refine jD<|kf [(6, (.own 0 3 1 ((o ++ [1]).length)))] [(0, some (bm jI (o ++ [1])))] (zM<|zM<|zE (gN qP ze3 zo3)<|zA jI o [1] rfl qP ze3 by3<|zM<|zF) ?_
            refine kx [(26, (jN (k + 1)))] [] (zE (vG (k + 1))<|zM<|zZ) ?_
            exact ⟨(k + 1, o ++ [(1 : Int)]), wk, (by obtain ⟨q1, q2⟩ := hN.nx hv (by decide); exact ⟨by omega, by rw [← q2, ho], q1⟩), (by first|omega|(dsimp only;omega))⟩
    ·replace h5 := vB h5
     refine kC<|jB<|kx [(4, (.own 0 3 1 o.length)), (5, (jN 0))] [] (zM<|zM<|zM<|zZ) ?_
     refine kH (vK (t := 4) (k := 0) (es := List.map jI o) rfl rfl (uI _ _ (fun _ => rfl)) (uG _ _ rfl) (vE _ _ (fun _ => rfl) rfl)) ?_
     refine jE ⟨_, (.tmp (d := (.sl 3 1 (List.map jI o))) rfl (.tmp (d := (.val (.int .i64 (0)))) rfl .nil)), ?_⟩
     have he := tm_end2 hz0 h0 h400 hk h5 hu
     rw [he.1, he.2, ← ho]; rfl
theorem u_chk (t : List kK) (ht : TnsOk 1048576 t) (z : Int) : jT Tryz.prog 20 [(.sl 83 7 (List.map jS t)), (.val (.int .i64 (z)))] (.val (.int .i64 ((((eY z t) : Nat) : Int)))) := by
 refine jJ Tryz.func20 rfl cb20 rfl ?_
 show qR _ _ _ _ ⟨[(0, (vl 83 7 jS t)), (1, (vi z))], []⟩
 refine jB<|kx [] [] (zM<|zZ) ?_
 refine jB<|kx [(6, (jN (eY z t)))] [] (zM<|zM<|zE (jZ (u_sizes t ht z))<|zM<|zE vP<|zE vP<|zM<|zM<|zZ) ?_
 refine jB<|kx [(4, (jN (eY z t)))] [] (zM<|zM<|zZ) ?_
 refine jE ⟨_, (.tmp (d := (.val (.int .i64 ((((eY z t) : Nat) : Int))))) rfl .nil), ?_⟩
 rfl
theorem cb72 : callB Tryz.prog 72 = true := by kernel_rfl
theorem cb127 : callB Tryz.prog 127 = true := by kernel_rfl
theorem cb128 : callB Tryz.prog 128 = true := by kernel_rfl
theorem cb129 : callB Tryz.prog 129 = true := by kernel_rfl
theorem cb207 : callB Tryz.prog 207 = true := by kernel_rfl
theorem cb208 : callB Tryz.prog 208 = true := by kernel_rfl
theorem cb209 : callB Tryz.prog 209 = true := by kernel_rfl
theorem cb245 : callB Tryz.prog 245 = true := by kernel_rfl
theorem eB : uZ Tryz.prog 34 = some (24, 1) := by kernel_rfl
theorem sh24 : qL Tryz.prog 24 = some (false, 1) := by kernel_rfl
theorem sh34 : qL Tryz.prog 34 = some (false, 1) := by kernel_rfl
theorem m_can1 (x : kD) (p : Rat) (hx : mF x p 1048576) : jT Tryz.prog 209 [(jH x)] (.val (.bool ((!(kN x))))) := by
 refine jJ Tryz.func209 rfl cb209 rfl ?_
 show qR _ _ _ _ ⟨[(0, (.d (jH x)))], []⟩
 refine jB<|kx [(1, (.ref 0 0))] [(0, some (bx (jH x)))] (zN (xA 0)<|zM<|zZ) ?_
 refine jB<|kx [(2, (vb (!(kN x))))] [] (zR (kP jO)<|zE (jZ (mB x p (jP hx (by decide))))<|zE fC<|zM<|zZ) ?_
 refine jE ⟨_, (.tmp (d := (.val (.bool (!(kN x))))) rfl .nil), ?_⟩
 rfl
theorem m_canAI (l : List kD) (hl : yR 1048576 l) (hb : l.length ≤ 140737488355328) : jT Tryz.prog 245 [(.sl 45 4 (List.map jH l)), (.val (.func (.func 209) #[] #[]))] (.val (.int .i64 ((aY (fun x => !(kN x)) l 0)))) := by
 refine jJ Tryz.func245 rfl cb245 rfl ?_
 show qR _ _ _ _ ⟨[(0, (vl 45 4 jH l)), (1, (.d (.val (.func (.func 209) #[] #[]))))], []⟩
 refine jB<|kx [] [] (zM<|zZ) ?_
 refine jB<|jB<|kx [(7, (jN l.length)), (8, (jN 0))] [] (zM<|zE (vX qN)<|zM<|zZ) ?_
 refine jG<|kI (α := Nat) (fun k => ⟨[(0, (vl 45 4 jH l)), (1, (.d (.val (.func (.func 209) #[] #[])))), (7, (jN l.length)), (8, (jN k))], []⟩) (fun k => k ≤ l.length ∧ aY (fun x => !(kN x)) l 0 = aY (fun x => !(kN x)) (l.drop k) k) (fun k => l.length - k) 0 wk ⟨Nat.zero_le _, by rw [List.drop_zero]⟩ ?_
 rintro k ⟨hk, hv⟩
 refine jB<|kx [(9, (vb (decide (((k : Nat) : Int) < ((l.length : Nat) : Int)))))] [] (zE vZ<|zZ) ?_
 refine jB<|jF rfl (fun h1 => ?_) (fun h1 => ?_)
 ·replace h1 := uH h1
  refine jD<|jB<|jG<|jB<|kx [(5, (jN k))] [] (zM<|zM<|zZ) ?_
  refine jB<|kx [(16, (vb (!(kN (l.getD k kW)))))] [] (zM<|zM<|zM<|zE (zU qN k kW)<|zE (dM jO)<|zE (jZ (m_can1 (l.getD k kW) (qB (l.getD k kW)) (xS hl.1 (show k < l.length by omega))))<|zZ) ?_
  refine jF rfl (fun h2 => ?_) (fun h2 => ?_)
  ·have hix := fst0_at (fun x => !(kN x)) kW l k (by omega) h2
   refine jB<|kx [(4, (jN k))] [] (zM<|zM<|zZ) ?_
   refine jE ⟨_, (.tmp (d := (.val (.int .i64 (((k : Nat) : Int))))) rfl .nil), ?_⟩
   rw [hv, hix]; rfl
  ·have hix := fst0_step (fun x => !(kN x)) kW l k (by omega) h2
   refine jD<|kx [(8, (jN (k + 1)))] [] (zE (vG (k + 1))<|zM<|zZ) ?_
   exact ⟨(k + 1), wk, ⟨by omega, hv.trans hix⟩, (by omega)⟩
 ·replace h1 := vB h1
  have hix := fst0_end (fun x => !(kN x)) l k (by omega)
  refine kC<|jB<|kx [(4, (vi (-1)))] [] (zM<|zZ) ?_
  refine jE ⟨_, (.tmp (d := (.val (.int .i64 (-1)))) rfl .nil), ?_⟩
  rw [hv, hix]; rfl
theorem m_canA (l : List kD) (hl : yR 1048576 l) (hb : l.length ≤ 140737488355328) : jT Tryz.prog 208 [(.sl 45 4 (List.map jH l)), (.val (.func (.func 209) #[] #[]))] (.val (.bool ((l.any (fun x => !(kN x)))))) := by
 refine jJ Tryz.func208 rfl cb208 rfl ?_
 show qR _ _ _ _ ⟨[(0, (vl 45 4 jH l)), (1, (.d (.val (.func (.func 209) #[] #[]))))], []⟩
 refine jB<|kx [] [] (zM<|zZ) ?_
 refine jB<|kx [(4, (vb (decide (0 ≤ (aY (fun x => !(kN x)) l 0)))))] [] (zM<|zM<|zE (jZ (m_canAI l hl hb))<|zE oGe<|zM<|zZ) ?_
 refine jE ⟨_, (.tmp (d := (.val (.bool (decide (0 ≤ (aY (fun x => !(kN x)) l 0)))))) rfl .nil), ?_⟩
 rw [fst0_any]; rfl
theorem m_can (l : List kD) (hl : yR 1048576 l) (hb : l.length ≤ 140737488355328) : jT Tryz.prog 129 [(.sl 45 4 (List.map jH l))] (.val (.bool ((bO l)))) := by
 refine jJ Tryz.func129 rfl cb129 rfl ?_
 show qR _ _ _ _ ⟨[(0, (vl 45 4 jH l))], []⟩
 refine jB<|kx [] [] (zM<|zZ) ?_
 refine jB<|kx [(2, (vb (!(l.any (fun x => !(kN x))))))] [] (zM<|zE (jZ (m_canA l hl hb))<|zE fC<|zM<|zZ) ?_
 refine jE ⟨_, (.tmp (d := (.val (.bool (!(l.any (fun x => !(kN x))))))) rfl .nil), ?_⟩
 rw [vRow_any]; rfl
theorem m_chk1 (l : List kD) (hl : yR 1048576 l) (m : List (List kD)) (hm : nD 1048576 m) (h0 : 0 < m.length) (hlb : l.length ≤ 140737488355328) : jT Tryz.prog 128 [(.sl 45 4 (List.map jH l)), (.cptr 1000000 (kA.cells (.sl 24 1 (List.map jR m))) 0)] (.val (.bool ((gL m l)))) := by
 have hmb := hm.2
 have hrb := (xT (d := []) hm h0).2
 refine jJ Tryz.func128 rfl cb128 rfl ?_
 show qR _ _ _ _ ⟨[(0, (vl 45 4 jH l)), (1, (.d (.cptr 1000000 (kA.cells (.sl 24 1 (List.map jR m))) 0)))], []⟩
 refine jB<|kx [] [] (zM<|zZ) ?_
 refine jB<|kx [(3, (vb ((((l.length : Nat) : Int) != (((m.getD 0 []).length : Nat) : Int)) || !(bO l))))] [] ?_ ?_
 ·refine zM<|zE (vX qN)<|zE (xI sh34)<|zE (zU eB 0 ([] : List (kD)))<|zE (xI sh24)<|zE (vX qN (L := (m.getD 0 [])))<|zE nR<|zE (oV (vb (((l.length : Nat) : Int) != (((m.getD 0 []).length : Nat) : Int))) (qH (by kernel_rfl)))<|?_
  rcases hb1 : (((l.length : Nat) : Int) != (((m.getD 0 []).length : Nat) : Int)) with _ | _
  ·replace hb1 := bne_eq_false_iff_eq.1 hb1
   exact zM<|zE (jZ (m_can l hl hlb))<|zE fC<|zE aO<|zM<|zZ
  ·replace hb1 := bne_iff_ne.1 hb1
   exact zK<|zK<|zK<|zE hZ<|zM<|zZ
 refine jE ⟨_, (.tmp (d := (.val (.bool (((((l.length : Nat) : Int) != (((m.getD 0 []).length : Nat) : Int)) || !(bO l)))))) rfl .nil), ?_⟩
 rfl
theorem m_chkAI (l : List (List kD)) (hl : nD 1048576 l) (m : List (List kD)) (hm : nD 1048576 m) (hb : l.length ≤ 140737488355328) (h0 : 0 < m.length) : jT Tryz.prog 207 [(.sl 24 1 (List.map jR l)), (.clo 128 [(.cptr 1000000 (kA.cells (.sl 24 1 (List.map jR m))) 0)])] (.val (.int .i64 ((aY (gL m) l 0)))) := by
 refine jJ Tryz.func207 rfl cb207 rfl ?_
 show qR _ _ _ _ ⟨[(0, (vl 24 1 jR l)), (1, (.d (.clo 128 [(.cptr 1000000 (kA.cells (.sl 24 1 (List.map jR m))) 0)])))], []⟩
 refine jB<|kx [] [] (zM<|zZ) ?_
 refine jB<|jB<|kx [(7, (jN l.length)), (8, (jN 0))] [] (zM<|zE (vX eB)<|zM<|zZ) ?_
 refine jG<|kI (α := Nat) (fun k => ⟨[(0, (vl 24 1 jR l)), (1, (.d (.clo 128 [(.cptr 1000000 (kA.cells (.sl 24 1 (List.map jR m))) 0)]))), (7, (jN l.length)), (8, (jN k))], []⟩) (fun k => k ≤ l.length ∧ aY (gL m) l 0 = aY (gL m) (l.drop k) k) (fun k => l.length - k) 0 wk ⟨Nat.zero_le _, by rw [List.drop_zero]⟩ ?_
 rintro k ⟨hk, hv⟩
 refine jB<|kx [(9, (vb (decide (((k : Nat) : Int) < ((l.length : Nat) : Int)))))] [] (zE vZ<|zZ) ?_
 refine jB<|jF rfl (fun h1 => ?_) (fun h1 => ?_)
 ·replace h1 := uH h1
  have hrl := (xT (d := []) hl (show k < l.length by omega)).2
  refine jD<|jB<|jG<|jB<|kx [(5, (jN k))] [] (zM<|zM<|zZ) ?_
  refine jB<|kx [(16, (vb (gL m (l.getD k []))))] [] (zM<|zM<|zM<|zE (zU eB k ([] : List (kD)))<|zE (xI sh24)<|zE (oCd (ds := [(.sl 45 4 (List.map jH (l.getD k [])))]) (caps := [(.cptr 1000000 (kA.cells (.sl 24 1 (List.map jR m))) 0)]) (m_chk1 (l.getD k []) (xT (d := []) hl (show k < l.length by omega)) m hm h0 (by first | assumption | omega)))<|zZ) ?_
  refine jF (b := (gL m (l.getD k []))) rfl (fun h2 => ?_) (fun h2 => ?_)
  ·have hix := fst0_at (gL m) [] l k (by omega) h2
   refine jB<|kx [(4, (jN k))] [] (zM<|zM<|zZ) ?_
   refine jE ⟨_, (.tmp (d := (.val (.int .i64 (((k : Nat) : Int))))) rfl .nil), ?_⟩
   rw [hv, hix]; rfl
  ·have hix := fst0_step (gL m) [] l k (by omega) h2
   refine jD<|kx [(8, (jN (k + 1)))] [] (zE (vG (k + 1))<|zM<|zZ) ?_
   exact ⟨(k + 1), wk, ⟨by omega, hv.trans hix⟩, (by omega)⟩
 ·replace h1 := vB h1
  have hix := fst0_end (gL m) l k (by omega)
  refine kC<|jB<|kx [(4, (vi (-1)))] [] (zM<|zZ) ?_
  refine jE ⟨_, (.tmp (d := (.val (.int .i64 (-1)))) rfl .nil), ?_⟩
  rw [hv, hix]; rfl
theorem m_chkA (l : List (List kD)) (hl : nD 1048576 l) (m : List (List kD)) (hm : nD 1048576 m) (hb : l.length ≤ 140737488355328) (h0 : 0 < m.length) : jT Tryz.prog 127 [(.sl 24 1 (List.map jR l)), (.clo 128 [(.cptr 1000000 (kA.cells (.sl 24 1 (List.map jR m))) 0)])] (.val (.bool ((l.any (gL m))))) := by
 refine jJ Tryz.func127 rfl cb127 rfl ?_
 show qR _ _ _ _ ⟨[(0, (vl 24 1 jR l)), (1, (.d (.clo 128 [(.cptr 1000000 (kA.cells (.sl 24 1 (List.map jR m))) 0)])))], []⟩
 refine jB<|kx [] [] (zM<|zZ) ?_
 refine jB<|kx [(4, (vb (decide (0 ≤ (aY (gL m) l 0)))))] [] (zM<|zM<|zE (jZ (m_chkAI l hl m hm hb h0))<|zE oGe<|zM<|zZ) ?_
 refine jE ⟨_, (.tmp (d := (.val (.bool (decide (0 ≤ (aY (gL m) l 0)))))) rfl .nil), ?_⟩
 rw [fst0_any]; rfl
theorem m_chk (m : List (List kD)) (hm : nD 1048576 m) : jT Tryz.prog 72 [(.sl 24 1 (List.map jR m))] (.val (.int .i64 ((((mchk m) : Nat) : Int)))) := by
 have hmb := hm.2
 refine jJ Tryz.func72 rfl cb72 rfl ?_
 show qR _ _ _ _ ⟨[(0, (vl 24 1 jR m))], []⟩
 refine jB<|kx [(1, (.ref 0 0))] [(0, some (bx (.sl 24 1 (List.map jR m))))] (zN (xA 0)<|zM<|zZ) ?_
 refine jB<|jB<|kx [(24, (vb (((decide (((m.length : Nat) : Int) < 1) || decide (64 < ((m.length : Nat) : Int))) || decide ((((m.getD 0 []).length : Nat) : Int) < 1)) || decide (64 < (((m.getD 0 []).length : Nat) : Int)))))] [] ?_ ?_
 ·refine zR (uL sh34)<|zE (vX eB)<|zE vZ<|zE (oV (vb (decide (((m.length : Nat) : Int) < 1))) (qH (by kernel_rfl)))<|?_
  rcases hb1 : (decide (((m.length : Nat) : Int) < 1)) with _ | _
  ·replace hb1 := vB hb1
   refine zR (uL sh34)<|zE (vX eB)<|zE mO<|zE aO<|zE (oV (vb (false || decide (64 < ((m.length : Nat) : Int)))) (qH (by kernel_rfl)))<|?_
   rcases hb2 : (false || decide (64 < ((m.length : Nat) : Int))) with _ | _
   ·replace hb2 := vB (p := (64 < ((m.length : Nat) : Int))) hb2
    refine zR (uL sh34)<|zE (zU eB 0 ([] : List (kD)))<|zE (xI sh24)<|zE (vX qN (L := (m.getD 0 [])))<|zE vZ<|zE aO<|zE (oV (vb (false || decide ((((m.getD 0 []).length : Nat) : Int) < 1))) (qH (by kernel_rfl)))<|?_
    rcases hb3 : (false || decide ((((m.getD 0 []).length : Nat) : Int) < 1)) with _ | _
    ·replace hb3 := vB (p := ((((m.getD 0 []).length : Nat) : Int) < 1)) hb3
     exact zR (uL sh34)<|zE (zU eB 0 ([] : List (kD)))<|zE (xI sh24)<|zE (vX qN (L := (m.getD 0 [])))<|zE mO<|zE aO<|zZ
    ·replace hb3 := uH (p := ((((m.getD 0 []).length : Nat) : Int) < 1)) hb3
     exact zK<|zK<|zK<|zK<|zK<|zE hZ<|zZ
   ·replace hb2 := uH (p := (64 < ((m.length : Nat) : Int))) hb2
    exact zK<|zK<|zK<|zK<|zK<|zE hZ<|zM<|zK<|zK<|zK<|zK<|zK<|zE hZ<|zZ
  ·replace hb1 := uH hb1
   exact zK<|zK<|zK<|zE hZ<|zM<|zK<|zK<|zK<|zK<|zK<|zE hZ<|zM<|zK<|zK<|zK<|zK<|zK<|zE hZ<|zZ
 refine jF rfl (fun h4 => ?_) (fun h4 => ?_)
 ·refine jB<|kx [(2, (jN 1))] [] (zM<|zZ) ?_
  refine jE ⟨_, (.tmp (d := (.val (.int .i64 (1)))) rfl .nil), ?_⟩
  rw [mchk_1 h4]; rfl
 ·have h0 := shp_0 h4
  refine jD<|jB<|jB<|kx [(27, (vb (m.any (gL m))))] [] (zR (uL sh34)<|zE (oMf [0])<|zC (oCg [(0, (kA.cells (.sl 24 1 (List.map jR m))))] [(vl 24 1 jR m), (.clo 128 [0])] (m_chkA m hm m hm (by assumption) (by omega)) (.d (.c (css := [(kA.cells (.sl 24 1 (List.map jR m)))]) (.cons (.head _) .nil) .nil)) (.val _))<|zZ) ?_
  refine jF (b := (m.any (gL m))) rfl (fun h5 => ?_) (fun h5 => ?_)
  ·refine jB<|kx [(2, (jN 1))] [] (zM<|zZ) ?_
   refine jE ⟨_, (.tmp (d := (.val (.int .i64 (1)))) rfl .nil), ?_⟩
   rw [mchk_2 h5]; rfl
  ·refine jD<|jB<|kx [(2, (jN 0))] [] (zM<|zZ) ?_
   refine jE ⟨_, (.tmp (d := (.val (.int .i64 (0)))) rfl .nil), ?_⟩
   rw [mchk_3 h4 h5]; rfl
theorem cb132 : callB Tryz.prog 132 = true := by kernel_rfl
theorem cb213 : callB Tryz.prog 213 = true := by kernel_rfl
theorem cb246 : callB Tryz.prog 246 = true := by kernel_rfl
theorem m_dot (l : List kD) (hl : yR 1048576 l) (m : List kD) (hm : yR 1048576 m) (hlm : l.length = m.length) (hl4 : l.length ≤ 64) : jT Tryz.prog 246 [(.sl 45 4 (List.map jH l)), (.sl 45 4 (List.map jH m))] (jH (jM (dotR l m))) := by
 have hlb := hl.2
 have hmb := hm.2
 let y1 := kW
 refine jJ Tryz.func246 rfl cb246 rfl ?_
 show qR _ _ _ _ ⟨[(0, (vl 45 4 jH l)), (1, (vl 45 4 jH m))], []⟩
 refine jB<|kx [(4, (.ref 0 0))] [(0, some (bx (jH y1)))] (zN (uU 0 qA qO)<|zZ) ?_
 refine jB<|kx [(5, (.ref 1 0))] [(1, some (bx (jH (jM ((0 : Int) : Rat)))))] (zE (jZ (f_whole 0 (by decide) (by decide)))<|zN (uU 1 qA qO)<|zT (qM jO)<|zZ) ?_
 refine jB<|jB<|kx [(9, (vl 45 4 jH l)), (10, (jN l.length)), (11, (jN 0))] [] (zM<|zE (vX qN)<|zM<|zZ) ?_
 refine jG<|kI (α := Nat × Rat) (fun (i, s) => ⟨[(1, (vl 45 4 jH m)), (4, (.ref 0 0)), (5, (.ref 1 0)), (9, (vl 45 4 jH l)), (10, (jN l.length)), (11, (jN i))], [(0, some (bx (jH y1))), (1, some (bx (jH (jM s))))]⟩) (fun (i, s) => i ≤ l.length ∧ s = dotT l m i) (fun (i, s) => l.length - i) (0, 0) wk ⟨Nat.zero_le _, rfl⟩ ?_
 rintro ⟨i, s⟩ ⟨hi, hs⟩
 have hql : QL s 134217800 := hs ▸ dot_ql1 hl hm (by omega)
 refine jB<|kx [(12, (vb (decide (((i : Nat) : Int) < ((l.length : Nat) : Int)))))] [] (zE vZ<|zZ) ?_
 refine jB<|jF rfl (fun h1 => ?_) (fun h1 => ?_)
 ·replace h1 := uH h1
  refine jD<|jB<|jG<|jB<|kx [(6, (jN i)), (7, (.ref 2 0))] [(2, some (bx (jH (l.getD i y1))))] (zM<|zE (zU qN i y1)<|zE (dM jO)<|zN (uU 2 qA qO)<|zM<|zT (qM jO)<|zZ) ?_
  refine jB<|kx [(26, (vb (((dZ (qB (l.getD i y1))) != 0) && ((dZ (qB (m.getD i y1))) != 0))))] [] ?_ ?_
  ·refine zR (kP jO)<|zE (jZ (f_sign (l.getD i y1) (qB (l.getD i y1)) (jP (xS hl.1 (show i < l.length by omega)) (by decide))))<|zE nR<|zE (oV (vb ((dZ (qB (l.getD i y1))) != 0)) (qH (by kernel_rfl)))<|?_
   rcases hb2 : ((dZ (qB (l.getD i kW))) != 0) with _ | _
   ·replace hb2 := bne_eq_false_iff_eq.1 hb2
    exact zK<|zK<|zK<|zK<|zK<|zK<|zE yM<|zZ
   ·replace hb2 := bne_iff_ne.1 hb2
    exact zM<|zM<|zE (zU qN i y1)<|zE (dM jO)<|zE (jZ (f_sign (m.getD i y1) (qB (m.getD i y1)) (jP (xS hm.1 (show i < m.length by omega)) (by decide))))<|zE nR<|zE aJ<|zZ
  refine jF rfl (fun h3 => ?_) (fun h3 => ?_)
  ·refine kd [] [(1, some (bx (jH (jM (s + ((qB (l.getD i y1)) * (qB (m.getD i y1))))))))] mo (wR (kP jO)<|wR (kP jO)<|wM<|wM<|wE (zU qN i y1)<|wE (dM jO)<|wE (jZ (fV (l.getD i y1) (m.getD i y1) (qB (l.getD i y1)) (qB (m.getD i y1)) (jP (xS hl.1 (show i < l.length by omega)) (by decide)) (jP (xS hm.1 (show i < m.length by omega)) (by decide))))<|wE (jZ (f_add (jM s) (jM ((qB (l.getD i y1)) * (qB (m.getD i y1)))) s ((qB (l.getD i y1)) * (qB (m.getD i y1))) (jP (jX hql) (by decide)) (jP (jX (qF (k := 2097152) (xS hl.1 (show i < l.length by omega)).ql (xS hm.1 (show i < m.length by omega)).ql (by decide))) (by decide))))<|wT (qM jO)<|wZ) ?_
   refine kx [(11, (jN (i + 1)))] [] (zE (vG (i + 1))<|zM<|zZ) ?_
   exact ⟨(i + 1, s + (qB (l.getD i kW)) * (qB (m.getD i kW))), wk, ⟨by omega, by rw [hs]; rfl⟩, (by first|omega|(dsimp only;omega))⟩
  ·refine jD<|kx [(11, (jN (i + 1)))] [] (zE (vG (i + 1))<|zM<|zZ) ?_
   exact ⟨(i + 1, s), wk, ⟨by omega, hs.trans (dotT_skip (dot_sk h3))⟩, (by first|omega|(dsimp only;omega))⟩
 ·replace h1 := vB h1
  refine kC<|jB<|kx [] [(0, some (bx (jH (jM s))))] (zR (kP jO)<|zT (qM jO)<|zZ) ?_
  refine jE ⟨_, (kU (cs := (bx (jH (jM s)))) (d := (jH (jM s))) rfl rfl jO rfl rfl .nil), ?_⟩
  obtain rfl : i = l.length := by omega
  rw [hs]; rfl
theorem m_Dot (l : List kD) (hl : yR 1048576 l) (m : List kD) (hm : yR 134217800 m) (hlm : l.length = m.length) (hl4 : l.length ≤ 64) : jT Tryz.prog 132 [(.sl 45 4 (List.map jH l)), (.sl 45 4 (List.map jH m))] (.tup [(jH (jM (dotR l m))), (.val (.int .i64 (((0 : Nat) : Int))))]) := by
 have hlb := hl.2
 have hmb := hm.2
 let y1 := kW
 refine jJ Tryz.func132 rfl cb132 rfl ?_
 show qR _ _ _ _ ⟨[(0, (vl 45 4 jH l)), (1, (vl 45 4 jH m))], []⟩
 refine jB<|kx [(4, (.ref 0 0))] [(0, some (bx (jH y1)))] (zN (uU 0 qA qO)<|zM<|zZ) ?_
 refine jB<|jB<|kx [(13, (vb false))] [] (zM<|zE (vX qN)<|zM<|zE (vX qN)<|zE (xL false nR (by exact bne_eq_false_iff_eq.2 (congrArg (fun z : Nat => (z : Int)) hlm)))<|zZ) ?_
 refine kZ ?_
 refine jD<|jB<|kx [(6, (.ref 1 0))] [(1, some (bx (jH (jM ((0 : Int) : Rat)))))] (zE (jZ (f_whole 0 (by decide) (by decide)))<|zN (uU 1 qA qO)<|zT (qM jO)<|zZ) ?_
 refine jB<|jB<|kx [(16, (vl 45 4 jH l)), (17, (jN l.length)), (18, (jN 0))] [] (zM<|zE (vX qN)<|zM<|zZ) ?_
 refine jG<|kI (α := Nat × Rat) (fun (i, s) => ⟨[(1, (vl 45 4 jH m)), (4, (.ref 0 0)), (6, (.ref 1 0)), (16, (vl 45 4 jH l)), (17, (jN l.length)), (18, (jN i))], [(0, some (bx (jH y1))), (1, some (bx (jH (jM s))))]⟩) (fun (i, s) => i ≤ l.length ∧ s = dotT l m i) (fun (i, s) => l.length - i) (0, 0) wk ⟨Nat.zero_le _, rfl⟩ ?_
 rintro ⟨i, s⟩ ⟨hi, hs⟩
 have hql : QL s 8800000000 := hs ▸ dot_ql2 hl hm (by omega)
 refine jB<|kx [(19, (vb (decide (((i : Nat) : Int) < ((l.length : Nat) : Int)))))] [] (zE vZ<|zZ) ?_
 refine jB<|jF rfl (fun h1 => ?_) (fun h1 => ?_)
 ·replace h1 := uH h1
  refine jD<|jB<|jG<|jB<|kx [(7, (jN i)), (8, (.ref 2 0))] [(2, some (bx (jH (l.getD i y1))))] (zM<|zE (zU qN i y1)<|zE (dM jO)<|zN (uU 2 qA qO)<|zM<|zT (qM jO)<|zZ) ?_
  refine kd [] [(1, some (bx (jH (jM (s + ((qB (l.getD i y1)) * (qB (m.getD i y1))))))))] mo (wR (kP jO)<|wR (kP jO)<|wM<|wM<|wE (zU qN i y1)<|wE (dM jO)<|wE (jZ (fV (l.getD i y1) (m.getD i y1) (qB (l.getD i y1)) (qB (m.getD i y1)) (jP (xS hl.1 (show i < l.length by omega)) (by decide)) (jP (xS hm.1 (show i < m.length by omega)) (by decide))))<|wE (jZ (f_add (jM s) (jM ((qB (l.getD i y1)) * (qB (m.getD i y1)))) s ((qB (l.getD i y1)) * (qB (m.getD i y1))) (jP (jX hql) (by decide)) (jP (jX (qF (k := 135266376) (xS hl.1 (show i < l.length by omega)).ql (xS hm.1 (show i < m.length by omega)).ql (by decide))) (by decide))))<|wT (qM jO)<|wZ) ?_
  refine kx [(18, (jN (i + 1)))] [] (zE (vG (i + 1))<|zM<|zZ) ?_
  exact ⟨(i + 1, s + (qB (l.getD i kW)) * (qB (m.getD i kW))), wk, ⟨by omega, by rw [hs]; rfl⟩, (by first|omega|(dsimp only;omega))⟩
 ·replace h1 := vB h1
  refine kC<|jB<|kx [(5, (jN 0))] [(0, some (bx (jH (jM s))))] (zR (kP jO)<|zT (qM jO)<|zM<|zZ) ?_
  refine jE ⟨_, (kU (cs := (bx (jH (jM s)))) (d := (jH (jM s))) rfl rfl jO rfl rfl (.tmp (d := (.val (.int .i64 (0)))) rfl .nil)), ?_⟩
  obtain rfl : i = l.length := by omega
  rw [hs]; rfl
theorem m_app (m : List (List kD)) (hm : nD 1048576 m) (v : List kD) (hv : yR 1048576 v) (hc : ∀ r ∈ m, r.length = v.length) (hv4 : v.length ≤ 64) (hm6 : m.length ≤ 64) : jT Tryz.prog 213 [(.sl 24 1 (List.map jR m)), (.sl 45 4 (List.map jH v))] (.sl 45 4 (List.map jH (appR m v))) := by
 have hmb := hm.2
 have hvb := hv.2
 refine jJ Tryz.func213 rfl cb213 rfl ?_
 show qR _ _ _ _ ⟨[(0, (vl 24 1 jR m)), (1, (vl 45 4 jH v))], []⟩
 refine jB<|kx [] [] (zE (mP 45 4)<|zZ) ?_
 refine jB<|kx [(5, (.own 0 45 4 0))] [(0, some (qQ jH []))] (zO 0 45 4<|zZ) ?_
 refine jB<|jB<|kx [(8, (vl 24 1 jR m)), (9, (jN m.length)), (10, (jN 0))] [] (zM<|zE (vX eB)<|zM<|zZ) ?_
 refine jG<|kI (α := Nat × List kD) (fun (i, o) => ⟨[(1, (vl 45 4 jH v)), (5, (.own 0 45 4 o.length)), (8, (vl 24 1 jR m)), (9, (jN m.length)), (10, (jN i))], [(0, some (qQ jH o))]⟩) (fun (i, o) => i ≤ m.length ∧ o = (m.take i).map (fun r => jM (dotR r v))) (fun (i, o) => m.length - i) (0, []) wk ⟨Nat.zero_le _, by simp⟩ ?_
 rintro ⟨i, o⟩ ⟨hi, ho⟩
 have hol : o.length = i := by rw [ho, List.length_map, List.length_take]; omega
 refine jB<|kx [(11, (vb (decide (((i : Nat) : Int) < ((m.length : Nat) : Int)))))] [] (zE vZ<|zZ) ?_
 refine jB<|jF rfl (fun h1 => ?_) (fun h1 => ?_)
 ·replace h1 := uH h1
  have hcl := mcol_at hc (show i < m.length by omega)
  refine jD<|jB<|jG<|jB<|kx [(7, (vl 45 4 jH (m.getD i [])))] [] (zE (zU eB i ([] : List (kD)))<|zE (xI sh24)<|zM<|zZ) ?_
  refine kf [(5, (.own 0 45 4 ((o ++ [(jM (dotR (m.getD i []) v))]).length)))] [(0, some (qQ jH (o ++ [(jM (dotR (m.getD i []) v))])))] (zM<|zM<|zM<|zE (jZ (m_dot (m.getD i []) (xT (d := []) hm (show i < m.length by omega)) v hv (by omega) (by omega)))<|zE (gN qN qA qO)<|zAS jH o [(jM (dotR (m.getD i []) v))] rfl qN qA fF<|zM<|zF) ?_
  refine kx [(10, (jN (i + 1)))] [] (zE (vG (i + 1))<|zM<|zZ) ?_
  exact ⟨(i + 1, o ++ [jM (dotR (m.getD i []) v)]), wk, ⟨by omega, by rw [ho]; exact appR_step (by omega)⟩, (by first|omega|(dsimp only;omega))⟩
 ·replace h1 := vB h1
  refine kC<|jB<|kx [(4, (.own 0 45 4 o.length))] [] (zM<|zM<|zZ) ?_
  refine kH (vK (t := 4) (k := 0) (es := List.map jH o) rfl rfl (zI _ _ (fun _ => rfl)) (uG _ _ rfl) (yW jH o (fun _ => rfl) rfl)) ?_
  refine jE ⟨_, (.tmp (d := (.sl 45 4 (List.map jH o))) rfl .nil), ?_⟩
  rw [ho, show i = m.length by omega, List.take_length]; rfl
end Go.Proofs.YtnajallgoaiahaaGreatDoor
