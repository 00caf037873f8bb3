/- Part 21 of a proof: rules, plain facts, and functions walked. -/
import Derived.Test.YtckccjhflbljgaaGreatDoorM17
import Derived.Test.YtckccjhflbljgaaGreatDoorM10
import Derived.Test.YtckccjhflbljgaaGreatDoorM12
import Derived.Test.YtckccjhflbljgaaGreatDoorM11
import Derived.Test.YtckccjhflbljgaaGreatDoorM20
import Derived.Test.YtckccjhflbljgaaGreatDoorM7
import Derived.Test.YtckccjhflbljgaaGreatDoorM19
import Derived.Test.YtckccjhflbljgaaGreatDoorM16
import Derived.Test.YtckccjhflbljgaaGreatDoorM13
set_option linter.all false
set_option maxRecDepth 4000
namespace Go.Proofs.YtckccjhflbljgaaGreatDoor
open List Tryz
open Go.Fid
theorem u_uns(x:jS)(hx:yB x.n (qS x.n) 1048576):jP prog 79 [(jN x)] (.val (.bool ((unuB x)))):=by
 refine vD func79 ?_
 refine jB<|kx [(1,(.ref 0 0))] [(0,some (bx (jN x)))] (zN (xD 0)<|zM<|zZ) ?_
 refine jB<|kx [(3,(vi (qB x.op)))] [] (zE (kK xN)<|zR (qH cN)<|zE (kB (r_kids x.op))<|zM<|zZ) ?_
 refine jB<|jB<|kx [(9,(vb (x.op == 0)))] [] (zE (kK xN)<|zR (qH cN)<|zE xL<|zZ) ?_
 refine jD (b:=(x.op == 0)) rfl (λh1=>?_) (λh1=>?_)
 ·replace h1:=eq_of_beq h1
  refine jB<|kx [(2,(vb (((x.a != 0)||(x.b != 0))||!(kT x.n))))] [] ?_ ?_
  ·refine zE (kK qN)<|zR (qH uN)<|zE aZ<|zE (oV (vb (x.a != 0)) (qA (by kernel_rfl)))<|?_
   rcases hb2:(x.a != 0) with _ | _
   ·replace hb2:=bne_eq_false_iff_eq.1 hb2
    refine zE (kK vE)<|zR (qH uN)<|zE aZ<|zE aK<|zE (oV (vb (false||(x.b != 0))) (qA (by kernel_rfl)))<|?_
    rcases hb3:(false||(x.b != 0)) with _ | _
    ·exact zE (kK mL)<|zR (kP jT)<|zE (kB (iZ x.n (qS x.n) (jO hx)))<|zE cU<|zE aK<|zM<|zZ
    ·exact zK<|zK<|zK<|zK<|zE nO<|zM<|zZ
   ·replace hb2:=bne_iff_ne.1 hb2
    exact zK<|zK<|zK<|zE nO<|zM<|zK<|zK<|zK<|zK<|zE nO<|zM<|zZ
  refine jE ⟨_,(.tmp (d:=(.val (.bool ((((x.a != 0)||(x.b != 0))||!(kT x.n)))))) rfl .nil),?_⟩
  rw[show unuB x=_ from if_pos h1];rfl
 ·replace h1:=ne_of_beq_false h1
  refine jF<|jB<|kx [(2,(vb ((decide ((qB x.op)<0)||(decide ((qB x.op)<2)&&(x.b != 0)))||!(zeroR x.n))))] [] ?_ ?_
  ·refine zM<|zE gX<|zE (oV (vb (decide ((qB x.op)<0))) (qA (by kernel_rfl)))<|?_
   rcases hb4:(decide ((qB x.op)<0)) with _ | _
   ·replace hb4:=vT hb4
    refine zM<|zE gX<|zE (oV (vb (decide ((qB x.op)<2))) (qA (by kernel_rfl)))<|?_
    rcases hb5:(decide ((qB x.op)<2)) with _ | _
    ·replace hb5:=vT hb5
     exact zK<|zK<|zK<|zE yD<|zE yD<|zM<|zE (kK mL)<|zR (kP jT)<|zE (kB (g_zero x.n (qS x.n) (jO hx)))<|zE cU<|zE aK<|zM<|zZ
    ·replace hb5:=vF hb5
     refine zE (kK vE)<|zR (qH uN)<|zE aZ<|zE fL<|zE aK<|zE (oV (vb (false||(true&&(x.b != 0)))) (qA (by kernel_rfl)))<|?_
     rcases hb6:(false||(true&&(x.b != 0))) with _ | _
     ·exact zE (kK mL)<|zR (kP jT)<|zE (kB (g_zero x.n (qS x.n) (jO hx)))<|zE cU<|zE aK<|zM<|zZ
     ·exact zK<|zK<|zK<|zK<|zE nO<|zM<|zZ
   ·replace hb4:=vF hb4
    exact zK<|zK<|zK<|zK<|zK<|zK<|zK<|zE nO<|zM<|zK<|zK<|zK<|zK<|zE nO<|zM<|zZ
  refine jE ⟨_,(.tmp (d:=(.val (.bool (((decide ((qB x.op)<0)||(decide ((qB x.op)<2)&&(x.b != 0)))||!(zeroR x.n)))))) rfl .nil),?_⟩
  rw[show unuB x=_ from if_neg h1];rfl
theorem u_sizes(t:List jS)(ht:gR 1048576 t)(z:Int):jP prog 37 [(.sl 72 7 (map jN t)),(.val (.int .i64 (z)))] (.tup [(.sl 3 1 (map jL (tmL z t))),(.val (.int .i64 ((((yT z t):Nat):Int))))]):=by
 refine vD func37 ?_
 refine jB<|kx [] [] (zE (aN 3 1)<|zM<|zZ) ?_
 refine jB<|jB<|kx [(16,(vb (decide (z<0)||decide (64<z))))] [] ?_ ?_
 ·refine zM<|zE gX<|zE (oV (vb (decide (z<0))) (qA (by kernel_rfl)))<|?_
  rcases hb1:(decide (z<0)) with _ | _
  ·replace hb1:=vT hb1
   exact zM<|zE eR<|zE aK<|zZ
  ·replace hb1:=vF hb1
   exact zK<|zK<|zE nO<|zZ
 refine jD (b:=(decide (z<0)||decide (64<z))) rfl (λh2=>?_) (λh2=>?_)
 ·refine jB<|kx [(4,(vl 3 1 jL [])),(5,(kE 2))] [] (zE (aN 3 1)<|zM<|zZ) ?_
  refine jE ⟨_,(.tmp (d:=(.sl 3 1 (map jL []))) rfl (.tmp (d:=(.val (.int .i64 (2)))) rfl .nil)),?_⟩
  have he:=zb_t (t:=t) h2
  rw[he.1,he.2];rfl
 ·have hz0:=h2
  refine jF<|jB<|jB<|kx [(19,(vb (((t.length:Nat):Int) == 0)))] [] (zM<|zE (yA zY)<|zE xL<|zZ) ?_
  refine jD (b:=(((t.length:Nat):Int) == 0)) rfl (λh3=>?_) (λh3=>?_)
  ·replace h3:=eq_of_beq h3
   refine jB<|kx [(4,(vl 3 1 jL [])),(5,(kE 1))] [] (zE (aN 3 1)<|zM<|zZ) ?_
   refine jE ⟨_,(.tmp (d:=(.sl 3 1 (map jL []))) rfl (.tmp (d:=(.val (.int .i64 (1)))) rfl .nil)),?_⟩
   have he:=tm_l0 hz0 (show t.length=0 by omega)
   rw[he.1,he.2];rfl
  ·replace h3:=ne_of_beq_false h3
   have h0:=h3
   refine jF<|jB<|jB<|kx [(22,(vb (decide (400<((t.length:Nat):Int)))))] [] (zM<|zE (yA zY)<|zE eR<|zZ) ?_
   refine jD (b:=decide (400<((t.length:Nat):Int))) rfl (λh4=>?_) (λh4=>?_)
   ·replace h4:=vF h4
    refine jB<|kx [(4,(vl 3 1 jL [])),(5,(kE 3))] [] (zE (aN 3 1)<|zM<|zZ) ?_
    refine jE ⟨_,(.tmp (d:=(.sl 3 1 (map jL []))) rfl (.tmp (d:=(.val (.int .i64 (3)))) rfl .nil)),?_⟩
    have he:=tm_lb hz0 (show 400<t.length by omega)
    rw[he.1,he.2];rfl
   ·replace h4:=vT h4
    have h400:=h4
    refine jF<|jB<|kx [(6,(.own 0 3 1 0))] [(0,some (bm jL []))] (zN (oBo 0 uR ze3 zo3)<|zM<|zZ) ?_
    refine jB<|jB<|kx [(24,(vl 72 7 jN t)),(25,(kE t.length)),(26,(kE 0))] [] (zM<|zE (yA zY)<|zM<|zZ) ?_
    refine jH<|kR (α:=Nat × List Int) (λ(k,o)=>⟨[(1,(vi z)),(6,(.own 0 3 1 o.length)),(24,(vl 72 7 jN t)),(25,(kE t.length)),(26,(kE k))],[(0,some (bm jL o))]⟩) (λ(k,o)=>k<=t.length/\o=gM t k/\bN z t k) (λ(k,o)=>t.length-k) (0,[]) wk ⟨Nat.zero_le _,rfl,szUp_0 _ _⟩ ?_
    rintro ⟨k,o⟩ ⟨hk,ho,hu⟩
    have hol:o.length=k:=by rw[ho];exact xE _ _
    refine jB<|kx [(27,(vb (decide (((k:Nat):Int)<((t.length:Nat):Int)))))] [] (zE gX<|zZ) ?_
    refine jB<|jD rfl (λh5=>?_) (λh5=>?_)
    ·replace h5:=vF h5
     have hR:=tmr hz0 h5 h400 hu
     have hkl:=hR.kl
     refine jF<|jB<|jH<|jB<|kx [(7,(kE k)),(8,(.ref 1 0))] [(1,some (bx (jN (t.getD k tz))))] (zM<|zE (cB zY k (tz:jS))<|zE (mR cT)<|zH (vB 1 dW fZ)<|zM<|zT (qL cT)<|zZ) ?_
     refine jB<|jB<|kx [(32,(vb (unuB (t.getD k tz))))] [] (zR (kP cT)<|zE (kB (u_uns (t.getD k tz) (tn_get ht (show k<t.length by omega))))<|zZ) ?_
     refine jD (b:=(unuB (t.getD k tz))) rfl (λh6=>?_) (λh6=>?_)
     ·refine jB<|kx [(4,(vl 3 1 jL [])),(5,(kE 1))] [] (zE (aN 3 1)<|zM<|zZ) ?_
      refine jE ⟨_,(.tmp (d:=(.sl 3 1 (map jL []))) rfl (.tmp (d:=(.val (.int .i64 (1)))) rfl .nil)),?_⟩
      have he:=hR.bad (by rw[<- unu_bad];exact h6)
      rw[he.1,he.2];rfl
     ·have hB:badB (t.getD k tz)=false:=by rw[<- unu_bad];exact h6
      refine jF<|jB<|kx [(9,(vi (qB ((t.getD k tz).op))))] [] (zE (kK xN)<|zR (qH cN)<|zE (kB (r_kids ((t.getD k tz).op)))<|zM<|zZ) ?_
      refine jB<|jB<|kx [(63,(vb ((decide (1<=(qB ((t.getD k tz).op)))&&(decide ((t.getD k tz).a<0)||decide (((k:Nat):Int)<=(t.getD k tz).a)))||(((qB ((t.getD k tz).op)) == 2)&&(decide ((t.getD k tz).b<0)||decide (((k:Nat):Int)<=(t.getD k tz).b))))))] [] ?_ ?_
      ·refine zM<|zE oGe<|zE (oV (vb (decide (1<=(qB ((t.getD k tz).op))))) (qA (by kernel_rfl)))<|?_
       rcases hb7:(decide (1<=(qB ((t.getD k tz).op)))) with _ | _
       ·replace hb7:=vT hb7
        refine zK<|zK<|zK<|zK<|zK<|zK<|zK<|zK<|zK<|zE yD<|zM<|zM<|zE xL<|zE (oV (vb ((qB ((t.getD k tz).op)) == 2)) (qA (by kernel_rfl)))<|?_
        rcases hb8:((qB ((t.getD k tz).op)) == 2) with _ | _
        ·replace hb8:=ne_of_beq_false hb8
         exact zK<|zK<|zK<|zK<|zK<|zK<|zK<|zK<|zK<|zE yD<|zE yD<|zZ
        ·replace hb8:=eq_of_beq hb8
         refine zE (kK vE)<|zR (qH uN)<|zE gX<|zE (oV (vb (decide ((t.getD k tz).b<0))) (qA (by kernel_rfl)))<|?_
         rcases hb9:(decide ((t.getD k tz).b<0)) with _ | _
         ·replace hb9:=vT hb9
          exact zE (kK vE)<|zR (qH uN)<|zM<|zE oGe<|zE aK<|zE fL<|zE aK<|zZ
         ·replace hb9:=vF hb9
          exact zK<|zK<|zK<|zK<|zE nO<|zE nO<|zE yD<|zZ
       ·replace hb7:=vF hb7
        refine zE (kK qN)<|zR (qH uN)<|zE gX<|zE (oV (vb (decide ((t.getD k tz).a<0))) (qA (by kernel_rfl)))<|?_
        rcases hb10:(decide ((t.getD k tz).a<0)) with _ | _
        ·replace hb10:=vT hb10
         refine zE (kK qN)<|zR (qH uN)<|zM<|zE oGe<|zE aK<|zE fL<|zE (oV (vb (true&&(false||decide (((k:Nat):Int)<=(t.getD k tz).a)))) (qA (by kernel_rfl)))<|?_
         rcases hb11:(decide (((k:Nat):Int)<=(t.getD k tz).a)) with _ | _
         ·replace hb11:=vT hb11
          refine zM<|zE xL<|zE (oV (vb ((qB ((t.getD k tz).op)) == 2)) (qA (by kernel_rfl)))<|?_
          rcases hb12:((qB ((t.getD k tz).op)) == 2) with _ | _
          ·replace hb12:=ne_of_beq_false hb12
           exact zK<|zK<|zK<|zK<|zK<|zK<|zK<|zK<|zK<|zE yD<|zE yD<|zZ
          ·replace hb12:=eq_of_beq hb12
           refine zE (kK vE)<|zR (qH uN)<|zE gX<|zE (oV (vb (decide ((t.getD k tz).b<0))) (qA (by kernel_rfl)))<|?_
           rcases hb13:(decide ((t.getD k tz).b<0)) with _ | _
           ·replace hb13:=vT hb13
            exact zE (kK vE)<|zR (qH uN)<|zM<|zE oGe<|zE aK<|zE fL<|zE aK<|zZ
           ·replace hb13:=vF hb13
            exact zK<|zK<|zK<|zK<|zE nO<|zE nO<|zE yD<|zZ
         ·replace hb11:=vF hb11
          exact zK<|zK<|zK<|zK<|zK<|zK<|zK<|zK<|zK<|zK<|zK<|zK<|zK<|zE nO<|zZ
        ·replace hb10:=vF hb10
         exact zK<|zK<|zK<|zK<|zE nO<|zE nO<|zM<|zK<|zK<|zK<|zK<|zK<|zK<|zK<|zK<|zK<|zK<|zK<|zK<|zK<|zE nO<|zZ
      refine jD rfl (λh14=>?_) (λh14=>?_)
      ·refine jB<|kx [(4,(vl 3 1 jL [])),(5,(kE 5))] [] (zE (aN 3 1)<|zM<|zZ) ?_
       refine jE ⟨_,(.tmp (d:=(.sl 3 1 (map jL []))) rfl (.tmp (d:=(.val (.int .i64 (5)))) rfl .nil)),?_⟩
       have he:=hR.ord hB (by rw[<- orD_eq];exact h14)
       rw[he.1,he.2];rfl
      ·have hO:ordB ((k:Nat):Int) (t.getD k tz)=false:=by rw[<- orD_eq];exact h14
       refine jF<|jB<|jB<|kx [(77,(vb (((t.getD k tz).op == 1)&&(decide ((t.getD k tz).a<0)||decide (z<=(t.getD k tz).a)))))] [] ?_ ?_
       ·refine zE (kK xN)<|zR (qH cN)<|zE xL<|zE (oV (vb ((t.getD k tz).op == 1)) (qA (by kernel_rfl)))<|?_
        rcases hb15:((t.getD k tz).op == 1) with _ | _
        ·replace hb15:=ne_of_beq_false hb15
         exact zK<|zK<|zK<|zK<|zK<|zK<|zK<|zK<|zK<|zE yD<|zZ
        ·replace hb15:=eq_of_beq hb15
         refine zE (kK qN)<|zR (qH uN)<|zE gX<|zE (oV (vb (decide ((t.getD k tz).a<0))) (qA (by kernel_rfl)))<|?_
         rcases hb16:(decide ((t.getD k tz).a<0)) with _ | _
         ·replace hb16:=vT hb16
          exact zE (kK qN)<|zR (qH uN)<|zM<|zE oGe<|zE aK<|zE fL<|zZ
         ·replace hb16:=vF hb16
          exact zK<|zK<|zK<|zK<|zE nO<|zE nO<|zZ
       refine jD rfl (λh17=>?_) (λh17=>?_)
       ·refine jB<|kx [(4,(vl 3 1 jL [])),(5,(kE 2))] [] (zE (aN 3 1)<|zM<|zZ) ?_
        refine jE ⟨_,(.tmp (d:=(.sl 3 1 (map jL []))) rfl (.tmp (d:=(.val (.int .i64 (2)))) rfl .nil)),?_⟩
        have he:=hR.rng hB hO h17
        rw[he.1,he.2];rfl
       ·have hN:=ndr hR hB hO h17
        refine jF<|jB<|kx [(10,(kE 1))] [] (zM<|zZ) ?_
        refine iC (α:=Int) (λv=>⟨[(1,(vi z)),(6,(.own 0 3 1 o.length)),(8,(.ref 1 0)),(9,(vi (qB ((t.getD k tz).op)))),(10,(vi v)),(24,(vl 72 7 jN t)),(25,(kE t.length)),(26,(kE k))],[(0,some (bm jL o)),(1,some (bx (jN (t.getD k tz))))]⟩) (λv=>((¬ 1<=qB (t.getD k tz).op->v=1)/\(1<=qB (t.getD k tz).op->v=(o.getD (((t.getD k tz).a).toNat) 0)))/\1<=v/\v<=4096) ?_ ?_
        ·refine jB<|kx [(79,(vb (decide (1<=(qB ((t.getD k tz).op))))))] [] (zM<|zE oGe<|zZ) ?_
         refine jD (b:=decide (1<=(qB ((t.getD k tz).op)))) rfl (λh18=>?_) (λh18=>?_)
         ·replace h18:=vF h18
          have hka:=h18
          obtain ⟨a1,a2,a3,a4⟩:=hN.a2 h18
          rw[<- ho] at a3 a4
          refine kx [(10,(vi (o.getD (((t.getD k tz).a).toNat) 0)))] [] (zM<|zE (kK qN)<|zR (qH uN)<|zE (yF uR (((t.getD k tz).a).toNat))<|zR (fE uN (((t.getD k tz).a).toNat) (0:Int))<|zM<|zZ) ?_
          exact met (o.getD (((t.getD k tz).a).toNat) 0) wk (⟨⟨λhx=>absurd hka hx,λ_=>rfl⟩,a3,a4⟩)
         ·replace h18:=vT h18
          have hka:=h18
          refine jF ?_
          exact met 1 wk (⟨⟨λ_=>rfl,λhx=>absurd hx hka⟩,by decide,by decide⟩)
        ·rintro v ⟨hv1,hv2,hv3⟩
         refine iC (α:=Int) (λw=>⟨[(1,(vi z)),(6,(.own 0 3 1 o.length)),(8,(.ref 1 0)),(9,(vi (qB ((t.getD k tz).op)))),(10,(vi w)),(24,(vl 72 7 jN t)),(25,(kE t.length)),(26,(kE k))],[(0,some (bm jL o)),(1,some (bx (jN (t.getD k tz))))]⟩) (λw=>(((t.getD k tz).op=7->w=2*v)/\((t.getD k tz).op≠7->w=v))/\1<=w/\w<=8192) ?_ ?_
         ·refine jB<|kx [(87,(vb ((t.getD k tz).op == 7)))] [] (zE (kK xN)<|zR (qH cN)<|zE xL<|zZ) ?_
          refine jD (b:=((t.getD k tz).op == 7)) rfl (λh19=>?_) (λh19=>?_)
          ·replace h19:=eq_of_beq h19
           refine kx [(10,(vi (2*v)))] [] (zM<|zE (zMl (2*v))<|zM<|zZ) ?_
           exact met (2*v) wk (⟨⟨λ_=>rfl,λhx=>absurd h19 hx⟩,by omega,by omega⟩)
          ·replace h19:=ne_of_beq_false h19
           refine jF ?_
           exact met v wk (⟨⟨λhx=>absurd hx h19,λ_=>rfl⟩,hv2,by omega⟩)
         ·rintro w ⟨hw1,hw2,hw3⟩
          refine iC (α:=Int) (λu=>⟨[(1,(vi z)),(6,(.own 0 3 1 o.length)),(10,(vi u)),(24,(vl 72 7 jN t)),(25,(kE t.length)),(26,(kE k))],[(0,some (bm jL o))]⟩) (λu=>u=mP (gM t k) (t.getD k tz)) ?_ ?_
          ·refine jB<|kx [(91,(vb ((qB ((t.getD k tz).op)) == 2)))] [] (zM<|zE xL<|zZ) ?_
           refine jD (b:=((qB ((t.getD k tz).op)) == 2)) rfl (λh20=>?_) (λh20=>?_)
           ·replace h20:=eq_of_beq h20
            have hk2:=h20
            obtain ⟨b1,b2,b3,b4⟩:=hN.b2 h20
            rw[<- ho] at b3 b4
            refine kx [(10,(vi (w+(o.getD (((t.getD k tz).b).toNat) 0))))] [] (zM<|zM<|zE (kK vE)<|zR (qH uN)<|zE (yF uR (((t.getD k tz).b).toNat))<|zR (fE uN (((t.getD k tz).b).toNat) (0:Int))<|zE (zAd (w+(o.getD (((t.getD k tz).b).toNat) 0)))<|zM<|zZ) ?_
            exact met (w+(o.getD (((t.getD k tz).b).toNat) 0)) wk (by rw[ho];rw[ho] at hv1;exact (szD_all hN.bad hv1 hw1).1 hk2)
           ·replace h20:=ne_of_beq_false h20
            refine jF ?_
            exact met w wk (by rw[ho] at hv1;exact (szD_all hN.bad hv1 hw1).2 h20)
          ·rintro u hv
           refine jB<|jB<|kx [(100,(vb (decide (4096<u))))] [] (zM<|zE eR<|zZ) ?_
           refine jD (b:=decide (4096<u)) rfl (λh21=>?_) (λh21=>?_)
           ·replace h21:=vF h21
            refine jB<|kx [(4,(vl 3 1 jL [])),(5,(kE 3))] [] (zE (aN 3 1)<|zM<|zZ) ?_
            refine jE ⟨_,(.tmp (d:=(.sl 3 1 (map jL []))) rfl (.tmp (d:=(.val (.int .i64 (3)))) rfl .nil)),?_⟩
            have he:=hN.bg hv h21
            rw[he.1,he.2];rfl
           ·replace h21:=vT h21
            refine jF<|kf [(6,(.own 0 3 1 ((o++[u]).length)))] [(0,some (bm jL (o++[u])))] (zM<|zM<|zE (fC uR ze3 zo3)<|zA jL o [u] rfl uR ze3 by3<|zM<|zF) ?_
            refine kx [(26,(kE (k+1)))] [] (zE (xO (k+1))<|zM<|zZ) ?_
            exact ⟨(k+1,o++[u]),wk,(by obtain ⟨q1,q2⟩:=hN.nx hv h21;exact ⟨by omega,by rw[<- q2,ho],q1⟩),(by first|omega|(dsimp only;omega))⟩
    ·replace h5:=vT h5
     refine kO<|jB<|kx [(4,(.own 0 3 1 o.length)),(5,(kE 0))] [] (zM<|zM<|zM<|zZ) ?_
     refine kS (xY (t:=4) (k:=0) (es:=map jL o) rfl rfl (vX _ _ (λ_=>rfl)) (vK _ _ rfl) (xV _ _ (λ_=>rfl) rfl)) ?_
     refine jE ⟨_,(.tmp (d:=(.sl 3 1 (map jL o))) rfl (.tmp (d:=(.val (.int .i64 (0)))) rfl .nil)),?_⟩
     have he:=tm_end2 hz0 h0 h400 hk h5 hu
     rw[he.1,he.2,<- ho];rfl
theorem u_chk(t:List jS)(ht:gR 1048576 t)(z:Int):jP prog 16 [(.sl 72 7 (map jN t)),(.val (.int .i64 (z)))] (.val (.int .i64 ((((yT z t):Nat):Int)))):=by
 refine vD func16 ?_
 refine jB<|kx [] [] (zM<|zZ) ?_
 refine jB<|kx [(6,(kE (yT z t)))] [] (zM<|zM<|zE (kB (u_sizes t ht z))<|zM<|zE zP<|zE zP<|zM<|zM<|zZ) ?_
 refine jB<|kx [(4,(kE (yT z t)))] [] (zM<|zM<|zZ) ?_
 refine jE ⟨_,(.tmp (d:=(.val (.int .i64 ((((yT z t):Nat):Int))))) rfl .nil),?_⟩
 rfl
end Go.Proofs.YtckccjhflbljgaaGreatDoor
namespace Go.Fid
open List
theorem g2:kQ (kN 2)=[2]:=by
 rw[grpI_ofZ]
 show ofNat 2=[2]
 rw[mC (by decide),show 2 / 1000000000=0 from rfl,uC]
def stnP(x y z u v f:Int):Prop:=(-1048576<=x/\x<=1048576)/\(-1048576<=y/\y<=1048576)/\(-1048576<=z/\z<=1048576)/\(-1048576<=u/\u<=1048576)/\(-1048576<=v/\v<=1048576)/\(1<=f/\f<=1048576)
instance {x y z u v f:Int}:Decidable (stnP x y z u v f):=by unfold stnP;infer_instance
def nq(a b c d:Int):Int:=(((a*a)+(b*b))+(c*c))+(d*d)
def N4(a b c d:Int):Rat:=((nq a b c d:Int):Rat)
def r02(a b c d:Int):Int:=2*((b*d)+(a*c))
def R02(a b c d:Int):Rat:=((r02 a b c d:Int):Rat)
def r12(a b c d:Int):Int:=2*((c*d)-(a*b))
def R12(a b c d:Int):Rat:=((r12 a b c d:Int):Rat)
def r22(a b c d:Int):Int:=(((a*a)-(b*b))-(c*c))+(d*d)
def R22(a b c d:Int):Rat:=((r22 a b c d:Int):Rat)
def gcd3(a b c:Rat):Int:=((Int.gcd a.num ((Int.gcd b.num c.num:Nat):Int):Nat):Int)
def redK(a b c:Rat):Rat:=Rat.divInt 1 (gcd3 a b c)
def dq0(a b c d p q r s:Int):Rat:=(R02 a b c d*N4 p q r s)+(R02 p q r s*N4 a b c d)
def dq1(a b c d p q r s:Int):Rat:=(R12 a b c d*N4 p q r s)+(R12 p q r s*N4 a b c d)
def dq2(a b c d p q r s:Int):Rat:=(R22 a b c d*N4 p q r s)+(R22 p q r s*N4 a b c d)
def RFr(lx ly lz la lb lc ld rx ry rz ra rb rc rd:Int)(b0 b1 b2 e00 e01 e02 e10 e11 e12 e20 e21 e22:Rat):Prop :=
 (((rx-lx):Int):Rat)=b0 /\
 (((ry-ly):Int):Rat)=b1 /\
 (((rz-lz):Int):Rat)=b2 /\
 b0*redK b0 b1 b2=e00 /\
 b1*redK b0 b1 b2=e01 /\
 b2*redK b0 b1 b2=e02 /\
 (((dq1 la lb lc ld ra rb rc rd)*e02)-((dq2 la lb lc ld ra rb rc rd)*e01))*redK (((dq1 la lb lc ld ra rb rc rd)*e02)-((dq2 la lb lc ld ra rb rc rd)*e01)) (((dq2 la lb lc ld ra rb rc rd)*e00)-((dq0 la lb lc ld ra rb rc rd)*e02)) (((dq0 la lb lc ld ra rb rc rd)*e01)-((dq1 la lb lc ld ra rb rc rd)*e00))=e10 /\
 (((dq2 la lb lc ld ra rb rc rd)*e00)-((dq0 la lb lc ld ra rb rc rd)*e02))*redK (((dq1 la lb lc ld ra rb rc rd)*e02)-((dq2 la lb lc ld ra rb rc rd)*e01)) (((dq2 la lb lc ld ra rb rc rd)*e00)-((dq0 la lb lc ld ra rb rc rd)*e02)) (((dq0 la lb lc ld ra rb rc rd)*e01)-((dq1 la lb lc ld ra rb rc rd)*e00))=e11 /\
 (((dq0 la lb lc ld ra rb rc rd)*e01)-((dq1 la lb lc ld ra rb rc rd)*e00))*redK (((dq1 la lb lc ld ra rb rc rd)*e02)-((dq2 la lb lc ld ra rb rc rd)*e01)) (((dq2 la lb lc ld ra rb rc rd)*e00)-((dq0 la lb lc ld ra rb rc rd)*e02)) (((dq0 la lb lc ld ra rb rc rd)*e01)-((dq1 la lb lc ld ra rb rc rd)*e00))=e12 /\
 ((e01*e12)-(e02*e11))*redK ((e01*e12)-(e02*e11)) ((e02*e10)-(e00*e12)) ((e00*e11)-(e01*e10))=e20 /\
 ((e02*e10)-(e00*e12))*redK ((e01*e12)-(e02*e11)) ((e02*e10)-(e00*e12)) ((e00*e11)-(e01*e10))=e21 /\
 ((e00*e11)-(e01*e10))*redK ((e01*e12)-(e02*e11)) ((e02*e10)-(e00*e12)) ((e00*e11)-(e01*e10))=e22
instance {lx ly lz la lb lc ld rx ry rz ra rb rc rd:Int} {b0 b1 b2 e00 e01 e02 e10 e11 e12 e20 e21 e22:Rat}:Decidable (RFr lx ly lz la lb lc ld rx ry rz ra rb rc rd b0 b1 b2 e00 e01 e02 e10 e11 e12 e20 e21 e22):=by unfold RFr;infer_instance
section
variable {lx ly lz la lb lc ld rx ry rz ra rb rc rd:Int} {b0 b1 b2 e00 e01 e02 e10 e11 e12 e20 e21 e22:Rat}
end
end Go.Fid
namespace Go.Proofs.YtckccjhflbljgaaGreatDoor
open List Tryz
open Go.Fid
theorem m_vlist(l:List kY)(hl:RowOk 1048576 l):jP prog 15 [(.sl 32 4 (map jJ l))] (.val (.bool ((vRow l)))):=by
 have hb:=hl.2
 refine vD func15 ?_
 refine jB<|kx [] [] (zM<|zZ) ?_
 refine jB<|jB<|kx [(3,(kE 0))] [] (zM<|zZ) ?_
 refine jH<|kR (α:=Nat) (λi=>⟨[(0,(vl 32 4 jJ l)),(3,(kE i))],[]⟩) (λi=>i<=l.length/\(l.take i).all kT=true) (λi=>l.length-i) 0 wk ⟨Nat.zero_le _,by simp⟩ ?_
 rintro i ⟨hi,hal⟩
 refine jB<|jB<|kx [(7,(vb (decide (((i:Nat):Int)<((l.length:Nat):Int)))))] [] (zM<|zM<|zE (yA uA)<|zE gX<|zZ) ?_
 refine jD rfl (λh1=>?_) (λh1=>?_)
 ·replace h1:=vF h1
  refine jF<|jB<|jH<|jB<|kx [(15,(vb (!(kT (l.getD i qX)))))] [] (zM<|zM<|zE (cB uA i qX)<|zE (mR jT)<|zE (kB (iZ (l.getD i qX) (qS (l.getD i qX)) (jO (qok_at hl.1 (show i<l.length by omega)))))<|zE cU<|zZ) ?_
  refine jD rfl (λh2=>?_) (λh2=>?_)
  ·refine jB<|kx [(2,(vb false))] [] (zM<|zZ) ?_
   refine jE ⟨_,(.tmp (d:=(.val (.bool (false)))) rfl .nil),?_⟩
   rw[show vRow l=false from all_not (f:=kT) (l:=l) (i:=i) (d:=qX) (by omega) (by simpa using h2)];rfl
  ·refine jF<|kx [(3,(kE (i+1)))] [] (zM<|zE (xO (i+1))<|zM<|zZ) ?_
   exact ⟨(i+1),wk,⟨by omega,all_take (d:=qX) (by omega) hal (by simpa using h2)⟩,(by first|omega|(dsimp only;omega))⟩
 ·replace h1:=vT h1
  have hie:i=l.length:=by omega
  rw[hie,take_length] at hal
  refine kO<|jB<|kx [(2,(vb true))] [] (zM<|zZ) ?_
  refine jE ⟨_,(.tmp (d:=(.val (.bool (true)))) rfl .nil),?_⟩
  rw[show vRow l=true from hal];rfl
end Go.Proofs.YtckccjhflbljgaaGreatDoor
namespace Go.Fid
open List
theorem den_pos(u:Rat):((u.den:Nat):Int)≠0:=by have:=u.den_pos;omega
end Go.Fid
namespace Go.Proofs.YtckccjhflbljgaaGreatDoor
open List Tryz
open Go.Fid
def zQ(zs:List Int):List Rat:=zs.map λz:Int=>(z:Rat)
theorem zQ_ql{zs:List Int}(h:∀ z∈zs,-9223372036854775808<=z/\z<=9223372036854775807):∀ q∈zQ zs,QL q 3:=λq hq=>by
 obtain ⟨z,hz,rfl⟩:=mem_map.1 hq
 exact vL (cE (h z hz).1 (h z hz).2) (by decide)
theorem vrow_of(l:List Rat):vRow (map jM l)=true:=by
 unfold vRow
 rw[all_eq_true]
 intro a ha
 obtain ⟨r,h1,rfl⟩:=mem_map.1 ha
 exact cP _
instance (n:Nat) (a:R2):Decidable (GL n a):=by unfold GL QL;infer_instance
theorem zs_at{zs:List Int}(h:∀ z∈zs,-9223372036854775808<=z/\z<=9223372036854775807){i:Nat}(hi:i<zs.length):-9223372036854775808<=zs.getD i 0/\zs.getD i 0<=9223372036854775807:=by
 rw[getD_eq_getElem?_getD,getElem?_eq_getElem hi];exact h _ (getElem_mem _)
theorem run_p4{bv:List R2}{t:List jS}(hbx:∀ x∈bv,GL 1048576 x)(ht:gR 1048576 t)(h:JRun bv t)(ho:∀ k,k<t.length->okOp (t.getD k tz)):JRunP bv t:=⟨h,λk hk=>by
 have h0:=dF h.c0
 have hl:=gZ bv t k
 exact e_stepN0 _ bv hbx _ (by omega) (by omega) (h.upto (by omega)) (h.nd ht hk) (ho k hk)⟩
theorem u_valU(t:List jS)(ht:gR 1048576 t)(xs:List Rat)(hx:∀ q∈xs,QL q 1048576)(k0:Nat)(hf:VEnd xs t k0)(hxb:xs.length<=1000000):jP prog 12 [(.sl 72 7 (map jN t)),(.sl 32 4 (map jJ (map jM xs)))] (.tup [(jJ (vlR xs t k0)),(.val (.int .i64 ((vlC t k0))))]):=by
 have hxn:((map jM xs).length)=xs.length:=length_map _
 have h0:=dF hf.c0
 have hk9:=hf.hk
 let y2:=qX
 let y1:=(bx (jJ y2))
 refine vD func12 ?_
 refine jB<|kx [(4,(.ref 0 0))] [(0,some y1)] (zN (vB 0 uO vP)<|zM<|zZ) ?_
 refine jB<|jB<|kx [(15,(vb false))] [] (zM<|zE (nA true (kB (m_vlist (map jM xs) (pts_row hx (by omega)))) (by exact (vrow_of xs)))<|zE cU<|zZ) ?_
 refine uI ?_
 refine jF<|jB<|jB<|kx [(6,(kE (yT ((xs.length:Nat):Int) t)))] [] (zM<|zM<|zE (oLn uA xs.length)<|zE (kB (u_chk t ht ((xs.length:Nat):Int)))<|zM<|zZ) ?_
 refine jB<|kx [(22,(vb false))] [] (zM<|zE (nA false aZ (by exact bne_eq_false_iff_eq.2 (by rw[show (yT ((xs.length:Nat):Int) t)=0 from hf.c0]<;>rfl)))<|zZ) ?_
 refine uI ?_
 refine jF<|jB<|kx [(7,(.own 1 32 4 0))] [(1,some (uD jJ []))] (zN (oBo 1 uA uO vP)<|zM<|zZ) ?_
 refine jB<|jB<|kx [(26,(vl 72 7 jN t)),(27,(kE t.length)),(28,(kE 0))] [] (zM<|zE (yA zY)<|zM<|zZ) ?_
 refine jH<|kR (α:=Nat × List kY) (λ(k,o)=>⟨[(1,(vl 32 4 jJ (map jM xs))),(4,(.ref 0 0)),(7,(.own 1 32 4 o.length)),(26,(vl 72 7 jN t)),(27,(kE t.length)),(28,(kE k))],[(0,some y1),(1,some (uD jJ o))]⟩) (λ(k,o)=>k<=k0/\o=map jM (vU xs t k)) (λ(k,o)=>t.length-k) (0,[]) wk ⟨Nat.zero_le _,rfl⟩ ?_
 rintro ⟨k,o⟩ ⟨hk,ho⟩
 have hol:o.length=k:=by rw[ho,length_map];exact aD _ _ _
 have hget:∀ j,j<k->o.getD j qX=jM ((vU xs t k).getD j 0):=λj hj=>by rw[ho];exact bZ jM _ 0 _ (by rw[aD];exact hj)
 have hVq:=(hf.up.le hk).all
 refine jB<|kx [(29,(vb (decide (((k:Nat):Int)<((t.length:Nat):Int)))))] [] (zE gX<|zZ) ?_
 refine jB<|jD rfl (λh1=>?_) (λh1=>?_)
 ·replace h1:=vF h1
  have hN:=nd_at hf.c0 (show k<t.length by omega)
  refine jF<|jB<|jH<|jB<|kx [(9,(.ref 2 0))] [(2,some (bx (jN (t.getD k tz))))] (zE (cB zY k (tz:jS))<|zE (mR cT)<|zH (vB 2 dW fZ)<|zT (qL cT)<|zZ) ?_
  refine jB<|kx [(10,(.ref 3 0))] [(3,some (bx (jJ ((t.getD k tz).n))))] (zE (kK mL)<|zR (kP jT)<|zH (vB 3 uO vP)<|zT (qL jT)<|zZ) ?_
  refine jB<|jB<|kx [(35,(vi ((t.getD k tz).op)))] [] (zE (kK xN)<|zR (qH cN)<|zZ) ?_
  refine jH<|jB<|kx [(36,(vb ((t.getD k tz).op == ((1:Nat):Int))))] [] (zE xL<|zM<|zZ) ?_
  refine jD (b:=((t.getD k tz).op == ((1:Nat):Int))) rfl (λh2=>?_) (λh2=>?_)
  ·replace h2:=eq_of_beq h2
   have hop:=h2
   obtain ⟨a1,a2⟩:=hN.var h2
   have hlt:=hf.lt hk (show k<t.length by omega) (by rw[hop];decide)
   refine kx [] [(3,some (bx (jJ (jM (xs.getD (((t.getD k tz).a).toNat) 0)))))] (zM<|zE (kK qN)<|zR (qH uN)<|zE (iO uA jM (((t.getD k tz).a).toNat) 0)<|zE (mR jT)<|zT (qL jT)<|zZ) ?_
   refine kf [(7,(.own 1 32 4 ((o++[(jM (xs.getD (((t.getD k tz).a).toNat) 0))]).length)))] [(1,some (uD jJ (o++[(jM (xs.getD (((t.getD k tz).a).toNat) 0))])))] (zM<|zR (kP jT)<|zE (fC uA uO vP)<|zAS jJ o [(jM (xs.getD (((t.getD k tz).a).toNat) 0))] rfl uA uO by32<|zM<|zF) ?_
   refine kx [(28,(kE (k+1)))] [] (zE (xO (k+1))<|zM<|zZ) ?_
   exact ⟨(k+1,o++[jM (xs.getD ((t.getD k tz).a.toNat) 0)]),wk,⟨by omega,by rw[ho];exact vU_nx (vV_1 hop)⟩,(by first|omega|(dsimp only;omega))⟩
  ·replace h2:=ne_of_beq_false h2
   refine jB<|kx [(43,(vb ((t.getD k tz).op == ((2:Nat):Int))))] [] (zE xL<|zM<|zZ) ?_
   refine jD (b:=((t.getD k tz).op == ((2:Nat):Int))) rfl (λh3=>?_) (λh3=>?_)
   ·replace h3:=eq_of_beq h3
    have hop:=h3
    obtain ⟨⟨a1,a2⟩,b1,b2⟩:=hN.bin (.inl h3)
    have hlt:=hf.lt hk (show k<t.length by omega) (by rw[hop];decide)
    refine kd [] [(3,some (bx (jJ (jM (((vU xs t k).getD ((t.getD k tz).a.toNat) 0)+((vU xs t k).getD ((t.getD k tz).b.toNat) 0))))))] mo (wM<|wE (kK qN)<|wR (qH uN)<|wE (oXO uA (((t.getD k tz).a).toNat))<|wR (yN (jJ (o.getD (((t.getD k tz).a).toNat) y2)) (jJ (jM ((vU xs t k).getD ((t.getD k tz).a.toNat) 0))) (oLA jT (((t.getD k tz).a).toNat) y2) (by exact (congrArg jJ (hget _ (show (t.getD k tz).a.toNat<k by omega)))))<|wM<|wE (kK vE)<|wR (qH uN)<|wE (oXO uA (((t.getD k tz).b).toNat))<|wR (yN (jJ (o.getD (((t.getD k tz).b).toNat) y2)) (jJ (jM ((vU xs t k).getD ((t.getD k tz).b.toNat) 0))) (oLA jT (((t.getD k tz).b).toNat) y2) (by exact (congrArg jJ (hget _ (show (t.getD k tz).b.toNat<k by omega)))))<|wE (kB (g_add (jM ((vU xs t k).getD ((t.getD k tz).a.toNat) 0)) (jM ((vU xs t k).getD ((t.getD k tz).b.toNat) 0)) ((vU xs t k).getD ((t.getD k tz).a.toNat) 0) ((vU xs t k).getD ((t.getD k tz).b.toNat) 0) (jO (jZ (qlg hVq (by decide) ((t.getD k tz).a.toNat)))) (jO (jZ (qlg hVq (by decide) ((t.getD k tz).b.toNat))))))<|wT (qL jT)<|wZ) ?_
    refine kf [(7,(.own 1 32 4 ((o++[(jM (((vU xs t k).getD ((t.getD k tz).a.toNat) 0)+((vU xs t k).getD ((t.getD k tz).b.toNat) 0)))]).length)))] [(1,some (uD jJ (o++[(jM (((vU xs t k).getD ((t.getD k tz).a.toNat) 0)+((vU xs t k).getD ((t.getD k tz).b.toNat) 0)))])))] (zM<|zR (kP jT)<|zE (fC uA uO vP)<|zAS jJ o [(jM (((vU xs t k).getD ((t.getD k tz).a.toNat) 0)+((vU xs t k).getD ((t.getD k tz).b.toNat) 0)))] rfl uA uO by32<|zM<|zF) ?_
    refine kx [(28,(kE (k+1)))] [] (zE (xO (k+1))<|zM<|zZ) ?_
    exact ⟨(k+1,o++[jM (((vU xs t k).getD ((t.getD k tz).a.toNat) 0)+((vU xs t k).getD ((t.getD k tz).b.toNat) 0))]),wk,⟨by omega,by rw[ho];exact vU_nx (vV_2 hop)⟩,(by first|omega|(dsimp only;omega))⟩
   ·replace h3:=ne_of_beq_false h3
    refine jB<|kx [(56,(vb ((t.getD k tz).op == ((3:Nat):Int))))] [] (zE xL<|zM<|zZ) ?_
    refine jD (b:=((t.getD k tz).op == ((3:Nat):Int))) rfl (λh4=>?_) (λh4=>?_)
    ·replace h4:=eq_of_beq h4
     have hop:=h4
     obtain ⟨⟨a1,a2⟩,b1,b2⟩:=hN.bin (.inr (.inl h4))
     have hlt:=hf.lt hk (show k<t.length by omega) (by rw[hop];decide)
     refine kd [] [(3,some (bx (jJ (jM (((vU xs t k).getD ((t.getD k tz).a.toNat) 0)-((vU xs t k).getD ((t.getD k tz).b.toNat) 0))))))] mo (wM<|wE (kK qN)<|wR (qH uN)<|wE (oXO uA (((t.getD k tz).a).toNat))<|wR (yN (jJ (o.getD (((t.getD k tz).a).toNat) y2)) (jJ (jM ((vU xs t k).getD ((t.getD k tz).a.toNat) 0))) (oLA jT (((t.getD k tz).a).toNat) y2) (by exact (congrArg jJ (hget _ (show (t.getD k tz).a.toNat<k by omega)))))<|wM<|wE (kK vE)<|wR (qH uN)<|wE (oXO uA (((t.getD k tz).b).toNat))<|wR (yN (jJ (o.getD (((t.getD k tz).b).toNat) y2)) (jJ (jM ((vU xs t k).getD ((t.getD k tz).b.toNat) 0))) (oLA jT (((t.getD k tz).b).toNat) y2) (by exact (congrArg jJ (hget _ (show (t.getD k tz).b.toNat<k by omega)))))<|wE (kB (g_sub (jM ((vU xs t k).getD ((t.getD k tz).a.toNat) 0)) (jM ((vU xs t k).getD ((t.getD k tz).b.toNat) 0)) ((vU xs t k).getD ((t.getD k tz).a.toNat) 0) ((vU xs t k).getD ((t.getD k tz).b.toNat) 0) (jO (jZ (qlg hVq (by decide) ((t.getD k tz).a.toNat)))) (jO (jZ (qlg hVq (by decide) ((t.getD k tz).b.toNat))))))<|wT (qL jT)<|wZ) ?_
     refine kf [(7,(.own 1 32 4 ((o++[(jM (((vU xs t k).getD ((t.getD k tz).a.toNat) 0)-((vU xs t k).getD ((t.getD k tz).b.toNat) 0)))]).length)))] [(1,some (uD jJ (o++[(jM (((vU xs t k).getD ((t.getD k tz).a.toNat) 0)-((vU xs t k).getD ((t.getD k tz).b.toNat) 0)))])))] (zM<|zR (kP jT)<|zE (fC uA uO vP)<|zAS jJ o [(jM (((vU xs t k).getD ((t.getD k tz).a.toNat) 0)-((vU xs t k).getD ((t.getD k tz).b.toNat) 0)))] rfl uA uO by32<|zM<|zF) ?_
     refine kx [(28,(kE (k+1)))] [] (zE (xO (k+1))<|zM<|zZ) ?_
     exact ⟨(k+1,o++[jM (((vU xs t k).getD ((t.getD k tz).a.toNat) 0)-((vU xs t k).getD ((t.getD k tz).b.toNat) 0))]),wk,⟨by omega,by rw[ho];exact vU_nx (vV_3 hop)⟩,(by first|omega|(dsimp only;omega))⟩
    ·replace h4:=ne_of_beq_false h4
     refine jB<|kx [(69,(vb ((t.getD k tz).op == ((4:Nat):Int))))] [] (zE xL<|zM<|zZ) ?_
     refine jD (b:=((t.getD k tz).op == ((4:Nat):Int))) rfl (λh5=>?_) (λh5=>?_)
     ·replace h5:=eq_of_beq h5
      have hop:=h5
      obtain ⟨⟨a1,a2⟩,b1,b2⟩:=hN.bin (.inr (.inr (.inl h5)))
      have hlt:=hf.lt hk (show k<t.length by omega) (by rw[hop];decide)
      refine kd [] [(3,some (bx (jJ (jM (((vU xs t k).getD ((t.getD k tz).a.toNat) 0)*((vU xs t k).getD ((t.getD k tz).b.toNat) 0))))))] mo (wM<|wE (kK qN)<|wR (qH uN)<|wE (oXO uA (((t.getD k tz).a).toNat))<|wR (yN (jJ (o.getD (((t.getD k tz).a).toNat) y2)) (jJ (jM ((vU xs t k).getD ((t.getD k tz).a.toNat) 0))) (oLA jT (((t.getD k tz).a).toNat) y2) (by exact (congrArg jJ (hget _ (show (t.getD k tz).a.toNat<k by omega)))))<|wM<|wE (kK vE)<|wR (qH uN)<|wE (oXO uA (((t.getD k tz).b).toNat))<|wR (yN (jJ (o.getD (((t.getD k tz).b).toNat) y2)) (jJ (jM ((vU xs t k).getD ((t.getD k tz).b.toNat) 0))) (oLA jT (((t.getD k tz).b).toNat) y2) (by exact (congrArg jJ (hget _ (show (t.getD k tz).b.toNat<k by omega)))))<|wE (kB (g_mul (jM ((vU xs t k).getD ((t.getD k tz).a.toNat) 0)) (jM ((vU xs t k).getD ((t.getD k tz).b.toNat) 0)) ((vU xs t k).getD ((t.getD k tz).a.toNat) 0) ((vU xs t k).getD ((t.getD k tz).b.toNat) 0) (jO (jZ (qlg hVq (by decide) ((t.getD k tz).a.toNat)))) (jO (jZ (qlg hVq (by decide) ((t.getD k tz).b.toNat))))))<|wT (qL jT)<|wZ) ?_
      refine kf [(7,(.own 1 32 4 ((o++[(jM (((vU xs t k).getD ((t.getD k tz).a.toNat) 0)*((vU xs t k).getD ((t.getD k tz).b.toNat) 0)))]).length)))] [(1,some (uD jJ (o++[(jM (((vU xs t k).getD ((t.getD k tz).a.toNat) 0)*((vU xs t k).getD ((t.getD k tz).b.toNat) 0)))])))] (zM<|zR (kP jT)<|zE (fC uA uO vP)<|zAS jJ o [(jM (((vU xs t k).getD ((t.getD k tz).a.toNat) 0)*((vU xs t k).getD ((t.getD k tz).b.toNat) 0)))] rfl uA uO by32<|zM<|zF) ?_
      refine kx [(28,(kE (k+1)))] [] (zE (xO (k+1))<|zM<|zZ) ?_
      exact ⟨(k+1,o++[jM (((vU xs t k).getD ((t.getD k tz).a.toNat) 0)*((vU xs t k).getD ((t.getD k tz).b.toNat) 0))]),wk,⟨by omega,by rw[ho];exact vU_nx (vV_4 hop)⟩,(by first|omega|(dsimp only;omega))⟩
     ·replace h5:=ne_of_beq_false h5
      refine jB<|kx [(82,(vb ((t.getD k tz).op == ((6:Nat):Int))))] [] (zE xL<|zM<|zZ) ?_
      refine jD (b:=((t.getD k tz).op == ((6:Nat):Int))) rfl (λh6=>?_) (λh6=>?_)
      ·replace h6:=eq_of_beq h6
       have hop:=h6
       obtain ⟨a1,a2⟩:=hN.un (.inl h6)
       have hlt:=hf.lt hk (show k<t.length by omega) (by rw[hop];decide)
       refine kx [] [(3,some (bx (jJ (jM (-((vU xs t k).getD ((t.getD k tz).a.toNat) 0))))))] (zM<|zE (kK qN)<|zR (qH uN)<|zE (oXO uA (((t.getD k tz).a).toNat))<|zR (yN (jJ (o.getD (((t.getD k tz).a).toNat) y2)) (jJ (jM ((vU xs t k).getD ((t.getD k tz).a.toNat) 0))) (oLA jT (((t.getD k tz).a).toNat) y2) (by exact (congrArg jJ (hget _ (show (t.getD k tz).a.toNat<k by omega)))))<|zE (kB (g_neg (jM ((vU xs t k).getD ((t.getD k tz).a.toNat) 0)) ((vU xs t k).getD ((t.getD k tz).a.toNat) 0) (jO (jZ (qlg hVq (by decide) ((t.getD k tz).a.toNat))))))<|zT (qL jT)<|zZ) ?_
       refine kf [(7,(.own 1 32 4 ((o++[(jM (-((vU xs t k).getD ((t.getD k tz).a.toNat) 0)))]).length)))] [(1,some (uD jJ (o++[(jM (-((vU xs t k).getD ((t.getD k tz).a.toNat) 0)))])))] (zM<|zR (kP jT)<|zE (fC uA uO vP)<|zAS jJ o [(jM (-((vU xs t k).getD ((t.getD k tz).a.toNat) 0)))] rfl uA uO by32<|zM<|zF) ?_
       refine kx [(28,(kE (k+1)))] [] (zE (xO (k+1))<|zM<|zZ) ?_
       exact ⟨(k+1,o++[jM (-((vU xs t k).getD ((t.getD k tz).a.toNat) 0))]),wk,⟨by omega,by rw[ho];exact vU_nx (vV_6 hop)⟩,(by first|omega|(dsimp only;omega))⟩
      ·replace h6:=ne_of_beq_false h6
       refine jB<|kx [(90,(vb ((t.getD k tz).op == ((7:Nat):Int))))] [] (zE xL<|zM<|zZ) ?_
       refine jD (b:=((t.getD k tz).op == ((7:Nat):Int))) rfl (λh7=>?_) (λh7=>?_)
       ·replace h7:=eq_of_beq h7
        have hop:=h7
        obtain ⟨a1,a2⟩:=hN.un (.inr h7)
        have hlt:=hf.lt hk (show k<t.length by omega) (by rw[hop];decide)
        refine kd [] [(3,some (bx (jJ (jM (((vU xs t k).getD ((t.getD k tz).a.toNat) 0)*((vU xs t k).getD ((t.getD k tz).a.toNat) 0))))))] mo (wM<|wE (kK qN)<|wR (qH uN)<|wE (oXO uA (((t.getD k tz).a).toNat))<|wR (yN (jJ (o.getD (((t.getD k tz).a).toNat) y2)) (jJ (jM ((vU xs t k).getD ((t.getD k tz).a.toNat) 0))) (oLA jT (((t.getD k tz).a).toNat) y2) (by exact (congrArg jJ (hget _ (show (t.getD k tz).a.toNat<k by omega)))))<|wM<|wE (kK qN)<|wR (qH uN)<|wE (oXO uA (((t.getD k tz).a).toNat))<|wR (yN (jJ (o.getD (((t.getD k tz).a).toNat) y2)) (jJ (jM ((vU xs t k).getD ((t.getD k tz).a.toNat) 0))) (oLA jT (((t.getD k tz).a).toNat) y2) (by exact (congrArg jJ (hget _ (show (t.getD k tz).a.toNat<k by omega)))))<|wE (kB (g_mul (jM ((vU xs t k).getD ((t.getD k tz).a.toNat) 0)) (jM ((vU xs t k).getD ((t.getD k tz).a.toNat) 0)) ((vU xs t k).getD ((t.getD k tz).a.toNat) 0) ((vU xs t k).getD ((t.getD k tz).a.toNat) 0) (jO (jZ (qlg hVq (by decide) ((t.getD k tz).a.toNat)))) (jO (jZ (qlg hVq (by decide) ((t.getD k tz).a.toNat))))))<|wT (qL jT)<|wZ) ?_
        refine kf [(7,(.own 1 32 4 ((o++[(jM (((vU xs t k).getD ((t.getD k tz).a.toNat) 0)*((vU xs t k).getD ((t.getD k tz).a.toNat) 0)))]).length)))] [(1,some (uD jJ (o++[(jM (((vU xs t k).getD ((t.getD k tz).a.toNat) 0)*((vU xs t k).getD ((t.getD k tz).a.toNat) 0)))])))] (zM<|zR (kP jT)<|zE (fC uA uO vP)<|zAS jJ o [(jM (((vU xs t k).getD ((t.getD k tz).a.toNat) 0)*((vU xs t k).getD ((t.getD k tz).a.toNat) 0)))] rfl uA uO by32<|zM<|zF) ?_
        refine kx [(28,(kE (k+1)))] [] (zE (xO (k+1))<|zM<|zZ) ?_
        exact ⟨(k+1,o++[jM (((vU xs t k).getD ((t.getD k tz).a.toNat) 0)*((vU xs t k).getD ((t.getD k tz).a.toNat) 0))]),wk,⟨by omega,by rw[ho];exact vU_nx (vV_7 hop)⟩,(by first|omega|(dsimp only;omega))⟩
       ·replace h7:=ne_of_beq_false h7
        refine jB<|kx [(103,(vb ((t.getD k tz).op == ((5:Nat):Int))))] [] (zE xL<|zM<|zZ) ?_
        refine jD (b:=((t.getD k tz).op == ((5:Nat):Int))) rfl (λh8=>?_) (λh8=>?_)
        ·replace h8:=eq_of_beq h8
         have hop:=h8
         obtain ⟨⟨a1,a2⟩,b1,b2⟩:=hN.bin (.inr (.inr (.inr h8)))
         refine jB ?_
         rcases hlt0:(decide (k<k0)) with _ | _
         ·refine kd [(11,(.ref 4 0)),(12,(vi (divC ((vU xs t k).getD ((t.getD k tz).b.toNat) 0))))] [(4,some (bx (jJ (divR ((vU xs t k).getD ((t.getD k tz).a.toNat) 0) ((vU xs t k).getD ((t.getD k tz).b.toNat) 0)))))] mo (wM<|wE (kK qN)<|wR (qH uN)<|wE (oXO uA (((t.getD k tz).a).toNat))<|wR (yN (jJ (o.getD (((t.getD k tz).a).toNat) y2)) (jJ (jM ((vU xs t k).getD ((t.getD k tz).a.toNat) 0))) (oLA jT (((t.getD k tz).a).toNat) y2) (by exact (congrArg jJ (hget _ (show (t.getD k tz).a.toNat<k by omega)))))<|wM<|wE (kK vE)<|wR (qH uN)<|wE (oXO uA (((t.getD k tz).b).toNat))<|wR (yN (jJ (o.getD (((t.getD k tz).b).toNat) y2)) (jJ (jM ((vU xs t k).getD ((t.getD k tz).b.toNat) 0))) (oLA jT (((t.getD k tz).b).toNat) y2) (by exact (congrArg jJ (hget _ (show (t.getD k tz).b.toNat<k by omega)))))<|wE (kB (g_divide (jM ((vU xs t k).getD ((t.getD k tz).a.toNat) 0)) (jM ((vU xs t k).getD ((t.getD k tz).b.toNat) 0)) ((vU xs t k).getD ((t.getD k tz).a.toNat) 0) ((vU xs t k).getD ((t.getD k tz).b.toNat) 0) (jO (jZ (qlg hVq (by decide) ((t.getD k tz).a.toNat)))) (jO (jZ (qlg hVq (by decide) ((t.getD k tz).b.toNat))))))<|wM<|wE zP<|wE zP<|wH (hc:=by kernel_rfl) (vB 4 uO vP)<|wT (qL jT)<|wM<|wZ) ?_
          refine jB<|jB<|kx [(120,(vb true))] [] (zM<|zE (nA true aZ (by exact bne_iff_ne.2 (by rw[divC_zero (hf.at hk (show k<t.length by omega) hlt0)];decide)))<|zZ) ?_
          refine yP ?_
          refine jB<|kx [(5,(vi (divC ((vU xs t k).getD ((t.getD k tz).b.toNat) 0))))] [(0,some y1)] (zE (iS pl32 uO vP)<|zM<|zT (qL jT)<|zM<|zZ) ?_
          refine jE ⟨_,(kM (cs:=(bx (jJ qX))) (d:=(jJ qX)) rfl rfl jT rfl rfl (.tmp (d:=(.val (.int .i64 ((divC ((vU xs t k).getD ((t.getD k tz).b.toNat) 0)))))) rfl .nil)),?_⟩
          obtain ⟨e1,e2⟩:=hf.no hk (show k<t.length by omega) hlt0 (xs:=xs)
          rw[divC_zero (hf.at hk (show k<t.length by omega) hlt0),e1,e2];rfl
         ·refine kd [(11,(.ref 4 0)),(12,(vi 0))] [(4,some (bx (jJ (jM (((vU xs t k).getD ((t.getD k tz).a.toNat) 0) / ((vU xs t k).getD ((t.getD k tz).b.toNat) 0))))))] mo (wM<|wE (kK qN)<|wR (qH uN)<|wE (oXO uA (((t.getD k tz).a).toNat))<|wR (yN (jJ (o.getD (((t.getD k tz).a).toNat) y2)) (jJ (jM ((vU xs t k).getD ((t.getD k tz).a.toNat) 0))) (oLA jT (((t.getD k tz).a).toNat) y2) (by exact (congrArg jJ (hget _ (show (t.getD k tz).a.toNat<k by omega)))))<|wM<|wE (kK vE)<|wR (qH uN)<|wE (oXO uA (((t.getD k tz).b).toNat))<|wR (yN (jJ (o.getD (((t.getD k tz).b).toNat) y2)) (jJ (jM ((vU xs t k).getD ((t.getD k tz).b.toNat) 0))) (oLA jT (((t.getD k tz).b).toNat) y2) (by exact (congrArg jJ (hget _ (show (t.getD k tz).b.toNat<k by omega)))))<|wE (kB (by have h:=g_divide (jM ((vU xs t k).getD ((t.getD k tz).a.toNat) 0)) (jM ((vU xs t k).getD ((t.getD k tz).b.toNat) 0)) ((vU xs t k).getD ((t.getD k tz).a.toNat) 0) ((vU xs t k).getD ((t.getD k tz).b.toNat) 0) (jO (jZ (qlg hVq (by decide) ((t.getD k tz).a.toNat)))) (jO (jZ (qlg hVq (by decide) ((t.getD k tz).b.toNat))));rw[divR_ne (hf.up.dz k (vF hlt0) hop),divC_ne (hf.up.dz k (vF hlt0) hop)] at h;exact h))<|wM<|wE zP<|wE zP<|wH (hc:=by kernel_rfl) (vB 4 uO vP)<|wT (qL jT)<|wM<|wZ) ?_
          refine jB<|jB<|kx [(120,(vb false))] [] (zM<|zE (nA false aZ)<|zZ) ?_
          refine uI ?_
          refine jF<|kx [] [(3,some (bx (jJ (jM (((vU xs t k).getD ((t.getD k tz).a.toNat) 0) / ((vU xs t k).getD ((t.getD k tz).b.toNat) 0))))))] (zR (kP jT)<|zT (qL jT)<|zZ) ?_
          refine kS (wk (l:=[(1,(vl 32 4 jJ (map jM xs))),(4,(.ref 0 0)),(7,(.own 1 32 4 o.length)),(10,(.ref 3 0)),(26,(vl 72 7 jN t)),(27,(kE t.length)),(28,(kE k))]) (b:=[(0,some y1),(1,some (uD jJ o)),(3,some (bx (jJ (jM (((vU xs t k).getD ((t.getD k tz).a.toNat) 0) / ((vU xs t k).getD ((t.getD k tz).b.toNat) 0))))))])) ?_
          refine kf [(7,(.own 1 32 4 ((o++[(jM (((vU xs t k).getD ((t.getD k tz).a.toNat) 0) / ((vU xs t k).getD ((t.getD k tz).b.toNat) 0)))]).length)))] [(1,some (uD jJ (o++[(jM (((vU xs t k).getD ((t.getD k tz).a.toNat) 0) / ((vU xs t k).getD ((t.getD k tz).b.toNat) 0)))])))] (zM<|zR (kP jT)<|zE (fC uA uO vP)<|zAS jJ o [(jM (((vU xs t k).getD ((t.getD k tz).a.toNat) 0) / ((vU xs t k).getD ((t.getD k tz).b.toNat) 0)))] rfl uA uO by32<|zM<|zF) ?_
          refine kx [(28,(kE (k+1)))] [] (zE (xO (k+1))<|zM<|zZ) ?_
          exact ⟨(k+1,o++[jM (((vU xs t k).getD ((t.getD k tz).a.toNat) 0) / ((vU xs t k).getD ((t.getD k tz).b.toNat) 0))]),wk,⟨by have:=vF hlt0;omega,by rw[ho];exact vU_nx (vV_5 hop)⟩,(by first|omega|(dsimp only;omega))⟩
        ·replace h8:=ne_of_beq_false h8
         have hop:(t.getD k tz).op=0:=by
          have:=hN.op
          omega
         have hlt:=hf.lt hk (show k<t.length by omega) (by rw[hop];decide)
         refine jF<|kf [(7,(.own 1 32 4 ((o++[(t.getD k tz).n]).length)))] [(1,some (uD jJ (o++[(t.getD k tz).n])))] (zM<|zR (kP jT)<|zE (fC uA uO vP)<|zAS jJ o [(t.getD k tz).n] rfl uA uO by32<|zM<|zF) ?_
         refine kx [(28,(kE (k+1)))] [] (zE (xO (k+1))<|zM<|zZ) ?_
         exact ⟨(k+1,o++[(t.getD k tz).n]),wk,⟨by omega,by rw[ho];exact vU_nc (vV_0 hop) (hN.con hop)⟩,(by first|omega|(dsimp only;omega))⟩
 ·replace h1:=vT h1
  refine kO<|jB<|kx [(5,(kE 0))] [(0,some (bx (jJ (o.getD (o.length-1) y2))))] (zM<|zM<|zE (oLo uA)<|zE (oSb (o.length-1))<|zE (oXO uA (o.length-1))<|zR (oLA jT (o.length-1) y2)<|zT (qL jT)<|zM<|zZ) ?_
  refine jE ⟨_,(kM (cs:=(bx (jJ (o.getD (o.length-1) qX)))) (d:=(jJ (o.getD (o.length-1) qX))) rfl rfl jT rfl rfl (.tmp (d:=(.val (.int .i64 (((0:Nat):Int))))) rfl .nil)),?_⟩
  obtain rfl:k=t.length:=by omega
  obtain rfl:k0=t.length:=by omega
  rw[hol,hget _ (show t.length-1<t.length by omega),vlR_y,vlC_y];rfl
theorem u_val(t:List jS)(ht:gR 1048576 t)(xs:List Rat)(hx:∀ q∈xs,QL q 1048576)(hr:VRun xs t)(hxb:xs.length<=1000000):jP prog 12 [(.sl 72 7 (map jN t)),(.sl 32 4 (map jJ (map jM xs)))] (.tup [(jJ (jM (uJ xs t))),(.val (.int .i64 (((0:Nat):Int))))]):=by
 have h:=u_valU t ht xs hx t.length hr.fin hxb
 rw[vlR_y,vlC_y] at h
 exact h
def brX(x:kY):Bool:=if (decide (1<((x.num.gs.length:Nat):Int))||decide (1<((x.den.gs.length:Nat):Int)))=true then false else
 ((((x.num.gs.length:Nat):Int) == 0)||decide (((x.num.gs.getD 0 0:Nat):Int)<100000))&&((((x.den.gs.length:Nat):Int) == 0)||decide (((x.den.gs.getD 0 0:Nat):Int)<=100))
def shX(n:Nat)(x:kY):Bool:=!(decide (((n:Nat):Int)<((digR x:Nat):Int))||(decide (((n:Nat):Int)<=6)&&!(brX x)))
theorem shX_t{n:Nat}{x:kY}(h:(decide (((n:Nat):Int)<((digR x:Nat):Int))||(decide (((n:Nat):Int)<=6)&&!(brX x)))=true):shX n x=false:=by unfold shX;rw[h];rfl
theorem shX_f{n:Nat}{x:kY}(h:(decide (((n:Nat):Int)<((digR x:Nat):Int))||(decide (((n:Nat):Int)<=6)&&!(brX x)))=false):shX n x=true:=by unfold shX;rw[h];rfl
theorem shX_le{n:Nat}{x:kY}(h:shX n x=true):digR x<=n:=by
 unfold shX at h
 rw[Bool.not_eq_true',Bool.or_eq_false_iff,decide_eq_false_iff_not] at h
 omega
def shR(c n:Nat)(l:List kY):Bool:=decide (l.length<=c)&&l.all (shX n)
theorem all_up{α:Type}{f:α->Bool}{l:List α}{i:Nat}{d:α}(h:i<l.length)(ha:(l.take i).all f=true)(hf:f (l.getD i d)=true):(l.take (i+1)).all f=true:=by
 rw[take_all (d:=d) h,ha,hf];rfl
theorem all_no{α:Type}{f:α->Bool}{l:List α}{i:Nat}{d:α}(h:i<l.length)(hf:f (l.getD i d)=false):l.all f=false:=by
 cases hb:l.all f with
 |false=>rfl
 |true=>
  rw[getD_eq_getElem?_getD,getElem?_eq_getElem h,Option.getD_some,all_eq_true.1 hb _ (getElem_mem h)] at hf;cases hf
theorem shR_long{c n:Nat}{l:List kY}(h:((c:Nat):Int)<((l.length:Nat):Int)):shR c n l=false:=by unfold shR;rw[decide_eq_false (by omega)];rfl
theorem shR_no{c n:Nat}{l:List kY}(h:(l.all (shX n))=false):shR c n l=false:=by unfold shR;rw[h,Bool.and_false]
theorem shR_yes{c n:Nat}{l:List kY}(h0:¬ ((c:Nat):Int)<((l.length:Nat):Int))(h:(l.all (shX n))=true):shR c n l=true:=by unfold shR;rw[decide_eq_true (by omega),h];rfl
section
variable {A B C r l:Rat}
end
def VOps(t:List jS):Prop:=∀ k,k<t.length->(t.getD k tz).op=0\/(t.getD k tz).op=1\/(t.getD k tz).op=2\/(t.getD k tz).op=4\/(t.getD k tz).op=7
theorem bY{α:Type}{o V:List α}{k:Nat}{v:α}(h:o.take k=V)(hk:k<o.length):(o.set k v).take (k+1)=V++[v]:=by
 rw[take_succ_eq_append_getElem (by rw[length_set];omega),getElem_set_self,take_set_of_le (Nat.le_refl k),h]
theorem p_valU(t:List jS)(ht:gR 1048576 t)(xs:List Rat)(hx:∀ q∈xs,QL q 1048576)(k0:Nat)(hf:VEnd xs t k0)(hxb:xs.length<=1000000)(hvo:VOps t):jP prog 11 [(.sl 72 7 (map jN t)),(.sl 32 4 (map jJ (map jM xs)))] (.tup [(jJ (vlR xs t k0)),(.val (.int .i64 ((vlC t k0))))]):=by
 have hxn:((map jM xs).length)=xs.length:=length_map _
 have h0:=dF hf.c0
 have hk9:=hf.hk
 let y1:=qX
 refine vD func11 ?_
 refine jB<|kx [(4,(.ref 0 0))] [(0,some (bx (jJ y1)))] (zN (vB 0 uO vP)<|zM<|zZ) ?_
 refine jB<|jB<|kx [(13,(vl 32 4 jJ (map jM xs))),(14,(kE xs.length)),(15,(kE 0))] [] (zM<|zE (oLn uA xs.length)<|zM<|zZ) ?_
 refine jH<|kR (α:=Nat) (λi=>⟨[(0,(vl 72 7 jN t)),(1,(vl 32 4 jJ (map jM xs))),(4,(.ref 0 0)),(13,(vl 32 4 jJ (map jM xs))),(14,(kE xs.length)),(15,(kE i))],[(0,some (bx (jJ y1)))]⟩) (λi=>i<=xs.length) (λi=>xs.length-i) 0 wk (Nat.zero_le _) ?_
 rintro i hi
 refine jB<|kx [(16,(vb (decide (((i:Nat):Int)<((xs.length:Nat):Int)))))] [] (zE gX<|zZ) ?_
 refine jB<|jD rfl (λh1=>?_) (λh1=>?_)
 ·replace h1:=vF h1
  refine jF<|jB<|jH<|jB<|kx [(7,(.ref 1 0))] [(1,some (bx (jJ (jM (xs.getD i 0)))))] (zE (iO uA jM i 0)<|zE (mR jT)<|zN (vB 1 uO vP)<|zT (qL jT)<|zZ) ?_
  refine jB<|kx [(21,(vb (!(kT (jM (xs.getD i 0))))))] [] (zR (kP jT)<|zE (kB (f_valid (jM (xs.getD i 0)) (xs.getD i 0) (jO (jZ (cH hx (by decide) i)))))<|zE cU<|zZ) ?_
  refine jD (b:=!(kT (jM (xs.getD i 0)))) rfl (λh2=>?_) (λh2=>?_)
  ·exact absurd h2 (by rw[cP];decide)
  ·refine jF<|kx [(15,(kE (i+1)))] [] (zE (xO (i+1))<|zM<|zZ) ?_
   exact ⟨(i+1),wk,(by omega),(by first|omega|(dsimp only;omega))⟩
 ·replace h1:=vT h1
  refine kO<|jB<|jB<|kx [(8,(kE (yT ((xs.length:Nat):Int) t)))] [] (zM<|zM<|zE (oLn uA xs.length)<|zE (kB (j_chk t ht ((xs.length:Nat):Int)))<|zM<|zZ) ?_
  refine jB<|kx [(29,(vb false))] [] (zM<|zE (nA false aZ (by exact bne_eq_false_iff_eq.2 (by rw[show (yT ((xs.length:Nat):Int) t)=0 from hf.c0]<;>rfl)))<|zZ) ?_
  refine uI ?_
  refine jF<|jB<|kx [(9,(.own 2 32 4 t.length))] [(2,some (uD jJ (replicate t.length y1)))] (zM<|zE (yA zY)<|zN (oMkS 2 jJ y1 t.length t.length uA uO vP by32)<|zM<|zZ) ?_
  refine jB<|jB<|kx [(35,(vl 72 7 jN t)),(36,(kE t.length)),(37,(kE 0))] [] (zM<|zE (yA zY)<|zM<|zZ) ?_
  refine jH<|kR (α:=Nat × List kY) (λ(k,o)=>⟨[(1,(vl 32 4 jJ (map jM xs))),(4,(.ref 0 0)),(9,(.own 2 32 4 t.length)),(35,(vl 72 7 jN t)),(36,(kE t.length)),(37,(kE k))],[(0,some (bx (jJ y1))),(2,some (uD jJ o))]⟩) (λ(k,o)=>k<=k0/\o.length=t.length/\o.take k=map jM (vU xs t k)) (λ(k,o)=>t.length-k) (0,replicate t.length y1) wk ⟨Nat.zero_le _,length_replicate,rfl⟩ ?_
  rintro ⟨k,o⟩ ⟨hk,hol,ho⟩
  have hget:∀ j,j<k->o.getD j qX=jM ((vU xs t k).getD j 0):=λj hj=>by rw[<- take_getDr o _ hj,ho];exact bZ jM _ 0 _ (by rw[aD];exact hj)
  have hVq:=(hf.up.le hk).all
  refine jB<|kx [(38,(vb (decide (((k:Nat):Int)<((t.length:Nat):Int)))))] [] (zE gX<|zZ) ?_
  refine jB<|jD rfl (λh3=>?_) (λh3=>?_)
  ·replace h3:=vF h3
   have hN:=nd_at hf.c0 (show k<t.length by omega)
   refine jF<|jB<|jH<|jB<|kx [(10,(kE k)),(11,(.ref 3 0))] [(3,some (bx (jN (t.getD k tz))))] (zM<|zE (cB zY k (tz:jS))<|zE (mR cT)<|zH (vB 3 dW fZ)<|zM<|zT (qL cT)<|zZ) ?_
   refine jB<|kx [(43,(vi ((t.getD k tz).op)))] [] (zE (kK xN)<|zR (qH cN)<|zZ) ?_
   refine jH<|jB<|kx [(64,(vb ((t.getD k tz).op == ((0:Nat):Int))))] [] (zE xL<|zM<|zZ) ?_
   refine jD (b:=((t.getD k tz).op == ((0:Nat):Int))) rfl (λh4=>?_) (λh4=>?_)
   ·replace h4:=eq_of_beq h4
    have hop:=h4
    have hlt:=hf.lt hk (show k<t.length by omega) (by rw[hop];decide)
    refine kx [] [(2,some (uD jJ (o.set k ((t.getD k tz).n))))] (zM<|zM<|zE (kK mL)<|zR (kP jT)<|zE (oXO uA k)<|zT (oSA jT k ((t.getD k tz).n))<|zZ) ?_
    refine kx [(37,(kE (k+1)))] [] (zE (xO (k+1))<|zM<|zZ) ?_
    exact ⟨(k+1,o.set k (t.getD k tz).n),wk,⟨by omega,by rw[length_set];exact hol,by rw[bY ho (by omega)];exact vU_nc (vV_0 hop) (hN.con hop)⟩,(by first|omega|(dsimp only;omega))⟩
   ·replace h4:=ne_of_beq_false h4
    refine jB<|kx [(71,(vb ((t.getD k tz).op == ((1:Nat):Int))))] [] (zE xL<|zM<|zZ) ?_
    refine jD (b:=((t.getD k tz).op == ((1:Nat):Int))) rfl (λh5=>?_) (λh5=>?_)
    ·replace h5:=eq_of_beq h5
     have hop:=h5
     obtain ⟨a1,a2⟩:=hN.var h5
     have hlt:=hf.lt hk (show k<t.length by omega) (by rw[hop];decide)
     refine kx [] [(2,some (uD jJ (o.set k (jM (xs.getD (((t.getD k tz).a).toNat) 0)))))] (zM<|zM<|zM<|zE (kK qN)<|zR (qH uN)<|zE (iO uA jM (((t.getD k tz).a).toNat) 0)<|zE (mR jT)<|zE (oXO uA k)<|zT (oSA jT k (jM (xs.getD (((t.getD k tz).a).toNat) 0)))<|zZ) ?_
     refine kx [(37,(kE (k+1)))] [] (zE (xO (k+1))<|zM<|zZ) ?_
     exact ⟨(k+1,o.set k (jM (xs.getD ((t.getD k tz).a.toNat) 0))),wk,⟨by omega,by rw[length_set];exact hol,by rw[bY ho (by omega)];exact vU_nx (vV_1 hop)⟩,(by first|omega|(dsimp only;omega))⟩
    ·replace h5:=ne_of_beq_false h5
     refine jB<|kx [(81,(vb ((t.getD k tz).op == ((6:Nat):Int))))] [] (zE xL<|zM<|zZ) ?_
     refine jD (b:=((t.getD k tz).op == ((6:Nat):Int))) rfl (λh6=>?_) (λh6=>?_)
     ·replace h6:=eq_of_beq h6
      have:=hvo k (by omega);omega
     ·replace h6:=ne_of_beq_false h6
      refine jB<|kx [(92,(vb ((t.getD k tz).op == ((7:Nat):Int))))] [] (zE xL<|zM<|zZ) ?_
      refine jD (b:=((t.getD k tz).op == ((7:Nat):Int))) rfl (λh7=>?_) (λh7=>?_)
      ·replace h7:=eq_of_beq h7
       have hop:=h7
       obtain ⟨a1,a2⟩:=hN.un (.inr h7)
       have hlt:=hf.lt hk (show k<t.length by omega) (by rw[hop];decide)
       refine kd [] [(2,some (uD jJ (o.set k (jM (((vU xs t k).getD ((t.getD k tz).a.toNat) 0)*((vU xs t k).getD ((t.getD k tz).a.toNat) 0))))))] mo (wM<|wM<|wM<|wE (kK qN)<|wR (qH uN)<|wE (oXO uA (((t.getD k tz).a).toNat))<|wR (yN (jJ (o.getD (((t.getD k tz).a).toNat) y1)) (jJ (jM ((vU xs t k).getD ((t.getD k tz).a.toNat) 0))) (oLA jT (((t.getD k tz).a).toNat) y1) (by exact (congrArg jJ (hget _ (show (t.getD k tz).a.toNat<k by omega)))))<|wM<|wE (kK qN)<|wR (qH uN)<|wE (oXO uA (((t.getD k tz).a).toNat))<|wR (yN (jJ (o.getD (((t.getD k tz).a).toNat) y1)) (jJ (jM ((vU xs t k).getD ((t.getD k tz).a.toNat) 0))) (oLA jT (((t.getD k tz).a).toNat) y1) (by exact (congrArg jJ (hget _ (show (t.getD k tz).a.toNat<k by omega)))))<|wE (kB (f_mul (jM ((vU xs t k).getD ((t.getD k tz).a.toNat) 0)) (jM ((vU xs t k).getD ((t.getD k tz).a.toNat) 0)) ((vU xs t k).getD ((t.getD k tz).a.toNat) 0) ((vU xs t k).getD ((t.getD k tz).a.toNat) 0) (jO (jZ (qlg hVq (by decide) ((t.getD k tz).a.toNat)))) (jO (jZ (qlg hVq (by decide) ((t.getD k tz).a.toNat))))))<|wE (oXO uA k)<|wT (oSA jT k (jM (((vU xs t k).getD ((t.getD k tz).a.toNat) 0)*((vU xs t k).getD ((t.getD k tz).a.toNat) 0))))<|wZ) ?_
       refine kx [(37,(kE (k+1)))] [] (zE (xO (k+1))<|zM<|zZ) ?_
       exact ⟨(k+1,o.set k (jM (((vU xs t k).getD ((t.getD k tz).a.toNat) 0)*((vU xs t k).getD ((t.getD k tz).a.toNat) 0)))),wk,⟨by omega,by rw[length_set];exact hol,by rw[bY ho (by omega)];exact vU_nx (vV_7 hop)⟩,(by first|omega|(dsimp only;omega))⟩
      ·replace h7:=ne_of_beq_false h7
       refine jB<|kx [(108,(vb ((t.getD k tz).op == ((2:Nat):Int))))] [] (zE xL<|zM<|zZ) ?_
       refine jD (b:=((t.getD k tz).op == ((2:Nat):Int))) rfl (λh8=>?_) (λh8=>?_)
       ·replace h8:=eq_of_beq h8
        have hop:=h8
        obtain ⟨⟨a1,a2⟩,b1,b2⟩:=hN.bin (.inl h8)
        have hlt:=hf.lt hk (show k<t.length by omega) (by rw[hop];decide)
        refine kd [] [(2,some (uD jJ (o.set k (jM (((vU xs t k).getD ((t.getD k tz).a.toNat) 0)+((vU xs t k).getD ((t.getD k tz).b.toNat) 0))))))] mo (wM<|wM<|wM<|wE (kK qN)<|wR (qH uN)<|wE (oXO uA (((t.getD k tz).a).toNat))<|wR (yN (jJ (o.getD (((t.getD k tz).a).toNat) y1)) (jJ (jM ((vU xs t k).getD ((t.getD k tz).a.toNat) 0))) (oLA jT (((t.getD k tz).a).toNat) y1) (by exact (congrArg jJ (hget _ (show (t.getD k tz).a.toNat<k by omega)))))<|wM<|wE (kK vE)<|wR (qH uN)<|wE (oXO uA (((t.getD k tz).b).toNat))<|wR (yN (jJ (o.getD (((t.getD k tz).b).toNat) y1)) (jJ (jM ((vU xs t k).getD ((t.getD k tz).b.toNat) 0))) (oLA jT (((t.getD k tz).b).toNat) y1) (by exact (congrArg jJ (hget _ (show (t.getD k tz).b.toNat<k by omega)))))<|wE (kB (f_add (jM ((vU xs t k).getD ((t.getD k tz).a.toNat) 0)) (jM ((vU xs t k).getD ((t.getD k tz).b.toNat) 0)) ((vU xs t k).getD ((t.getD k tz).a.toNat) 0) ((vU xs t k).getD ((t.getD k tz).b.toNat) 0) (jO (jZ (qlg hVq (by decide) ((t.getD k tz).a.toNat)))) (jO (jZ (qlg hVq (by decide) ((t.getD k tz).b.toNat))))))<|wE (oXO uA k)<|wT (oSA jT k (jM (((vU xs t k).getD ((t.getD k tz).a.toNat) 0)+((vU xs t k).getD ((t.getD k tz).b.toNat) 0))))<|wZ) ?_
        refine kx [(37,(kE (k+1)))] [] (zE (xO (k+1))<|zM<|zZ) ?_
        exact ⟨(k+1,o.set k (jM (((vU xs t k).getD ((t.getD k tz).a.toNat) 0)+((vU xs t k).getD ((t.getD k tz).b.toNat) 0)))),wk,⟨by omega,by rw[length_set];exact hol,by rw[bY ho (by omega)];exact vU_nx (vV_2 hop)⟩,(by first|omega|(dsimp only;omega))⟩
       ·replace h8:=ne_of_beq_false h8
        refine jB<|kx [(124,(vb ((t.getD k tz).op == ((3:Nat):Int))))] [] (zE xL<|zM<|zZ) ?_
        refine jD (b:=((t.getD k tz).op == ((3:Nat):Int))) rfl (λh9=>?_) (λh9=>?_)
        ·replace h9:=eq_of_beq h9
         have:=hvo k (by omega);omega
        ·replace h9:=ne_of_beq_false h9
         refine jB<|kx [(140,(vb ((t.getD k tz).op == ((4:Nat):Int))))] [] (zE xL<|zM<|zZ) ?_
         refine jD (b:=((t.getD k tz).op == ((4:Nat):Int))) rfl (λh10=>?_) (λh10=>?_)
         ·replace h10:=eq_of_beq h10
          have hop:=h10
          obtain ⟨⟨a1,a2⟩,b1,b2⟩:=hN.bin (.inr (.inr (.inl h10)))
          have hlt:=hf.lt hk (show k<t.length by omega) (by rw[hop];decide)
          refine kd [] [(2,some (uD jJ (o.set k (jM (((vU xs t k).getD ((t.getD k tz).a.toNat) 0)*((vU xs t k).getD ((t.getD k tz).b.toNat) 0))))))] mo (wM<|wM<|wM<|wE (kK qN)<|wR (qH uN)<|wE (oXO uA (((t.getD k tz).a).toNat))<|wR (yN (jJ (o.getD (((t.getD k tz).a).toNat) y1)) (jJ (jM ((vU xs t k).getD ((t.getD k tz).a.toNat) 0))) (oLA jT (((t.getD k tz).a).toNat) y1) (by exact (congrArg jJ (hget _ (show (t.getD k tz).a.toNat<k by omega)))))<|wM<|wE (kK vE)<|wR (qH uN)<|wE (oXO uA (((t.getD k tz).b).toNat))<|wR (yN (jJ (o.getD (((t.getD k tz).b).toNat) y1)) (jJ (jM ((vU xs t k).getD ((t.getD k tz).b.toNat) 0))) (oLA jT (((t.getD k tz).b).toNat) y1) (by exact (congrArg jJ (hget _ (show (t.getD k tz).b.toNat<k by omega)))))<|wE (kB (f_mul (jM ((vU xs t k).getD ((t.getD k tz).a.toNat) 0)) (jM ((vU xs t k).getD ((t.getD k tz).b.toNat) 0)) ((vU xs t k).getD ((t.getD k tz).a.toNat) 0) ((vU xs t k).getD ((t.getD k tz).b.toNat) 0) (jO (jZ (qlg hVq (by decide) ((t.getD k tz).a.toNat)))) (jO (jZ (qlg hVq (by decide) ((t.getD k tz).b.toNat))))))<|wE (oXO uA k)<|wT (oSA jT k (jM (((vU xs t k).getD ((t.getD k tz).a.toNat) 0)*((vU xs t k).getD ((t.getD k tz).b.toNat) 0))))<|wZ) ?_
          refine kx [(37,(kE (k+1)))] [] (zE (xO (k+1))<|zM<|zZ) ?_
          exact ⟨(k+1,o.set k (jM (((vU xs t k).getD ((t.getD k tz).a.toNat) 0)*((vU xs t k).getD ((t.getD k tz).b.toNat) 0)))),wk,⟨by omega,by rw[length_set];exact hol,by rw[bY ho (by omega)];exact vU_nx (vV_4 hop)⟩,(by first|omega|(dsimp only;omega))⟩
         ·replace h10:=ne_of_beq_false h10
          have:=hvo k (by omega);omega
  ·replace h3:=vT h3
   refine kO<|jB<|kx [(5,(kE 0))] [(0,some (bx (jJ (o.getD (t.length-1) y1))))] (zM<|zM<|zE (oLo uA)<|zE (oSb (t.length-1))<|zE (oXO uA (t.length-1))<|zR (oLA jT (t.length-1) y1)<|zT (qL jT)<|zM<|zZ) ?_
   refine jE ⟨_,(kM (cs:=(bx (jJ (o.getD (t.length-1) y1)))) (d:=(jJ (o.getD (t.length-1) y1))) rfl rfl jT rfl rfl (.tmp (d:=(.val (.int .i64 (((0:Nat):Int))))) rfl .nil)),?_⟩
   obtain rfl:k=t.length:=by omega
   obtain rfl:k0=t.length:=by omega
   rw[hget _ (show t.length-1<t.length by omega),vlR_y,vlC_y];rfl
theorem p_val(t:List jS)(ht:gR 1048576 t)(xs:List Rat)(hx:∀ q∈xs,QL q 1048576)(hr:VRun xs t)(hvo:VOps t)(hxb:xs.length<=1000000):jP prog 11 [(.sl 72 7 (map jN t)),(.sl 32 4 (map jJ (map jM xs)))] (.tup [(jJ (jM (uJ xs t))),(.val (.int .i64 (((0:Nat):Int))))]):=by
 have h:=p_valU t ht xs hx t.length hr.fin hxb hvo
 rw[vlR_y,vlC_y] at h
 exact h
end Go.Proofs.YtckccjhflbljgaaGreatDoor
