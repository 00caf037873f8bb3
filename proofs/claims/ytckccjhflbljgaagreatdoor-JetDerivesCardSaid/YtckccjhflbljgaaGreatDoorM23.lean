/- Part 23 of a proof: rules, plain facts, and functions walked. -/
import Derived.Test.YtckccjhflbljgaaGreatDoorM22
import Derived.Test.YtckccjhflbljgaaGreatDoorM21
import Derived.Test.YtckccjhflbljgaaGreatDoorM11
import Derived.Test.YtckccjhflbljgaaGreatDoorM12
import Derived.Test.YtckccjhflbljgaaGreatDoorM13
set_option linter.all false
set_option maxRecDepth 4000
namespace Go.Proofs.YtckccjhflbljgaaGreatDoor
open List Tryz
open Go.Fid
theorem u_wF(x:jS)(y z:jX)(bv:List R2)(hbx:∀ x∈bv,GL 1048576 x)(L:List JV)(hdz:DzOk L x)(hLk:∀ e9∈L,aW 1048576 bv.length e9)(hy:1<=qB x.op->y=kF (jA L x.a).v)(hz:qB x.op=2->z=kF (jA L x.b).v):jP prog 56 [(jN x),(jG y),(jG z),(.sl 42 8 (map jG (map kF bv)))] (.tup [(jG (jX.mk qX qX)),(.val (.int .i64 (((14:Nat):Int))))]):=by
 have hk:=hdz.kd
 obtain ⟨a,b,rfl,ha,hb,hz0⟩:=hdz
 rw[hy (by omega),hz hk]
 exact u_vF _ _ _ (jok_at hLk ha).1 _ (jok_at hLk hb).1 _ hz0
theorem u_vlR(rb:List jX)(hrb:∀ a∈rb,GOk 1048576 a)(hbl:rb.length<=1000000):jP prog 26 [(.sl 42 8 (map jG rb))] (.val (.bool ((List.all rb xQ)))):=by
 let y1:=(jX.mk qX qX)
 refine vD func26 ?_
 refine jB<|kx [] [] (zM<|zZ) ?_
 refine jB<|jB<|kx [(5,(vl 42 8 jG rb)),(6,(kE rb.length)),(7,(kE 0))] [] (zM<|zE (yA xK)<|zM<|zZ) ?_
 refine jH<|kR (α:=Nat) (λi=>⟨[(5,(vl 42 8 jG rb)),(6,(kE rb.length)),(7,(kE i))],[]⟩) (λi=>i<=rb.length/\(rb.take i).all xQ=true) (λi=>rb.length-i) 0 wk ⟨Nat.zero_le _,by simp⟩ ?_
 rintro i ⟨hi,hal⟩
 refine jB<|kx [(8,(vb (decide (((i:Nat):Int)<((rb.length:Nat):Int)))))] [] (zE gX<|zZ) ?_
 refine jB<|jD rfl (λh1=>?_) (λh1=>?_)
 ·replace h1:=vF h1
  refine jF<|jB<|jH<|jB<|kx [(4,(.ref 0 0))] [(0,some (bx (jG (rb.getD i y1))))] (zE (cB xK i y1)<|zE (mR jW)<|zN (vB 0 uQ uV)<|zT (qL jW)<|zZ) ?_
  refine jB<|kx [(13,(vb (!(xQ (rb.getD i y1)))))] [] (zR (kP jW)<|zE (kB (h_valid (rb.getD i y1) (fU (gok_get hrb (show i<rb.length by omega)))))<|zE cU<|zZ) ?_
  refine jD rfl (λh2=>?_) (λh2=>?_)
  ·refine jB<|kx [(2,(vb false))] [] (zM<|zZ) ?_
   refine jE ⟨_,(.tmp (d:=(.val (.bool (false)))) rfl .nil),?_⟩
   rw[all_not (f:=xQ) (l:=rb) (i:=i) (d:=(jX.mk qX qX)) (by omega) (by simpa using h2)];rfl
  ·refine jF<|kx [(7,(kE (i+1)))] [] (zE (xO (i+1))<|zM<|zZ) ?_
   exact ⟨(i+1),wk,⟨by omega,all_take (d:=(jX.mk qX qX)) (by omega) hal (by simpa using h2)⟩,(by first|omega|(dsimp only;omega))⟩
 ·replace h1:=vT h1
  have hie:i=rb.length:=by omega
  rw[hie,take_length] at hal
  refine kO<|jB<|kx [(2,(vb true))] [] (zM<|zZ) ?_
  refine jE ⟨_,(.tmp (d:=(.val (.bool (true)))) rfl .nil),?_⟩
  rw[hal];rfl
theorem u_vlB(bv:List R2)(hbx:∀ x∈bv,GL 1048576 x)(hbl:bv.length<=1000000):jP prog 26 [(.sl 42 8 (map jG (map kF bv)))] (.val (.bool true)):=by
 have h:=u_vlR (map kF bv) (gok_map hbx) (by rw[length_map];exact hbl)
 rw[valid_map hbx] at h
 exact h
theorem u_pts(xs:List Rat)(hx:∀ q∈xs,QL q 1048576)(hxb:xs.length<=1000000):jP prog 18 [(.sl 32 4 (map jJ (map jM xs)))] (.sl 42 8 (map jG (map kF (map xG xs)))):=by
 refine vD func18 ?_
 refine jB<|kx [] [] (zE (aN 42 8)<|zZ) ?_
 refine jB<|kx [(3,(.own 0 42 8 0))] [(0,some (uD jG []))] (zN (oBo 0 xK uQ uV)<|zM<|zZ) ?_
 refine jB<|jB<|kx [(7,(vl 32 4 jJ (map jM xs))),(8,(kE xs.length)),(9,(kE 0))] [] (zM<|zE (oLn uA xs.length)<|zM<|zZ) ?_
 refine jH<|kR (α:=Nat × List jX) (λ(i,o)=>⟨[(3,(.own 0 42 8 o.length)),(7,(vl 32 4 jJ (map jM xs))),(8,(kE xs.length)),(9,(kE i))],[(0,some (uD jG o))]⟩) (λ(i,o)=>i<=xs.length/\o=(xs.take i).map (λq=>kF (xG q))) (λ(i,o)=>xs.length-i) (0,[]) wk ⟨Nat.zero_le _,by simp⟩ ?_
 rintro ⟨i,o⟩ ⟨hi,ho⟩
 have hol:o.length=i:=by rw[ho,length_map,length_take];omega
 refine jB<|kx [(10,(vb (decide (((i:Nat):Int)<((xs.length:Nat):Int)))))] [] (zE gX<|zZ) ?_
 refine jB<|jD rfl (λh1=>?_) (λh1=>?_)
 ·replace h1:=vF h1
  refine jF<|jB<|jH<|jB<|kx [(5,(.ref 1 0))] [(1,some (bx (jJ (jM (xs.getD i 0)))))] (zE (iO uA jM i 0)<|zE (mR jT)<|zH (vB 1 uO vP)<|zT (qL jT)<|zZ) ?_
  refine kf [(3,(.own 0 42 8 ((o++[(jX.mk (jM (xs.getD i 0)) (jM (xs.getD i 0)))]).length)))] [(0,some (uD jG (o++[(jX.mk (jM (xs.getD i 0)) (jM (xs.getD i 0)))])))] (zM<|zR (kP jT)<|zE (kB (h_point (xs.getD i 0) (uG (cH hx (by decide) i))))<|zE (fC xK uQ uV)<|zAS jG o [(jX.mk (jM (xs.getD i 0)) (jM (xs.getD i 0)))] rfl xK uQ by42<|zM<|zF) ?_
  refine kx [(9,(kE (i+1)))] [] (zE (xO (i+1))<|zM<|zZ) ?_
  exact ⟨(i+1,o++[kF (xG (xs.getD i 0))]),wk,⟨by omega,by rw[ho];exact mapt_step (f:=λq=>kF (xG q)) (by omega)⟩,(by first|omega|(dsimp only;omega))⟩
 ·replace h1:=vT h1
  refine kO<|jB<|kx [(2,(.own 0 42 8 o.length))] [] (zM<|zM<|zZ) ?_
  refine kS (xY (t:=2) (k:=0) (es:=map jG o) rfl rfl (gO _ _ (λ_=>rfl)) (vK _ _ rfl) (mA jG o (λ_=>rfl) rfl)) ?_
  refine jE ⟨_,(.tmp (d:=(.sl 42 8 (map jG o))) rfl .nil),?_⟩
  rw[ho,show i=xs.length by omega,take_length,show map (λq=>kF (xG q)) xs=map kF (map xG xs) from (by rw[map_map];rfl)];rfl
theorem u_brief(x:kY)(p:Rat)(hx:yB x p 140737488355328):jP prog 82 [(jJ x)] (.val (.bool ((brX x)))):=by
 refine vD func82 ?_
 refine jB<|kx [(1,(.ref 0 0))] [(0,some (bx (jJ x)))] (zN (xD 0)<|zM<|zZ) ?_
 refine jB<|kd [(3,(vl 107 1 jC x.num.gs)),(4,(vl 107 1 jC x.den.gs))] [] mo (wE (kK zW)<|wE (kK vM)<|wR (qH zU)<|wE (kK xC)<|wE (kK vM)<|wR (qH zU)<|wM<|wM<|wZ) ?_
 refine jB<|jB<|kx [(18,(vb (decide (1<((x.num.gs.length:Nat):Int))||decide (1<((x.den.gs.length:Nat):Int)))))] [] ?_ ?_
 ·refine zM<|zE (yA kJ)<|zE eR<|zE (oV (vb (decide (1<((x.num.gs.length:Nat):Int)))) (qA (by kernel_rfl)))<|?_
  rcases hb1:(decide (1<((x.num.gs.length:Nat):Int))) with _ | _
  ·replace hb1:=vT hb1
   exact zM<|zE (yA kJ)<|zE eR<|zE aK<|zZ
  ·replace hb1:=vF hb1
   exact zK<|zK<|zK<|zE nO<|zZ
 refine jD rfl (λh2=>?_) (λh2=>?_)
 ·refine jB<|kx [(2,(vb false))] [] (zM<|zZ) ?_
  refine jE ⟨_,(.tmp (d:=(.val (.bool (false)))) rfl .nil),?_⟩
  unfold brX;rw[if_pos h2];rfl
 ·refine jF<|jB<|kx [(2,(vb (((((x.num.gs.length:Nat):Int) == 0)||decide ((((x.num.gs.getD 0 0):Nat):Int)<100000))&&((((x.den.gs.length:Nat):Int) == 0)||decide ((((x.den.gs.getD 0 0):Nat):Int)<=100)))))] [] ?_ ?_
  ·refine zM<|zE (yA kJ)<|zE xL<|zE (oV (vb (((x.num.gs.length:Nat):Int) == 0)) (qA (by kernel_rfl)))<|?_
   rcases hb3:(((x.num.gs.length:Nat):Int) == 0) with _ | _
   ·replace hb3:=ne_of_beq_false hb3
    refine zM<|zE (cB kJ 0 (0:Nat))<|zE (dK qP)<|zE gX<|zE aK<|zE (oV (vb (false||decide ((((x.num.gs.getD 0 0):Nat):Int)<100000))) (qA (by kernel_rfl)))<|?_
    rcases hb4:(false||decide ((((x.num.gs.getD 0 0):Nat):Int)<100000)) with _ | _
    ·exact zK<|zK<|zK<|zK<|zK<|zK<|zK<|zK<|zK<|zE yD<|zM<|zZ
    ·refine zM<|zE (yA kJ)<|zE xL<|zE (oV (vb (((x.den.gs.length:Nat):Int) == 0)) (qA (by kernel_rfl)))<|?_
     rcases hb5:(((x.den.gs.length:Nat):Int) == 0) with _ | _
     ·replace hb5:=ne_of_beq_false hb5
      exact zM<|zE (cB kJ 0 (0:Nat))<|zE (dK qP)<|zE oLe<|zE aK<|zE fL<|zM<|zZ
     ·replace hb5:=eq_of_beq hb5
      exact zK<|zK<|zK<|zK<|zE nO<|zE nO<|zM<|zZ
   ·replace hb3:=eq_of_beq hb3
    refine zK<|zK<|zK<|zK<|zE nO<|zM<|zM<|zE (yA kJ)<|zE xL<|zE (oV (vb (((x.den.gs.length:Nat):Int) == 0)) (qA (by kernel_rfl)))<|?_
    rcases hb6:(((x.den.gs.length:Nat):Int) == 0) with _ | _
    ·replace hb6:=ne_of_beq_false hb6
     exact zM<|zE (cB kJ 0 (0:Nat))<|zE (dK qP)<|zE oLe<|zE aK<|zE fL<|zM<|zZ
    ·replace hb6:=eq_of_beq hb6
     exact zK<|zK<|zK<|zK<|zE nO<|zE nO<|zM<|zZ
  refine jE ⟨_,(.tmp (d:=(.val (.bool ((((((x.num.gs.length:Nat):Int) == 0)||decide ((((x.num.gs.getD 0 0):Nat):Int)<100000))&&((((x.den.gs.length:Nat):Int) == 0)||decide ((((x.den.gs.getD 0 0):Nat):Int)<=100))))))) rfl .nil),?_⟩
  unfold brX;rw[if_neg (by rw[h2];decide)];rfl
theorem u_short(l:List kY)(hl:RowOk 140737488355328 l)(c:Nat)(hc:c<=1000)(n:Nat)(hn:n<=1000):jP prog 44 [(.sl 32 4 (map jJ l)),(.val (.int .i64 (((c:Nat):Int)))),(.val (.int .i64 (((n:Nat):Int))))] (.val (.bool ((shR c n l)))):=by
 have hb:=hl.2
 let y1:=qX
 refine vD func44 ?_
 refine jB<|kx [] [] (zM<|zZ) ?_
 refine jB<|jB<|kx [(11,(vb (decide (((c:Nat):Int)<((l.length:Nat):Int)))))] [] (zM<|zE (yA uA)<|zM<|zE eR<|zZ) ?_
 refine jD rfl (λh1=>?_) (λh1=>?_)
 ·replace h1:=vF h1
  refine jB<|kx [(6,(vb false))] [] (zM<|zZ) ?_
  refine jE ⟨_,(.tmp (d:=(.val (.bool (false)))) rfl .nil),?_⟩
  rw[shR_long (by omega)];rfl
 ·replace h1:=vT h1
  have hlk:=h1
  refine jF<|jB<|jB<|kx [(7,(kE 0))] [] (zM<|zZ) ?_
  refine jH<|kR (α:=Nat) (λi=>⟨[(0,(vl 32 4 jJ l)),(2,(kE n)),(7,(kE i))],[]⟩) (λi=>i<=l.length/\(l.take i).all (shX n)=true) (λi=>l.length-i) 0 wk ⟨Nat.zero_le _,by simp⟩ ?_
  rintro i ⟨hi,hal⟩
  refine jB<|jB<|kx [(15,(vb (decide (((i:Nat):Int)<((l.length:Nat):Int)))))] [] (zM<|zM<|zE (yA uA)<|zE gX<|zZ) ?_
  refine jD rfl (λh2=>?_) (λh2=>?_)
  ·replace h2:=vF h2
   refine jF<|jB<|jH<|jB<|kx [(36,(vb (decide (((n:Nat):Int)<(((digR (l.getD i y1)):Nat):Int))||(decide (((n:Nat):Int)<=6)&&!(brX (l.getD i y1))))))] [] ?_ ?_
   ·refine zM<|zM<|zE (cB uA i y1)<|zE (mR jT)<|zE (kB (g_digits (l.getD i y1) (qS (l.getD i y1)) (qok_at hl.1 (show i<l.length by omega))))<|zM<|zE eR<|zE (oV (vb (decide (((n:Nat):Int)<(((digR (l.getD i y1)):Nat):Int)))) (qA (by kernel_rfl)))<|?_
    rcases hb3:(decide (((n:Nat):Int)<(((digR (l.getD i qX)):Nat):Int))) with _ | _
    ·replace hb3:=vT hb3
     refine zM<|zE oLe<|zE (oV (vb (decide (((n:Nat):Int)<=6))) (qA (by kernel_rfl)))<|?_
     rcases hb4:(decide (((n:Nat):Int)<=6)) with _ | _
     ·replace hb4:=vT hb4
      exact zK<|zK<|zK<|zK<|zK<|zK<|zE yD<|zE yD<|zZ
     ·replace hb4:=vF hb4
      exact zM<|zM<|zE (cB uA i y1)<|zE (mR jT)<|zE (kB (u_brief (l.getD i y1) (qS (l.getD i y1)) (qok_at hl.1 (show i<l.length by omega))))<|zE cU<|zE fL<|zE aK<|zZ
    ·replace hb3:=vF hb3
     exact zK<|zK<|zK<|zK<|zK<|zK<|zK<|zK<|zK<|zK<|zE nO<|zZ
   refine jD rfl (λh5=>?_) (λh5=>?_)
   ·refine jB<|kx [(6,(vb false))] [] (zM<|zZ) ?_
    refine jE ⟨_,(.tmp (d:=(.val (.bool (false)))) rfl .nil),?_⟩
    rw[shR_no (all_no (i:=i) (d:=qX) (by omega) (shX_t h5))];rfl
   ·have hfi:shX n (l.getD i qX)=true:=shX_f h5
    refine jF<|kx [(7,(kE (i+1)))] [] (zM<|zE (xO (i+1))<|zM<|zZ) ?_
    exact ⟨(i+1),wk,⟨by omega,all_up (d:=qX) (by omega) hal hfi⟩,(by omega)⟩
  ·replace h2:=vT h2
   have hie:i=l.length:=by omega
   rw[hie,take_length] at hal
   refine kO<|jB<|kx [(6,(vb true))] [] (zM<|zZ) ?_
   refine jE ⟨_,(.tmp (d:=(.val (.bool (true)))) rfl .nil),?_⟩
   rw[shR_yes hlk hal];rfl
theorem u_few(t:List jS)(ht:gR 140737488355328 t)(n:Nat)(hn:n<=1000)(m:Nat)(hm:m<=1000)(htl:t.length<=140737488355328):jP prog 9 [(.sl 72 7 (map jN t)),(.val (.int .i64 (((n:Nat):Int)))),(.val (.int .i64 (((m:Nat):Int))))] (.val (.bool ((dS n m t)))):=by
 refine vD func9 ?_
 refine jB<|kx [] [] (zM<|zZ) ?_
 refine jB<|jB<|kx [(16,(vb (decide (((n:Nat):Int)<((t.length:Nat):Int)))))] [] (zM<|zE (yA zY)<|zM<|zE eR<|zZ) ?_
 refine jD rfl (λh1=>?_) (λh1=>?_)
 ·replace h1:=vF h1
  refine jB<|kx [(6,(vb false))] [] (zM<|zZ) ?_
  refine jE ⟨_,(.tmp (d:=(.val (.bool (false)))) rfl .nil),?_⟩
  rw[fewT_long h1];rfl
 ·replace h1:=vT h1
  have hlk:=h1
  refine jF<|jB<|jB<|kx [(17,(vl 72 7 jN t)),(18,(kE t.length)),(19,(kE 0))] [] (zM<|zE (yA zY)<|zM<|zZ) ?_
  refine jH<|kR (α:=Nat) (λi=>⟨[(0,(vl 72 7 jN t)),(2,(kE m)),(17,(vl 72 7 jN t)),(18,(kE t.length)),(19,(kE i))],[]⟩) (λi=>i<=t.length/\(t.take i).all dgB=true) (λi=>t.length-i) 0 wk ⟨Nat.zero_le _,by simp⟩ ?_
  rintro i ⟨hi,hal⟩
  refine jB<|kx [(20,(vb (decide (((i:Nat):Int)<((t.length:Nat):Int)))))] [] (zE gX<|zZ) ?_
  refine jB<|jD rfl (λh2=>?_) (λh2=>?_)
  ·replace h2:=vF h2
   refine jF<|jB<|jH<|jB<|kx [(8,(.ref 0 0))] [(0,some (bx (jN (t.getD i tz))))] (zE (cB zY i (tz:jS))<|zE (mR cT)<|zN (vB 0 dW fZ)<|zT (qL cT)<|zZ) ?_
   refine jB<|kx [(26,(vb (decide (8<(((digR ((t.getD i tz).n)):Nat):Int)))))] [] (zE (kK mL)<|zR (kP jT)<|zE (kB (g_digits ((t.getD i tz).n) (qS (t.getD i tz).n) (tn_get ht (show i<t.length by omega))))<|zE eR<|zZ) ?_
   refine jD rfl (λh3=>?_) (λh3=>?_)
   ·replace h3:=vF h3
    refine jB<|kx [(6,(vb false))] [] (zM<|zZ) ?_
    refine jE ⟨_,(.tmp (d:=(.val (.bool (false)))) rfl .nil),?_⟩
    rw[fewT_dig (all_no (i:=i) (d:=tz) (by omega) (dgB_n h3))];rfl
   ·replace h3:=vT h3
    refine jF<|kx [(19,(kE (i+1)))] [] (zE (xO (i+1))<|zM<|zZ) ?_
    exact ⟨(i+1),wk,⟨by omega,all_up (d:=tz) (by omega) hal (dgB_y h3)⟩,(by first|omega|(dsimp only;omega))⟩
  ·replace h2:=vT h2
   have hie:i=t.length:=by omega
   rw[hie,take_length] at hal
   have hT8:gR 8 t:=dg_ok hal
   refine kO<|jB<|kx [(9,(vl 3 1 jL (tmL 8 t))),(10,(kE (yT 8 t)))] [] (zM<|zE (kB (u_sizes t (tn_up hT8) 8))<|zM<|zE zP<|zE zP<|zM<|zM<|zZ) ?_
   refine jB<|jB<|kx [(34,(vb ((((yT 8 t):Nat):Int) != 0)))] [] (zM<|zE aZ<|zZ) ?_
   refine jD (b:=((((yT 8 t):Nat):Int) != 0)) rfl (λh4=>?_) (λh4=>?_)
   ·replace h4:=bne_iff_ne.1 h4
    refine jB<|kx [(6,(vb true))] [] (zM<|zZ) ?_
    refine jE ⟨_,(.tmp (d:=(.val (.bool (true)))) rfl .nil),?_⟩
    rw[fewT_code hlk hal h4];rfl
   ·replace h4:=bne_eq_false_iff_eq.1 h4
    have hc0:=h4
    have hll:=tmL_len hc0
    refine jF<|jB<|jB<|kx [(35,(vl 3 1 jL (tmL 8 t))),(36,(kE ((tmL 8 t).length))),(37,(kE 0))] [] (zM<|zE (yA uR (L:=(tmL 8 t)))<|zM<|zZ) ?_
    refine jH<|kR (α:=Nat) (λj=>⟨[(2,(kE m)),(35,(vl 3 1 jL (tmL 8 t))),(36,(kE ((tmL 8 t).length))),(37,(kE j))],[]⟩) (λj=>j<=(tmL 8 t).length/\((tmL 8 t).take j).all (szB m)=true) (λj=>(tmL 8 t).length-j) 0 wk ⟨Nat.zero_le _,by simp⟩ ?_
    rintro j ⟨hj,hal2⟩
    refine jB<|kx [(38,(vb (decide (((j:Nat):Int)<(((tmL 8 t).length:Nat):Int)))))] [] (zE gX<|zZ) ?_
    refine jB<|jD rfl (λh5=>?_) (λh5=>?_)
    ·replace h5:=vF h5
     refine jF<|jB<|jH<|jB<|kx [(12,(vi ((tmL 8 t).getD j 0)))] [] (zE (cB uR j (0:Int) (L:=(tmL 8 t)))<|zE (dK uN)<|zM<|zZ) ?_
     refine jB<|kx [(43,(vb (decide (((m:Nat):Int)<((tmL 8 t).getD j 0)))))] [] (zM<|zM<|zE eR<|zZ) ?_
     refine jD rfl (λh6=>?_) (λh6=>?_)
     ·replace h6:=vF h6
      refine jB<|kx [(6,(vb false))] [] (zM<|zZ) ?_
      refine jE ⟨_,(.tmp (d:=(.val (.bool (false)))) rfl .nil),?_⟩
      rw[fewT_big hc0 (all_no (i:=j) (d:=0) (by omega) (by unfold szB;exact decide_eq_false (by omega)))];rfl
     ·replace h6:=vT h6
      refine jF<|kx [(37,(kE (j+1)))] [] (zE (xO (j+1))<|zM<|zZ) ?_
      exact ⟨(j+1),wk,⟨by omega,all_up (d:=0) (by omega) hal2 (by unfold szB;exact decide_eq_true (by omega))⟩,(by first|omega|(dsimp only;omega))⟩
    ·replace h5:=vT h5
     have hje:j=(tmL 8 t).length:=by omega
     rw[hje,take_length] at hal2
     refine kO<|jB<|kx [(6,(vb true))] [] (zM<|zZ) ?_
     refine jE ⟨_,(.tmp (d:=(.val (.bool (true)))) rfl .nil),?_⟩
     rw[fewT_yes hlk hal hal2];rfl
end Go.Proofs.YtckccjhflbljgaaGreatDoor
namespace Go.Fid
open List
def VBd(ss:List Int)(V:List Rat):Prop:=∀ j,j<V.length->∃ s:Nat,ss.getD j 0=(s:Int)/\1<=s/\QL (V.getD j 0) (bV s)
theorem vb_at{ss:List Int}{V:List Rat}(h:VBd ss V){a:Int}(h0:0<=a)(h1:a<V.length):∃ s:Nat,ss.getD a.toNat 0=(s:Int)/\1<=s/\QL (V.getD a.toNat 0) (bV s):=h a.toNat (by omega)
theorem vb_node{z:Int}{ss:List Int}{V xs:List Rat}{x:jS}(hk:ndC z ss x=0)(hl:ss.length=V.length)(hq:yB x.n (qS x.n) 8)(hb:∀ y∈xs,QL y 24)(h:VBd ss V) :
  ∃ s:Nat,mP ss x=(s:Int)/\1<=s/\QL (vV xs V x) (bV s):=by
 obtain ⟨h1,h2,h3,_⟩:=nd_0 hk
 unfold dI at h1
 unfold eA at h2
 rcases vJ x.op with ⟨e,f⟩ | ⟨e,f⟩ | ⟨e,f⟩ | ⟨e,f⟩
 ·refine ⟨1,by unfold mP;rw[if_pos e];rfl,Nat.le_refl _,?_⟩
  rcases f with f | f
  ·unfold vV;simp only[f];exact uG hq.ql (by decide)
  ·unfold vV;simp only[f];exact uG (qlg hb (by decide) _) (by decide)
 ·obtain ⟨s,e1,e2,e3⟩:=vb_at h (a:=x.a) (by omega) (by omega)
  rcases f with f | f
  ·refine ⟨s,by unfold mP;rw[if_neg (by omega),if_pos f];exact e1,e2,?_⟩
   unfold vV;simp only[f];exact ql_neg e3
  ·refine ⟨2*s,by unfold mP;rw[if_neg (by omega),if_neg (by omega),if_pos f,e1];omega,by omega,?_⟩
   unfold vV;simp only[f];exact yH e3 e3 (by unfold bV;omega)
 ·obtain ⟨s,e1,e2,e3⟩:=vb_at h (a:=x.a) (by omega) (by omega)
  obtain ⟨r,g1,g2,g3⟩:=vb_at h (a:=x.b) (by omega) (by omega)
  refine ⟨s+r,by unfold mP;rw[if_neg (by omega),if_neg (by omega),if_neg (by omega),e1,g1];omega,by omega,?_⟩
  rcases f with f | f | f | f
  ·unfold vV;simp only[f];exact ql_add e3 g3 (by unfold bV;omega)
  ·unfold vV;simp only[f];exact ql_sub e3 g3 (by unfold bV;omega)
  ·unfold vV;simp only[f];exact yH e3 g3 (by unfold bV;omega)
  ·unfold vV;simp only[f];exact ql_div e3 g3 (by unfold bV;omega)
 ·omega
theorem gl_ptb{xs:List Rat}{n:Nat}(h:∀ y∈map xG xs,GL n y):∀ q∈xs,QL q n:=λq hq=>(h _ (mem_map.2 ⟨q,hq,rfl⟩)).1
theorem cQ.vb{xs:List Rat}{t:List jS}(h:cQ (map xG xs) t):∀ {k:Nat},k<=t.length->VBd (gM t k) (vU xs t k)
 |0,_=>λj hj=>by simp [vU] at hj
 |k+1,hk=>λj hj=>by
  have ih:=h.vb (k:=k) (by omega)
  have l1:=xE t k
  have l2:=aD xs t k
  rw[aD] at hj
  have g1:(gM t (k+1)).getD j 0=_:=zG
  have g2:(vU xs t (k+1)).getD j 0=_:=zG
  rcases Nat.lt_or_ge j k with hjk | hjk
  ·rw[if_pos (by omega)] at g1 g2
   rw[g1,g2];exact ih j (by omega)
  ·rw[if_neg (by omega),if_pos (by omega)] at g1 g2
   rw[g1,g2]
   exact vb_node ((dF h.c0).2.2.2.2 k (by omega)) (l1.trans l2.symm) (h.q _ (qG (by omega))) (gl_ptb h.b) ih
theorem cQ.vq{xs:List Rat}{t:List jS}(h:cQ (map xG xs) t){k:Nat}(hk:k<t.length):QL (vV xs (vU xs t k) (t.getD k tz)) 1048576:=by
 obtain ⟨s,e1,e2,e3⟩:=vb_node ((dF h.c0).2.2.2.2 k hk) ((xE t k).trans (aD xs t k).symm) (h.q _ (qG hk)) (gl_ptb h.b) (h.vb (Nat.le_of_lt hk))
 have e4:=h.s k hk
 exact uG e3 (bd_200 (s:=s) (by omega)).1
def vzB(xs:List Rat)(t:List jS)(k:Nat):Bool:=decide ((t.getD k tz).op=5)&&decide ((vU xs t k).getD (t.getD k tz).b.toNat 0=0)
def vzT(xs:List Rat)(t:List jS):Bool:=(range t.length).any (vzB xs t)
theorem vz_at{xs:List Rat}{t:List jS}{k:Nat}(h:vzB xs t k=false)(ho:(t.getD k tz).op=5):(vU xs t k).getD (t.getD k tz).b.toNat 0≠0:=by
 unfold vzB at h;rw[decide_eq_true ho,Bool.true_and] at h;exact of_decide_eq_false h
theorem cQ.vrun{xs:List Rat}{t:List jS}(h:cQ (map xG xs) t)(hz:vzT xs t=false):VRun xs t :=
 ⟨by have:=h.c0;rwa [length_map] at this,λk hk=>h.vq hk,λk hk ho=>vz_at (by
  cases hp:vzB xs t k with
  |false=>rfl
  |true=>unfold vzT at hz;rw[any_eq_true.2 ⟨k,mem_range.2 hk,hp⟩] at hz;cases hz) ho⟩
theorem cQ.vfail{xs:List Rat}{t:List jS}(h:cQ (map xG xs) t)(hz:vzT xs t=true):∃ k,VFail xs t k:=by
 obtain ⟨k,h1,h2,h3⟩:=fst_any hz
 unfold vzB at h3
 rw[Bool.and_eq_true,decide_eq_true_eq,decide_eq_true_eq] at h3
 exact ⟨k,by have:=h.c0;rwa [length_map] at this,h1,⟨λi hi=>h.vq (by omega),λi hi ho=>vz_at (h2 i hi) ho⟩,h3.1,h3.2⟩
end Go.Fid
namespace Go.Proofs.YtckccjhflbljgaaGreatDoor
open List Tryz
open Go.Fid
theorem iF(l:List kY)(hl:RowOk 140737488355328 l):jP prog 10 [(.sl 32 4 (map jJ l))] (.val (.bool ((shR 4 8 l)))):=by
 refine vD func10 ?_
 refine jB<|kx [] [] (zM<|zZ) ?_
 refine jB<|kx [(2,(vb (shR 4 8 l)))] [] (zM<|zE (kB (u_short l hl 4 (by omega) 8 (by omega)))<|zM<|zZ) ?_
 refine jE ⟨_,(.tmp (d:=(.val (.bool ((shR 4 8 l))))) rfl .nil),?_⟩
 rfl
end Go.Proofs.YtckccjhflbljgaaGreatDoor
namespace Go.Fid
open List
abbrev Nf (A:Type):=Int->Int->A->A->kY->A
structure NfOk {A:Type} (f:Nf A):Prop where
 k0:∀ o a u v u' v' n,qB o<=0->f o a u v n=f o a u' v' n
 k1:∀ o a a' u v v' n,qB o=1->f o a u v n=f o a' u v' n
 k2:∀ o a a' u v n,qB o=2->f o a u v n=f o a' u v n
 n0:∀ o a u v n n',o≠0->f o a u v n=f o a u v n'
def nfV{A:Type}(d:A)(f:Nf A)(L:List A)(x:jS):A:=f x.op x.a (L.getD x.a.toNat d) (L.getD x.b.toNat d) x.n
def aG{A:Type}(d:A)(f:Nf A)(t:List jS):Nat->List A
 |0=>[]
 |k+1=>aG d f t k++[nfV d f (aG d f t k) (t.getD k tz)]
section
variable {A:Type} {d:A} {f:Nf A}
theorem eN(t:List jS):∀ k,(aG d f t k).length=k
 |0=>rfl
 |k+1=>by rw[aG,length_append,eN t k];rfl
theorem nfU_app(t l:List jS):∀ k,k<=t.length->aG d f (t++l) k=aG d f t k
 |0,_=>rfl
 |k+1,h=>by
  rw[aG,aG,nfU_app t l k (by omega),show (t++l).getD k tz=t.getD k tz by rw[getD_eq_getElem?_getD,getElem?_append_left (by omega),<- getD_eq_getElem?_getD]]
theorem nfU_at(t:List jS):∀ k j,j<k->(aG d f t k).getD j d=nfV d f (aG d f t j) (t.getD j tz)
 |0,j,h=>absurd h (Nat.not_lt_zero j)
 |k+1,j,h=>by
  rw[aG,zG,eN]
  rcases Nat.lt_or_ge j k with hj | hj
  ·rw[if_pos hj];exact nfU_at t k j hj
  ·obtain rfl:j=k:=by omega
   rw[if_neg (Nat.lt_irrefl _),if_pos rfl]
def eV(d:A)(f:Nf A)(t:List jS)(j:Nat):A:=(aG d f t t.length).getD j d
theorem eV_at{t:List jS}{k j:Nat}(hj:j<k)(hk:j<t.length):(aG d f t k).getD j d=eV d f t j:=by
 unfold eV;rw[nfU_at t k j hj,nfU_at t t.length j hk]
theorem eV_app{t l:List jS}{j:Nat}(hj:j<t.length):eV d f (t++l) j=eV d f t j:=by
 unfold eV
 rw[nfU_at _ _ j (by rw[length_append];omega),nfU_at _ _ j hj,nfU_app t l j (by omega),show (t++l).getD j tz=t.getD j tz by rw[getD_eq_getElem?_getD,getElem?_append_left hj,<- getD_eq_getElem?_getD]]
theorem kdN_rng(o:Int):qB o<=0\/qB o=1\/qB o=2:=by
 rcases vJ o with ⟨h,_⟩ | ⟨h,_⟩ | ⟨h,_⟩ | ⟨h,_⟩<;>omega
theorem eV_node(hf:NfOk f){t:List jS}{j:Nat}(hj:j<t.length)(ho:eP (t.getD j tz) j) :
  eV d f t j=f (t.getD j tz).op (t.getD j tz).a (eV d f t (t.getD j tz).a.toNat) (eV d f t (t.getD j tz).b.toNat) (t.getD j tz).n:=by
 have e:eV d f t j=nfV d f (aG d f t j) (t.getD j tz):=nfU_at t t.length j hj
 rw[e]
 unfold nfV
 obtain ⟨h1,h2⟩:=ho
 generalize t.getD j tz=x at h1 h2
 rcases kdN_rng x.op with hk | hk | hk
 ·exact hf.k0 _ _ _ _ _ _ _ hk
 ·have:=h1 (by omega)
  rw[eV_at (j:=x.a.toNat) (by omega) (by omega)]
  exact hf.k1 _ _ _ _ _ _ _ hk
 ·have:=h1 (by omega)
  have:=h2 (by omega)
  rw[eV_at (j:=x.a.toNat) (by omega) (by omega),eV_at (j:=x.b.toNat) (by omega) (by omega)]
end
structure SB (B:uT):Prop where
 hB:RBI B
 kn:∀ e∈B.kn,B.tm.getD e.2.toNat tz=⟨e.1.1,e.1.2.1,e.1.2.2,zr⟩
 os:∀ e∈B.os,∃ q:Rat,QL q 1048576/\e.1=txQ q/\B.tm.getD e.2.toNat tz=⟨0,0,0,jM q⟩
 us:∀ j,j<B.tm.length->B.us.getD j 0=mP B.us (B.tm.getD j tz)
 kd:∀ j,j<B.tm.length->0<=qB (B.tm.getD j tz).op
def Ext(B B':uT):Prop:=∃ l m,B'.tm=B.tm++l/\B'.us=B.us++m
theorem Ext.refl(B:uT):Ext B B:=⟨[],[],by simp,by simp⟩
theorem Ext.trans{A B C:uT}(h:Ext A B)(k:Ext B C):Ext A C:=by
 obtain ⟨l,m,h1,h2⟩:=h
 obtain ⟨l',m',k1,k2⟩:=k
 exact ⟨l++l',m++m',by rw[k1,h1,append_assoc],by rw[k2,h2,append_assoc]⟩
theorem Ext.len{B B':uT}(h:Ext B B'):B.tm.length<=B'.tm.length:=by obtain ⟨l,m,h1,_⟩:=h;rw[h1,length_append];omega
theorem Ext.ix{B B':uT}(h:Ext B B'){i:Int}(hi:gV B i):gV B' i:=hi.up h.len
theorem nZ{α:Type}{l m:List α}{d:α}{j:Nat}(h:j<l.length):(l++m).getD j d=l.getD j d:=by
 rw[getD_eq_getElem?_getD,getElem?_append_left h,<- getD_eq_getElem?_getD]
theorem Ext.nd{B B':uT}(h:Ext B B'){j:Nat}(hj:j<B.tm.length):B'.tm.getD j tz=B.tm.getD j tz:=by obtain ⟨l,m,h1,_⟩:=h;rw[h1];exact nZ hj
theorem Ext.usz{B B':uT}(h:Ext B B'){j:Nat}(hj:j<B.us.length):B'.us.getD j 0=B.us.getD j 0:=by obtain ⟨l,m,_,h1⟩:=h;rw[h1];exact nZ hj
theorem Ext.ev{A:Type}{d:A}{f:Nf A}{B B':uT}(h:Ext B B'){j:Nat}(hj:j<B.tm.length):eV d f B'.tm j=eV d f B.tm j:=by obtain ⟨l,m,h1,_⟩:=h;rw[h1];exact eV_app hj
structure Got (B B':uT) (r:Int) (x:jS):Prop where
 sb:SB B'
 ext:Ext B B'
 ix:gV B' r
 nd:B'.tm.getD r.toNat tz=x
theorem szN_app{ss m:List Int}{x:jS}{j:Nat}(hk:0<=qB x.op)(ho:eP x j)(hj:j<=ss.length):mP (ss++m) x=mP ss x:=by
 obtain ⟨h1,h2⟩:=ho
 rcases vJ x.op with ⟨e,f⟩ | ⟨e,f⟩ | ⟨e,f⟩ | ⟨e,f1,f2,f3⟩
 ·unfold mP;rw[if_pos e,if_pos e]
 ·have h:=h1 (by omega)
  have ea:(ss++m).getD x.a.toNat 0=ss.getD x.a.toNat 0:=nZ (by omega)
  have e0:¬ qB x.op=0:=by omega
  unfold mP
  simp only[ea,if_neg e0]
  rcases f with f | f
  ·simp only[if_pos f]
  ·simp only[if_pos f]
 ·have h:=h1 (by omega)
  have h':=h2 (by omega)
  have ea:(ss++m).getD x.a.toNat 0=ss.getD x.a.toNat 0:=nZ (by omega)
  have eb:(ss++m).getD x.b.toNat 0=ss.getD x.b.toNat 0:=nZ (by omega)
  unfold mP
  rw[ea,eb]
 ·omega
theorem bAdd_got{B:uT}{x:jS}{s:Int}(hS:SB B)(hq:yB x.n (qS x.n) 1048576)(ho:eP x B.tm.length)(hk:0<=qB x.op)(h1:1<=s)(hs:s=mP B.us x)(hov:(qR B x s).1.ov=false):B.ov=false/\s<=4096/\B.tm.length<400/\qR B x s=(uT.mk (B.tm++[x]) B.kn B.os (B.us++[s]) B.ov,((B.tm.length:Nat):Int))/\Got B (qR B x s).1 (qR B x s).2 x:=by
 cases hc:(decide (4096<s)||decide (((400:Nat):Int)<=((B.tm.length:Nat):Int))) with
 |true=>rw[bAdd_t hc] at hov;cases hov
 |false=>
  have e:=bAdd_f (x:=x) hc
  rw[Bool.or_eq_false_iff,decide_eq_false_iff_not,decide_eq_false_iff_not] at hc
  rw[e] at hov
  refine ⟨hov,by omega,by omega,e,?_⟩
  have hok:=bAdd_ok (x:=x) (z:=s) hS.hB hq ho h1 (λh=>by omega)
  rw[e] at hok ⊢
  have hu:=hS.hB.hu
  have hx:Ext B (uT.mk (B.tm++[x]) B.kn B.os (B.us++[s]) B.ov):=⟨[x],[s],rfl,rfl⟩
  refine ⟨⟨hok.1,λe he=>?_,λe he=>?_,λj hj=>?_,λj hj=>?_⟩,hx,hok.2.1,?_⟩
  ·have:=hS.hB.hk e he
   exact (hx.nd (j:=e.2.toNat) (by omega)).trans (hS.kn e he)
  ·obtain ⟨q,q0,q1,q2⟩:=hS.os e he
   have:=hS.hB.hos e he
   exact ⟨q,q0,q1,(hx.nd (j:=e.2.toNat) (by omega)).trans q2⟩
  ·have hj:j<(B.tm++[x]).length:=hj
   rw[length_append,length_singleton] at hj
   show (B.us++[s]).getD j 0=mP (B.us++[s]) ((B.tm++[x]).getD j tz)
   rcases Nat.lt_or_ge j B.tm.length with hl | hl
   ·rw[nZ (by omega),nZ hl,szN_app (hS.kd j hl) (hS.hB.ho j hl) (by omega)];exact hS.us j hl
   ·obtain rfl:j=B.tm.length:=by omega
    rw[qC,if_neg (by omega),if_pos hu.symm,qC,if_neg (by omega),if_pos rfl,szN_app hk ho (by omega)];exact hs
  ·have hj:j<(B.tm++[x]).length:=hj
   rw[length_append,length_singleton] at hj
   show 0<=qB ((B.tm++[x]).getD j tz).op
   rcases Nat.lt_or_ge j B.tm.length with hl | hl
   ·rw[nZ hl];exact hS.kd j hl
   ·obtain rfl:j=B.tm.length:=by omega
    rw[qC,if_neg (by omega),if_pos rfl];exact hk
  ·show (B.tm++[x]).getD ((B.tm.length:Nat):Int).toNat tz=x
   rw[Int.toNat_natCast,qC,if_neg (by omega),if_pos rfl]
theorem bSz_szN{B:uT}{o i k:Int}(h1:1<=o)(h7:o<=7):bSz B o i k=mP B.us ⟨o,i,k,zr⟩:=by
 unfold bSz mP
 have hc:o=1\/o=2\/o=3\/o=4\/o=5\/o=6\/o=7:=by omega
 rcases hc with rfl | rfl | rfl | rfl | rfl | rfl | rfl<;>rfl
theorem NdAr.rng{B:uT}{o i k:Int}(h:NdAr B o i k):1<=o/\o<=7:=by
 rcases h with ⟨rfl,_⟩ | ⟨h1,h2,_⟩<;>omega
theorem kd_nn{o:Int}(h0:0<=o)(h7:o<=7):0<=qB o:=by
 have hc:o=0\/o=1\/o=2\/o=3\/o=4\/o=5\/o=6\/o=7:=by omega
 rcases hc with rfl | rfl | rfl | rfl | rfl | rfl | rfl | rfl<;>decide
theorem bM{B:uT}{o i k:Int}(hS:SB B)(h:NdAr B o i k)(hov:(jK B o i k).1.ov=false):B.ov=false/\Got B (jK B o i k).1 (jK B o i k).2 ⟨o,i,k,zr⟩:=by
 cases hg:(xR B.kn (o,i,k)) with
 |some v=>
  have e:=oA (B:=B) (o:=o) (i:=i) (k:=k) (by rw[hg];rfl)
  rw[hg] at e
  rw[e] at hov ⊢
  have hm:=getK_mem hg
  exact ⟨hov,hS,.refl B,hS.hB.hk _ hm,hS.kn _ hm⟩
 |none=>
  cases hb:B.ov with
  |true=>
   have e:=oA (B:=B) (o:=o) (i:=i) (k:=k) (by rw[hg,hb];rfl)
   rw[e] at hov
   exact absurd (hb.symm.trans hov) (by decide)
  |false=>
   have e:=bNode_f (B:=B) (o:=o) (i:=i) (k:=k) (by rw[hg,hb];rfl) rfl
   obtain ⟨r1,r7⟩:=h.rng
   rw[e] at hov ⊢
   obtain ⟨_,s1,s2,s3,g⟩:=bAdd_got (x:=⟨o,i,k,zr⟩) (s:=bSz B o i k) hS qok_zr h.ord (kd_nn (o:=o) (by omega) r7) (h.sz hS.hB).1 (bSz_szN r1 r7) hov
   refine ⟨rfl,⟨⟨g.sb.hB.hl,g.sb.hB.hu,g.sb.hB.hs,g.sb.hB.hq,g.sb.hB.ho,λy hy=>?_,g.sb.hB.hos⟩,λy hy=>?_,g.sb.os,g.sb.us,g.sb.kd⟩,g.ext,g.ix,g.nd⟩
   ·have hy:y∈(qR B ⟨o,i,k,zr⟩ (bSz B o i k)).1.kn++[((o,i,k),(qR B ⟨o,i,k,zr⟩ (bSz B o i k)).2)]:=hy
    rw[mem_append,mem_singleton] at hy
    rcases hy with hy | rfl
    ·exact g.sb.hB.hk y hy
    ·exact g.ix
   ·have hy:y∈(qR B ⟨o,i,k,zr⟩ (bSz B o i k)).1.kn++[((o,i,k),(qR B ⟨o,i,k,zr⟩ (bSz B o i k)).2)]:=hy
    rw[mem_append,mem_singleton] at hy
    rcases hy with hy | rfl
    ·exact g.sb.kn y hy
    ·exact g.nd
def TxI:Prop:=∀ p q:Rat,QL p 1048576->QL q 1048576->txQ p=txQ q->p=q
theorem iG(hT:TxI){B:uT}{q:Rat}(hS:SB B)(hq:QL q 1048576)(hov:(vW B q).1.ov=false):B.ov=false/\Got B (vW B q).1 (vW B q).2 ⟨0,0,0,jM q⟩:=by
 cases hg:xR B.os (txQ q) with
 |some v=>
  have e:=bNum_t (B:=B) (q:=q) (by rw[hg];rfl)
  rw[hg] at e
  rw[e] at hov ⊢
  have hm:=getK_mem hg
  obtain ⟨p,p0,p1,p2⟩:=hS.os _ hm
  obtain rfl:=hT q p hq p0 p1
  exact ⟨hov,hS,.refl B,hS.hB.hos _ hm,p2⟩
 |none=>
  have e:=bNum_f (B:=B) (q:=q) (by rw[hg];rfl)
  rw[e] at hov ⊢
  obtain ⟨hb,s1,s2,s3,g⟩:=bAdd_got (x:=⟨0,0,0,jM q⟩) (s:=1) hS (uW (jZ hq)) ⟨λh=>absurd h (show ¬ 0<qB 0 by decide),λh=>absurd h (show ¬ 1<qB 0 by decide)⟩ (show 0<=qB 0 by decide) (by decide) rfl hov
  refine ⟨hb,⟨⟨g.sb.hB.hl,g.sb.hB.hu,g.sb.hB.hs,g.sb.hB.hq,g.sb.hB.ho,g.sb.hB.hk,λy hy=>?_⟩,g.sb.kn,λy hy=>?_,g.sb.us,g.sb.kd⟩,g.ext,g.ix,g.nd⟩
  ·have hy:y∈(qR B ⟨0,0,0,jM q⟩ 1).1.os++[(txQ q,(qR B ⟨0,0,0,jM q⟩ 1).2)]:=hy
   rw[mem_append,mem_singleton] at hy
   rcases hy with hy | rfl
   ·exact g.sb.hB.hos y hy
   ·exact g.ix
  ·have hy:y∈(qR B ⟨0,0,0,jM q⟩ 1).1.os++[(txQ q,(qR B ⟨0,0,0,jM q⟩ 1).2)]:=hy
   rw[mem_append,mem_singleton] at hy
   rcases hy with hy | rfl
   ·exact g.sb.os y hy
   ·exact ⟨q,hq,rfl,g.nd⟩
theorem bAdd_ov{B:uT}{x:jS}{s:Int}(h:(qR B x s).1.ov=false):B.ov=false:=by
 unfold qR at h
 split at h
 ·cases h
 ·exact h
theorem yQ{B:uT}{o i k:Int}(h:(jK B o i k).1.ov=false):B.ov=false:=by
 unfold jK at h
 split at h
 ·exact h
 ·split at h
  ·exact h
  ·exact bAdd_ov (x:=⟨o,i,k,zr⟩) (s:=bSz B o i k) h
theorem bNum_ov{B:uT}{q:Rat}(h:(vW B q).1.ov=false):B.ov=false:=by
 unfold vW at h
 split at h
 ·exact h
 ·exact bAdd_ov (x:=⟨0,0,0,jM q⟩) (s:=1) h
theorem bSum_ov{B:uT}{i k:Int}(h:(gD B i k).1.ov=false):B.ov=false:=by
 unfold gD at h
 split at h
 ·exact h
 ·split at h
  ·exact h
  ·exact yQ h
theorem iY{B:uT}{i k:Int}(h:(qV B i k).1.ov=false):B.ov=false:=by
 unfold qV at h
 split at h
 ·exact h
 ·split at h
  ·exact yQ h
  ·exact yQ h
theorem mT{B:uT}{i k:Int}(h:(kA B i k).1.ov=false):B.ov=false:=by
 unfold kA at h
 split at h
 ·exact h
 ·split at h
  ·exact h
  ·exact yQ h
structure Alg (A:Type) (d:A) (f:Nf A):Prop where
 ok:NfOk f
 c:∀ (a a':Int) (p q:kY),qS p=qS q->f 0 a d d p=f 0 a' d d q
 a0:∀ x n,f 2 0 (f 0 0 d d (jM 0)) x n=x
 a1:∀ x n,f 2 0 x (f 0 0 d d (jM 0)) n=x
 s0:∀ x n,f 3 0 x (f 0 0 d d (jM 0)) n=x
 s1:∀ x n,f 3 0 (f 0 0 d d (jM 0)) x n=f 6 0 x d n
 m0:∀ x n,f 4 0 (f 0 0 d d (jM 0)) x n=f 0 0 d d (jM 0)
 m1:∀ x n,f 4 0 x (f 0 0 d d (jM 0)) n=f 0 0 d d (jM 0)
 u0:∀ x n,f 4 0 (f 0 0 d d (jM 1)) x n=x
 u1:∀ x n,f 4 0 x (f 0 0 d d (jM 1)) n=x
 d0:∀ x n,f 5 0 (f 0 0 d d (jM 0)) x n=f 0 0 d d (jM 0)
section
variable {A:Type} {d:A} {f:Nf A}
structure Wth (d:A) (f:Nf A) (B B':uT) (r:Int) (a:A):Prop where
 sb:SB B'
 ext:Ext B B'
 ix:gV B' r
 ev:eV d f B'.tm r.toNat=a
theorem Got.ev(hf:NfOk f){B B':uT}{r:Int}{x:jS}(g:Got B B' r x):eV d f B'.tm r.toNat=f x.op x.a (eV d f B'.tm x.a.toNat) (eV d f B'.tm x.b.toNat) x.n:=by
 have h:=g.ix
 have e:=eV_node (d:=d) hf (t:=B'.tm) (j:=r.toNat) (by have:=h.1;have:=h.2;omega) (g.sb.hB.ho _ (by have:=h.1;have:=h.2;omega))
 rw[g.nd] at e
 exact e
theorem qO{B:uT}{i:Int}(h:gV B i):i.toNat<B.tm.length:=by have:=h.1;have:=h.2;omega
theorem mQ(hA:Alg A d f){B:uT}{o i k:Int}(hS:SB B)(h2:2<=o)(h7:o<=7)(hi:gV B i)(hk:gV B k)(hov:(jK B o i k).1.ov=false):B.ov=false/\Wth d f B (jK B o i k).1 (jK B o i k).2 (f o 0 (eV d f B.tm i.toNat) (eV d f B.tm k.toNat) zr):=by
 obtain ⟨hb,g⟩:=bM hS (.inr ⟨h2,h7,hi,hk⟩) hov
 refine ⟨hb,g.sb,g.ext,g.ix,?_⟩
 rw[g.ev hA.ok]
 dsimp only
 rw[g.ext.ev (qO hi),g.ext.ev (qO hk)]
 rcases kdN_rng o with e | e | e
 ·have hc:o=2\/o=3\/o=4\/o=5\/o=6\/o=7:=by omega
  rcases hc with rfl | rfl | rfl | rfl | rfl | rfl<;>exact absurd e (by decide)
 ·exact hA.ok.k1 _ _ _ _ _ _ _ e
 ·exact hA.ok.k2 _ _ _ _ _ _ e
theorem lC(hA:Alg A d f){B:uT}{i n:Int}(hS:SB B)(hi:gV B i)(h:bIs B i n=true):eV d f B.tm i.toNat=f 0 0 d d (jM (n:Rat)):=by
 unfold bIs at h
 rw[Bool.and_eq_true,Bool.and_eq_true,decide_eq_true_eq,beq_iff_eq,beq_iff_eq] at h
 obtain ⟨⟨_,h1⟩,h2⟩:=h
 rw[eV_node hA.ok (qO hi) (hS.hB.ho _ (qO hi)),h1]
 exact (hA.ok.k0 0 _ _ _ d d _ (by decide)).trans (hA.c _ _ _ _ (by rw[cmpQ_eq.1 h2,vY]))
theorem Wth.self{B:uT}{i:Int}(hS:SB B)(hi:gV B i):Wth d f B B i (eV d f B.tm i.toNat):=⟨hS,.refl B,hi,rfl⟩
theorem Wth.to{B B':uT}{r:Int}{a b:A}(h:Wth d f B B' r a)(e:a=b):Wth d f B B' r b:=e▸h
theorem bSum_wth(hA:Alg A d f){B:uT}{i k:Int}(hS:SB B)(hi:gV B i)(hk:gV B k)(hov:(gD B i k).1.ov=false):B.ov=false/\Wth d f B (gD B i k).1 (gD B i k).2 (f 2 0 (eV d f B.tm i.toNat) (eV d f B.tm k.toNat) zr):=by
 cases h1:bIs B i 0 with
 |true=>
  rw[bSum_1 h1] at hov ⊢
  exact ⟨hov,(Wth.self hS hk).to (by rw[lC hA hS hi h1];exact (hA.a0 _ _).symm)⟩
 |false=>
  cases h2:bIs B k 0 with
  |true=>
   rw[bSum_2 h1 h2] at hov ⊢
   exact ⟨hov,(Wth.self hS hi).to (by rw[lC hA hS hk h2];exact (hA.a1 _ _).symm)⟩
  |false=>
   rw[bSum_3 h1 h2] at hov ⊢
   exact mQ hA hS (by decide) (by decide) hi hk hov
theorem bDif_wth(hA:Alg A d f){B:uT}{i k:Int}(hS:SB B)(hi:gV B i)(hk:gV B k)(hov:(qV B i k).1.ov=false):B.ov=false/\Wth d f B (qV B i k).1 (qV B i k).2 (f 3 0 (eV d f B.tm i.toNat) (eV d f B.tm k.toNat) zr):=by
 cases h1:bIs B k 0 with
 |true=>
  rw[bDif_1 h1] at hov ⊢
  exact ⟨hov,(Wth.self hS hi).to (by rw[lC hA hS hk h1];exact (hA.s0 _ _).symm)⟩
 |false=>
  cases h2:bIs B i 0 with
  |true=>
   rw[bDif_2 h1 h2] at hov ⊢
   obtain ⟨hb,w⟩:=mQ hA hS (by decide) (by decide) hk hk.pos hov
   exact ⟨hb,w.to (by rw[lC hA hS hi h2];exact (hA.ok.k1 6 0 0 _ _ d _ (by decide)).trans (hA.s1 _ _).symm)⟩
  |false=>
   rw[bDif_3 h1 h2] at hov ⊢
   exact mQ hA hS (by decide) (by decide) hi hk hov
theorem iK(hA:Alg A d f){B:uT}{i k:Int}(hS:SB B)(hi:gV B i)(hk:gV B k)(hov:(kA B i k).1.ov=false):B.ov=false/\Wth d f B (kA B i k).1 (kA B i k).2 (f 4 0 (eV d f B.tm i.toNat) (eV d f B.tm k.toNat) zr):=by
 cases h1:(bIs B i 0||bIs B k 1) with
 |true=>
  rw[bPrd_1 h1] at hov ⊢
  refine ⟨hov,(Wth.self hS hi).to ?_⟩
  rw[Bool.or_eq_true] at h1
  rcases h1 with h1 | h1
  ·rw[lC hA hS hi h1];exact (hA.m0 _ _).symm
  ·rw[lC hA hS hk h1];exact (hA.u1 _ _).symm
 |false=>
  cases h2:(bIs B k 0||bIs B i 1) with
  |true=>
   rw[bPrd_2 h1 h2] at hov ⊢
   refine ⟨hov,(Wth.self hS hk).to ?_⟩
   rw[Bool.or_eq_true] at h2
   rcases h2 with h2 | h2
   ·rw[lC hA hS hk h2];exact (hA.m1 _ _).symm
   ·rw[lC hA hS hi h2];exact (hA.u0 _ _).symm
  |false=>
   rw[bPrd_3 h1 h2] at hov ⊢
   exact mQ hA hS (by decide) (by decide) hi hk hov
def dfN(d:A)(f:Nf A)(i:Int)(x:jS)(va vb da db q:A):A :=
 if x.op=0 then f 0 0 d d (jM ((0:Int):Rat))
 else if x.op=1 then (if x.a=i then f 0 0 d d (jM ((1:Int):Rat)) else f 0 0 d d (jM ((0:Int):Rat)))
 else if x.op=6 then f 3 0 (f 0 0 d d (jM ((0:Int):Rat))) da zr
 else if x.op=7 then f 4 0 (f 0 0 d d (jM ((2:Int):Rat))) (f 4 0 va da zr) zr
 else if x.op=2 then f 2 0 da db zr
 else if x.op=3 then f 3 0 da db zr
 else if x.op=4 then f 2 0 (f 4 0 va db zr) (f 4 0 vb da zr) zr
 else f 5 0 (f 3 0 da (f 4 0 q db zr) zr) vb zr
theorem Wth.up{B B' B2:uT}{r:Int}{a:A}(w:Wth d f B B' r a)(h:Ext B2 B):Wth d f B2 B' r a:=⟨w.sb,h.trans w.ext,w.ix,w.ev⟩
structure Wt2 (d:A) (f:Nf A) (B:uT) (r:uT × Int × Int) (a b:A):Prop where
 sb:SB r.1
 ext:Ext B r.1
 i1:gV r.1 r.2.1
 i2:gV r.1 r.2.2
 e1:eV d f r.1.tm r.2.1.toNat=a
 e2:eV d f r.1.tm r.2.2.toNat=b
theorem wt2{B B1 B2:uT}{r u:Int}{a b:A}(w:Wth d f B B1 r a)(w2:Wth d f B1 B2 u b):Wt2 d f B (B2,r,u) a b :=
 ⟨w2.sb,w.ext.trans w2.ext,w2.ext.ix w.ix,w2.ix,(w2.ext.ev (qO w.ix)).trans w.ev,w2.ev⟩
theorem Wth.keep{B B1:uT}{r j:Int}{a:A}(w:Wth d f B B1 r a)(hj:gV B j):Wth d f B1 B1 j (eV d f B.tm j.toNat):=⟨w.sb,.refl _,w.ext.ix hj,w.ext.ev (qO hj)⟩
theorem val_eq(hA:Alg A d f){x:jS}(h:x.op≠0)(hk:0<qB x.op)(u v:A):f x.op 0 u v zr=f x.op x.a u v x.n:=by
 rw[hA.ok.n0 _ _ _ _ zr x.n h]
 rcases kdN_rng x.op with e | e | e
 ·omega
 ·exact hA.ok.k1 _ _ _ _ _ _ _ e
 ·exact hA.ok.k2 _ _ _ _ _ _ e
theorem dNd_wth(hA:Alg A d f)(hT:TxI){i z o:Int}{k:Nat}{B:uT}{V S:List Int}{x:jS}(hS:SB B)(h:DPre k z o B V S x)
  (hz:eV d f B.tm z.toNat=f 0 0 d d (jM ((0:Int):Rat))) (ho:eV d f B.tm o.toNat=f 0 0 d d (jM ((1:Int):Rat))) (hov:(aY i z o B V S x).1.ov=false) :
  B.ov=false/\Wt2 d f B (aY i z o B V S x) (f x.op x.a (eV d f B.tm (gI V x.a).toNat) (eV d f B.tm (gI V x.b).toNat) x.n)
   (dfN d f i x (eV d f B.tm (gI V x.a).toNat) (eV d f B.tm (gI V x.b).toNat) (eV d f B.tm (gI S x.a).toNat) (eV d f B.tm (gI S x.b).toNat) (f x.op x.a (eV d f B.tm (gI V x.a).toNat) (eV d f B.tm (gI V x.b).toNat) x.n)):=by
 have h0:=h.op0;have h7:=h.op7
 have hc:x.op=0\/x.op=1\/x.op=2\/x.op=3\/x.op=4\/x.op=5\/x.op=6\/x.op=7:=by omega
 have k1:x.op=2\/x.op=3\/x.op=4\/x.op=5\/x.op=6\/x.op=7->0<qB x.op:=λe=>by rcases e with e | e | e | e | e | e<;>rw[e]<;>decide
 have k2:x.op=2\/x.op=3\/x.op=4\/x.op=5->1<qB x.op:=λe=>by rcases e with e | e | e | e<;>rw[e]<;>decide
 rcases hc with e | e | e | e | e | e | e | e
 ·rw[dNd_0 e] at hov ⊢
  obtain ⟨hb,g⟩:=iG hT hS (h.num e) hov
  refine ⟨hb,g.sb,g.ext,g.ix,g.ext.ix h.hz,?_,?_⟩
  ·dsimp only
   rw[g.ev hA.ok];dsimp only
   rw[e]
   exact (hA.ok.k0 0 _ _ _ d d _ (by decide)).trans ((hA.c _ x.a _ x.n (vY _)).trans (hA.ok.k0 0 _ _ _ _ _ _ (by decide)))
  ·dsimp only
   rw[g.ext.ev (qO h.hz),hz];exact (if_pos e).symm
 ·rw[dNd_1 e] at hov ⊢
  obtain ⟨hb,g⟩:=bM hS (.inl ⟨rfl,rfl,by have:=qO h.hz;omega⟩) hov
  have hzo:gV B (if x.a=i then o else z):=by split;exact h.ho;exact h.hz
  refine ⟨hb,g.sb,g.ext,g.ix,g.ext.ix hzo,?_,?_⟩
  ·dsimp only
   rw[g.ev hA.ok];dsimp only
   rw[e,hA.ok.n0 1 x.a _ _ zr x.n (by decide)]
   exact hA.ok.k0 1 _ _ _ _ _ _ (by decide)
  ·dsimp only
   rw[g.ext.ev (qO hzo)]
   have e2:∀ va vb da db q:A,dfN d f i x va vb da db q=if x.a=i then f 0 0 d d (jM ((1:Int):Rat)) else f 0 0 d d (jM ((0:Int):Rat)):=λva vb da db q=>by
    unfold dfN;rw[if_neg (show ¬ x.op=0 by omega),if_pos e]
   rw[e2]
   by_cases hi:x.a=i
   ·rw[if_pos hi,if_pos hi];exact ho
   ·rw[if_neg hi,if_neg hi];exact hz
 ·have va:=h.va (k1 (.inl e));have vb:=h.vb (k2 (.inl e));have sa:=h.sa (k1 (.inl e));have sb:=h.sb (k2 (.inl e))
  rw[dNd_2 e] at hov ⊢
  have o1:=bSum_ov hov
  obtain ⟨hb,w⟩:=mQ (d:=d) (f:=f) hA hS (by decide) (by decide) va vb o1
  obtain ⟨_,w2⟩:=bSum_wth (d:=d) (f:=f) hA w.sb (w.ext.ix sa) (w.ext.ix sb) hov
  refine ⟨hb,wt2 (w.to ?_) (w2.to ?_)⟩
  ·have e3:=val_eq hA (x:=x) (by omega) (k1 (.inl e)) (eV d f B.tm (gI V x.a).toNat) (eV d f B.tm (gI V x.b).toNat)
   rw[<- e3,e]
  ·rw[w.ext.ev (qO sa),w.ext.ev (qO sb)]
   unfold dfN;simp only[e];rfl
 ·have va:=h.va (k1 (.inr (.inl e)));have vb:=h.vb (k2 (.inr (.inl e)));have sa:=h.sa (k1 (.inr (.inl e)));have sb:=h.sb (k2 (.inr (.inl e)))
  rw[dNd_3 e] at hov ⊢
  have o1:=iY hov
  obtain ⟨hb,w⟩:=mQ (d:=d) (f:=f) hA hS (by decide) (by decide) va vb o1
  obtain ⟨_,w2⟩:=bDif_wth (d:=d) (f:=f) hA w.sb (w.ext.ix sa) (w.ext.ix sb) hov
  refine ⟨hb,wt2 (w.to ?_) (w2.to ?_)⟩
  ·have e3:=val_eq hA (x:=x) (by omega) (k1 (.inr (.inl e))) (eV d f B.tm (gI V x.a).toNat) (eV d f B.tm (gI V x.b).toNat)
   rw[<- e3,e]
  ·rw[w.ext.ev (qO sa),w.ext.ev (qO sb)]
   unfold dfN;simp only[e];rfl
 ·have va:=h.va (k1 (.inr (.inr (.inl e))));have vb:=h.vb (k2 (.inr (.inr (.inl e))));have sa:=h.sa (k1 (.inr (.inr (.inl e))));have sb:=h.sb (k2 (.inr (.inr (.inl e))))
  rw[dNd_4 e] at hov ⊢
  have o3:=bSum_ov hov
  have o2:=mT o3
  have o1:=mT o2
  obtain ⟨hb,w⟩:=mQ (d:=d) (f:=f) hA hS (by decide) (by decide) va vb o1
  obtain ⟨_,w2⟩:=iK (d:=d) (f:=f) hA w.sb (w.ext.ix va) (w.ext.ix sb) o2
  obtain ⟨_,w3⟩:=iK (d:=d) (f:=f) hA w2.sb (w2.ext.ix (w.ext.ix vb)) (w2.ext.ix (w.ext.ix sa)) o3
  obtain ⟨_,w4⟩:=bSum_wth (d:=d) (f:=f) hA w3.sb (w3.ext.ix w2.ix) w3.ix hov
  refine ⟨hb,wt2 (w.to ?_) ((w4.up (w2.ext.trans w3.ext)).to ?_)⟩
  ·have e3:=val_eq hA (x:=x) (by omega) (k1 (.inr (.inr (.inl e)))) (eV d f B.tm (gI V x.a).toNat) (eV d f B.tm (gI V x.b).toNat)
   rw[<- e3,e]
  ·rw[w3.ext.ev (qO w2.ix),w2.ev,w3.ev,w2.ext.ev (qO (w.ext.ix vb)),w2.ext.ev (qO (w.ext.ix sa)),w.ext.ev (qO va),w.ext.ev (qO vb),w.ext.ev (qO sa),w.ext.ev (qO sb)]
   unfold dfN;simp only[e];rfl
 ·have k5:=k1 (.inr (.inr (.inr (.inl e))));have k6:=k2 (.inr (.inr (.inr e)))
  have va:=h.va k5;have vb:=h.vb k6;have sa:=h.sa k5;have sb:=h.sb k6
  have e3:=val_eq hA (x:=x) (by omega) k5 (eV d f B.tm (gI V x.a).toNat) (eV d f B.tm (gI V x.b).toNat)
  have e3:f 5 0 (eV d f B.tm (gI V x.a).toNat) (eV d f B.tm (gI V x.b).toNat) zr=f x.op x.a (eV d f B.tm (gI V x.a).toNat) (eV d f B.tm (gI V x.b).toNat) x.n:=by rw[<- e3,e]
  have fin:∀ (hd:(qV (kA (jK B 5 (gI V x.a) (gI V x.b)).1 (jK B 5 (gI V x.a) (gI V x.b)).2 (gI S x.b)).1 (gI S x.a) (kA (jK B 5 (gI V x.a) (gI V x.b)).1 (jK B 5 (gI V x.a) (gI V x.b)).2 (gI S x.b)).2).1.ov=false),
    B.ov=false/\Wth d f B (jK B 5 (gI V x.a) (gI V x.b)).1 (jK B 5 (gI V x.a) (gI V x.b)).2 (f x.op x.a (eV d f B.tm (gI V x.a).toNat) (eV d f B.tm (gI V x.b).toNat) x.n)/\Wth d f (jK B 5 (gI V x.a) (gI V x.b)).1 (qV (kA (jK B 5 (gI V x.a) (gI V x.b)).1 (jK B 5 (gI V x.a) (gI V x.b)).2 (gI S x.b)).1 (gI S x.a) (kA (jK B 5 (gI V x.a) (gI V x.b)).1 (jK B 5 (gI V x.a) (gI V x.b)).2 (gI S x.b)).2).1 (qV (kA (jK B 5 (gI V x.a) (gI V x.b)).1 (jK B 5 (gI V x.a) (gI V x.b)).2 (gI S x.b)).1 (gI S x.a) (kA (jK B 5 (gI V x.a) (gI V x.b)).1 (jK B 5 (gI V x.a) (gI V x.b)).2 (gI S x.b)).2).2 (f 3 0 (eV d f B.tm (gI S x.a).toNat) (f 4 0 (f x.op x.a (eV d f B.tm (gI V x.a).toNat) (eV d f B.tm (gI V x.b).toNat) x.n) (eV d f B.tm (gI S x.b).toNat) zr) zr):=λhd=>by
   have o2:=iY hd
   have o1:=mT o2
   obtain ⟨hb,w⟩:=mQ (d:=d) (f:=f) hA hS (by decide) (by decide) va vb o1
   obtain ⟨_,w2⟩:=iK (d:=d) (f:=f) hA w.sb w.ix (w.ext.ix sb) o2
   obtain ⟨_,w3⟩:=bDif_wth (d:=d) (f:=f) hA w2.sb (w2.ext.ix (w.ext.ix sa)) w2.ix hd
   refine ⟨hb,w.to e3,(w3.up w2.ext).to ?_⟩
   rw[w2.ext.ev (qO (w.ext.ix sa)),w2.ev,w.ev,w.ext.ev (qO sa),w.ext.ev (qO sb),e3]
  cases hzz:bIs (qV (kA (jK B 5 (gI V x.a) (gI V x.b)).1 (jK B 5 (gI V x.a) (gI V x.b)).2 (gI S x.b)).1 (gI S x.a) (kA (jK B 5 (gI V x.a) (gI V x.b)).1 (jK B 5 (gI V x.a) (gI V x.b)).2 (gI S x.b)).2).1 (qV (kA (jK B 5 (gI V x.a) (gI V x.b)).1 (jK B 5 (gI V x.a) (gI V x.b)).2 (gI S x.b)).1 (gI S x.a) (kA (jK B 5 (gI V x.a) (gI V x.b)).1 (jK B 5 (gI V x.a) (gI V x.b)).2 (gI S x.b)).2).2 0 with
  |true=>
   rw[dNd_5z e.symm hzz] at hov ⊢
   obtain ⟨hb,w,w3⟩:=fin hov
   have hz2:=lC hA w3.sb w3.ix hzz
   rw[w3.ev] at hz2
   refine ⟨hb,wt2 w ((Wth.mk w3.sb w3.ext (w3.ext.ix (w.ext.ix h.hz)) rfl).to ?_)⟩
   rw[w3.ext.ev (qO (w.ext.ix h.hz)),w.ext.ev (qO h.hz),hz]
   unfold dfN;simp only[e]
   rw[e] at hz2
   show _=f 5 0 (f 3 0 _ (f 4 0 (f 5 x.a _ _ x.n) _ zr) zr) _ zr
   rw[hz2];exact (hA.d0 _ _).symm
  |false=>
   rw[dNd_5 e.symm hzz] at hov ⊢
   obtain ⟨hb,w,w3⟩:=fin (yQ hov)
   obtain ⟨_,w4⟩:=mQ (d:=d) (f:=f) hA w3.sb (by decide) (by decide) w3.ix (w3.ext.ix (w.ext.ix vb)) hov
   refine ⟨hb,wt2 w ((w4.up w3.ext).to ?_)⟩
   rw[w3.ev,w3.ext.ev (qO (w.ext.ix vb)),w.ext.ev (qO vb)]
   unfold dfN;simp only[e];rfl
 ·have k5:=k1 (.inr (.inr (.inr (.inr (.inl e)))))
  have va:=h.va k5;have sa:=h.sa k5
  rw[dNd_6 e] at hov ⊢
  have o1:=iY hov
  obtain ⟨hb,g⟩:=bM hS (.inr ⟨by decide,by decide,va,va.pos⟩) o1
  obtain ⟨_,w2⟩:=bDif_wth (d:=d) (f:=f) hA g.sb (g.ext.ix h.hz) (g.ext.ix sa) hov
  have w:Wth d f B (jK B 6 (gI V x.a) 0).1 (jK B 6 (gI V x.a) 0).2 (f x.op x.a (eV d f B.tm (gI V x.a).toNat) (eV d f B.tm (gI V x.b).toNat) x.n):=⟨g.sb,g.ext,g.ix,by
   rw[g.ev hA.ok];dsimp only
   rw[g.ext.ev (qO va),e,hA.ok.n0 6 _ _ _ zr x.n (by decide)]
   exact hA.ok.k1 6 _ _ _ _ _ _ (by decide)⟩
  refine ⟨hb,wt2 w (w2.to ?_)⟩
  rw[g.ext.ev (qO h.hz),g.ext.ev (qO sa),hz]
  unfold dfN;simp only[e];rfl
 ·have k5:=k1 (.inr (.inr (.inr (.inr (.inr e)))))
  have va:=h.va k5;have sa:=h.sa k5
  have w0:(jK B 7 (gI V x.a) 0).1.ov=false->B.ov=false/\Wth d f B (jK B 7 (gI V x.a) 0).1 (jK B 7 (gI V x.a) 0).2 (f x.op x.a (eV d f B.tm (gI V x.a).toNat) (eV d f B.tm (gI V x.b).toNat) x.n):=λo1=>by
   obtain ⟨hb,g⟩:=bM hS (.inr ⟨by decide,by decide,va,va.pos⟩) o1
   exact ⟨hb,g.sb,g.ext,g.ix,by
    rw[g.ev hA.ok];dsimp only
    rw[g.ext.ev (qO va),e,hA.ok.n0 7 _ _ _ zr x.n (by decide)]
    exact hA.ok.k1 7 _ _ _ _ _ _ (by decide)⟩
  by_cases hzz:(kA (jK B 7 (gI V x.a) 0).1 (gI V x.a) (gI S x.a)).2=z
  ·rw[dNd_7z e hzz] at hov ⊢
   obtain ⟨hb,w⟩:=w0 (mT hov)
   obtain ⟨_,w2⟩:=iK (d:=d) (f:=f) hA w.sb (w.ext.ix va) (w.ext.ix sa) hov
   have e5:=w2.ev
   rw[hzz,w2.ext.ev (qO (w.ext.ix h.hz)),w.ext.ev (qO h.hz),hz,w.ext.ev (qO va),w.ext.ev (qO sa)] at e5
   refine ⟨hb,wt2 w ((Wth.mk w2.sb w2.ext (w2.ext.ix (w.ext.ix h.hz)) rfl).to ?_)⟩
   rw[w2.ext.ev (qO (w.ext.ix h.hz)),w.ext.ev (qO h.hz),hz]
   unfold dfN;simp only[e]
   show _=f 4 0 _ (f 4 0 _ _ zr) zr
   rw[<- e5];exact (hA.m1 _ _).symm
  ·rw[dNd_7 e hzz] at hov ⊢
   have o3:=mT hov
   have o2:=bNum_ov o3
   obtain ⟨hb,w⟩:=w0 (mT o2)
   obtain ⟨_,w2⟩:=iK (d:=d) (f:=f) hA w.sb (w.ext.ix va) (w.ext.ix sa) o2
   obtain ⟨_,g⟩:=iG hT w2.sb (ql_i (z:=2)) o3
   obtain ⟨_,w4⟩:=iK (d:=d) (f:=f) hA g.sb g.ix (g.ext.ix w2.ix) hov
   refine ⟨hb,wt2 w ((w4.up (w2.ext.trans g.ext)).to ?_)⟩
   rw[g.ev hA.ok,g.ext.ev (qO w2.ix),w2.ev,w.ext.ev (qO va),w.ext.ev (qO sa)]
   unfold dfN;simp only[e]
   show f 4 0 (f 0 0 _ _ _) _ zr=f 4 0 (f 0 0 d d _) (f 4 0 _ _ zr) zr
   rw[hA.ok.k0 0 0 _ _ d d _ (by decide)]
theorem dfN_congr{i:Int}{x:jS}{va vb da db q va' vb' da' db' q':A}(h1:0<qB x.op->va=va'/\da=da')(h2:1<qB x.op->vb=vb'/\db=db')(hq:q=q')(h0:0<=x.op)(h7:x.op<=7) :
  dfN d f i x va vb da db q=dfN d f i x va' vb' da' db' q':=by
 subst hq
 have hc:x.op=0\/x.op=1\/x.op=2\/x.op=3\/x.op=4\/x.op=5\/x.op=6\/x.op=7:=by omega
 rcases hc with e | e | e | e | e | e | e | e<;>rw[e] at h1 h2<;>unfold dfN<;>simp only[e]
 ·rfl
 ·rfl
 ·rw[(h1 (by decide)).2,(h2 (by decide)).2];rfl
 ·rw[(h1 (by decide)).2,(h2 (by decide)).2];rfl
 ·rw[(h1 (by decide)).1,(h1 (by decide)).2,(h2 (by decide)).1,(h2 (by decide)).2]
 ·rw[(h1 (by decide)).2,(h2 (by decide)).1,(h2 (by decide)).2];rfl
 ·rw[(h1 (by decide)).2];rfl
 ·rw[(h1 (by decide)).1,(h1 (by decide)).2];rfl
theorem nf_congr(hf:NfOk f){x:jS}{va vb va' vb':A}(h1:0<qB x.op->va=va')(h2:1<qB x.op->vb=vb'):f x.op x.a va vb x.n=f x.op x.a va' vb' x.n:=by
 rcases kdN_rng x.op with e | e | e
 ·exact hf.k0 _ _ _ _ _ _ _ e
 ·rw[h1 (by omega)];exact hf.k1 _ _ _ _ _ _ _ e
 ·rw[h1 (by omega),h2 (by omega)]
def dfU(d:A)(f:Nf A)(i:Int)(t:List jS):Nat->List A
 |0=>[]
 |k+1=>dfU d f i t k++[dfN d f i (t.getD k tz) ((aG d f t k).getD (t.getD k tz).a.toNat d) ((aG d f t k).getD (t.getD k tz).b.toNat d) ((dfU d f i t k).getD (t.getD k tz).a.toNat d) ((dfU d f i t k).getD (t.getD k tz).b.toNat d) (nfV d f (aG d f t k) (t.getD k tz))]
theorem fM(i:Int)(t:List jS):∀ k,(dfU d f i t k).length=k
 |0=>rfl
 |k+1=>by rw[dfU,length_append,fM i t k];rfl
structure DSem (d:A) (f:Nf A) (i:Int) (t:List jS) (k:Nat):Prop where
 sb:SB (dU i t k).1
 z:eV d f (dU i t k).1.tm gQ.2.toNat=f 0 0 d d (jM ((0:Int):Rat))
 o:eV d f (dU i t k).1.tm dOn.2.toNat=f 0 0 d d (jM ((1:Int):Rat))
 v:∀ j,j<k->eV d f (dU i t k).1.tm ((dU i t k).2.1.getD j 0).toNat=(aG d f t k).getD j d
 s:∀ j,j<k->eV d f (dU i t k).1.tm ((dU i t k).2.2.getD j 0).toNat=(dfU d f i t k).getD j d
theorem sb0:SB rb0:=⟨rbi0,λe h=>(by cases h),λe h=>(by cases h),λj h=>absurd h (Nat.not_lt_zero j),λj h=>absurd h (Nat.not_lt_zero j)⟩
theorem dNd_ov{i z o:Int}{B:uT}{V S:List Int}{x:jS}(h:(aY i z o B V S x).1.ov=false):B.ov=false:=by
 unfold aY at h
 split at h
 ·exact bNum_ov h
 split at h
 ·exact yQ h
 split at h
 ·exact yQ (iY h)
 split at h
 ·dsimp only at h
  split at h
  ·exact yQ (mT h)
  ·exact yQ (mT (bNum_ov (mT h)))
 split at h
 ·exact yQ (bSum_ov h)
 split at h
 ·exact yQ (iY h)
 split at h
 ·exact yQ (mT (mT (bSum_ov h)))
 ·dsimp only at h
  split at h
  ·exact yQ (mT (iY h))
  ·exact yQ (mT (iY (yQ h)))
theorem dU_sem(hA:Alg A d f)(hT:TxI){i n:Int}{t:List jS}(h0:yT n t=0)(hq:∀ x∈t,yB x.n (qS x.n) 1048576):∀ k,k<=t.length->(dU i t k).1.ov=false->DSem d f i t k
 |0,_,hov=>by
  have hov:dOn.1.ov=false:=hov
  obtain ⟨hz,_⟩:gQ.1.ov=false/\True:=⟨bNum_ov hov,trivial⟩
  obtain ⟨_,g⟩:=iG hT sb0 (ql_i (z:=0)) hz
  obtain ⟨_,g2⟩:=iG hT g.sb (ql_i (z:=1)) hov
  have e1:eV d f gQ.1.tm gQ.2.toNat=f 0 0 d d (jM ((0:Int):Rat)):=by
   have:=g.ev (d:=d) hA.ok;exact this.trans (hA.ok.k0 0 0 _ _ d d _ (by decide))
  have e2:eV d f dOn.1.tm dOn.2.toNat=f 0 0 d d (jM ((1:Int):Rat)):=by
   have:=g2.ev (d:=d) hA.ok;exact this.trans (hA.ok.k0 0 0 _ _ d d _ (by decide))
  exact ⟨g2.sb,(g2.ext.ev (qO g.ix)).trans e1,e2,λj h=>absurd h (Nat.not_lt_zero j),λj h=>absurd h (Nat.not_lt_zero j)⟩
 |k+1,hk,hov=>by
  have hov:(aY i gQ.2 dOn.2 (dU i t k).1 (dU i t k).2.1 (dU i t k).2.2 (t.getD k tz)).1.ov=false:=hov
  have ih:=dU_sem hA hT (i:=i) h0 hq k (by omega) (dNd_ov hov)
  have iv:=dInv (i:=i) h0 hq k (by omega)
  have hp:=iv.pre h0 hq (by omega)
  obtain ⟨_,w⟩:=dNd_wth hA hT ih.sb hp ih.z ih.o hov
  have lV:=iv.lV
  have lS:=iv.lS
  obtain ⟨c1,c2,c3,c4⟩:=nd_k h0 hq (show k<t.length by omega)
  have ev1:∀ c:Int,0<=c->c<(k:Int)->eV d f (dU i t k).1.tm (gI (dU i t k).2.1 c).toNat=(aG d f t k).getD c.toNat d:=λc q1 q2=>ih.v c.toNat (by omega)
  have es1:∀ c:Int,0<=c->c<(k:Int)->eV d f (dU i t k).1.tm (gI (dU i t k).2.2 c).toNat=(dfU d f i t k).getD c.toNat d:=λc q1 q2=>ih.s c.toNat (by omega)
  have en:f (t.getD k tz).op (t.getD k tz).a (eV d f (dU i t k).1.tm (gI (dU i t k).2.1 (t.getD k tz).a).toNat) (eV d f (dU i t k).1.tm (gI (dU i t k).2.1 (t.getD k tz).b).toNat) (t.getD k tz).n=nfV d f (aG d f t k) (t.getD k tz) :=
   nf_congr hA.ok (λq=>ev1 _ (c1.1 q).1 (c1.1 q).2) (λq=>ev1 _ (c1.2 q).1 (c1.2 q).2)
  have w1:=w.e1.trans en
  have w2:=w.e2.trans (dfN_congr (λq=>⟨ev1 _ (c1.1 q).1 (c1.1 q).2,es1 _ (c1.1 q).1 (c1.1 q).2⟩) (λq=>⟨ev1 _ (c1.2 q).1 (c1.2 q).2,es1 _ (c1.2 q).1 (c1.2 q).2⟩) en c3 c4)
  refine ⟨w.sb,(w.ext.ev (qO iv.hz)).trans ih.z,(w.ext.ev (qO iv.ho)).trans ih.o,λj hj=>?_,λj hj=>?_⟩
  ·show eV d f (aY i gQ.2 dOn.2 (dU i t k).1 (dU i t k).2.1 (dU i t k).2.2 (t.getD k tz)).1.tm (((dU i t k).2.1++[(aY i gQ.2 dOn.2 (dU i t k).1 (dU i t k).2.1 (dU i t k).2.2 (t.getD k tz)).2.1]).getD j 0).toNat=_
   rw[aG,qC,qC,lV,eN]
   rcases Nat.lt_or_ge j k with hjk | hjk
   ·rw[if_pos hjk,if_pos hjk,w.ext.ev (qO (iv.hV j hjk))];exact ih.v j hjk
   ·obtain rfl:j=k:=by omega
    rw[if_neg (Nat.lt_irrefl _),if_pos rfl,if_neg (Nat.lt_irrefl _),if_pos rfl];exact w1
  ·show eV d f (aY i gQ.2 dOn.2 (dU i t k).1 (dU i t k).2.1 (dU i t k).2.2 (t.getD k tz)).1.tm (((dU i t k).2.2++[(aY i gQ.2 dOn.2 (dU i t k).1 (dU i t k).2.1 (dU i t k).2.2 (t.getD k tz)).2.2]).getD j 0).toNat=_
   rw[dfU,qC,qC,lS,fM]
   rcases Nat.lt_or_ge j k with hjk | hjk
   ·rw[if_pos hjk,if_pos hjk,w.ext.ev (qO (iv.hS j hjk))];exact ih.s j hjk
   ·obtain rfl:j=k:=by omega
    rw[if_neg (Nat.lt_irrefl _),if_pos rfl,if_neg (Nat.lt_irrefl _),if_pos rfl];exact w2
end
end Go.Fid
