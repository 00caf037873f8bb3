/- Part 15 of a proof: rules, plain facts, and functions walked. -/
import Derived.Test.YtckccjhflbljgaaGreatDoorM14
set_option linter.all false
set_option maxRecDepth 4000
namespace Go.Proofs.YtckccjhflbljgaaGreatDoor
open List Tryz
open Go.Fid
theorem bJ:lM prog 30 1=some (1,28):=by kernel_rfl
theorem aS(l:List Nat)(i:Nat)(hd:Dig l):jP prog 169 [(.sl 107 1 (map jC l)),(.val (.int .i64 (((i:Nat):Int))))] (.val (.int .u64 ((((l.getD i 0):Nat):Int)))):=by
 have hg:=hd.getD i
 refine vD func169 ?_
 refine jB<|kx [] [] (zM<|zZ) ?_
 refine jB<|jB<|kx [(8,(vb (decide (((i:Nat):Int)<((l.length:Nat):Int)))))] [] (zM<|zM<|zE (yA kJ)<|zE gX<|zZ) ?_
 refine jD rfl (λh1=>?_) (λh1=>?_)
 ·replace h1:=vF h1
  refine jB<|kx [(4,(gL (l.getD i 0)))] [] (zM<|zM<|zE (cB kJ i (0:Nat))<|zE (dK qP)<|zE (cA yU yJ (l.getD i 0))<|zM<|zZ) ?_
  refine jE ⟨_,(.tmp (d:=(.val (.int .u64 ((((l.getD i 0):Nat):Int))))) rfl .nil),?_⟩
  rfl
 ·replace h1:=vT h1
  refine jF<|jB<|kx [(4,(gL 0))] [] (zM<|zZ) ?_
  refine jE ⟨_,(.tmp (d:=(.val (.int .u64 (0)))) rfl .nil),?_⟩
  rw[show l.getD i 0=0 from getD_out (by omega)];rfl
theorem mD(neg:Bool)(l:List Nat)(hd:Dig l)(hb:l.length<=17592186044416):jP prog 115 [(.val (.bool (neg))),(.sl 107 1 (map jC l))] (jQ (xU neg (val l))):=by
 refine vD func115 ?_
 refine jB<|kx [(4,(.ref 0 0))] [(0,some (bx (jQ (kW.mk false []))))] (zN (vB 0 nT nY)<|zZ) ?_
 refine jB<|kx [(5,(kE l.length))] [] (zM<|zE (yA kJ)<|zM<|zZ) ?_
 refine jB<|jH<|kR (α:=Nat) (λk=>⟨[(0,(vb neg)),(1,(vl 107 1 jC l)),(4,(.ref 0 0)),(5,(kE k))],[(0,some (bx (jQ (kW.mk false []))))]⟩) (λk=>k<=l.length/\val (l.take k)=val l) (λk=>k) l.length wk ⟨Nat.le_refl _,by rw[take_length]⟩ ?_
 rintro k ⟨hk,hv⟩
 refine jB<|jB<|kx [(17,(vb (decide (0<((k:Nat):Int))&&((((l.getD (k-1) 0):Nat):Int) == 0))))] [] ?_ ?_
 ·refine zM<|zE eR<|zE (oV (vb (decide (0<((k:Nat):Int)))) (qA (by kernel_rfl)))<|?_
  rcases hb1:(decide (0<((k:Nat):Int))) with _ | _
  ·replace hb1:=vT hb1
   exact zK<|zK<|zK<|zK<|zK<|zK<|zE yD<|zZ
  ·replace hb1:=vF hb1
   exact zM<|zM<|zE (oSb (k-1))<|zE (cB kJ (k-1) (0:Nat))<|zE (dK qP)<|zE xL<|zE fL<|zZ
 refine jD rfl (λh2=>?_) (λh2=>?_)
 ·have hm:=r_made_step hk hv h2
  have hm0:=hm.1
  refine jF<|jH<|kx [(5,(kE (k-1)))] [] (zM<|zE (oSb (k-1))<|zM<|zZ) ?_
  exact ⟨(k-1),wk,⟨by omega,hm.2⟩,(by first|omega|(dsimp only;omega))⟩
 ·refine kO<|jB<|kx [] [(0,some (bx (jQ (kW.mk (neg&&decide (0<((k:Nat):Int))) (List.take k l)))))] ?_ ?_
  ·refine zM<|zE (oV (vb neg) (qA (by kernel_rfl)))<|?_
   rcases hb3:neg with _ | _
   ·exact zK<|zK<|zE yD<|zE (oBe kJ)<|zM<|zM<|zE (e_slc (l:=0) (h:=k) (kl:=.i64) (kh:=.i64) (es':=map jC (List.take k l)) (by exact rfl) kJ (by exact rfl) (by exact rfl) (by exact rfl) (Nat.zero_le _) (by simp only[length_map];omega) (by rw[drop_zero,map_take]))<|zE (e_appe (by exact rfl) kJ xA (by kernel_rfl) mK (by exact rfl) (by exact rfl) (by simp only[length_map,length_take,length_drop,length_append,length_cons,length_nil,maxLen];omega) (by simp only[length_map,length_take,length_drop,length_append,length_cons,length_nil];omega))<|zE (iS pl30 nT nY)<|zT (qL kG)<|zZ
   ·exact zM<|zE eR<|zE fL<|zE (oBe kJ)<|zM<|zM<|zE (e_slc (l:=0) (h:=k) (kl:=.i64) (kh:=.i64) (es':=map jC (List.take k l)) (by exact rfl) kJ (by exact rfl) (by exact rfl) (by exact rfl) (Nat.zero_le _) (by simp only[length_map];omega) (by rw[drop_zero,map_take]))<|zE (e_appe (by exact rfl) kJ xA (by kernel_rfl) mK (by exact rfl) (by exact rfl) (by simp only[length_map,length_take,length_drop,length_append,length_cons,length_nil,maxLen];omega) (by simp only[length_map,length_take,length_drop,length_append,length_cons,length_nil];omega))<|zE (iS pl30 nT nY)<|zT (qL kG)<|zZ
  refine jE ⟨_,(kM (cs:=(bx (jQ (kW.mk (neg&&decide (0<((k:Nat):Int))) (List.take k l))))) (d:=(jQ (kW.mk (neg&&decide (0<((k:Nat):Int))) (List.take k l)))) rfl rfl kG rfl rfl .nil),?_⟩
  rw[r_made_end hd hk hv h2];rfl
theorem r_valid(x:kW)(hb:x.gs.length<=17592186044416):jP prog 94 [(jQ x)] (.val (.bool ((uL x)))):=by
 refine vD func94 ?_
 refine jB<|kx [(1,(.ref 0 0))] [(0,some (bx (jQ x)))] (zN (xD 0)<|zM<|zZ) ?_
 refine jB<|kx [(3,(kE x.gs.length))] [] (zE (kK vM)<|zR (qH zU)<|zE (yA kJ)<|zM<|zZ) ?_
 refine jB<|jB<|kx [(4,(kE 0))] [] (zM<|zZ) ?_
 refine jH<|kR (α:=Nat) (λi=>⟨[(1,(.ref 0 0)),(3,(kE x.gs.length)),(4,(kE i))],[(0,some (bx (jQ x)))]⟩) (λi=>i<=x.gs.length/\Dig (x.gs.take i)) (λi=>x.gs.length-i) 0 wk ⟨Nat.zero_le _,by rw[take_zero];exact gU⟩ ?_
 rintro i ⟨hi,hd⟩
 refine jB<|jB<|kx [(10,(vb (decide (((i:Nat):Int)<((x.gs.length:Nat):Int)))))] [] (zM<|zM<|zE gX<|zZ) ?_
 refine jD rfl (λh1=>?_) (λh1=>?_)
 ·replace h1:=vF h1
  refine jF<|jB<|jH<|jB<|kx [(18,(vb (decide (1000000000<=(((x.gs.getD i 0):Nat):Int)))))] [] (zE (kK vM)<|zR (qH zU)<|zM<|zE (cB kJ i (0:Nat))<|zE (dK qP)<|zE oGe<|zZ) ?_
  refine jD rfl (λh2=>?_) (λh2=>?_)
  ·replace h2:=vF h2
   refine jB<|kx [(2,(vb false))] [] (zM<|zZ) ?_
   refine jE ⟨_,(.tmp (d:=(.val (.bool (false)))) rfl .nil),?_⟩
   rw[validI_big (i:=i) (by omega) (by omega)];rfl
  ·replace h2:=vT h2
   refine jF<|kx [(4,(kE (i+1)))] [] (zM<|zE (xO (i+1))<|zM<|zZ) ?_
   exact ⟨(i+1),wk,⟨by omega,dig_take_succ (by omega) hd (by omega)⟩,(by first|omega|(dsimp only;omega))⟩
 ·replace h1:=vT h1
  have hie:i=x.gs.length:=by omega
  rw[hie,take_length] at hd
  refine kO<|jB<|jB<|kx [(20,(vb (((x.gs.length:Nat):Int) == 0)))] [] (zM<|zE xL<|zZ) ?_
  refine jD (b:=(((x.gs.length:Nat):Int) == 0)) rfl (λh3=>?_) (λh3=>?_)
  ·replace h3:=eq_of_beq h3
   refine jB<|kx [(2,(vb (!x.neg)))] [] (zE (kK vN)<|zR (qH aT)<|zE cU<|zM<|zZ) ?_
   refine jE ⟨_,(.tmp (d:=(.val (.bool (!x.neg)))) rfl .nil),?_⟩
   rw[validI_nil (by omega)];rfl
  ·replace h3:=ne_of_beq_false h3
   refine jF<|jB<|kx [(2,(vb ((((x.gs.getD (x.gs.length-1) 0):Nat):Int) != 0)))] [] (zE (kK vM)<|zR (qH zU)<|zM<|zE (oSb (x.gs.length-1))<|zE (cB kJ (x.gs.length-1) (0:Nat))<|zE (dK qP)<|zE aZ<|zM<|zZ) ?_
   refine jE ⟨_,(.tmp (d:=(.val (.bool (((((x.gs.getD (x.gs.length-1) 0):Nat):Int) != 0))))) rfl .nil),?_⟩
   rw[validI_dig hd (by omega)];rfl
theorem eJ(x:kW)(hb:x.gs.length<=17592186044416):jP prog 114 [(jQ x)] (jQ (kN (jV x))):=by
 refine vD func114 ?_
 refine jB<|kx [(1,(.ref 0 0)),(2,(.ref 1 0))] [(0,some (bx (jQ x))),(1,some (bx (jQ (kW.mk false []))))] (zN (xD 0)<|zN (vB 1 nT nY)<|zZ) ?_
 refine jB<|jB<|kx [(5,(vb (!(uL x))))] [] (zR (kP kG)<|zE (kB (r_valid x (by omega)))<|zE cU<|zZ) ?_
 refine jD (b:=!(uL x)) rfl (λh1=>?_) (λh1=>?_)
 ·refine jB<|kx [] [(1,some (bx (jQ (kW.mk false []))))] (zE (iS pl30 nT nY)<|zT (qL kG)<|zZ) ?_
  refine jE ⟨_,(kM (cs:=(bx (jQ (kW.mk false [])))) (d:=(jQ (kW.mk false []))) rfl rfl kG rfl rfl .nil),?_⟩
  rw[toZ_bad (by rw[Bool.not_eq_true'] at h1;exact h1),ofZ_zero];rfl
 ·refine jF<|jB<|kd [] [(1,some (bx (jQ (kW.mk x.neg x.gs))))] mo (wE (kK vN)<|wR (qH aT)<|wE (oBe kJ)<|wE (kK vM)<|wR (qH zU)<|wE (e_appe (by exact rfl) kJ xA (by kernel_rfl) mK (by exact rfl) (by exact rfl) (by simp only[length_map,length_take,length_drop,length_append,length_cons,length_nil,maxLen];omega) (by simp only[length_map,length_take,length_drop,length_append,length_cons,length_nil];omega))<|wE (iS pl30 nT nY)<|wT (qL kG)<|wZ) ?_
  refine jE ⟨_,(kM (cs:=(bx (jQ (kW.mk x.neg x.gs)))) (d:=(jQ (kW.mk x.neg x.gs))) rfl rfl kG rfl rfl .nil),?_⟩
  rw[ofZ_toZ (by simpa using h1)];rfl
theorem r_of(n:Int)(hlo:-9223372036854775808<=n)(hhi:n<=9223372036854775807):jP prog 119 [(.val (.int .i64 (n)))] (jQ (kN n)):=by
 refine vD func119 ?_
 refine jB<|kx [(2,(.ref 0 0))] [(0,some (bx (jQ (kW.mk false []))))] (zN (vB 0 nT nY)<|zZ) ?_
 refine jB<|kx [(3,(gL ((n % 18446744073709551616).toNat)))] [] (zM<|zE (cA un3 yJ ((n % 18446744073709551616).toNat) (hr:=by exact (conv_u64 _)))<|zM<|zZ) ?_
 refine jB<|jB<|kx [(8,(vb (decide (n<0))))] [] (zM<|zE gX<|zZ) ?_
 refine jD (b:=decide (n<0)) rfl (λh1=>?_) (λh1=>?_)
 ·replace h1:=vF h1
  refine kx [(3,(gL n.natAbs))] [] (zM<|zE (zAd (n+1))<|zE (oNg (-(n+1)))<|zE (cA un3 yJ ((-n-1).toNat) (hr:=by exact (wu64 (by omega) (by omega) (by omega))))<|zE (xO n.natAbs)<|zM<|zZ) ?_
  refine jB<|kx [(4,(.own 1 107 1 0))] [(1,some (bm jC []))] (zN (oBo 1 kJ xA yR)<|zM<|zZ) ?_
  refine jB<|jH<|kR (α:=List Nat × Nat) (λ(o,m)=>⟨[(0,(vi n)),(2,(.ref 0 0)),(3,(gL m)),(4,(.own 1 107 1 o.length))],[(0,some (bx (jQ (kW.mk false [])))),(1,some (bm jC o))]⟩) (λ(o,m)=>m<=9223372036854775808/\o++ofNat m=ofNat n.natAbs) (λ(o,m)=>m) ([],n.natAbs) wk ⟨by omega,by rw[nil_append]⟩ ?_
  rintro ⟨o,m⟩ ⟨hm,hg⟩
  have hl:=split_len hg (by omega)
  refine jB<|jB<|kx [(16,(vb (decide (0<((m:Nat):Int)))))] [] (zM<|zE eR<|zZ) ?_
  refine jD (b:=decide (0<((m:Nat):Int))) rfl (λh2=>?_) (λh2=>?_)
  ·replace h2:=vF h2
   refine jF<|jH<|jB<|kf [(4,(.own 1 107 1 ((o++[(m % 1000000000)]).length)))] [(1,some (bm jC (o++[(m % 1000000000)])))] (zM<|zM<|zE (oRe (m % 1000000000))<|zE (cA nL gP (m % 1000000000))<|zE (fC kJ xA yR)<|zA jC o [(m % 1000000000)] rfl kJ xA mK<|zM<|zF) ?_
   refine kx [(3,(gL (m / 1000000000)))] [] (zM<|zE (oQu (m / 1000000000))<|zM<|zZ) ?_
   exact ⟨(o++[m % 1000000000],m / 1000000000),wk,⟨by omega,split_step hg h2⟩,(by first|omega|(dsimp only;omega))⟩
  ·replace h2:=vT h2
   have hdo:Dig o:=split_dig hg h2
   have hvo:=split_val hg h2
   refine kO<|jB<|kS (xY (t:=4) (k:=1) (es:=map jC o) rfl rfl (vX _ _ (λ_=>rfl)) (vK _ _ rfl) (xV _ _ (λ_=>rfl) rfl)) ?_
   refine kx [] [(0,some (bx (jQ (xU (decide (n<0)) (val o)))))] (zM<|zE gX<|zM<|zE (kB (mD (decide (n<0)) o hdo (by omega)))<|zT (qL kG)<|zZ) ?_
   refine jE ⟨_,(kM (cs:=(bx (jQ (xU (decide (n<0)) (val o))))) (d:=(jQ (xU (decide (n<0)) (val o)))) rfl rfl kG rfl rfl .nil),?_⟩
   rw[hvo];rfl
 ·replace h1:=vT h1
  rw[show (n % 18446744073709551616).toNat=n.natAbs from by omega]
  refine jF<|jB<|kx [(3,(gL n.natAbs)),(4,(.own 2 107 1 0))] [(2,some (bm jC []))] (zN (oBo 2 kJ xA yR)<|zM<|zZ) ?_
  refine jB<|jH<|kR (α:=List Nat × Nat) (λ(o,m)=>⟨[(0,(vi n)),(2,(.ref 0 0)),(3,(gL m)),(4,(.own 2 107 1 o.length))],[(0,some (bx (jQ (kW.mk false [])))),(2,some (bm jC o))]⟩) (λ(o,m)=>m<=9223372036854775808/\o++ofNat m=ofNat n.natAbs) (λ(o,m)=>m) ([],n.natAbs) wk ⟨by omega,by rw[nil_append]⟩ ?_
  rintro ⟨o,m⟩ ⟨hm,hg⟩
  have hl:=split_len hg (by omega)
  refine jB<|jB<|kx [(16,(vb (decide (0<((m:Nat):Int)))))] [] (zM<|zE eR<|zZ) ?_
  refine jD (b:=decide (0<((m:Nat):Int))) rfl (λh3=>?_) (λh3=>?_)
  ·replace h3:=vF h3
   refine jF<|jH<|jB<|kf [(4,(.own 2 107 1 ((o++[(m % 1000000000)]).length)))] [(2,some (bm jC (o++[(m % 1000000000)])))] (zM<|zM<|zE (oRe (m % 1000000000))<|zE (cA nL gP (m % 1000000000))<|zE (fC kJ xA yR)<|zA jC o [(m % 1000000000)] rfl kJ xA mK<|zM<|zF) ?_
   refine kx [(3,(gL (m / 1000000000)))] [] (zM<|zE (oQu (m / 1000000000))<|zM<|zZ) ?_
   exact ⟨(o++[m % 1000000000],m / 1000000000),wk,⟨by omega,split_step hg h3⟩,(by first|omega|(dsimp only;omega))⟩
  ·replace h3:=vT h3
   have hdo:Dig o:=split_dig hg h3
   have hvo:=split_val hg h3
   refine kO<|jB<|kS (xY (t:=4) (k:=2) (es:=map jC o) rfl rfl (vX _ _ (λ_=>rfl)) (vK _ _ rfl) (xV _ _ (λ_=>rfl) rfl)) ?_
   refine kx [] [(0,some (bx (jQ (xU (decide (n<0)) (val o)))))] (zM<|zE gX<|zM<|zE (kB (mD (decide (n<0)) o hdo (by omega)))<|zT (qL kG)<|zZ) ?_
   refine jE ⟨_,(kM (cs:=(bx (jQ (xU (decide (n<0)) (val o))))) (d:=(jQ (xU (decide (n<0)) (val o)))) rfl rfl kG rfl rfl .nil),?_⟩
   rw[hvo];rfl
theorem r_size(a b:List Nat)(ha:gG a)(hb:gG b)(hla:a.length<=17592186044416)(hlb:b.length<=17592186044416):jP prog 117 [(.sl 107 1 (map jC a)),(.sl 107 1 (map jC b))] (.val (.int .i64 ((uY ((val a:Nat):Int) ((val b:Nat):Int))))):=by
 refine vD func117 ?_
 refine jB<|kx [] [] (zM<|zZ) ?_
 refine jB<|jB<|kx [(10,(vb (((a.length:Nat):Int) != ((b.length:Nat):Int))))] [] (zM<|zE (yA kJ)<|zM<|zE (yA kJ)<|zE aZ<|zZ) ?_
 refine jD rfl (λh1=>?_) (λh1=>?_)
 ·replace h1:=bne_iff_ne.1 h1
  refine jB<|jB<|kx [(15,(vb (decide (((a.length:Nat):Int)<((b.length:Nat):Int)))))] [] (zM<|zE (yA kJ)<|zM<|zE (yA kJ)<|zE gX<|zZ) ?_
  refine jD rfl (λh2=>?_) (λh2=>?_)
  ·replace h2:=vF h2
   refine jB<|kx [(4,(vi (-1)))] [] (zM<|zZ) ?_
   refine jE ⟨_,(.tmp (d:=(.val (.int .i64 (-1)))) rfl .nil),?_⟩
   rw[<- cmpI_len ha hb h1];unfold uY;rw[if_pos (by omega)];rfl
  ·replace h2:=vT h2
   refine jF<|jB<|kx [(4,(kE 1))] [] (zM<|zZ) ?_
   refine jE ⟨_,(.tmp (d:=(.val (.int .i64 (1)))) rfl .nil),?_⟩
   rw[<- cmpI_len ha hb h1,aQ (by omega)];rfl
 ·replace h1:=bne_eq_false_iff_eq.1 h1
  have hl:a.length=b.length:=by omega
  refine jF<|jB<|jB<|kx [(5,(vi (((a.length:Nat):Int)-1)))] [] (zM<|zE (yA kJ)<|zE (zSb (((a.length:Nat):Int)-1))<|zM<|zZ) ?_
  refine jH<|kR (α:=Nat) (λk=>⟨[(0,(vl 107 1 jC a)),(1,(vl 107 1 jC b)),(5,(vi (((k:Nat):Int)-1)))],[]⟩) (λk=>k<=a.length/\val (a.drop k)=val (b.drop k)) (λk=>k) a.length wk ⟨Nat.le_refl _,by rw[drop_length,hl,drop_length]⟩ ?_
  rintro k ⟨hk,he⟩
  refine jB<|jB<|kx [(20,(vb (decide (0<=(((k:Nat):Int)-1)))))] [] (zM<|zE oGe<|zZ) ?_
  refine jD (b:=decide (0<=(((k:Nat):Int)-1))) rfl (λh3=>?_) (λh3=>?_)
  ·replace h3:=vF h3
   obtain ⟨i,rfl⟩:∃ i,k=i+1:=⟨k-1,by omega⟩
   rw[show (((i+1:Nat):Int)-1)=((i:Nat):Int) from by omega]
   have ht:=cmpI_top ha.1 hb.1 hl (j:=a.length-1-i) (by omega) (by rw[show a.length-(a.length-1-i)=i+1 by omega];exact he)
   rw[show a.length-1-(a.length-1-i)=i by omega] at ht
   refine jF<|jB<|jH<|jB<|jB<|kd [(5,(kE i)),(31,(vb (decide ((((a.getD i 0):Nat):Int)<(((b.getD i 0):Nat):Int)))))] [] mo (wM<|wM<|wE (cB kJ i (0:Nat))<|wE (dK qP)<|wM<|wM<|wE (cB kJ i (0:Nat))<|wE (dK qP)<|wE gX<|wZ) ?_
   refine jD rfl (λh4=>?_) (λh4=>?_)
   ·replace h4:=vF h4
    refine jB<|kx [(4,(vi (-1)))] [] (zM<|zZ) ?_
    refine jE ⟨_,(.tmp (d:=(.val (.int .i64 (-1)))) rfl .nil),?_⟩
    rw[<- ht (by omega)];unfold uY;rw[if_pos (by omega)];rfl
   ·replace h4:=vT h4
    refine jF<|jB<|kd [(40,(vb (decide ((((b.getD i 0):Nat):Int)<(((a.getD i 0):Nat):Int)))))] [] mo (wM<|wM<|wE (cB kJ i (0:Nat))<|wE (dK qP)<|wM<|wM<|wE (cB kJ i (0:Nat))<|wE (dK qP)<|wE eR<|wZ) ?_
    refine jD rfl (λh5=>?_) (λh5=>?_)
    ·replace h5:=vF h5
     refine jB<|kx [(4,(kE 1))] [] (zM<|zZ) ?_
     refine jE ⟨_,(.tmp (d:=(.val (.int .i64 (1)))) rfl .nil),?_⟩
     rw[<- ht (by omega),aQ (by omega)];rfl
    ·replace h5:=vT h5
     refine jF<|kx [(5,(vi (((i:Nat):Int)-1)))] [] (zM<|zE (zSb (((i:Nat):Int)-1))<|zM<|zZ) ?_
     exact ⟨i,wk,⟨by omega,by rw[xZ a i,xZ b i,he];omega⟩,(by first|omega|(dsimp only;omega))⟩
  ·replace h3:=vT h3
   obtain rfl:k=0:=by omega
   rw[drop_zero,drop_zero] at he
   refine kO<|jB<|kx [(4,(kE 0))] [] (zM<|zZ) ?_
   refine jE ⟨_,(.tmp (d:=(.val (.int .i64 (0)))) rfl .nil),?_⟩
   rw[cmpI_same he];rfl
theorem r_plus(a b:List Nat)(hda:Dig a)(hdb:Dig b)(hla:a.length<=8796093022208)(hlb:b.length<=8796093022208):jP prog 116 [(.sl 107 1 (map jC a)),(.sl 107 1 (map jC b))] (.sl 107 1 (map jC (ofNat (val a+val b)))):=by
 refine vD func116 ?_
 refine jB<|kx [] [] (zE (aN 107 1)<|zZ) ?_
 refine jB<|kx [(5,(.own 0 107 1 0))] [(0,some (bm jC []))] (zN (oBo 0 kJ xA yR)<|zM<|zZ) ?_
 refine jB<|kx [(6,(gL 0))] [] (zM<|zZ) ?_
 refine jB<|jB<|kx [(7,(kE 0))] [] (zM<|zZ) ?_
 refine jH<|kR (α:=Nat × List Nat × Nat) (λ(i,o,c)=>⟨[(0,(vl 107 1 jC a)),(1,(vl 107 1 jC b)),(5,(.own 0 107 1 o.length)),(6,(gL c)),(7,(kE i))],[(0,some (bm jC o))]⟩) (λ(i,o,c)=>o.length=i/\Dig o/\i<=max a.length b.length/\c<=1/\val o+pw i*c=val (a.take i)+val (b.take i)) (λ(i,o,c)=>max a.length b.length-i) (0,[],0) wk ⟨rfl,gU,Nat.zero_le _,Nat.zero_le _,by simp [val]⟩ ?_
 rintro ⟨i,o,c⟩ ⟨hl,hd,hi,hc,hv⟩
 have hai:=hda.getD i
 have hbi:=hdb.getD i
 refine jB<|jB<|kx [(19,(vb (decide (((i:Nat):Int)<((a.length:Nat):Int))||decide (((i:Nat):Int)<((b.length:Nat):Int)))))] [] ?_ ?_
 ·refine zM<|zM<|zE (yA kJ)<|zE gX<|zE (oV (vb (decide (((i:Nat):Int)<((a.length:Nat):Int)))) (qA (by kernel_rfl)))<|?_
  rcases hb1:(decide (((i:Nat):Int)<((a.length:Nat):Int))) with _ | _
  ·replace hb1:=vT hb1
   exact zM<|zM<|zE (yA kJ)<|zE gX<|zE aK<|zZ
  ·replace hb1:=vF hb1
   exact zK<|zK<|zK<|zK<|zE nO<|zZ
 refine jD rfl (λh2=>?_) (λh2=>?_)
 ·rw[Bool.or_eq_true,decide_eq_true_eq,decide_eq_true_eq] at h2
  refine jF<|jB<|jH<|jB<|kx [(8,(gL (((a.getD i 0)+(b.getD i 0))+c)))] [] (zM<|zM<|zE (kB (aS a i (by first | assumption | exact kI _ | exact (qF _).1 | exact (qJ _).1)))<|zM<|zM<|zE (kB (aS b i (by first | assumption | exact kI _ | exact (qF _).1 | exact (qJ _).1)))<|zE (xO ((a.getD i 0)+(b.getD i 0)))<|zM<|zE (xO (((a.getD i 0)+(b.getD i 0))+c))<|zM<|zZ) ?_
  refine jB<|kf [(5,(.own 0 107 1 ((o++[((((a.getD i 0)+(b.getD i 0))+c) % 1000000000)]).length)))] [(0,some (bm jC (o++[((((a.getD i 0)+(b.getD i 0))+c) % 1000000000)])))] (zM<|zM<|zE (oRe ((((a.getD i 0)+(b.getD i 0))+c) % 1000000000))<|zE (cA nL gP ((((a.getD i 0)+(b.getD i 0))+c) % 1000000000))<|zE (fC kJ xA yR)<|zA jC o [((((a.getD i 0)+(b.getD i 0))+c) % 1000000000)] rfl kJ xA mK<|zM<|zF) ?_
  refine kx [(6,(gL ((((a.getD i 0)+(b.getD i 0))+c) / 1000000000)))] [] (zM<|zE (oQu ((((a.getD i 0)+(b.getD i 0))+c) / 1000000000))<|zM<|zZ) ?_
  refine kx [(7,(kE (i+1)))] [] (zM<|zE (xO (i+1))<|zM<|zZ) ?_
  exact ⟨(i+1,o++[(a.getD i 0+b.getD i 0+c) % 1000000000],(a.getD i 0+b.getD i 0+c) / 1000000000),wk,⟨by simp [hl],dig_push hd (Nat.mod_lt _ (by decide)),by omega,by omega,rplus_step hl hv rfl⟩,(by first|omega|(dsimp only;omega))⟩
 ·rw[Bool.or_eq_false_iff,decide_eq_false_iff_not,decide_eq_false_iff_not] at h2
  rw[take_all (by omega),take_all (by omega)] at hv
  have hp:=val_push (c:=c) hl
  refine kO<|jB<|kf [(4,(vl 107 1 jC (ofNat (val (o++[c]))))),(5,.junk)] [(0,none)] (zM<|zM<|zE (cA nL gP c)<|zE (fC kJ xA yR)<|zAQ jC o [c] rfl kJ xA mK<|zE (kB (mD false (o++[c]) (dig_push hd (by omega)) (by simp only[length_append,length_cons,length_nil];omega)))<|zE (oF1 bJ zU)<|zM<|zF) ?_
  refine jE ⟨_,(.tmp (d:=(.sl 107 1 (map jC (ofNat (val (o++[c])))))) rfl .nil),?_⟩
  rw[hp,hv];rfl
theorem r_minus(a b:List Nat)(hda:Dig a)(hdb:Dig b)(hba:val b<=val a)(hla:a.length<=8796093022208):jP prog 118 [(.sl 107 1 (map jC a)),(.sl 107 1 (map jC b))] (.sl 107 1 (map jC (ofNat (val a-val b)))):=by
 refine vD func118 ?_
 refine jB<|kx [] [] (zE (aN 107 1)<|zZ) ?_
 refine jB<|kx [(5,(.own 0 107 1 0))] [(0,some (bm jC []))] (zN (oBo 0 kJ xA yR)<|zM<|zZ) ?_
 refine jB<|kx [(6,(gL 0))] [] (zM<|zZ) ?_
 refine jB<|jB<|kx [(7,(kE 0))] [] (zM<|zZ) ?_
 refine jH<|kR (α:=Nat × List Nat × Nat) (λ(i,o,c)=>⟨[(0,(vl 107 1 jC a)),(1,(vl 107 1 jC b)),(5,(.own 0 107 1 o.length)),(6,(gL c)),(7,(kE i))],[(0,some (bm jC o))]⟩) (λ(i,o,c)=>o.length=i/\Dig o/\i<=a.length/\c<=1/\val o+val (b.take i)=val (a.take i)+pw i*c) (λ(i,o,c)=>a.length-i) (0,[],0) wk ⟨rfl,gU,Nat.zero_le _,Nat.zero_le _,by simp [val]⟩ ?_
 rintro ⟨i,o,c⟩ ⟨hl,hd,hi,hc,hv⟩
 have hai:=hda.getD i
 have hbi:=hdb.getD i
 refine jB<|jB<|kx [(13,(vb (decide (((i:Nat):Int)<((a.length:Nat):Int)))))] [] (zM<|zM<|zE (yA kJ)<|zE gX<|zZ) ?_
 refine jD rfl (λh1=>?_) (λh1=>?_)
 ·replace h1:=vF h1
  refine jF<|jB<|jH<|jB<|kx [(8,(gL (((1000000000+(a.getD i 0))-(b.getD i 0))-c)))] [] (zM<|zM<|zE (kB (aS a i (by first | assumption | exact kI _ | exact (qF _).1 | exact (qJ _).1)))<|zE (xO (1000000000+(a.getD i 0)))<|zM<|zM<|zE (kB (aS b i (by first | assumption | exact kI _ | exact (qF _).1 | exact (qJ _).1)))<|zE (oSb ((1000000000+(a.getD i 0))-(b.getD i 0)))<|zM<|zE (oSb (((1000000000+(a.getD i 0))-(b.getD i 0))-c))<|zM<|zZ) ?_
  refine jB<|kf [(5,(.own 0 107 1 ((o++[((((1000000000+(a.getD i 0))-(b.getD i 0))-c) % 1000000000)]).length)))] [(0,some (bm jC (o++[((((1000000000+(a.getD i 0))-(b.getD i 0))-c) % 1000000000)])))] (zM<|zM<|zE (oRe ((((1000000000+(a.getD i 0))-(b.getD i 0))-c) % 1000000000))<|zE (cA nL gP ((((1000000000+(a.getD i 0))-(b.getD i 0))-c) % 1000000000))<|zE (fC kJ xA yR)<|zA jC o [((((1000000000+(a.getD i 0))-(b.getD i 0))-c) % 1000000000)] rfl kJ xA mK<|zM<|zF) ?_
  refine kx [(6,(gL (1-((((1000000000+(a.getD i 0))-(b.getD i 0))-c) / 1000000000))))] [] (zM<|zE (oQu ((((1000000000+(a.getD i 0))-(b.getD i 0))-c) / 1000000000))<|zE (oSb (1-((((1000000000+(a.getD i 0))-(b.getD i 0))-c) / 1000000000)))<|zM<|zZ) ?_
  refine kx [(7,(kE (i+1)))] [] (zM<|zE (xO (i+1))<|zM<|zZ) ?_
  exact ⟨(i+1,o++[(1000000000+a.getD i 0-b.getD i 0-c) % 1000000000],1-(1000000000+a.getD i 0-b.getD i 0-c) / 1000000000),wk,⟨by simp [hl],dig_push hd (Nat.mod_lt _ (by decide)),by omega,by omega,rminus_step hl hv (by omega) (by omega)⟩,(by first|omega|(dsimp only;omega))⟩
 ·replace h1:=vT h1
  have hie:i=a.length:=by omega
  refine kO<|jB<|kS (xY (t:=5) (k:=0) (es:=map jC o) rfl rfl (vX _ _ (λ_=>rfl)) (vK _ _ rfl) (xV _ _ (λ_=>rfl) rfl)) ?_
  refine kx [(4,(vl 107 1 jC (ofNat (val o))))] [] (zM<|zE (kB (mD false o hd (by omega)))<|zE (oF1 bJ zU)<|zM<|zZ) ?_
  refine jE ⟨_,(.tmp (d:=(.sl 107 1 (map jC (ofNat (val o))))) rfl .nil),?_⟩
  rw[rminus_end hda hdb hd hie hl hba hv];rfl
theorem r_scaled(a:List Nat)(d:Nat)(hda:Dig a)(hd1:d<=1000000000)(hla:a.length<=8796093022208):jP prog 186 [(.sl 107 1 (map jC a)),(.val (.int .u64 (((d:Nat):Int))))] (.sl 107 1 (map jC (ofNat (val a*d)))):=by
 refine vD func186 ?_
 refine jB<|kx [] [] (zE (aN 107 1)<|zZ) ?_
 refine jB<|kx [(5,(.own 0 107 1 0))] [(0,some (bm jC []))] (zN (oBo 0 kJ xA yR)<|zM<|zZ) ?_
 refine jB<|kx [(6,(gL 0))] [] (zM<|zZ) ?_
 refine jB<|jB<|kx [(7,(kE 0))] [] (zM<|zZ) ?_
 refine jH<|kR (α:=Nat × List Nat × Nat) (λ(i,o,c)=>⟨[(0,(vl 107 1 jC a)),(1,(gL d)),(5,(.own 0 107 1 o.length)),(6,(gL c)),(7,(kE i))],[(0,some (bm jC o))]⟩) (λ(i,o,c)=>o.length=i/\Dig o/\i<=a.length/\c<=999999999/\val o+pw i*c=val (a.take i)*d) (λ(i,o,c)=>a.length-i) (0,[],0) wk ⟨rfl,gU,Nat.zero_le _,Nat.zero_le _,by simp [val]⟩ ?_
 rintro ⟨i,o,c⟩ ⟨hl,hd,hi,hc,hv⟩
 have hai:=hda.getD i
 have hpq:a.getD i 0*d<=999999999*1000000000:=Nat.mul_le_mul (by omega) hd1
 refine jB<|jB<|kx [(13,(vb (decide (((i:Nat):Int)<((a.length:Nat):Int)))))] [] (zM<|zM<|zE (yA kJ)<|zE gX<|zZ) ?_
 refine jD rfl (λh1=>?_) (λh1=>?_)
 ·replace h1:=vF h1
  refine jF<|jB<|jH<|jB<|kx [(8,(gL (((a.getD i 0)*d)+c)))] [] (zM<|zM<|zE (cB kJ i (0:Nat))<|zE (dK qP)<|zE (cA yU yJ (a.getD i 0))<|zM<|zE (oMl ((a.getD i 0)*d))<|zM<|zE (xO (((a.getD i 0)*d)+c))<|zM<|zZ) ?_
  refine jB<|kf [(5,(.own 0 107 1 ((o++[((((a.getD i 0)*d)+c) % 1000000000)]).length)))] [(0,some (bm jC (o++[((((a.getD i 0)*d)+c) % 1000000000)])))] (zM<|zM<|zE (oRe ((((a.getD i 0)*d)+c) % 1000000000))<|zE (cA nL gP ((((a.getD i 0)*d)+c) % 1000000000))<|zE (fC kJ xA yR)<|zA jC o [((((a.getD i 0)*d)+c) % 1000000000)] rfl kJ xA mK<|zM<|zF) ?_
  refine kx [(6,(gL ((((a.getD i 0)*d)+c) / 1000000000)))] [] (zM<|zE (oQu ((((a.getD i 0)*d)+c) / 1000000000))<|zM<|zZ) ?_
  refine kx [(7,(kE (i+1)))] [] (zM<|zE (xO (i+1))<|zM<|zZ) ?_
  exact ⟨(i+1,o++[(a.getD i 0*d+c) % 1000000000],(a.getD i 0*d+c) / 1000000000),wk,⟨by simp [hl],dig_push hd (Nat.mod_lt _ (by decide)),by omega,by omega,rscaled_step hl hv rfl⟩,(by first|omega|(dsimp only;omega))⟩
 ·replace h1:=vT h1
  have hie:i=a.length:=by omega
  rw[take_all (by omega)] at hv
  have hp:=val_push (c:=c) hl
  refine kO<|jB<|kf [(4,(vl 107 1 jC (ofNat (val (o++[c]))))),(5,.junk)] [(0,none)] (zM<|zM<|zE (cA nL gP c)<|zE (fC kJ xA yR)<|zAQ jC o [c] rfl kJ xA mK<|zE (kB (mD false (o++[c]) (dig_push hd (by omega)) (by simp only[length_append,length_cons,length_nil];omega)))<|zE (oF1 bJ zU)<|zM<|zF) ?_
  refine jE ⟨_,(.tmp (d:=(.sl 107 1 (map jC (ofNat (val (o++[c])))))) rfl .nil),?_⟩
  rw[hp,hv];rfl
theorem r_shifted(a:List Nat)(d:Nat)(hda:Dig a)(hd1:d<1000000000)(hla:a.length<=8796093022208):jP prog 187 [(.sl 107 1 (map jC a)),(.val (.int .u32 (((d:Nat):Int))))] (.sl 107 1 (map jC (ofNat (d+1000000000*val a)))):=by
 refine vD func187 ?_
 refine jB<|kx [] [] (zE (aN 107 1)<|zZ) ?_
 refine jB<|kf [(4,(vl 107 1 jC (ofNat (val ([d]++a)))))] [(0,none)] (zM<|zN (oBo 0 kJ xA yR)<|zM<|zAQ jC [d] a rfl kJ xA mK<|zE (kB (mD false ([d]++a) (lD.2 ⟨yO.2 ⟨hd1,gU⟩,hda⟩) (by simp only[length_append,length_cons,length_nil];omega)))<|zE (oF1 bJ zU)<|zM<|zF) ?_
 refine jE ⟨_,(.tmp (d:=(.sl 107 1 (map jC (ofNat (val ([d]++a)))))) rfl .nil),?_⟩
 rfl
theorem r_neg(x:kW)(hx:x.gs.length<=1099511627776):jP prog 93 [(jQ x)] (jQ (kN (-jV x))):=by
 have hvx:=eI x
 refine vD func93 ?_
 refine jB<|kx [(1,(.ref 0 0)),(2,(.ref 1 0))] [(0,some (bx (jQ x))),(1,some (bx (jQ (kW.mk false []))))] (zN (xD 0)<|zN (vB 1 nT nY)<|zZ) ?_
 refine jB<|kx [] [(0,some (bx (jQ (kN (jV x)))))] (zR (kP kG)<|zE (kB (eJ x (by omega)))<|zT (qL kG)<|zZ) ?_
 refine jB<|kx [] [(1,some (bx (jQ (xU (!((kN (jV x)).neg)) (val (ofNat (Int.natAbs (jV x))))))))] (zE (kK vN)<|zR (qH aT)<|zE cU<|zE (kK vM)<|zR (qH zU)<|zE (kB (mD (!((kN (jV x)).neg)) (ofNat (Int.natAbs (jV x))) (by first | assumption | exact kI _ | exact (qF _).1 | exact (qJ _).1) (by omega)))<|zT (qL kG)<|zZ) ?_
 refine jE ⟨_,(kM (cs:=(bx (jQ (xU (!((kN (jV x)).neg)) (val (ofNat (Int.natAbs (jV x)))))))) (d:=(jQ (xU (!((kN (jV x)).neg)) (val (ofNat (Int.natAbs (jV x))))))) rfl rfl kG rfl rfl .nil),?_⟩
 rw[<- rneg_eq];rfl
theorem r_sign(x:kW)(hx:x.gs.length<=1099511627776):jP prog 95 [(jQ x)] (.val (.int .i64 ((qZ (jV x))))):=by
 have hvx:=eI x
 refine vD func95 ?_
 refine jB<|kx [(1,(.ref 0 0))] [(0,some (bx (jQ x)))] (zN (xD 0)<|zM<|zZ) ?_
 refine jB<|kx [] [(0,some (bx (jQ (kN (jV x)))))] (zR (kP kG)<|zE (kB (eJ x (by omega)))<|zT (qL kG)<|zZ) ?_
 refine jB<|jB<|kx [(8,(vb ((((ofNat (Int.natAbs (jV x))).length:Nat):Int) == 0)))] [] (zE (kK vM)<|zR (qH zU)<|zE (yA kJ (L:=(ofNat (Int.natAbs (jV x)))))<|zE xL<|zZ) ?_
 refine jD rfl (λh1=>?_) (λh1=>?_)
 ·replace h1:=eq_of_beq h1
  refine jB<|kx [(2,(kE 0))] [] (zM<|zZ) ?_
  refine jE ⟨_,(.tmp (d:=(.val (.int .i64 (0)))) rfl .nil),?_⟩
  rw[rsign_zero h1];rfl
 ·replace h1:=ne_of_beq_false h1
  refine jF<|jB<|jB<|kx [(10,(vb ((kN (jV x)).neg)))] [] (zE (kK vN)<|zR (qH aT)<|zZ) ?_
  refine jD (b:=(kN (jV x)).neg) rfl (λh2=>?_) (λh2=>?_)
  ·refine jB<|kx [(2,(vi (-1)))] [] (zM<|zZ) ?_
   refine jE ⟨_,(.tmp (d:=(.val (.int .i64 (-1)))) rfl .nil),?_⟩
   rw[rsign_neg h1 h2];rfl
  ·refine jF<|jB<|kx [(2,(kE 1))] [] (zM<|zZ) ?_
   refine jE ⟨_,(.tmp (d:=(.val (.int .i64 (1)))) rfl .nil),?_⟩
   rw[rsign_pos h1 h2];rfl
theorem r_add(x:kW)(y:kW)(hx:x.gs.length<=1099511627776)(hy:y.gs.length<=1099511627776):jP prog 71 [(jQ x),(jQ y)] (jQ (kN (jV x+jV y))):=by
 have hvx:=eI x
 have hvy:=eI y
 refine vD func71 ?_
 refine jB<|kx [(2,(.ref 0 0)),(3,(.ref 1 0)),(4,(.ref 2 0))] [(0,some (bx (jQ x))),(1,some (bx (jQ y))),(2,some (bx (jQ (kW.mk false []))))] (zN (xD 0)<|zN (xD 1)<|zN (vB 2 nT nY)<|zZ) ?_
 refine jB<|kd [] [(0,some (bx (jQ (kN (jV x))))),(1,some (bx (jQ (kN (jV y)))))] mo (wR (kP kG)<|wE (kB (eJ x (by omega)))<|wR (kP kG)<|wE (kB (eJ y (by omega)))<|wT (qL kG)<|wT (qL kG)<|wZ) ?_
 refine jB<|jB<|kx [(13,(vb (((kN (jV x)).neg) == ((kN (jV y)).neg))))] [] (zE (kK vN)<|zR (qH aT)<|zE (kK vN)<|zR (qH aT)<|zE (oEb bo4)<|zZ) ?_
 refine jD rfl (λh1=>?_) (λh1=>?_)
 ·replace h1:=eq_of_beq h1
  refine jB<|kd [] [(2,some (bx (jQ (xU ((kN (jV x)).neg) (val (ofNat (val (ofNat (Int.natAbs (jV x)))+val (ofNat (Int.natAbs (jV y))))))))))] mo (wE (kK vN)<|wR (qH aT)<|wE (kK vM)<|wR (qH zU)<|wE (kK vM)<|wR (qH zU)<|wE (kB (r_plus (ofNat (Int.natAbs (jV x))) (ofNat (Int.natAbs (jV y))) (by first | assumption | exact kI _ | exact (qF _).1 | exact (qJ _).1) (by first | assumption | exact kI _ | exact (qF _).1 | exact (qJ _).1) (by omega) (by omega)))<|wE (kB (mD ((kN (jV x)).neg) (ofNat (val (ofNat (Int.natAbs (jV x)))+val (ofNat (Int.natAbs (jV y))))) (by first | assumption | exact kI _ | exact (qF _).1 | exact (qJ _).1) (by first | omega | exact Nat.le_trans (add_len (kI _) (kI _)) (by omega) | exact Nat.le_trans (sub_len (kI _)) (by omega))))<|wT (qL kG)<|wZ) ?_
  refine jE ⟨_,(kM (cs:=(bx (jQ (xU ((kN (jV x)).neg) (val (ofNat (val (ofNat (Int.natAbs (jV x)))+val (ofNat (Int.natAbs (jV y)))))))))) (d:=(jQ (xU ((kN (jV x)).neg) (val (ofNat (val (ofNat (Int.natAbs (jV x)))+val (ofNat (Int.natAbs (jV y))))))))) rfl rfl kG rfl rfl .nil),?_⟩
  rw[<- rsum_same h1];rfl
 ·replace h1:=ne_of_beq_false h1
  refine jF<|jB<|jB<|kx [(27,(vb (decide (0<=(uY ((val (ofNat (Int.natAbs (jV x))):Nat):Int) ((val (ofNat (Int.natAbs (jV y))):Nat):Int))))))] [] (zE (kK vM)<|zR (qH zU)<|zE (kK vM)<|zR (qH zU)<|zE (kB (r_size (ofNat (Int.natAbs (jV x))) (ofNat (Int.natAbs (jV y))) (by first | assumption | exact qF _ | exact qJ _) (by first | assumption | exact qF _ | exact qJ _) (by omega) (by omega)))<|zE oGe<|zZ) ?_
  refine jD rfl (λh2=>?_) (λh2=>?_)
  ·replace h2:=vF h2
   refine jB<|kd [] [(2,some (bx (jQ (xU ((kN (jV x)).neg) (val (ofNat (val (ofNat (Int.natAbs (jV x)))-val (ofNat (Int.natAbs (jV y))))))))))] mo (wE (kK vN)<|wR (qH aT)<|wE (kK vM)<|wR (qH zU)<|wE (kK vM)<|wR (qH zU)<|wE (kB (r_minus (ofNat (Int.natAbs (jV x))) (ofNat (Int.natAbs (jV y))) (by first | assumption | exact kI _ | exact (qF _).1 | exact (qJ _).1) (by first | assumption | exact kI _ | exact (qF _).1 | exact (qJ _).1) (by have:=lA h2;omega) (by omega)))<|wE (kB (mD ((kN (jV x)).neg) (ofNat (val (ofNat (Int.natAbs (jV x)))-val (ofNat (Int.natAbs (jV y))))) (by first | assumption | exact kI _ | exact (qF _).1 | exact (qJ _).1) (by first | omega | exact Nat.le_trans (add_len (kI _) (kI _)) (by omega) | exact Nat.le_trans (sub_len (kI _)) (by omega))))<|wT (qL kG)<|wZ) ?_
   refine jE ⟨_,(kM (cs:=(bx (jQ (xU ((kN (jV x)).neg) (val (ofNat (val (ofNat (Int.natAbs (jV x)))-val (ofNat (Int.natAbs (jV y)))))))))) (d:=(jQ (xU ((kN (jV x)).neg) (val (ofNat (val (ofNat (Int.natAbs (jV x)))-val (ofNat (Int.natAbs (jV y))))))))) rfl rfl kG rfl rfl .nil),?_⟩
   rw[<- rsum_first h1 (by have:=lA h2;omega)];rfl
  ·replace h2:=vT h2
   refine jF<|jB<|kd [] [(2,some (bx (jQ (xU ((kN (jV y)).neg) (val (ofNat (val (ofNat (Int.natAbs (jV y)))-val (ofNat (Int.natAbs (jV x))))))))))] mo (wE (kK vN)<|wR (qH aT)<|wE (kK vM)<|wR (qH zU)<|wE (kK vM)<|wR (qH zU)<|wE (kB (r_minus (ofNat (Int.natAbs (jV y))) (ofNat (Int.natAbs (jV x))) (by first | assumption | exact kI _ | exact (qF _).1 | exact (qJ _).1) (by first | assumption | exact kI _ | exact (qF _).1 | exact (qJ _).1) (by have:=cmpI_lt h2;omega) (by omega)))<|wE (kB (mD ((kN (jV y)).neg) (ofNat (val (ofNat (Int.natAbs (jV y)))-val (ofNat (Int.natAbs (jV x))))) (by first | assumption | exact kI _ | exact (qF _).1 | exact (qJ _).1) (by first | omega | exact Nat.le_trans (add_len (kI _) (kI _)) (by omega) | exact Nat.le_trans (sub_len (kI _)) (by omega))))<|wT (qL kG)<|wZ) ?_
   refine jE ⟨_,(kM (cs:=(bx (jQ (xU ((kN (jV y)).neg) (val (ofNat (val (ofNat (Int.natAbs (jV y)))-val (ofNat (Int.natAbs (jV x)))))))))) (d:=(jQ (xU ((kN (jV y)).neg) (val (ofNat (val (ofNat (Int.natAbs (jV y)))-val (ofNat (Int.natAbs (jV x))))))))) rfl rfl kG rfl rfl .nil),?_⟩
   rw[<- rsum_second h1 (by have:=cmpI_lt h2;omega)];rfl
theorem r_sub(x:kW)(y:kW)(hx:x.gs.length<=1099511627776)(hy:y.gs.length<=1099511627776):jP prog 163 [(jQ x),(jQ y)] (jQ (kN (jV x-jV y))):=by
 have hv:=gs_neg y
 refine vD func163 ?_
 refine jB<|kx [(2,(.ref 0 0)),(3,(.ref 1 0)),(4,(.ref 2 0))] [(0,some (bx (jQ x))),(1,some (bx (jQ y))),(2,some (bx (jQ (kW.mk false []))))] (zN (xD 0)<|zN (xD 1)<|zN (vB 2 nT nY)<|zZ) ?_
 refine jB<|kd [] [(2,some (bx (jQ (kN (jV x+jV (kN (-jV y)))))))] mo (wR (kP kG)<|wR (kP kG)<|wE (kB (r_neg y (by omega)))<|wE (kB (r_add x (kN (-jV y)) (by omega) (by omega)))<|wT (qL kG)<|wZ) ?_
 refine jE ⟨_,(kM (cs:=(bx (jQ (kN (jV x+jV (kN (-jV y))))))) (d:=(jQ (kN (jV x+jV (kN (-jV y)))))) rfl rfl kG rfl rfl .nil),?_⟩
 rw[dJ,<- Int.sub_eq_add_neg];rfl
theorem r_mul(x:kW)(y:kW)(hx:x.gs.length<=1099511627776)(hy:y.gs.length<=1099511627776):jP prog 72 [(jQ x),(jQ y)] (jQ (kN (jV x*jV y))):=by
 have hvx:=eI x
 have hvy:=eI y
 have hda:=kI (Int.natAbs (jV x))
 have hdb:=kI (Int.natAbs (jV y))
 refine vD func72 ?_
 refine jB<|kx [(2,(.ref 0 0)),(3,(.ref 1 0)),(4,(.ref 2 0))] [(0,some (bx (jQ x))),(1,some (bx (jQ y))),(2,some (bx (jQ (kW.mk false []))))] (zN (xD 0)<|zN (xD 1)<|zN (vB 2 nT nY)<|zZ) ?_
 refine jB<|kd [] [(0,some (bx (jQ (kN (jV x))))),(1,some (bx (jQ (kN (jV y)))))] mo (wR (kP kG)<|wE (kB (eJ x (by omega)))<|wR (kP kG)<|wE (kB (eJ y (by omega)))<|wT (qL kG)<|wT (qL kG)<|wZ) ?_
 refine jB<|kx [(5,(.own 3 107 1 ((ofNat (Int.natAbs (jV x))).length+(ofNat (Int.natAbs (jV y))).length)))] [(3,some (bm jC (replicate ((ofNat (Int.natAbs (jV x))).length+(ofNat (Int.natAbs (jV y))).length) 0)))] (zE (kK vM)<|zR (qH zU)<|zE (yA kJ (L:=(ofNat (Int.natAbs (jV x)))))<|zE (kK vM)<|zR (qH zU)<|zE (yA kJ (L:=(ofNat (Int.natAbs (jV y)))))<|zE (xO ((ofNat (Int.natAbs (jV x))).length+(ofNat (Int.natAbs (jV y))).length))<|zN (oMk 3 jC (0:Nat) ((ofNat (Int.natAbs (jV x))).length+(ofNat (Int.natAbs (jV y))).length) ((ofNat (Int.natAbs (jV x))).length+(ofNat (Int.natAbs (jV y))).length) kJ xA yR mK)<|zM<|zZ) ?_
 refine jB<|jB<|kx [(6,(kE 0))] [] (zM<|zZ) ?_
 refine jH<|kR (α:=Nat × List Nat) (λ(i,out)=>⟨[(2,(.ref 0 0)),(3,(.ref 1 0)),(4,(.ref 2 0)),(5,(.own 3 107 1 ((ofNat (Int.natAbs (jV x))).length+(ofNat (Int.natAbs (jV y))).length))),(6,(kE i))],[(0,some (bx (jQ (kN (jV x))))),(1,some (bx (jQ (kN (jV y))))),(2,some (bx (jQ (kW.mk false [])))),(3,some (bm jC out))]⟩) (λ(i,out)=>out.length=(ofNat (Int.natAbs (jV x))).length+(ofNat (Int.natAbs (jV y))).length/\Dig out/\i<=(ofNat (Int.natAbs (jV x))).length/\(∀ k,i+(ofNat (Int.natAbs (jV y))).length<=k->out.getD k 0=0)/\val out=val ((ofNat (Int.natAbs (jV x))).take i)*val (ofNat (Int.natAbs (jV y)))) (λ(i,out)=>(ofNat (Int.natAbs (jV x))).length-i) (0,replicate ((ofNat (Int.natAbs (jV x))).length+(ofNat (Int.natAbs (jV y))).length) 0) wk ⟨by simp,zV _,Nat.zero_le _,λk _=>fQ _ k,by simp [val,eG]⟩ ?_
 rintro ⟨i,out⟩ ⟨qM,hdo,hi,hz,hv⟩
 have hai:=hda.getD i
 refine jB<|jB<|kx [(26,(vb (decide (((i:Nat):Int)<(((ofNat (Int.natAbs (jV x))).length:Nat):Int)))))] [] (zM<|zE (kK vM)<|zR (qH zU)<|zE (yA kJ (L:=(ofNat (Int.natAbs (jV x)))))<|zE gX<|zZ) ?_
 refine jD rfl (λh1=>?_) (λh1=>?_)
 ·replace h1:=vF h1
  refine jF<|jB<|jH<|jB<|kx [(7,(gL 0))] [] (zM<|zZ) ?_
  refine jB<|jB<|kx [(8,(kE 0))] [] (zM<|zZ) ?_
  refine jH<|kR (α:=Nat × List Nat × Nat) (λ(j,o2,c)=>⟨[(2,(.ref 0 0)),(3,(.ref 1 0)),(4,(.ref 2 0)),(5,(.own 3 107 1 ((ofNat (Int.natAbs (jV x))).length+(ofNat (Int.natAbs (jV y))).length))),(6,(kE i)),(7,(gL c)),(8,(kE j))],[(0,some (bx (jQ (kN (jV x))))),(1,some (bx (jQ (kN (jV y))))),(2,some (bx (jQ (kW.mk false [])))),(3,some (bm jC o2))]⟩) (λ(j,o2,c)=>o2.length=(ofNat (Int.natAbs (jV x))).length+(ofNat (Int.natAbs (jV y))).length/\Dig o2/\j<=(ofNat (Int.natAbs (jV y))).length/\c<1000000000/\(∀ k,i+(ofNat (Int.natAbs (jV y))).length<=k->o2.getD k 0=0)/\val o2+pw (i+j)*c=val ((ofNat (Int.natAbs (jV x))).take i)*val (ofNat (Int.natAbs (jV y)))+pw i*((ofNat (Int.natAbs (jV x))).getD i 0*val ((ofNat (Int.natAbs (jV y))).take j))) (λ(j,o2,c)=>(ofNat (Int.natAbs (jV y))).length-j) (0,out,0) wk ⟨qM,hdo,Nat.zero_le _,by decide,hz,by simp [val,hv]⟩ ?_
  rintro ⟨j,o2,c⟩ ⟨hlen2,hdo2,hj,hc,hz2,hv2⟩
  have hbj:=hdb.getD j
  have hoj:=hdo2.getD (i+j)
  have hpq:(ofNat (Int.natAbs (jV x))).getD i 0*(ofNat (Int.natAbs (jV y))).getD j 0<=999999999*999999999:=Nat.mul_le_mul (by omega) (by omega)
  refine jB<|jB<|kx [(33,(vb (decide (((j:Nat):Int)<(((ofNat (Int.natAbs (jV y))).length:Nat):Int)))))] [] (zM<|zE (kK vM)<|zR (qH zU)<|zE (yA kJ (L:=(ofNat (Int.natAbs (jV y)))))<|zE gX<|zZ) ?_
  refine jD rfl (λh2=>?_) (λh2=>?_)
  ·replace h2:=vF h2
   refine jF<|jB<|jH<|jB<|kd [(9,(gL (((o2.getD (i+j) 0)+(((ofNat (Int.natAbs (jV x))).getD i 0)*((ofNat (Int.natAbs (jV y))).getD j 0)))+c)))] [] mo (wM<|wM<|wM<|wE (xO (i+j))<|wE (yF kJ (i+j))<|wR (fE qP (i+j) (0:Nat))<|wE (cA yU yJ (o2.getD (i+j) 0))<|wE (kK vM)<|wR (qH zU)<|wM<|wE (cB kJ i (0:Nat) (L:=(ofNat (Int.natAbs (jV x)))))<|wE (dK qP)<|wE (cA yU yJ ((ofNat (Int.natAbs (jV x))).getD i 0))<|wE (kK vM)<|wR (qH zU)<|wM<|wE (cB kJ j (0:Nat) (L:=(ofNat (Int.natAbs (jV y)))))<|wE (dK qP)<|wE (cA yU yJ ((ofNat (Int.natAbs (jV y))).getD j 0))<|wE (oMl (((ofNat (Int.natAbs (jV x))).getD i 0)*((ofNat (Int.natAbs (jV y))).getD j 0)))<|wE (xO ((o2.getD (i+j) 0)+(((ofNat (Int.natAbs (jV x))).getD i 0)*((ofNat (Int.natAbs (jV y))).getD j 0))))<|wM<|wE (xO (((o2.getD (i+j) 0)+(((ofNat (Int.natAbs (jV x))).getD i 0)*((ofNat (Int.natAbs (jV y))).getD j 0)))+c))<|wM<|wZ) ?_
   refine jB<|kx [] [(3,some (bm jC (o2.set (i+j) ((((o2.getD (i+j) 0)+(((ofNat (Int.natAbs (jV x))).getD i 0)*((ofNat (Int.natAbs (jV y))).getD j 0)))+c) % 1000000000))))] (zM<|zM<|zM<|zE (xO (i+j))<|zM<|zE (oRe ((((o2.getD (i+j) 0)+(((ofNat (Int.natAbs (jV x))).getD i 0)*((ofNat (Int.natAbs (jV y))).getD j 0)))+c) % 1000000000))<|zE (cA nL gP ((((o2.getD (i+j) 0)+(((ofNat (Int.natAbs (jV x))).getD i 0)*((ofNat (Int.natAbs (jV y))).getD j 0)))+c) % 1000000000))<|zE (yF kJ (i+j))<|zT (fF qP (i+j) ((((o2.getD (i+j) 0)+(((ofNat (Int.natAbs (jV x))).getD i 0)*((ofNat (Int.natAbs (jV y))).getD j 0)))+c) % 1000000000))<|zZ) ?_
   refine kx [(7,(gL ((((o2.getD (i+j) 0)+(((ofNat (Int.natAbs (jV x))).getD i 0)*((ofNat (Int.natAbs (jV y))).getD j 0)))+c) / 1000000000)))] [] (zM<|zE (oQu ((((o2.getD (i+j) 0)+(((ofNat (Int.natAbs (jV x))).getD i 0)*((ofNat (Int.natAbs (jV y))).getD j 0)))+c) / 1000000000))<|zM<|zZ) ?_
   refine kx [(8,(kE (j+1)))] [] (zM<|zE (xO (j+1))<|zM<|zZ) ?_
   exact ⟨(j+1,o2.set (i+j) ((o2.getD (i+j) 0+(ofNat (Int.natAbs (jV x))).getD i 0*(ofNat (Int.natAbs (jV y))).getD j 0+c) % 1000000000),(o2.getD (i+j) 0+(ofNat (Int.natAbs (jV x))).getD i 0*(ofNat (Int.natAbs (jV y))).getD j 0+c) / 1000000000),wk,(by obtain ⟨q1,q2⟩:=times_step (by omega) hdo2 hv2 rfl (val_take_succ _ j);exact ⟨by simpa using hlen2,q1,by omega,by omega,zero_set (by omega) hz2,q2⟩),(by first|omega|(dsimp only;omega))⟩
  ·replace h2:=vT h2
   have hje:j=(ofNat (Int.natAbs (jV y))).length:=by omega
   rw[hje] at hv2
   refine kO<|kx [] [(3,some (bm jC (o2.set (i+(ofNat (Int.natAbs (jV y))).length) c)))] (zM<|zM<|zE (kK vM)<|zR (qH zU)<|zE (yA kJ (L:=(ofNat (Int.natAbs (jV y)))))<|zE (xO (i+(ofNat (Int.natAbs (jV y))).length))<|zM<|zE (cA nL gP c)<|zE (yF kJ (i+(ofNat (Int.natAbs (jV y))).length))<|zT (fF qP (i+(ofNat (Int.natAbs (jV y))).length) c)<|zZ) ?_
   refine kx [(6,(kE (i+1)))] [] (zM<|zE (xO (i+1))<|zM<|zZ) ?_
   exact ⟨(i+1,o2.set (i+(ofNat (Int.natAbs (jV y))).length) c),wk,(by obtain ⟨q1,q2,q3,q4⟩:=times_row hdo2 (by omega) hlen2 hz2 hc hv2;exact ⟨q1,q2,by omega,q3,q4⟩),(by first|omega|(dsimp only;omega))⟩
 ·replace h1:=vT h1
  have hie:i=(ofNat (Int.natAbs (jV x))).length:=by omega
  rw[hie,take_length] at hv
  refine kO<|jB<|kS (xY (t:=5) (k:=3) (es:=map jC out) rfl rfl (vX _ _ (λ_=>rfl)) (vK _ _ qM) (xV _ _ (λ_=>rfl) qM)) ?_
  refine kx [] [(2,some (bx (jQ (xU (!(((kN (jV x)).neg) == ((kN (jV y)).neg))) (val out)))))] (zE (kK vN)<|zR (qH aT)<|zE (kK vN)<|zR (qH aT)<|zE (oNb bo4)<|zM<|zE (kB (mD (!(((kN (jV x)).neg) == ((kN (jV y)).neg))) out hdo (by omega)))<|zT (qL kG)<|zZ) ?_
  refine jE ⟨_,(kM (cs:=(bx (jQ (xU (!(((kN (jV x)).neg) == ((kN (jV y)).neg))) (val out))))) (d:=(jQ (xU (!(((kN (jV x)).neg) == ((kN (jV y)).neg))) (val out)))) rfl rfl kG rfl rfl .nil),?_⟩
  rw[hv,rmul_eq];rfl
theorem r_short(a:List Nat)(d:Nat)(hda:Dig a)(hd0:0<d)(hd1:d<=1000000000)(hla:a.length<=17592186044416):jP prog 185 [(.sl 107 1 (map jC a)),(.val (.int .u64 (((d:Nat):Int))))] (.tup [(.sl 107 1 (map jC (ofNat (val a / d)))),(.val (.int .u64 ((((val a % d):Nat):Int))))]):=by
 refine vD func185 ?_
 refine jB<|kx [] [] (zE (aN 107 1)<|zM<|zZ) ?_
 refine jB<|kx [(6,(.own 0 107 1 a.length))] [(0,some (bm jC (replicate a.length 0)))] (zM<|zE (yA kJ)<|zN (oMk 0 jC (0:Nat) a.length a.length kJ xA yR mK)<|zM<|zZ) ?_
 refine jB<|kx [(7,(gL 0))] [] (zM<|zZ) ?_
 refine jB<|jB<|kx [(8,(vi (((a.length:Nat):Int)-1)))] [] (zM<|zE (yA kJ)<|zE (zSb (((a.length:Nat):Int)-1))<|zM<|zZ) ?_
 refine jH<|kR (α:=Nat × List Nat × Nat) (λ(k,q,xT)=>⟨[(0,(vl 107 1 jC a)),(1,(gL d)),(6,(.own 0 107 1 a.length)),(7,(gL xT)),(8,(vi (((k:Nat):Int)-1)))],[(0,some (bm jC q))]⟩) (λ(k,q,xT)=>k<=a.length/\q.length=a.length/\Dig q/\xT<d/\val (a.drop k)=val (q.drop k)*d+xT) (λ(k,q,xT)=>k) (a.length,replicate a.length 0,0) wk ⟨Nat.le_refl _,by simp,zV _,hd0,by simp [val]⟩ ?_
 rintro ⟨k,q,xT⟩ ⟨hk,qM,hdq,hr,hv⟩
 refine jB<|jB<|kx [(17,(vb (decide (0<=(((k:Nat):Int)-1)))))] [] (zM<|zE oGe<|zZ) ?_
 refine jD (b:=decide (0<=(((k:Nat):Int)-1))) rfl (λh1=>?_) (λh1=>?_)
 ·replace h1:=vF h1
  obtain ⟨i,rfl⟩:∃ i,k=i+1:=⟨k-1,by omega⟩
  rw[show (((i+1:Nat):Int)-1)=((i:Nat):Int) from by omega]
  have hg:=hda.getD i
  obtain ⟨hb1,hb2⟩:=short_bound hr hd1 hg
  refine jF<|jB<|jH<|jB<|kx [(8,(kE i)),(9,(gL ((xT*1000000000)+(a.getD i 0))))] [] (zM<|zE (oMl (xT*1000000000))<|zM<|zM<|zE (cB kJ i (0:Nat))<|zE (dK qP)<|zE (cA yU yJ (a.getD i 0))<|zE (xO ((xT*1000000000)+(a.getD i 0)))<|zM<|zZ) ?_
  refine jB<|kx [] [(0,some (bm jC (q.set i (((xT*1000000000)+(a.getD i 0)) / d))))] (zM<|zM<|zM<|zM<|zE (oQu (((xT*1000000000)+(a.getD i 0)) / d))<|zE (cA nL gP (((xT*1000000000)+(a.getD i 0)) / d))<|zE (yF kJ i)<|zT (fF qP i (((xT*1000000000)+(a.getD i 0)) / d))<|zZ) ?_
  refine kx [(7,(gL (((xT*1000000000)+(a.getD i 0)) % d)))] [] (zM<|zM<|zE (oRe (((xT*1000000000)+(a.getD i 0)) % d))<|zM<|zZ) ?_
  refine kx [(8,(vi (((i:Nat):Int)-1)))] [] (zM<|zE (zSb (((i:Nat):Int)-1))<|zM<|zZ) ?_
  exact ⟨(i,q.set i ((xT*1000000000+a.getD i 0) / d),(xT*1000000000+a.getD i 0) % d),wk,⟨by omega,by simpa using qM,hdq.set _ hb2,Nat.mod_lt _ hd0,rshort_step (by omega) hv rfl⟩,(by first|omega|(dsimp only;omega))⟩
 ·replace h1:=vT h1
  obtain rfl:k=0:=by omega
  obtain ⟨e1,e2⟩:=short_end (a:=a) (q:=q) (by rw[Nat.sub_self];exact hv) hr
  refine kO<|jB<|kS (xY (t:=6) (k:=0) (es:=map jC q) rfl rfl (vX _ _ (λ_=>rfl)) (vK _ _ qM) (xV _ _ (λ_=>rfl) qM)) ?_
  refine kx [(4,(vl 107 1 jC (ofNat (val q)))),(5,(gL xT))] [] (zM<|zE (kB (mD false q (by first | assumption | exact kI _ | exact (qF _).1 | exact (qJ _).1) (by omega)))<|zE (oF1 bJ zU)<|zM<|zM<|zM<|zZ) ?_
  refine jE ⟨_,(.tmp (d:=(.sl 107 1 (map jC (ofNat (val q))))) rfl (.tmp (d:=(.val (.int .u64 (((xT:Nat):Int))))) rfl .nil)),?_⟩
  rw[<- e1,<- e2];rfl
theorem r_pair(l:List Nat)(hd:Dig l)(h2:l.length<=2):jP prog 165 [(.sl 107 1 (map jC l))] (.val (.int .u64 ((((val l):Nat):Int)))):=by
 have h0:=hd.getD 0
 have h1:=hd.getD 1
 refine vD func165 ?_
 refine jB<|kx [] [] (zM<|zZ) ?_
 refine jB<|kx [(2,(gL (((l.getD 1 0)*1000000000)+(l.getD 0 0))))] [] (zM<|zE (kB (aS l 1 (by first | assumption | exact kI _ | exact (qF _).1 | exact (qJ _).1)))<|zE (oMl ((l.getD 1 0)*1000000000))<|zM<|zE (kB (aS l 0 (by first | assumption | exact kI _ | exact (qF _).1 | exact (qJ _).1)))<|zE (xO (((l.getD 1 0)*1000000000)+(l.getD 0 0)))<|zM<|zZ) ?_
 refine jE ⟨_,(.tmp (d:=(.val (.int .u64 ((((((l.getD 1 0)*1000000000)+(l.getD 0 0)):Nat):Int))))) rfl .nil),?_⟩
 rw[val_pair h2];rfl
theorem r_parts(a b:List Nat)(hda:gG a)(hdb:gG b)(hb0:0<b.length)(hla:a.length<=1099511627776)(hlb:b.length<=1099511627776):jP prog 164 [(.sl 107 1 (map jC a)),(.sl 107 1 (map jC b))] (.tup [(.sl 107 1 (map jC (ofNat (val a / val b)))),(.sl 107 1 (map jC (ofNat (val a % val b))))]):=by
 have hsc:=iA hdb hb0
 have htp:=lZ hdb hb0
 have hbp:=cR hdb hb0
 refine vD func164 ?_
 refine jB<|kx [] [] (zE (aN 107 1)<|zE (aN 107 1)<|zZ) ?_
 refine jB<|kx [(6,(kE b.length))] [] (zM<|zE (yA kJ)<|zM<|zZ) ?_
 refine jB<|jB<|kx [(19,(vb (((b.length:Nat):Int) == 1)))] [] (zM<|zE xL<|zZ) ?_
 refine jD (b:=(((b.length:Nat):Int) == 1)) rfl (λh1=>?_) (λh1=>?_)
 ·replace h1:=eq_of_beq h1
  have hg0:=hdb.1.getD 0
  have hv1:=val_len1 (b:=b) (by omega)
  have hb00:0<b.getD 0 0:=by omega
  have hrl:val a % b.getD 0 0<1000000000:=Nat.lt_trans (Nat.mod_lt _ hb00) (by omega)
  refine jB<|kx [(7,(vl 107 1 jC (ofNat (val a / (b.getD 0 0))))),(8,(gL (val a % (b.getD 0 0))))] [] (zM<|zM<|zE (cB kJ 0 (0:Nat))<|zE (dK qP)<|zE (cA yU yJ (b.getD 0 0))<|zE (kB (r_short a (b.getD 0 0) hda.1 (by omega) (by omega) (by omega)))<|zM<|zE zP<|zE zP<|zM<|zM<|zZ) ?_
  refine jB<|kx [(4,(vl 107 1 jC (ofNat (val a / (b.getD 0 0))))),(5,(vl 107 1 jC (ofNat (val [(val a % (b.getD 0 0))]))))] [] (zM<|zM<|zE (cA nL gP (val a % (b.getD 0 0)))<|zE (fC kJ xA yR)<|zE (kB (mD false [(val a % (b.getD 0 0))] (yO.2 ⟨by omega,gU⟩) (by simp)))<|zE (oF1 bJ zU)<|zM<|zM<|zZ) ?_
  refine jE ⟨_,(.tmp (d:=(.sl 107 1 (map jC (ofNat (val a / (b.getD 0 0)))))) rfl (.tmp (d:=(.sl 107 1 (map jC (ofNat (val [(val a % (b.getD 0 0))]))))) rfl .nil)),?_⟩
  rw[hv1,cZ];rfl
 ·replace h1:=ne_of_beq_false h1
  refine jF<|jB<|jB<|kx [(38,(vb (decide ((uY ((val a:Nat):Int) ((val b:Nat):Int))<0))))] [] (zM<|zM<|zE (kB (r_size a b (by first | assumption | exact qF _ | exact qJ _) (by first | assumption | exact qF _ | exact qJ _) (by omega) (by omega)))<|zE gX<|zZ) ?_
  refine jD rfl (λh2=>?_) (λh2=>?_)
  ·replace h2:=vF h2
   refine jB<|kx [(4,(vl 107 1 jC [])),(5,(vl 107 1 jC a))] [] (zE (fC kJ xA yR)<|zM<|zM<|zM<|zZ) ?_
   refine jE ⟨_,(.tmp (d:=(.sl 107 1 (map jC []))) rfl (.tmp (d:=(.sl 107 1 (map jC a))) rfl .nil)),?_⟩
   have hlt:=cmpI_neg h2
   rw[Nat.div_eq_of_lt hlt,Nat.mod_eq_of_lt hlt,uC,<- can_eq hda];rfl
  ·replace h2:=vT h2
   obtain ⟨u,hue⟩:∃ u,u=ofNat (val a*dL b):=⟨_,rfl⟩
   obtain ⟨v,hve⟩:∃ v,v=ofNat (val b*dL b):=⟨_,rfl⟩
   have hu:Dig u:=by rw[hue];exact kI _
   have hcv:gG v:=by rw[hve];exact qF _
   have hvd:=hcv.1
   have hvl:v.length=b.length:=by rw[hve];exact scl_len hdb hb0
   have hvv:val v=val b*dL b:=by rw[hve];exact kH _
   have huv:val u=val a*dL b:=by rw[hue];exact kH _
   have hab:=len_of_le hda hdb (cmpI_nn h2)
   have hul:a.length<=u.length/\u.length<=a.length+1:=by rw[hue];exact scl_lenA hda hdb hb0
   have hvp:=cR hcv (by omega)
   have hpv:pw (b.length-1)<=val v:=by have h1:=val_top hvd (by omega);have h3:=lZ hcv (by omega);rw[hvl] at h1 h3;have h2:=Nat.mul_le_mul_right (pw (b.length-1)) h3.1;omega
   refine jF<|jB<|kx [(9,(gL (dL b)))] [] (zM<|zM<|zE (oSb (b.length-1))<|zE (cB kJ (b.length-1) (0:Nat))<|zE (dK qP)<|zE (cA yU yJ (b.getD (b.length-1) 0))<|zE (xO ((b.getD (b.length-1) 0)+1))<|zE (oQu (dL b) (hr:=by exact (quo_u64 1000000000 (b.getD (b.length-1) 0+1))))<|zM<|zZ) ?_
   refine jB<|kx [(0,(vl 107 1 jC u)),(1,(vl 107 1 jC v))] [] (zM<|zM<|zE (kB (hue▸r_scaled a (dL b) hda.1 (by omega) (by omega)))<|zM<|zM<|zE (kB (hve▸r_scaled b (dL b) hdb.1 (by omega) (by omega)))<|zM<|zM<|zZ) ?_
   refine jB<|kx [(10,(vl 107 1 jC (ofNat (val (List.drop ((u.length-b.length)+1) u)))))] [] (zM<|zM<|zE (yA kJ)<|zM<|zE (oSb (u.length-b.length))<|zE (xO ((u.length-b.length)+1))<|zE (e_slc (l:=((u.length-b.length)+1)) (h:=(map jC u).length) (kl:=.i64) (kh:=.i64) (es':=map jC (List.drop ((u.length-b.length)+1) u)) (by exact rfl) kJ (by exact rfl) (by exact rfl) (by exact rfl) (by simp only[length_map];omega) (Nat.le_refl _) (by rw[take_length,map_drop]))<|zE (kB (mD false (List.drop ((u.length-b.length)+1) u) (hu.drop _) (by rw[length_drop];omega)))<|zE (oF1 bJ zU)<|zM<|zZ) ?_
   refine jB<|kx [(11,(.own 0 107 1 ((u.length-b.length)+1)))] [(0,some (bm jC (replicate ((u.length-b.length)+1) 0)))] (zM<|zE (yA kJ)<|zM<|zE (oSb (u.length-b.length))<|zE (xO ((u.length-b.length)+1))<|zN (oMk 0 jC (0:Nat) ((u.length-b.length)+1) ((u.length-b.length)+1) kJ xA yR mK)<|zM<|zZ) ?_
   refine jB<|jB<|kx [(12,(vi ((((u.length-b.length)+1:Nat):Int)-1)))] [] (zM<|zE (yA kJ)<|zM<|zE (zSb ((((u.length-b.length)+1:Nat):Int)-1))<|zM<|zZ) ?_
   refine jH<|kR (α:=Nat × List Nat × List Nat) (λ(k,r,q)=>⟨[(0,(vl 107 1 jC u)),(1,(vl 107 1 jC v)),(6,(kE b.length)),(9,(gL (dL b))),(10,(vl 107 1 jC r)),(11,(.own 0 107 1 ((u.length-b.length)+1))),(12,(vi (((k:Nat):Int)-1)))],[(0,some (bm jC q))]⟩) (λ(k,r,q)=>gG r/\k<=((u.length-b.length)+1)/\q.length=((u.length-b.length)+1)/\Dig q/\val r<val v/\val (u.drop k)=val v*val (q.drop k)+val r) (λ(k,r,q)=>k) (((u.length-b.length)+1),ofNat (val (List.drop ((u.length-b.length)+1) u)),replicate ((u.length-b.length)+1) 0) wk ⟨qF _,Nat.le_refl _,by simp,zV _,by rw[kH];have h7:=xB (hu.drop ((u.length-b.length)+1));rw[length_drop,show u.length-((u.length-b.length)+1)=b.length-1 by omega] at h7;omega,by rw[kH];simp [val]⟩ ?_
   rintro ⟨k,r,q⟩ ⟨hrc,hk,hql,hqd,hr,hv⟩
   refine jB<|jB<|kx [(75,(vb (decide (0<=(((k:Nat):Int)-1)))))] [] (zM<|zE oGe<|zZ) ?_
   refine jD (b:=decide (0<=(((k:Nat):Int)-1))) rfl (λh3=>?_) (λh3=>?_)
   ·replace h3:=vF h3
    obtain ⟨i,rfl⟩:∃ i,k=i+1:=⟨k-1,by omega⟩
    rw[show (((i+1:Nat):Int)-1)=((i:Nat):Int) from by omega]
    have hgu:=hu.getD i
    have hW:(u.getD i 0+1000000000*val r)<1000000000*val v:=by omega
    have hrs:=rshift_val u hv
    obtain ⟨hg1,hg2⟩:=rguess hvd hvl hb0 hW
    have hgv:=hvd.getD (b.length-1)
    have hgw1:=(kI (u.getD i 0+1000000000*val r)).getD b.length
    have hgw2:=(kI (u.getD i 0+1000000000*val r)).getD (b.length-1)
    have hrl:r.length<=b.length:=by have h9:=zB (Nat.le_of_lt hr);rwa [<- can_eq hrc,<- can_eq hcv,hvl] at h9
    have hwl:(ofNat (u.getD i 0+1000000000*val r)).length<=b.length+1:=uF (by rw[uZ];have:=xB hvd;rw[hvl] at this;omega)
    refine jF<|jB<|jH<|jB<|kx [(10,(vl 107 1 jC (ofNat ((u.getD i 0)+1000000000*val r)))),(12,(kE i))] [] (zM<|zM<|zM<|zE (cB kJ i (0:Nat))<|zE (dK qP)<|zE (kB (r_shifted r (u.getD i 0) hrc.1 (by omega) (by omega)))<|zM<|zZ) ?_
    refine jB<|kd [(13,(gL (((((ofNat ((u.getD i 0)+1000000000*val r)).getD b.length 0)*1000000000)+((ofNat ((u.getD i 0)+1000000000*val r)).getD (b.length-1) 0)) / ((v.getD (b.length-1) 0)+1))))] [] mo (wM<|wM<|wE (kB (aS (ofNat ((u.getD i 0)+1000000000*val r)) b.length (kI _)))<|wE (oMl (((ofNat ((u.getD i 0)+1000000000*val r)).getD b.length 0)*1000000000))<|wM<|wM<|wE (oSb (b.length-1))<|wE (kB (aS (ofNat ((u.getD i 0)+1000000000*val r)) (b.length-1) (by first | assumption | exact kI _ | exact (qF _).1 | exact (qJ _).1)))<|wE (xO ((((ofNat ((u.getD i 0)+1000000000*val r)).getD b.length 0)*1000000000)+((ofNat ((u.getD i 0)+1000000000*val r)).getD (b.length-1) 0)))<|wM<|wM<|wE (oSb (b.length-1))<|wE (cB kJ (b.length-1) (0:Nat))<|wE (dK qP)<|wE (cA yU yJ (v.getD (b.length-1) 0))<|wE (xO ((v.getD (b.length-1) 0)+1))<|wE (oQu (((((ofNat ((u.getD i 0)+1000000000*val r)).getD b.length 0)*1000000000)+((ofNat ((u.getD i 0)+1000000000*val r)).getD (b.length-1) 0)) / ((v.getD (b.length-1) 0)+1)))<|wM<|wZ) ?_
    refine jB<|kx [(10,(vl 107 1 jC (ofNat (val (ofNat ((u.getD i 0)+1000000000*val r))-val (ofNat (val v*(((((ofNat ((u.getD i 0)+1000000000*val r)).getD b.length 0)*1000000000)+((ofNat ((u.getD i 0)+1000000000*val r)).getD (b.length-1) 0)) / ((v.getD (b.length-1) 0)+1))))))))] [] (zM<|zM<|zM<|zE (kB (r_scaled v (((((ofNat ((u.getD i 0)+1000000000*val r)).getD b.length 0)*1000000000)+((ofNat ((u.getD i 0)+1000000000*val r)).getD (b.length-1) 0)) / ((v.getD (b.length-1) 0)+1)) hvd (by omega) (by omega)))<|zE (kB (r_minus (ofNat ((u.getD i 0)+1000000000*val r)) (ofNat (val v*(((((ofNat ((u.getD i 0)+1000000000*val r)).getD b.length 0)*1000000000)+((ofNat ((u.getD i 0)+1000000000*val r)).getD (b.length-1) 0)) / ((v.getD (b.length-1) 0)+1)))) (kI _) (kI _) (by rw[kH,kH,Nat.mul_comm];exact hg1) (by omega)))<|zM<|zZ) ?_
    refine jB<|jH<|kR (α:=Nat × List Nat) (λ(G,r2)=>⟨[(0,(vl 107 1 jC u)),(1,(vl 107 1 jC v)),(6,(kE b.length)),(9,(gL (dL b))),(10,(vl 107 1 jC r2)),(11,(.own 0 107 1 ((u.length-b.length)+1))),(12,(kE i)),(13,(gL G))],[(0,some (bm jC q))]⟩) (λ(G,r2)=>gG r2/\val v*G+val r2=(u.getD i 0+1000000000*val r)) (λ(G,r2)=>val r2) ((((ofNat (u.getD i 0+1000000000*val r)).getD b.length 0*1000000000+(ofNat (u.getD i 0+1000000000*val r)).getD (b.length-1) 0) / (v.getD (b.length-1) 0+1)),ofNat (val (ofNat (u.getD i 0+1000000000*val r))-val (ofNat (val v*(((ofNat (u.getD i 0+1000000000*val r)).getD b.length 0*1000000000+(ofNat (u.getD i 0+1000000000*val r)).getD (b.length-1) 0) / (v.getD (b.length-1) 0+1)))))) wk ⟨qF _,by rw[kH,kH,kH];rw[Nat.mul_comm] at hg1;omega⟩ ?_
    rintro ⟨G,r2⟩ ⟨hr2,hr2v⟩
    have hr2l:r2.length<=b.length+1:=by have h9:=zB (show val r2<=(u.getD i 0+1000000000*val r) by omega);rw[<- can_eq hr2] at h9;omega
    refine jB<|jB<|kx [(109,(vb (decide (0<=(uY ((val r2:Nat):Int) ((val v:Nat):Int))))))] [] (zM<|zM<|zE (kB (r_size r2 v hr2 hcv (by omega) (by omega)))<|zE oGe<|zZ) ?_
    refine jD rfl (λh4=>?_) (λh4=>?_)
    ·replace h4:=vF h4
     have hge:=lA h4
     have hG:=rquo_lt hr2v hW
     have hr2l:r2.length<=b.length+1:=by have h9:=zB (show val r2<=(u.getD i 0+1000000000*val r) by omega);rw[<- can_eq hr2] at h9;omega
     refine jF<|jH<|jB<|kx [(10,(vl 107 1 jC (ofNat (val r2-val v))))] [] (zM<|zM<|zE (kB (r_minus r2 v hr2.1 hvd (by omega) (by omega)))<|zM<|zZ) ?_
     refine kx [(13,(gL (G+1)))] [] (zM<|zE (xO (G+1))<|zM<|zZ) ?_
     exact ⟨(G+1,ofNat (val r2-val v)),wk,(by have hge:=lA h4;exact ⟨qF _,by rw[kH,Nat.mul_add,Nat.mul_one];omega⟩),(by have hge:=lA h4;dsimp only;rw[kH];omega)⟩
    ·replace h4:=vT h4
     have hG:=rquo_lt hr2v hW
     have hlt:val r2<val v:=by have h9:=cmpI_lt h4;omega
     refine kO<|kx [] [(0,some (bm jC (q.set i G)))] (zM<|zM<|zM<|zE (cA nL gP G)<|zE (yF kJ i)<|zT (fF qP i G)<|zZ) ?_
     refine kx [(12,(vi (((i:Nat):Int)-1)))] [] (zM<|zE (zSb (((i:Nat):Int)-1))<|zM<|zZ) ?_
     exact ⟨(i,r2,q.set i G),wk,⟨hr2,by omega,by simpa using hql,hqd.set _ hG,hlt,rround (by omega) (by rw[hr2v];exact hrs)⟩,(by first|omega|(dsimp only;omega))⟩
   ·replace h3:=vT h3
    obtain rfl:k=0:=by omega
    obtain ⟨e1,e2⟩:=scl_div (a:=a) (b:=b) (q:=q) (u:=r) hdb hb0 (by rw[drop_zero,drop_zero] at hv;rw[cK,Nat.one_mul,drop_zero,<- huv,<- hvv,hv];omega) (by rw[drop_zero,<- hvv];exact hr)
    have hrl:r.length<=b.length:=by have h9:=zB (Nat.le_of_lt hr);rwa [<- can_eq hrc,<- can_eq hcv,hvl] at h9
    refine kO<|jB<|kx [(14,(vl 107 1 jC (ofNat (val r / (dL b)))))] [] (zM<|zM<|zE (kB (r_short r (dL b) hrc.1 (by omega) (by omega) (by omega)))<|zM<|zE zP<|zE zP<|zM<|zM<|zZ) ?_
    refine jB<|kS (xY (t:=11) (k:=0) (es:=map jC q) rfl rfl (vX _ _ (λ_=>rfl)) (vK _ _ hql) (xV _ _ (λ_=>rfl) hql)) ?_
    refine kx [(4,(vl 107 1 jC (ofNat (val q)))),(5,(vl 107 1 jC (ofNat (val r / (dL b)))))] [] (zM<|zE (kB (mD false q hqd (by omega)))<|zE (oF1 bJ zU)<|zM<|zM<|zM<|zZ) ?_
    refine jE ⟨_,(.tmp (d:=(.sl 107 1 (map jC (ofNat (val q))))) rfl (.tmp (d:=(.sl 107 1 (map jC (ofNat (val r / (dL b)))))) rfl .nil)),?_⟩
    rw[<- e1,<- e2];rfl
end Go.Proofs.YtckccjhflbljgaaGreatDoor
