/- Part 23 of a proof: rules, plain facts, and functions walked. -/
import Derived.Test.YtckccjhflbljgaaGreatDoorM22
set_option linter.all false
set_option maxRecDepth 4000
namespace Go.Proofs.YtckccjhflbljgaaGreatDoor
open Go.Fid
theorem bF:iO Tryz.prog 30 1=some (1,28):=by kernel_rfl
theorem aM(l:List Nat)(i:Nat)(hd:Dig l):jQ Tryz.prog 169 [(.sl 107 1 (List.map jC l)),(.val (.int .i64 (((i:Nat):Int))))] (.val (.int .u64 ((((l.getD i 0):Nat):Int)))):=by
 have hg:=hd.getD i
 refine uR Tryz.func169 ?_
 refine jB<|kx [] [] (zM<|zZ) ?_
 refine jB<|jB<|kx [(8,(vb (decide (((i:Nat):Int)<((l.length:Nat):Int)))))] [] (zM<|zM<|zE (xW kG)<|zE gZ<|zZ) ?_
 refine jE rfl (fun h1=>?_) (fun h1=>?_)
 ·replace h1:=vY h1
  refine jB<|kx [(4,(gE (l.getD i 0)))] [] (zM<|zM<|zE (cT kG i (0:Nat))<|zE (nY qL)<|zE (cB yM yI (l.getD i 0))<|zM<|zZ) ?_
  refine jF ⟨_,(.tmp (d:=(.val (.int .u64 ((((l.getD i 0):Nat):Int))))) rfl .nil),?_⟩
  rfl
 ·replace h1:=xC h1
  refine jD<|jB<|kx [(4,(gE 0))] [] (zM<|zZ) ?_
  refine jF ⟨_,(.tmp (d:=(.val (.int .u64 (0)))) rfl .nil),?_⟩
  rw[show l.getD i 0=0 from getD_out (by omega)];rfl
theorem nS(neg:Bool)(l:List Nat)(hd:Dig l)(hb:l.length<=17592186044416):jQ Tryz.prog 115 [(.val (.bool (neg))),(.sl 107 1 (List.map jC l))] (jR (xI neg (val l))):=by
 refine uR Tryz.func115 ?_
 refine jB<|kx [(4,(.ref 0 0))] [(0,some (bx (jR (kS.mk false []))))] (zN (vH 0 nN nL)<|zZ) ?_
 refine jB<|kx [(5,(kF l.length))] [] (zM<|zE (xW kG)<|zM<|zZ) ?_
 refine jB<|jH<|kO (α:=Nat) (fun k=>⟨[(0,(vb neg)),(1,(vl 107 1 jC l)),(4,(.ref 0 0)),(5,(kF k))],[(0,some (bx (jR (kS.mk false []))))]⟩) (fun k=>k<=l.length/\val (l.take k)=val l) (fun k=>k) l.length wk ⟨Nat.le_refl _,by rw[List.take_length]⟩ ?_
 rintro k ⟨hk,hv⟩
 refine jB<|jB<|kx [(17,(vb (decide (0<((k:Nat):Int))&&((((l.getD (k-1) 0):Nat):Int) == 0))))] [] ?_ ?_
 ·refine zM<|zE dV<|zE (oV (vb (decide (0<((k:Nat):Int)))) (kW (by kernel_rfl)))<|?_
  rcases hb1:(decide (0<((k:Nat):Int))) with _ | _
  ·replace hb1:=xC hb1
   exact zK<|zK<|zK<|zK<|zK<|zK<|zE vL<|zZ
  ·replace hb1:=vY hb1
   exact zM<|zM<|zE (oSb (k-1))<|zE (cT kG (k-1) (0:Nat))<|zE (nY qL)<|zE xU<|zE aD<|zZ
 refine jE rfl (fun h2=>?_) (fun h2=>?_)
 ·have hm:=r_made_step hk hv h2
  have hm0:=hm.1
  refine jD<|jH<|kx [(5,(kF (k-1)))] [] (zM<|zE (oSb (k-1))<|zM<|zZ) ?_
  exact ⟨(k-1),wk,⟨by omega,hm.2⟩,(by first|omega|(dsimp only;omega))⟩
 ·refine kL<|jB<|kx [] [(0,some (bx (jR (kS.mk (neg&&decide (0<((k:Nat):Int))) (List.take k l)))))] ?_ ?_
  ·refine zM<|zE (oV (vb neg) (kW (by kernel_rfl)))<|?_
   rcases hb3:neg with _ | _
   ·exact zK<|zK<|zE vL<|zE (oBe kG)<|zM<|zM<|zE (e_slc (l:=0) (h:=k) (kl:=.i64) (kh:=.i64) (es':=List.map jC (List.take k l)) (by exact rfl) kG (by exact rfl) (by exact rfl) (by exact rfl) (Nat.zero_le _) (by simp only[List.length_map];omega) (by rw[List.drop_zero,List.map_take]))<|zE (e_appe (by exact rfl) kG vQ (by kernel_rfl) mB (by exact rfl) (by exact rfl) (by simp only[List.length_map,List.length_take,List.length_drop,List.length_append,List.length_cons,List.length_nil,maxLen];omega) (by simp only[List.length_map,List.length_take,List.length_drop,List.length_append,List.length_cons,List.length_nil];omega))<|zE (oBd pl30 nN nL)<|zT (qJ kB)<|zZ
   ·exact zM<|zE dV<|zE aD<|zE (oBe kG)<|zM<|zM<|zE (e_slc (l:=0) (h:=k) (kl:=.i64) (kh:=.i64) (es':=List.map jC (List.take k l)) (by exact rfl) kG (by exact rfl) (by exact rfl) (by exact rfl) (Nat.zero_le _) (by simp only[List.length_map];omega) (by rw[List.drop_zero,List.map_take]))<|zE (e_appe (by exact rfl) kG vQ (by kernel_rfl) mB (by exact rfl) (by exact rfl) (by simp only[List.length_map,List.length_take,List.length_drop,List.length_append,List.length_cons,List.length_nil,maxLen];omega) (by simp only[List.length_map,List.length_take,List.length_drop,List.length_append,List.length_cons,List.length_nil];omega))<|zE (oBd pl30 nN nL)<|zT (qJ kB)<|zZ
  refine jF ⟨_,(kR (cs:=(bx (jR (kS.mk (neg&&decide (0<((k:Nat):Int))) (List.take k l))))) (d:=(jR (kS.mk (neg&&decide (0<((k:Nat):Int))) (List.take k l)))) rfl rfl kB rfl rfl .nil),?_⟩
  rw[r_made_end hd hk hv h2];rfl
theorem r_valid(x:kS)(hb:x.gs.length<=17592186044416):jQ Tryz.prog 94 [(jR x)] (.val (.bool ((uF x)))):=by
 refine uR Tryz.func94 ?_
 refine jB<|kx [(1,(.ref 0 0))] [(0,some (bx (jR x)))] (zN (xO 0)<|zM<|zZ) ?_
 refine jB<|kx [(3,(kF x.gs.length))] [] (zE (kI vG)<|zR (qH zD)<|zE (xW kG)<|zM<|zZ) ?_
 refine jB<|jB<|kx [(4,(kF 0))] [] (zM<|zZ) ?_
 refine jH<|kO (α:=Nat) (fun i=>⟨[(1,(.ref 0 0)),(3,(kF x.gs.length)),(4,(kF i))],[(0,some (bx (jR x)))]⟩) (fun i=>i<=x.gs.length/\Dig (x.gs.take i)) (fun i=>x.gs.length-i) 0 wk ⟨Nat.zero_le _,by rw[List.take_zero];exact gL⟩ ?_
 rintro i ⟨hi,hd⟩
 refine jB<|jB<|kx [(10,(vb (decide (((i:Nat):Int)<((x.gs.length:Nat):Int)))))] [] (zM<|zM<|zE gZ<|zZ) ?_
 refine jE rfl (fun h1=>?_) (fun h1=>?_)
 ·replace h1:=vY h1
  refine jD<|jB<|jH<|jB<|kx [(18,(vb (decide (1000000000<=(((x.gs.getD i 0):Nat):Int)))))] [] (zE (kI vG)<|zR (qH zD)<|zM<|zE (cT kG i (0:Nat))<|zE (nY qL)<|zE oGe<|zZ) ?_
  refine jE rfl (fun h2=>?_) (fun h2=>?_)
  ·replace h2:=vY h2
   refine jB<|kx [(2,(vb false))] [] (zM<|zZ) ?_
   refine jF ⟨_,(.tmp (d:=(.val (.bool (false)))) rfl .nil),?_⟩
   rw[validI_big (i:=i) (by omega) (by omega)];rfl
  ·replace h2:=xC h2
   refine jD<|kx [(4,(kF (i+1)))] [] (zM<|zE (vT (i+1))<|zM<|zZ) ?_
   exact ⟨(i+1),wk,⟨by omega,dig_take_succ (by omega) hd (by omega)⟩,(by first|omega|(dsimp only;omega))⟩
 ·replace h1:=xC h1
  have hie:i=x.gs.length:=by omega
  rw[hie,List.take_length] at hd
  refine kL<|jB<|jB<|kx [(20,(vb (((x.gs.length:Nat):Int) == 0)))] [] (zM<|zE xU<|zZ) ?_
  refine jE (b:=(((x.gs.length:Nat):Int) == 0)) rfl (fun h3=>?_) (fun h3=>?_)
  ·replace h3:=eq_of_beq h3
   refine jB<|kx [(2,(vb (!x.neg)))] [] (zE (kI vK)<|zR (qH aU)<|zE yT<|zM<|zZ) ?_
   refine jF ⟨_,(.tmp (d:=(.val (.bool (!x.neg)))) rfl .nil),?_⟩
   rw[validI_nil (by omega)];rfl
  ·replace h3:=ne_of_beq_false h3
   refine jD<|jB<|kx [(2,(vb ((((x.gs.getD (x.gs.length-1) 0):Nat):Int) != 0)))] [] (zE (kI vG)<|zR (qH zD)<|zM<|zE (oSb (x.gs.length-1))<|zE (cT kG (x.gs.length-1) (0:Nat))<|zE (nY qL)<|zE cK<|zM<|zZ) ?_
   refine jF ⟨_,(.tmp (d:=(.val (.bool (((((x.gs.getD (x.gs.length-1) 0):Nat):Int) != 0))))) rfl .nil),?_⟩
   rw[validI_dig hd (by omega)];rfl
theorem eH(x:kS)(hb:x.gs.length<=17592186044416):jQ Tryz.prog 114 [(jR x)] (jR (kH (jV x))):=by
 refine uR Tryz.func114 ?_
 refine jB<|kx [(1,(.ref 0 0)),(2,(.ref 1 0))] [(0,some (bx (jR x))),(1,some (bx (jR (kS.mk false []))))] (zN (xO 0)<|zN (vH 1 nN nL)<|zZ) ?_
 refine jB<|jB<|kx [(5,(vb (!(uF x))))] [] (zR (kP kB)<|zE (jY (r_valid x (by omega)))<|zE yT<|zZ) ?_
 refine jE (b:=!(uF x)) rfl (fun h1=>?_) (fun h1=>?_)
 ·refine jB<|kx [] [(1,some (bx (jR (kS.mk false []))))] (zE (oBd pl30 nN nL)<|zT (qJ kB)<|zZ) ?_
  refine jF ⟨_,(kR (cs:=(bx (jR (kS.mk false [])))) (d:=(jR (kS.mk false []))) rfl rfl kB rfl rfl .nil),?_⟩
  rw[toZ_bad (by rw[Bool.not_eq_true'] at h1;exact h1),ofZ_zero];rfl
 ·refine jD<|jB<|kd [] [(1,some (bx (jR (kS.mk x.neg x.gs))))] mo (wE (kI vK)<|wR (qH aU)<|wE (oBe kG)<|wE (kI vG)<|wR (qH zD)<|wE (e_appe (by exact rfl) kG vQ (by kernel_rfl) mB (by exact rfl) (by exact rfl) (by simp only[List.length_map,List.length_take,List.length_drop,List.length_append,List.length_cons,List.length_nil,maxLen];omega) (by simp only[List.length_map,List.length_take,List.length_drop,List.length_append,List.length_cons,List.length_nil];omega))<|wE (oBd pl30 nN nL)<|wT (qJ kB)<|wZ) ?_
  refine jF ⟨_,(kR (cs:=(bx (jR (kS.mk x.neg x.gs)))) (d:=(jR (kS.mk x.neg x.gs))) rfl rfl kB rfl rfl .nil),?_⟩
  rw[ofZ_toZ (by simpa using h1)];rfl
theorem r_of(n:Int)(hlo:-9223372036854775808<=n)(hhi:n<=9223372036854775807):jQ Tryz.prog 119 [(.val (.int .i64 (n)))] (jR (kH n)):=by
 refine uR Tryz.func119 ?_
 refine jB<|kx [(2,(.ref 0 0))] [(0,some (bx (jR (kS.mk false []))))] (zN (vH 0 nN nL)<|zZ) ?_
 refine jB<|kx [(3,(gE ((n % 18446744073709551616).toNat)))] [] (zM<|zE (cB un3 yI ((n % 18446744073709551616).toNat) (hr:=by exact (conv_u64 _)))<|zM<|zZ) ?_
 refine jB<|jB<|kx [(8,(vb (decide (n<0))))] [] (zM<|zE gZ<|zZ) ?_
 refine jE (b:=decide (n<0)) rfl (fun h1=>?_) (fun h1=>?_)
 ·replace h1:=vY h1
  refine kx [(3,(gE n.natAbs))] [] (zM<|zE (zAd (n+1))<|zE (oNg (-(n+1)))<|zE (cB un3 yI ((-n-1).toNat) (hr:=by exact (wu64 (by omega) (by omega) (by omega))))<|zE (vT n.natAbs)<|zM<|zZ) ?_
  refine jB<|kx [(4,(.own 1 107 1 0))] [(1,some (bm jC []))] (zN (oBo 1 kG vQ yQ)<|zM<|zZ) ?_
  refine jB<|jH<|kO (α:=List Nat × Nat) (fun (o,m)=>⟨[(0,(vi n)),(2,(.ref 0 0)),(3,(gE m)),(4,(.own 1 107 1 o.length))],[(0,some (bx (jR (kS.mk false [])))),(1,some (bm jC o))]⟩) (fun (o,m)=>m<=9223372036854775808/\o++ofNat m=ofNat n.natAbs) (fun (o,m)=>m) ([],n.natAbs) wk ⟨by omega,by rw[List.nil_append]⟩ ?_
  rintro ⟨o,m⟩ ⟨hm,hg⟩
  have hl:=split_len hg (by omega)
  refine jB<|jB<|kx [(16,(vb (decide (0<((m:Nat):Int)))))] [] (zM<|zE dV<|zZ) ?_
  refine jE (b:=decide (0<((m:Nat):Int))) rfl (fun h2=>?_) (fun h2=>?_)
  ·replace h2:=vY h2
   refine jD<|jH<|jB<|kf [(4,(.own 1 107 1 ((o++[(m % 1000000000)]).length)))] [(1,some (bm jC (o++[(m % 1000000000)])))] (zM<|zM<|zE (oRe (m % 1000000000))<|zE (cB nA gJ (m % 1000000000))<|zE (eY kG vQ yQ)<|zA jC o [(m % 1000000000)] rfl kG vQ mB<|zM<|zF) ?_
   refine kx [(3,(gE (m / 1000000000)))] [] (zM<|zE (oQu (m / 1000000000))<|zM<|zZ) ?_
   exact ⟨(o++[m % 1000000000],m / 1000000000),wk,⟨by omega,split_step hg h2⟩,(by first|omega|(dsimp only;omega))⟩
  ·replace h2:=xC h2
   have hdo:Dig o:=split_dig hg h2
   have hvo:=split_val hg h2
   refine kL<|jB<|qG (yG (t:=4) (k:=1) (es:=List.map jC o) rfl rfl (vW _ _ (fun _=>rfl)) (xR _ _ rfl) (xY _ _ (fun _=>rfl) rfl)) ?_
   refine kx [] [(0,some (bx (jR (xI (decide (n<0)) (val o)))))] (zM<|zE gZ<|zM<|zE (jY (nS (decide (n<0)) o hdo (by omega)))<|zT (qJ kB)<|zZ) ?_
   refine jF ⟨_,(kR (cs:=(bx (jR (xI (decide (n<0)) (val o))))) (d:=(jR (xI (decide (n<0)) (val o)))) rfl rfl kB rfl rfl .nil),?_⟩
   rw[hvo];rfl
 ·replace h1:=xC h1
  rw[show (n % 18446744073709551616).toNat=n.natAbs from by omega]
  refine jD<|jB<|kx [(3,(gE n.natAbs)),(4,(.own 2 107 1 0))] [(2,some (bm jC []))] (zN (oBo 2 kG vQ yQ)<|zM<|zZ) ?_
  refine jB<|jH<|kO (α:=List Nat × Nat) (fun (o,m)=>⟨[(0,(vi n)),(2,(.ref 0 0)),(3,(gE m)),(4,(.own 2 107 1 o.length))],[(0,some (bx (jR (kS.mk false [])))),(2,some (bm jC o))]⟩) (fun (o,m)=>m<=9223372036854775808/\o++ofNat m=ofNat n.natAbs) (fun (o,m)=>m) ([],n.natAbs) wk ⟨by omega,by rw[List.nil_append]⟩ ?_
  rintro ⟨o,m⟩ ⟨hm,hg⟩
  have hl:=split_len hg (by omega)
  refine jB<|jB<|kx [(16,(vb (decide (0<((m:Nat):Int)))))] [] (zM<|zE dV<|zZ) ?_
  refine jE (b:=decide (0<((m:Nat):Int))) rfl (fun h3=>?_) (fun h3=>?_)
  ·replace h3:=vY h3
   refine jD<|jH<|jB<|kf [(4,(.own 2 107 1 ((o++[(m % 1000000000)]).length)))] [(2,some (bm jC (o++[(m % 1000000000)])))] (zM<|zM<|zE (oRe (m % 1000000000))<|zE (cB nA gJ (m % 1000000000))<|zE (eY kG vQ yQ)<|zA jC o [(m % 1000000000)] rfl kG vQ mB<|zM<|zF) ?_
   refine kx [(3,(gE (m / 1000000000)))] [] (zM<|zE (oQu (m / 1000000000))<|zM<|zZ) ?_
   exact ⟨(o++[m % 1000000000],m / 1000000000),wk,⟨by omega,split_step hg h3⟩,(by first|omega|(dsimp only;omega))⟩
  ·replace h3:=xC h3
   have hdo:Dig o:=split_dig hg h3
   have hvo:=split_val hg h3
   refine kL<|jB<|qG (yG (t:=4) (k:=2) (es:=List.map jC o) rfl rfl (vW _ _ (fun _=>rfl)) (xR _ _ rfl) (xY _ _ (fun _=>rfl) rfl)) ?_
   refine kx [] [(0,some (bx (jR (xI (decide (n<0)) (val o)))))] (zM<|zE gZ<|zM<|zE (jY (nS (decide (n<0)) o hdo (by omega)))<|zT (qJ kB)<|zZ) ?_
   refine jF ⟨_,(kR (cs:=(bx (jR (xI (decide (n<0)) (val o))))) (d:=(jR (xI (decide (n<0)) (val o)))) rfl rfl kB rfl rfl .nil),?_⟩
   rw[hvo];rfl
theorem r_size(a b:List Nat)(ha:yY a)(hb:yY b)(hla:a.length<=17592186044416)(hlb:b.length<=17592186044416):jQ Tryz.prog 117 [(.sl 107 1 (List.map jC a)),(.sl 107 1 (List.map jC b))] (.val (.int .i64 ((uT ((val a:Nat):Int) ((val b:Nat):Int))))):=by
 refine uR Tryz.func117 ?_
 refine jB<|kx [] [] (zM<|zZ) ?_
 refine jB<|jB<|kx [(10,(vb (((a.length:Nat):Int) != ((b.length:Nat):Int))))] [] (zM<|zE (xW kG)<|zM<|zE (xW kG)<|zE cK<|zZ) ?_
 refine jE rfl (fun h1=>?_) (fun h1=>?_)
 ·replace h1:=bne_iff_ne.1 h1
  refine jB<|jB<|kx [(15,(vb (decide (((a.length:Nat):Int)<((b.length:Nat):Int)))))] [] (zM<|zE (xW kG)<|zM<|zE (xW kG)<|zE gZ<|zZ) ?_
  refine jE rfl (fun h2=>?_) (fun h2=>?_)
  ·replace h2:=vY h2
   refine jB<|kx [(4,(vi (-1)))] [] (zM<|zZ) ?_
   refine jF ⟨_,(.tmp (d:=(.val (.int .i64 (-1)))) rfl .nil),?_⟩
   rw[<- cmpI_len ha hb h1];unfold uT;rw[if_pos (by omega)];rfl
  ·replace h2:=xC h2
   refine jD<|jB<|kx [(4,(kF 1))] [] (zM<|zZ) ?_
   refine jF ⟨_,(.tmp (d:=(.val (.int .i64 (1)))) rfl .nil),?_⟩
   rw[<- cmpI_len ha hb h1,aN (by omega)];rfl
 ·replace h1:=bne_eq_false_iff_eq.1 h1
  have hl:a.length=b.length:=by omega
  refine jD<|jB<|jB<|kx [(5,(vi (((a.length:Nat):Int)-1)))] [] (zM<|zE (xW kG)<|zE (zSb (((a.length:Nat):Int)-1))<|zM<|zZ) ?_
  refine jH<|kO (α:=Nat) (fun k=>⟨[(0,(vl 107 1 jC a)),(1,(vl 107 1 jC b)),(5,(vi (((k:Nat):Int)-1)))],[]⟩) (fun k=>k<=a.length/\val (a.drop k)=val (b.drop k)) (fun k=>k) a.length wk ⟨Nat.le_refl _,by rw[List.drop_length,hl,List.drop_length]⟩ ?_
  rintro k ⟨hk,he⟩
  refine jB<|jB<|kx [(20,(vb (decide (0<=(((k:Nat):Int)-1)))))] [] (zM<|zE oGe<|zZ) ?_
  refine jE (b:=decide (0<=(((k:Nat):Int)-1))) rfl (fun h3=>?_) (fun h3=>?_)
  ·replace h3:=vY h3
   obtain ⟨i,rfl⟩:∃ i,k=i+1:=⟨k-1,by omega⟩
   rw[show (((i+1:Nat):Int)-1)=((i:Nat):Int) from by omega]
   have ht:=cmpI_top ha.1 hb.1 hl (j:=a.length-1-i) (by omega) (by rw[show a.length-(a.length-1-i)=i+1 by omega];exact he)
   rw[show a.length-1-(a.length-1-i)=i by omega] at ht
   refine jD<|jB<|jH<|jB<|jB<|kd [(5,(kF i)),(31,(vb (decide ((((a.getD i 0):Nat):Int)<(((b.getD i 0):Nat):Int)))))] [] mo (wM<|wM<|wE (cT kG i (0:Nat))<|wE (nY qL)<|wM<|wM<|wE (cT kG i (0:Nat))<|wE (nY qL)<|wE gZ<|wZ) ?_
   refine jE rfl (fun h4=>?_) (fun h4=>?_)
   ·replace h4:=vY h4
    refine jB<|kx [(4,(vi (-1)))] [] (zM<|zZ) ?_
    refine jF ⟨_,(.tmp (d:=(.val (.int .i64 (-1)))) rfl .nil),?_⟩
    rw[<- ht (by omega)];unfold uT;rw[if_pos (by omega)];rfl
   ·replace h4:=xC h4
    refine jD<|jB<|kd [(40,(vb (decide ((((b.getD i 0):Nat):Int)<(((a.getD i 0):Nat):Int)))))] [] mo (wM<|wM<|wE (cT kG i (0:Nat))<|wE (nY qL)<|wM<|wM<|wE (cT kG i (0:Nat))<|wE (nY qL)<|wE dV<|wZ) ?_
    refine jE rfl (fun h5=>?_) (fun h5=>?_)
    ·replace h5:=vY h5
     refine jB<|kx [(4,(kF 1))] [] (zM<|zZ) ?_
     refine jF ⟨_,(.tmp (d:=(.val (.int .i64 (1)))) rfl .nil),?_⟩
     rw[<- ht (by omega),aN (by omega)];rfl
    ·replace h5:=xC h5
     refine jD<|kx [(5,(vi (((i:Nat):Int)-1)))] [] (zM<|zE (zSb (((i:Nat):Int)-1))<|zM<|zZ) ?_
     exact ⟨i,wk,⟨by omega,by rw[xK a i,xK b i,he];omega⟩,(by first|omega|(dsimp only;omega))⟩
  ·replace h3:=xC h3
   obtain rfl:k=0:=by omega
   rw[List.drop_zero,List.drop_zero] at he
   refine kL<|jB<|kx [(4,(kF 0))] [] (zM<|zZ) ?_
   refine jF ⟨_,(.tmp (d:=(.val (.int .i64 (0)))) rfl .nil),?_⟩
   rw[cmpI_same he];rfl
theorem r_plus(a b:List Nat)(hda:Dig a)(hdb:Dig b)(hla:a.length<=8796093022208)(hlb:b.length<=8796093022208):jQ Tryz.prog 116 [(.sl 107 1 (List.map jC a)),(.sl 107 1 (List.map jC b))] (.sl 107 1 (List.map jC (ofNat (val a+val b)))):=by
 refine uR Tryz.func116 ?_
 refine jB<|kx [] [] (zE (aY 107 1)<|zZ) ?_
 refine jB<|kx [(5,(.own 0 107 1 0))] [(0,some (bm jC []))] (zN (oBo 0 kG vQ yQ)<|zM<|zZ) ?_
 refine jB<|kx [(6,(gE 0))] [] (zM<|zZ) ?_
 refine jB<|jB<|kx [(7,(kF 0))] [] (zM<|zZ) ?_
 refine jH<|kO (α:=Nat × List Nat × Nat) (fun (i,o,c)=>⟨[(0,(vl 107 1 jC a)),(1,(vl 107 1 jC b)),(5,(.own 0 107 1 o.length)),(6,(gE c)),(7,(kF i))],[(0,some (bm jC o))]⟩) (fun (i,o,c)=>o.length=i/\Dig o/\i<=max a.length b.length/\c<=1/\val o+pw i*c=val (a.take i)+val (b.take i)) (fun (i,o,c)=>max a.length b.length-i) (0,[],0) wk ⟨rfl,gL,Nat.zero_le _,Nat.zero_le _,by simp [val]⟩ ?_
 rintro ⟨i,o,c⟩ ⟨hl,hd,hi,hc,hv⟩
 have hai:=hda.getD i
 have hbi:=hdb.getD i
 refine jB<|jB<|kx [(19,(vb (decide (((i:Nat):Int)<((a.length:Nat):Int))||decide (((i:Nat):Int)<((b.length:Nat):Int)))))] [] ?_ ?_
 ·refine zM<|zM<|zE (xW kG)<|zE gZ<|zE (oV (vb (decide (((i:Nat):Int)<((a.length:Nat):Int)))) (kW (by kernel_rfl)))<|?_
  rcases hb1:(decide (((i:Nat):Int)<((a.length:Nat):Int))) with _ | _
  ·replace hb1:=xC hb1
   exact zM<|zM<|zE (xW kG)<|zE gZ<|zE aC<|zZ
  ·replace hb1:=vY hb1
   exact zK<|zK<|zK<|zK<|zE yH<|zZ
 refine jE rfl (fun h2=>?_) (fun h2=>?_)
 ·rw[Bool.or_eq_true,decide_eq_true_eq,decide_eq_true_eq] at h2
  refine jD<|jB<|jH<|jB<|kx [(8,(gE (((a.getD i 0)+(b.getD i 0))+c)))] [] (zM<|zM<|zE (jY (aM a i (by first | assumption | exact kE _ | exact (kY _).1 | exact (qB _).1)))<|zM<|zM<|zE (jY (aM b i (by first | assumption | exact kE _ | exact (kY _).1 | exact (qB _).1)))<|zE (vT ((a.getD i 0)+(b.getD i 0)))<|zM<|zE (vT (((a.getD i 0)+(b.getD i 0))+c))<|zM<|zZ) ?_
  refine jB<|kf [(5,(.own 0 107 1 ((o++[((((a.getD i 0)+(b.getD i 0))+c) % 1000000000)]).length)))] [(0,some (bm jC (o++[((((a.getD i 0)+(b.getD i 0))+c) % 1000000000)])))] (zM<|zM<|zE (oRe ((((a.getD i 0)+(b.getD i 0))+c) % 1000000000))<|zE (cB nA gJ ((((a.getD i 0)+(b.getD i 0))+c) % 1000000000))<|zE (eY kG vQ yQ)<|zA jC o [((((a.getD i 0)+(b.getD i 0))+c) % 1000000000)] rfl kG vQ mB<|zM<|zF) ?_
  refine kx [(6,(gE ((((a.getD i 0)+(b.getD i 0))+c) / 1000000000)))] [] (zM<|zE (oQu ((((a.getD i 0)+(b.getD i 0))+c) / 1000000000))<|zM<|zZ) ?_
  refine kx [(7,(kF (i+1)))] [] (zM<|zE (vT (i+1))<|zM<|zZ) ?_
  exact ⟨(i+1,o++[(a.getD i 0+b.getD i 0+c) % 1000000000],(a.getD i 0+b.getD i 0+c) / 1000000000),wk,⟨by simp [hl],dig_push hd (Nat.mod_lt _ (by decide)),by omega,by omega,rplus_step hl hv rfl⟩,(by first|omega|(dsimp only;omega))⟩
 ·rw[Bool.or_eq_false_iff,decide_eq_false_iff_not,decide_eq_false_iff_not] at h2
  rw[take_all (by omega),take_all (by omega)] at hv
  have hp:=val_push (c:=c) hl
  refine kL<|jB<|kf [(4,(vl 107 1 jC (ofNat (val (o++[c]))))),(5,.junk)] [(0,none)] (zM<|zM<|zE (cB nA gJ c)<|zE (eY kG vQ yQ)<|zAQ jC o [c] rfl kG vQ mB<|zE (jY (nS false (o++[c]) (dig_push hd (by omega)) (by simp only[List.length_append,List.length_cons,List.length_nil];omega)))<|zE (oF1 bF zD)<|zM<|zF) ?_
  refine jF ⟨_,(.tmp (d:=(.sl 107 1 (List.map jC (ofNat (val (o++[c])))))) rfl .nil),?_⟩
  rw[hp,hv];rfl
theorem r_minus(a b:List Nat)(hda:Dig a)(hdb:Dig b)(hba:val b<=val a)(hla:a.length<=8796093022208):jQ Tryz.prog 118 [(.sl 107 1 (List.map jC a)),(.sl 107 1 (List.map jC b))] (.sl 107 1 (List.map jC (ofNat (val a-val b)))):=by
 refine uR Tryz.func118 ?_
 refine jB<|kx [] [] (zE (aY 107 1)<|zZ) ?_
 refine jB<|kx [(5,(.own 0 107 1 0))] [(0,some (bm jC []))] (zN (oBo 0 kG vQ yQ)<|zM<|zZ) ?_
 refine jB<|kx [(6,(gE 0))] [] (zM<|zZ) ?_
 refine jB<|jB<|kx [(7,(kF 0))] [] (zM<|zZ) ?_
 refine jH<|kO (α:=Nat × List Nat × Nat) (fun (i,o,c)=>⟨[(0,(vl 107 1 jC a)),(1,(vl 107 1 jC b)),(5,(.own 0 107 1 o.length)),(6,(gE c)),(7,(kF i))],[(0,some (bm jC o))]⟩) (fun (i,o,c)=>o.length=i/\Dig o/\i<=a.length/\c<=1/\val o+val (b.take i)=val (a.take i)+pw i*c) (fun (i,o,c)=>a.length-i) (0,[],0) wk ⟨rfl,gL,Nat.zero_le _,Nat.zero_le _,by simp [val]⟩ ?_
 rintro ⟨i,o,c⟩ ⟨hl,hd,hi,hc,hv⟩
 have hai:=hda.getD i
 have hbi:=hdb.getD i
 refine jB<|jB<|kx [(13,(vb (decide (((i:Nat):Int)<((a.length:Nat):Int)))))] [] (zM<|zM<|zE (xW kG)<|zE gZ<|zZ) ?_
 refine jE rfl (fun h1=>?_) (fun h1=>?_)
 ·replace h1:=vY h1
  refine jD<|jB<|jH<|jB<|kx [(8,(gE (((1000000000+(a.getD i 0))-(b.getD i 0))-c)))] [] (zM<|zM<|zE (jY (aM a i (by first | assumption | exact kE _ | exact (kY _).1 | exact (qB _).1)))<|zE (vT (1000000000+(a.getD i 0)))<|zM<|zM<|zE (jY (aM b i (by first | assumption | exact kE _ | exact (kY _).1 | exact (qB _).1)))<|zE (oSb ((1000000000+(a.getD i 0))-(b.getD i 0)))<|zM<|zE (oSb (((1000000000+(a.getD i 0))-(b.getD i 0))-c))<|zM<|zZ) ?_
  refine jB<|kf [(5,(.own 0 107 1 ((o++[((((1000000000+(a.getD i 0))-(b.getD i 0))-c) % 1000000000)]).length)))] [(0,some (bm jC (o++[((((1000000000+(a.getD i 0))-(b.getD i 0))-c) % 1000000000)])))] (zM<|zM<|zE (oRe ((((1000000000+(a.getD i 0))-(b.getD i 0))-c) % 1000000000))<|zE (cB nA gJ ((((1000000000+(a.getD i 0))-(b.getD i 0))-c) % 1000000000))<|zE (eY kG vQ yQ)<|zA jC o [((((1000000000+(a.getD i 0))-(b.getD i 0))-c) % 1000000000)] rfl kG vQ mB<|zM<|zF) ?_
  refine kx [(6,(gE (1-((((1000000000+(a.getD i 0))-(b.getD i 0))-c) / 1000000000))))] [] (zM<|zE (oQu ((((1000000000+(a.getD i 0))-(b.getD i 0))-c) / 1000000000))<|zE (oSb (1-((((1000000000+(a.getD i 0))-(b.getD i 0))-c) / 1000000000)))<|zM<|zZ) ?_
  refine kx [(7,(kF (i+1)))] [] (zM<|zE (vT (i+1))<|zM<|zZ) ?_
  exact ⟨(i+1,o++[(1000000000+a.getD i 0-b.getD i 0-c) % 1000000000],1-(1000000000+a.getD i 0-b.getD i 0-c) / 1000000000),wk,⟨by simp [hl],dig_push hd (Nat.mod_lt _ (by decide)),by omega,by omega,rminus_step hl hv (by omega) (by omega)⟩,(by first|omega|(dsimp only;omega))⟩
 ·replace h1:=xC h1
  have hie:i=a.length:=by omega
  refine kL<|jB<|qG (yG (t:=5) (k:=0) (es:=List.map jC o) rfl rfl (vW _ _ (fun _=>rfl)) (xR _ _ rfl) (xY _ _ (fun _=>rfl) rfl)) ?_
  refine kx [(4,(vl 107 1 jC (ofNat (val o))))] [] (zM<|zE (jY (nS false o hd (by omega)))<|zE (oF1 bF zD)<|zM<|zZ) ?_
  refine jF ⟨_,(.tmp (d:=(.sl 107 1 (List.map jC (ofNat (val o))))) rfl .nil),?_⟩
  rw[rminus_end hda hdb hd hie hl hba hv];rfl
theorem r_scaled(a:List Nat)(d:Nat)(hda:Dig a)(hd1:d<=1000000000)(hla:a.length<=8796093022208):jQ Tryz.prog 186 [(.sl 107 1 (List.map jC a)),(.val (.int .u64 (((d:Nat):Int))))] (.sl 107 1 (List.map jC (ofNat (val a*d)))):=by
 refine uR Tryz.func186 ?_
 refine jB<|kx [] [] (zE (aY 107 1)<|zZ) ?_
 refine jB<|kx [(5,(.own 0 107 1 0))] [(0,some (bm jC []))] (zN (oBo 0 kG vQ yQ)<|zM<|zZ) ?_
 refine jB<|kx [(6,(gE 0))] [] (zM<|zZ) ?_
 refine jB<|jB<|kx [(7,(kF 0))] [] (zM<|zZ) ?_
 refine jH<|kO (α:=Nat × List Nat × Nat) (fun (i,o,c)=>⟨[(0,(vl 107 1 jC a)),(1,(gE d)),(5,(.own 0 107 1 o.length)),(6,(gE c)),(7,(kF i))],[(0,some (bm jC o))]⟩) (fun (i,o,c)=>o.length=i/\Dig o/\i<=a.length/\c<=999999999/\val o+pw i*c=val (a.take i)*d) (fun (i,o,c)=>a.length-i) (0,[],0) wk ⟨rfl,gL,Nat.zero_le _,Nat.zero_le _,by simp [val]⟩ ?_
 rintro ⟨i,o,c⟩ ⟨hl,hd,hi,hc,hv⟩
 have hai:=hda.getD i
 have hpq:a.getD i 0*d<=999999999*1000000000:=Nat.mul_le_mul (by omega) hd1
 refine jB<|jB<|kx [(13,(vb (decide (((i:Nat):Int)<((a.length:Nat):Int)))))] [] (zM<|zM<|zE (xW kG)<|zE gZ<|zZ) ?_
 refine jE rfl (fun h1=>?_) (fun h1=>?_)
 ·replace h1:=vY h1
  refine jD<|jB<|jH<|jB<|kx [(8,(gE (((a.getD i 0)*d)+c)))] [] (zM<|zM<|zE (cT kG i (0:Nat))<|zE (nY qL)<|zE (cB yM yI (a.getD i 0))<|zM<|zE (oMl ((a.getD i 0)*d))<|zM<|zE (vT (((a.getD i 0)*d)+c))<|zM<|zZ) ?_
  refine jB<|kf [(5,(.own 0 107 1 ((o++[((((a.getD i 0)*d)+c) % 1000000000)]).length)))] [(0,some (bm jC (o++[((((a.getD i 0)*d)+c) % 1000000000)])))] (zM<|zM<|zE (oRe ((((a.getD i 0)*d)+c) % 1000000000))<|zE (cB nA gJ ((((a.getD i 0)*d)+c) % 1000000000))<|zE (eY kG vQ yQ)<|zA jC o [((((a.getD i 0)*d)+c) % 1000000000)] rfl kG vQ mB<|zM<|zF) ?_
  refine kx [(6,(gE ((((a.getD i 0)*d)+c) / 1000000000)))] [] (zM<|zE (oQu ((((a.getD i 0)*d)+c) / 1000000000))<|zM<|zZ) ?_
  refine kx [(7,(kF (i+1)))] [] (zM<|zE (vT (i+1))<|zM<|zZ) ?_
  exact ⟨(i+1,o++[(a.getD i 0*d+c) % 1000000000],(a.getD i 0*d+c) / 1000000000),wk,⟨by simp [hl],dig_push hd (Nat.mod_lt _ (by decide)),by omega,by omega,rscaled_step hl hv rfl⟩,(by first|omega|(dsimp only;omega))⟩
 ·replace h1:=xC h1
  have hie:i=a.length:=by omega
  rw[take_all (by omega)] at hv
  have hp:=val_push (c:=c) hl
  refine kL<|jB<|kf [(4,(vl 107 1 jC (ofNat (val (o++[c]))))),(5,.junk)] [(0,none)] (zM<|zM<|zE (cB nA gJ c)<|zE (eY kG vQ yQ)<|zAQ jC o [c] rfl kG vQ mB<|zE (jY (nS false (o++[c]) (dig_push hd (by omega)) (by simp only[List.length_append,List.length_cons,List.length_nil];omega)))<|zE (oF1 bF zD)<|zM<|zF) ?_
  refine jF ⟨_,(.tmp (d:=(.sl 107 1 (List.map jC (ofNat (val (o++[c])))))) rfl .nil),?_⟩
  rw[hp,hv];rfl
theorem r_shifted(a:List Nat)(d:Nat)(hda:Dig a)(hd1:d<1000000000)(hla:a.length<=8796093022208):jQ Tryz.prog 187 [(.sl 107 1 (List.map jC a)),(.val (.int .u32 (((d:Nat):Int))))] (.sl 107 1 (List.map jC (ofNat (d+1000000000*val a)))):=by
 refine uR Tryz.func187 ?_
 refine jB<|kx [] [] (zE (aY 107 1)<|zZ) ?_
 refine jB<|kf [(4,(vl 107 1 jC (ofNat (val ([d]++a)))))] [(0,none)] (zM<|zN (oBo 0 kG vQ yQ)<|zM<|zAQ jC [d] a rfl kG vQ mB<|zE (jY (nS false ([d]++a) (iP.2 ⟨yR.2 ⟨hd1,gL⟩,hda⟩) (by simp only[List.length_append,List.length_cons,List.length_nil];omega)))<|zE (oF1 bF zD)<|zM<|zF) ?_
 refine jF ⟨_,(.tmp (d:=(.sl 107 1 (List.map jC (ofNat (val ([d]++a)))))) rfl .nil),?_⟩
 rfl
end Go.Proofs.YtckccjhflbljgaaGreatDoor
