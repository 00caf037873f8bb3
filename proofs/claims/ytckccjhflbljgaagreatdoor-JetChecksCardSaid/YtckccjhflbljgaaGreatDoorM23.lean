/- Part 23 of a proof: rules, plain facts, and functions walked. -/
import Derived.Test.YtckccjhflbljgaaGreatDoorM22
set_option linter.all false
set_option maxRecDepth 4000
namespace Go.Proofs.YtckccjhflbljgaaGreatDoor
open Go.Fid
theorem eX:aI Tryz.prog 30 1=some (1,28):=by kernel_rfl
theorem eL(l:List Nat)(i:Nat)(hd:Dig l):jS Tryz.prog 169 [(.sl 107 1 (List.map jD l)),(.val (.int .i64 (((i:Nat):Int))))] (.val (.int .u64 ((((l.getD i 0):Nat):Int)))):=by
 have hg:=hd.getD i
 refine vA Tryz.func169 ?_
 refine jB<|kx [] [] (zM<|zZ) ?_
 refine jB<|jB<|kx [(8,(vb (decide (((i:Nat):Int)<((l.length:Nat):Int)))))] [] (zM<|zM<|zE (yD kB)<|zE nD<|zZ) ?_
 refine jF rfl (fun h1=>?_) (fun h1=>?_)
 ·replace h1:=vW h1
  refine jB<|kx [(4,(yI (l.getD i 0)))] [] (zM<|zM<|zE (cR kB i (0:Nat))<|zE (nF qI)<|zE (nP zU xX (l.getD i 0))<|zM<|zZ) ?_
  refine jE ⟨_,(.tmp (d:=(.val (.int .u64 ((((l.getD i 0):Nat):Int))))) rfl .nil),?_⟩
  rfl
 ·replace h1:=xJ h1
  refine jH<|jB<|kx [(4,(yI 0))] [] (zM<|zZ) ?_
  refine jE ⟨_,(.tmp (d:=(.val (.int .u64 (0)))) rfl .nil),?_⟩
  rw[show l.getD i 0=0 from getD_out (by omega)];rfl
theorem gO(neg:Bool)(l:List Nat)(hd:Dig l)(hb:l.length<=17592186044416):jS Tryz.prog 115 [(.val (.bool (neg))),(.sl 107 1 (List.map jD l))] (jO (vL neg (val l))):=by
 refine vA Tryz.func115 ?_
 refine jB<|kx [(4,(.ref 0 0))] [(0,some (bx (jO (kO.mk false []))))] (zN (vT 0 gH gJ)<|zZ) ?_
 refine jB<|kx [(5,(kJ l.length))] [] (zM<|zE (yD kB)<|zM<|zZ) ?_
 refine jB<|jL<|kW (α:=Nat) (fun k=>⟨[(0,(vb neg)),(1,(vl 107 1 jD l)),(4,(.ref 0 0)),(5,(kJ k))],[(0,some (bx (jO (kO.mk false []))))]⟩) (fun k=>k<=l.length/\val (l.take k)=val l) (fun k=>k) l.length wk ⟨Nat.le_refl _,by rw[List.take_length]⟩ ?_
 rintro k ⟨hk,hv⟩
 refine jB<|jB<|kx [(17,(vb (decide (0<((k:Nat):Int))&&((((l.getD (k-1) 0):Nat):Int) == 0))))] [] ?_ ?_
 ·refine zM<|zE eA<|zE (oV (vb (decide (0<((k:Nat):Int)))) (qE (by kernel_rfl)))<|?_
  rcases hb1:(decide (0<((k:Nat):Int))) with _ | _
  ·replace hb1:=xJ hb1
   exact zK<|zK<|zK<|zK<|zK<|zK<|zE gG<|zZ
  ·replace hb1:=vW hb1
   exact zM<|zM<|zE (oSb (k-1))<|zE (cR kB (k-1) (0:Nat))<|zE (nF qI)<|zE yA<|zE dZ<|zZ
 refine jF rfl (fun h2=>?_) (fun h2=>?_)
 ·have hm:=r_made_step hk hv h2
  have hm0:=hm.1
  refine jH<|jL<|kx [(5,(kJ (k-1)))] [] (zM<|zE (oSb (k-1))<|zM<|zZ) ?_
  exact ⟨(k-1),wk,⟨by omega,hm.2⟩,(by first|omega|(dsimp only;omega))⟩
 ·refine kQ<|jB<|kx [] [(0,some (bx (jO (kO.mk (neg&&decide (0<((k:Nat):Int))) (List.take k l)))))] ?_ ?_
  ·refine zM<|zE (oV (vb neg) (qE (by kernel_rfl)))<|?_
   rcases hb3:neg with _ | _
   ·exact zK<|zK<|zE gG<|zE (oBe kB)<|zM<|zM<|zE (e_slc (l:=0) (h:=k) (kl:=.i64) (kh:=.i64) (es':=List.map jD (List.take k l)) (by exact rfl) kB (by exact rfl) (by exact rfl) (by exact rfl) (Nat.zero_le _) (by simp only[List.length_map];omega) (by rw[List.drop_zero,List.map_take]))<|zE (e_appe (by exact rfl) kB uY (by kernel_rfl) gS (by exact rfl) (by exact rfl) (by simp only[List.length_map,List.length_take,List.length_drop,List.length_append,List.length_cons,List.length_nil,maxLen];omega) (by simp only[List.length_map,List.length_take,List.length_drop,List.length_append,List.length_cons,List.length_nil];omega))<|zE (oBd pl30 gH gJ)<|zT (qU jX)<|zZ
   ·exact zM<|zE eA<|zE dZ<|zE (oBe kB)<|zM<|zM<|zE (e_slc (l:=0) (h:=k) (kl:=.i64) (kh:=.i64) (es':=List.map jD (List.take k l)) (by exact rfl) kB (by exact rfl) (by exact rfl) (by exact rfl) (Nat.zero_le _) (by simp only[List.length_map];omega) (by rw[List.drop_zero,List.map_take]))<|zE (e_appe (by exact rfl) kB uY (by kernel_rfl) gS (by exact rfl) (by exact rfl) (by simp only[List.length_map,List.length_take,List.length_drop,List.length_append,List.length_cons,List.length_nil,maxLen];omega) (by simp only[List.length_map,List.length_take,List.length_drop,List.length_append,List.length_cons,List.length_nil];omega))<|zE (oBd pl30 gH gJ)<|zT (qU jX)<|zZ
  refine jE ⟨_,(kS (cs:=(bx (jO (kO.mk (neg&&decide (0<((k:Nat):Int))) (List.take k l))))) (d:=(jO (kO.mk (neg&&decide (0<((k:Nat):Int))) (List.take k l)))) rfl rfl jX rfl rfl .nil),?_⟩
  rw[r_made_end hd hk hv h2];rfl
theorem r_valid(x:kO)(hb:x.gs.length<=17592186044416):jS Tryz.prog 94 [(jO x)] (.val (.bool ((qZ x)))):=by
 refine vA Tryz.func94 ?_
 refine jB<|kx [(1,(.ref 0 0))] [(0,some (bx (jO x)))] (zN (xH 0)<|zM<|zZ) ?_
 refine jB<|kx [(3,(kJ x.gs.length))] [] (zE (kL uX)<|zR (qK xN)<|zE (yD kB)<|zM<|zZ) ?_
 refine jB<|jB<|kx [(4,(kJ 0))] [] (zM<|zZ) ?_
 refine jL<|kW (α:=Nat) (fun i=>⟨[(1,(.ref 0 0)),(3,(kJ x.gs.length)),(4,(kJ i))],[(0,some (bx (jO x)))]⟩) (fun i=>i<=x.gs.length/\Dig (x.gs.take i)) (fun i=>x.gs.length-i) 0 wk ⟨Nat.zero_le _,by rw[List.take_zero];exact yR⟩ ?_
 rintro i ⟨hi,hd⟩
 refine jB<|jB<|kx [(10,(vb (decide (((i:Nat):Int)<((x.gs.length:Nat):Int)))))] [] (zM<|zM<|zE nD<|zZ) ?_
 refine jF rfl (fun h1=>?_) (fun h1=>?_)
 ·replace h1:=vW h1
  refine jH<|jB<|jL<|jB<|kx [(18,(vb (decide (1000000000<=(((x.gs.getD i 0):Nat):Int)))))] [] (zE (kL uX)<|zR (qK xN)<|zM<|zE (cR kB i (0:Nat))<|zE (nF qI)<|zE oGe<|zZ) ?_
  refine jF rfl (fun h2=>?_) (fun h2=>?_)
  ·replace h2:=vW h2
   refine jB<|kx [(2,(vb false))] [] (zM<|zZ) ?_
   refine jE ⟨_,(.tmp (d:=(.val (.bool (false)))) rfl .nil),?_⟩
   rw[validI_big (i:=i) (by omega) (by omega)];rfl
  ·replace h2:=xJ h2
   refine jH<|kx [(4,(kJ (i+1)))] [] (zM<|zE (xO (i+1))<|zM<|zZ) ?_
   exact ⟨(i+1),wk,⟨by omega,dig_take_succ (by omega) hd (by omega)⟩,(by first|omega|(dsimp only;omega))⟩
 ·replace h1:=xJ h1
  have hie:i=x.gs.length:=by omega
  rw[hie,List.take_length] at hd
  refine kQ<|jB<|jB<|kx [(20,(vb (((x.gs.length:Nat):Int) == 0)))] [] (zM<|zE yA<|zZ) ?_
  refine jF (b:=(((x.gs.length:Nat):Int) == 0)) rfl (fun h3=>?_) (fun h3=>?_)
  ·replace h3:=eq_of_beq h3
   refine jB<|kx [(2,(vb (!x.neg)))] [] (zE (kL uT)<|zR (qK eK)<|zE oNt<|zM<|zZ) ?_
   refine jE ⟨_,(.tmp (d:=(.val (.bool (!x.neg)))) rfl .nil),?_⟩
   rw[validI_nil (by omega)];rfl
  ·replace h3:=ne_of_beq_false h3
   refine jH<|jB<|kx [(2,(vb ((((x.gs.getD (x.gs.length-1) 0):Nat):Int) != 0)))] [] (zE (kL uX)<|zR (qK xN)<|zM<|zE (oSb (x.gs.length-1))<|zE (cR kB (x.gs.length-1) (0:Nat))<|zE (nF qI)<|zE oNe<|zM<|zZ) ?_
   refine jE ⟨_,(.tmp (d:=(.val (.bool (((((x.gs.getD (x.gs.length-1) 0):Nat):Int) != 0))))) rfl .nil),?_⟩
   rw[validI_dig hd (by omega)];rfl
theorem cC(x:kO)(hb:x.gs.length<=17592186044416):jS Tryz.prog 114 [(jO x)] (jO (kD (jR x))):=by
 refine vA Tryz.func114 ?_
 refine jB<|kx [(1,(.ref 0 0)),(2,(.ref 1 0))] [(0,some (bx (jO x))),(1,some (bx (jO (kO.mk false []))))] (zN (xH 0)<|zN (vT 1 gH gJ)<|zZ) ?_
 refine jB<|jB<|kx [(5,(vb (!(qZ x))))] [] (zR (kV jX)<|zE (kF (r_valid x (by omega)))<|zE oNt<|zZ) ?_
 refine jF (b:=!(qZ x)) rfl (fun h1=>?_) (fun h1=>?_)
 ·refine jB<|kx [] [(1,some (bx (jO (kO.mk false []))))] (zE (oBd pl30 gH gJ)<|zT (qU jX)<|zZ) ?_
  refine jE ⟨_,(kS (cs:=(bx (jO (kO.mk false [])))) (d:=(jO (kO.mk false []))) rfl rfl jX rfl rfl .nil),?_⟩
  rw[toZ_bad (by rw[Bool.not_eq_true'] at h1;exact h1),ofZ_zero];rfl
 ·refine jH<|jB<|kd [] [(1,some (bx (jO (kO.mk x.neg x.gs))))] mo (wE (kL uT)<|wR (qK eK)<|wE (oBe kB)<|wE (kL uX)<|wR (qK xN)<|wE (e_appe (by exact rfl) kB uY (by kernel_rfl) gS (by exact rfl) (by exact rfl) (by simp only[List.length_map,List.length_take,List.length_drop,List.length_append,List.length_cons,List.length_nil,maxLen];omega) (by simp only[List.length_map,List.length_take,List.length_drop,List.length_append,List.length_cons,List.length_nil];omega))<|wE (oBd pl30 gH gJ)<|wT (qU jX)<|wZ) ?_
  refine jE ⟨_,(kS (cs:=(bx (jO (kO.mk x.neg x.gs)))) (d:=(jO (kO.mk x.neg x.gs))) rfl rfl jX rfl rfl .nil),?_⟩
  rw[ofZ_toZ (by simpa using h1)];rfl
theorem r_of(n:Int)(hlo:-9223372036854775808<=n)(hhi:n<=9223372036854775807):jS Tryz.prog 119 [(.val (.int .i64 (n)))] (jO (kD n)):=by
 refine vA Tryz.func119 ?_
 refine jB<|kx [(2,(.ref 0 0))] [(0,some (bx (jO (kO.mk false []))))] (zN (vT 0 gH gJ)<|zZ) ?_
 refine jB<|kx [(3,(yI ((n % 18446744073709551616).toNat)))] [] (zM<|zE (nP un3 xX ((n % 18446744073709551616).toNat) (hr:=by exact (conv_u64 _)))<|zM<|zZ) ?_
 refine jB<|jB<|kx [(8,(vb (decide (n<0))))] [] (zM<|zE nD<|zZ) ?_
 refine jF (b:=decide (n<0)) rfl (fun h1=>?_) (fun h1=>?_)
 ·replace h1:=vW h1
  refine kx [(3,(yI n.natAbs))] [] (zM<|zE (zAd (n+1))<|zE (oNg (-(n+1)))<|zE (nP un3 xX ((-n-1).toNat) (hr:=by exact (wu64 (by omega) (by omega) (by omega))))<|zE (xO n.natAbs)<|zM<|zZ) ?_
  refine jB<|kx [(4,(.own 1 107 1 0))] [(1,some (bm jD []))] (zN (oBo 1 kB uY zL)<|zM<|zZ) ?_
  refine jB<|jL<|kW (α:=List Nat × Nat) (fun (o,m)=>⟨[(0,(vi n)),(2,(.ref 0 0)),(3,(yI m)),(4,(.own 1 107 1 o.length))],[(0,some (bx (jO (kO.mk false [])))),(1,some (bm jD o))]⟩) (fun (o,m)=>m<=9223372036854775808/\o++ofNat m=ofNat n.natAbs) (fun (o,m)=>m) ([],n.natAbs) wk ⟨by omega,by rw[List.nil_append]⟩ ?_
  rintro ⟨o,m⟩ ⟨hm,hg⟩
  have hl:=split_len hg (by omega)
  refine jB<|jB<|kx [(16,(vb (decide (0<((m:Nat):Int)))))] [] (zM<|zE eA<|zZ) ?_
  refine jF (b:=decide (0<((m:Nat):Int))) rfl (fun h2=>?_) (fun h2=>?_)
  ·replace h2:=vW h2
   refine jH<|jL<|jB<|kf [(4,(.own 1 107 1 ((o++[(m % 1000000000)]).length)))] [(1,some (bm jD (o++[(m % 1000000000)])))] (zM<|zM<|zE (oRe (m % 1000000000))<|zE (nP gB yN (m % 1000000000))<|zE (oBs kB uY zL)<|zA jD o [(m % 1000000000)] rfl kB uY gS<|zM<|zF) ?_
   refine kx [(3,(yI (m / 1000000000)))] [] (zM<|zE (oQu (m / 1000000000))<|zM<|zZ) ?_
   exact ⟨(o++[m % 1000000000],m / 1000000000),wk,⟨by omega,split_step hg h2⟩,(by first|omega|(dsimp only;omega))⟩
  ·replace h2:=xJ h2
   have hdo:Dig o:=split_dig hg h2
   have hvo:=split_val hg h2
   refine kQ<|jB<|qH (zY (t:=4) (k:=1) (es:=List.map jD o) rfl rfl (vD _ _ (fun _=>rfl)) (vY _ _ rfl) (xB _ _ (fun _=>rfl) rfl)) ?_
   refine kx [] [(0,some (bx (jO (vL (decide (n<0)) (val o)))))] (zM<|zE nD<|zM<|zE (kF (gO (decide (n<0)) o hdo (by omega)))<|zT (qU jX)<|zZ) ?_
   refine jE ⟨_,(kS (cs:=(bx (jO (vL (decide (n<0)) (val o))))) (d:=(jO (vL (decide (n<0)) (val o)))) rfl rfl jX rfl rfl .nil),?_⟩
   rw[hvo];rfl
 ·replace h1:=xJ h1
  rw[show (n % 18446744073709551616).toNat=n.natAbs from by omega]
  refine jH<|jB<|kx [(3,(yI n.natAbs)),(4,(.own 2 107 1 0))] [(2,some (bm jD []))] (zN (oBo 2 kB uY zL)<|zM<|zZ) ?_
  refine jB<|jL<|kW (α:=List Nat × Nat) (fun (o,m)=>⟨[(0,(vi n)),(2,(.ref 0 0)),(3,(yI m)),(4,(.own 2 107 1 o.length))],[(0,some (bx (jO (kO.mk false [])))),(2,some (bm jD o))]⟩) (fun (o,m)=>m<=9223372036854775808/\o++ofNat m=ofNat n.natAbs) (fun (o,m)=>m) ([],n.natAbs) wk ⟨by omega,by rw[List.nil_append]⟩ ?_
  rintro ⟨o,m⟩ ⟨hm,hg⟩
  have hl:=split_len hg (by omega)
  refine jB<|jB<|kx [(16,(vb (decide (0<((m:Nat):Int)))))] [] (zM<|zE eA<|zZ) ?_
  refine jF (b:=decide (0<((m:Nat):Int))) rfl (fun h3=>?_) (fun h3=>?_)
  ·replace h3:=vW h3
   refine jH<|jL<|jB<|kf [(4,(.own 2 107 1 ((o++[(m % 1000000000)]).length)))] [(2,some (bm jD (o++[(m % 1000000000)])))] (zM<|zM<|zE (oRe (m % 1000000000))<|zE (nP gB yN (m % 1000000000))<|zE (oBs kB uY zL)<|zA jD o [(m % 1000000000)] rfl kB uY gS<|zM<|zF) ?_
   refine kx [(3,(yI (m / 1000000000)))] [] (zM<|zE (oQu (m / 1000000000))<|zM<|zZ) ?_
   exact ⟨(o++[m % 1000000000],m / 1000000000),wk,⟨by omega,split_step hg h3⟩,(by first|omega|(dsimp only;omega))⟩
  ·replace h3:=xJ h3
   have hdo:Dig o:=split_dig hg h3
   have hvo:=split_val hg h3
   refine kQ<|jB<|qH (zY (t:=4) (k:=2) (es:=List.map jD o) rfl rfl (vD _ _ (fun _=>rfl)) (vY _ _ rfl) (xB _ _ (fun _=>rfl) rfl)) ?_
   refine kx [] [(0,some (bx (jO (vL (decide (n<0)) (val o)))))] (zM<|zE nD<|zM<|zE (kF (gO (decide (n<0)) o hdo (by omega)))<|zT (qU jX)<|zZ) ?_
   refine jE ⟨_,(kS (cs:=(bx (jO (vL (decide (n<0)) (val o))))) (d:=(jO (vL (decide (n<0)) (val o)))) rfl rfl jX rfl rfl .nil),?_⟩
   rw[hvo];rfl
theorem r_size(a b:List Nat)(ha:yF a)(hb:yF b)(hla:a.length<=17592186044416)(hlb:b.length<=17592186044416):jS Tryz.prog 117 [(.sl 107 1 (List.map jD a)),(.sl 107 1 (List.map jD b))] (.val (.int .i64 ((uN ((val a:Nat):Int) ((val b:Nat):Int))))):=by
 refine vA Tryz.func117 ?_
 refine jB<|kx [] [] (zM<|zZ) ?_
 refine jB<|jB<|kx [(10,(vb (((a.length:Nat):Int) != ((b.length:Nat):Int))))] [] (zM<|zE (yD kB)<|zM<|zE (yD kB)<|zE oNe<|zZ) ?_
 refine jF rfl (fun h1=>?_) (fun h1=>?_)
 ·replace h1:=bne_iff_ne.1 h1
  refine jB<|jB<|kx [(15,(vb (decide (((a.length:Nat):Int)<((b.length:Nat):Int)))))] [] (zM<|zE (yD kB)<|zM<|zE (yD kB)<|zE nD<|zZ) ?_
  refine jF rfl (fun h2=>?_) (fun h2=>?_)
  ·replace h2:=vW h2
   refine jB<|kx [(4,(vi (-1)))] [] (zM<|zZ) ?_
   refine jE ⟨_,(.tmp (d:=(.val (.int .i64 (-1)))) rfl .nil),?_⟩
   rw[<- cmpI_len ha hb h1];unfold uN;rw[if_pos (by omega)];rfl
  ·replace h2:=xJ h2
   refine jH<|jB<|kx [(4,(kJ 1))] [] (zM<|zZ) ?_
   refine jE ⟨_,(.tmp (d:=(.val (.int .i64 (1)))) rfl .nil),?_⟩
   rw[<- cmpI_len ha hb h1,eP (by omega)];rfl
 ·replace h1:=bne_eq_false_iff_eq.1 h1
  have hl:a.length=b.length:=by omega
  refine jH<|jB<|jB<|kx [(5,(vi (((a.length:Nat):Int)-1)))] [] (zM<|zE (yD kB)<|zE (zSb (((a.length:Nat):Int)-1))<|zM<|zZ) ?_
  refine jL<|kW (α:=Nat) (fun k=>⟨[(0,(vl 107 1 jD a)),(1,(vl 107 1 jD b)),(5,(vi (((k:Nat):Int)-1)))],[]⟩) (fun k=>k<=a.length/\val (a.drop k)=val (b.drop k)) (fun k=>k) a.length wk ⟨Nat.le_refl _,by rw[List.drop_length,hl,List.drop_length]⟩ ?_
  rintro k ⟨hk,he⟩
  refine jB<|jB<|kx [(20,(vb (decide (0<=(((k:Nat):Int)-1)))))] [] (zM<|zE oGe<|zZ) ?_
  refine jF (b:=decide (0<=(((k:Nat):Int)-1))) rfl (fun h3=>?_) (fun h3=>?_)
  ·replace h3:=vW h3
   obtain ⟨i,rfl⟩:∃ i,k=i+1:=⟨k-1,by omega⟩
   rw[show (((i+1:Nat):Int)-1)=((i:Nat):Int) from by omega]
   have ht:=cmpI_top ha.1 hb.1 hl (j:=a.length-1-i) (by omega) (by rw[show a.length-(a.length-1-i)=i+1 by omega];exact he)
   rw[show a.length-1-(a.length-1-i)=i by omega] at ht
   refine jH<|jB<|jL<|jB<|jB<|kd [(5,(kJ i)),(31,(vb (decide ((((a.getD i 0):Nat):Int)<(((b.getD i 0):Nat):Int)))))] [] mo (wM<|wM<|wE (cR kB i (0:Nat))<|wE (nF qI)<|wM<|wM<|wE (cR kB i (0:Nat))<|wE (nF qI)<|wE nD<|wZ) ?_
   refine jF rfl (fun h4=>?_) (fun h4=>?_)
   ·replace h4:=vW h4
    refine jB<|kx [(4,(vi (-1)))] [] (zM<|zZ) ?_
    refine jE ⟨_,(.tmp (d:=(.val (.int .i64 (-1)))) rfl .nil),?_⟩
    rw[<- ht (by omega)];unfold uN;rw[if_pos (by omega)];rfl
   ·replace h4:=xJ h4
    refine jH<|jB<|kd [(40,(vb (decide ((((b.getD i 0):Nat):Int)<(((a.getD i 0):Nat):Int)))))] [] mo (wM<|wM<|wE (cR kB i (0:Nat))<|wE (nF qI)<|wM<|wM<|wE (cR kB i (0:Nat))<|wE (nF qI)<|wE eA<|wZ) ?_
    refine jF rfl (fun h5=>?_) (fun h5=>?_)
    ·replace h5:=vW h5
     refine jB<|kx [(4,(kJ 1))] [] (zM<|zZ) ?_
     refine jE ⟨_,(.tmp (d:=(.val (.int .i64 (1)))) rfl .nil),?_⟩
     rw[<- ht (by omega),eP (by omega)];rfl
    ·replace h5:=xJ h5
     refine jH<|kx [(5,(vi (((i:Nat):Int)-1)))] [] (zM<|zE (zSb (((i:Nat):Int)-1))<|zM<|zZ) ?_
     exact ⟨i,wk,⟨by omega,by rw[vM a i,vM b i,he];omega⟩,(by first|omega|(dsimp only;omega))⟩
  ·replace h3:=xJ h3
   obtain rfl:k=0:=by omega
   rw[List.drop_zero,List.drop_zero] at he
   refine kQ<|jB<|kx [(4,(kJ 0))] [] (zM<|zZ) ?_
   refine jE ⟨_,(.tmp (d:=(.val (.int .i64 (0)))) rfl .nil),?_⟩
   rw[cmpI_same he];rfl
theorem r_plus(a b:List Nat)(hda:Dig a)(hdb:Dig b)(hla:a.length<=8796093022208)(hlb:b.length<=8796093022208):jS Tryz.prog 116 [(.sl 107 1 (List.map jD a)),(.sl 107 1 (List.map jD b))] (.sl 107 1 (List.map jD (ofNat (val a+val b)))):=by
 refine vA Tryz.func116 ?_
 refine jB<|kx [] [] (zE (eY 107 1)<|zZ) ?_
 refine jB<|kx [(5,(.own 0 107 1 0))] [(0,some (bm jD []))] (zN (oBo 0 kB uY zL)<|zM<|zZ) ?_
 refine jB<|kx [(6,(yI 0))] [] (zM<|zZ) ?_
 refine jB<|jB<|kx [(7,(kJ 0))] [] (zM<|zZ) ?_
 refine jL<|kW (α:=Nat × List Nat × Nat) (fun (i,o,c)=>⟨[(0,(vl 107 1 jD a)),(1,(vl 107 1 jD b)),(5,(.own 0 107 1 o.length)),(6,(yI c)),(7,(kJ i))],[(0,some (bm jD o))]⟩) (fun (i,o,c)=>o.length=i/\Dig o/\i<=max a.length b.length/\c<=1/\val o+pw i*c=val (a.take i)+val (b.take i)) (fun (i,o,c)=>max a.length b.length-i) (0,[],0) wk ⟨rfl,yR,Nat.zero_le _,Nat.zero_le _,by simp [val]⟩ ?_
 rintro ⟨i,o,c⟩ ⟨hl,hd,hi,hc,hv⟩
 have hai:=hda.getD i
 have hbi:=hdb.getD i
 refine jB<|jB<|kx [(19,(vb (decide (((i:Nat):Int)<((a.length:Nat):Int))||decide (((i:Nat):Int)<((b.length:Nat):Int)))))] [] ?_ ?_
 ·refine zM<|zM<|zE (yD kB)<|zE nD<|zE (oV (vb (decide (((i:Nat):Int)<((a.length:Nat):Int)))) (qE (by kernel_rfl)))<|?_
  rcases hb1:(decide (((i:Nat):Int)<((a.length:Nat):Int))) with _ | _
  ·replace hb1:=xJ hb1
   exact zM<|zM<|zE (yD kB)<|zE nD<|zE fW<|zZ
  ·replace hb1:=vW hb1
   exact zK<|zK<|zK<|zK<|zE nT<|zZ
 refine jF rfl (fun h2=>?_) (fun h2=>?_)
 ·rw[Bool.or_eq_true,decide_eq_true_eq,decide_eq_true_eq] at h2
  refine jH<|jB<|jL<|jB<|kx [(8,(yI (((a.getD i 0)+(b.getD i 0))+c)))] [] (zM<|zM<|zE (kF (eL a i (by first | assumption | exact jZ _ | exact (kZ _).1 | exact (qD _).1)))<|zM<|zM<|zE (kF (eL b i (by first | assumption | exact jZ _ | exact (kZ _).1 | exact (qD _).1)))<|zE (xO ((a.getD i 0)+(b.getD i 0)))<|zM<|zE (xO (((a.getD i 0)+(b.getD i 0))+c))<|zM<|zZ) ?_
  refine jB<|kf [(5,(.own 0 107 1 ((o++[((((a.getD i 0)+(b.getD i 0))+c) % 1000000000)]).length)))] [(0,some (bm jD (o++[((((a.getD i 0)+(b.getD i 0))+c) % 1000000000)])))] (zM<|zM<|zE (oRe ((((a.getD i 0)+(b.getD i 0))+c) % 1000000000))<|zE (nP gB yN ((((a.getD i 0)+(b.getD i 0))+c) % 1000000000))<|zE (oBs kB uY zL)<|zA jD o [((((a.getD i 0)+(b.getD i 0))+c) % 1000000000)] rfl kB uY gS<|zM<|zF) ?_
  refine kx [(6,(yI ((((a.getD i 0)+(b.getD i 0))+c) / 1000000000)))] [] (zM<|zE (oQu ((((a.getD i 0)+(b.getD i 0))+c) / 1000000000))<|zM<|zZ) ?_
  refine kx [(7,(kJ (i+1)))] [] (zM<|zE (xO (i+1))<|zM<|zZ) ?_
  exact ⟨(i+1,o++[(a.getD i 0+b.getD i 0+c) % 1000000000],(a.getD i 0+b.getD i 0+c) / 1000000000),wk,⟨by simp [hl],dig_push hd (Nat.mod_lt _ (by decide)),by omega,by omega,rplus_step hl hv rfl⟩,(by first|omega|(dsimp only;omega))⟩
 ·rw[Bool.or_eq_false_iff,decide_eq_false_iff_not,decide_eq_false_iff_not] at h2
  rw[take_all (by omega),take_all (by omega)] at hv
  have hp:=val_push (c:=c) hl
  refine kQ<|jB<|kf [(4,(vl 107 1 jD (ofNat (val (o++[c]))))),(5,.junk)] [(0,none)] (zM<|zM<|zE (nP gB yN c)<|zE (oBs kB uY zL)<|zAQ jD o [c] rfl kB uY gS<|zE (kF (gO false (o++[c]) (dig_push hd (by omega)) (by simp only[List.length_append,List.length_cons,List.length_nil];omega)))<|zE (oF1 eX xN)<|zM<|zF) ?_
  refine jE ⟨_,(.tmp (d:=(.sl 107 1 (List.map jD (ofNat (val (o++[c])))))) rfl .nil),?_⟩
  rw[hp,hv];rfl
theorem r_minus(a b:List Nat)(hda:Dig a)(hdb:Dig b)(hba:val b<=val a)(hla:a.length<=8796093022208):jS Tryz.prog 118 [(.sl 107 1 (List.map jD a)),(.sl 107 1 (List.map jD b))] (.sl 107 1 (List.map jD (ofNat (val a-val b)))):=by
 refine vA Tryz.func118 ?_
 refine jB<|kx [] [] (zE (eY 107 1)<|zZ) ?_
 refine jB<|kx [(5,(.own 0 107 1 0))] [(0,some (bm jD []))] (zN (oBo 0 kB uY zL)<|zM<|zZ) ?_
 refine jB<|kx [(6,(yI 0))] [] (zM<|zZ) ?_
 refine jB<|jB<|kx [(7,(kJ 0))] [] (zM<|zZ) ?_
 refine jL<|kW (α:=Nat × List Nat × Nat) (fun (i,o,c)=>⟨[(0,(vl 107 1 jD a)),(1,(vl 107 1 jD b)),(5,(.own 0 107 1 o.length)),(6,(yI c)),(7,(kJ i))],[(0,some (bm jD o))]⟩) (fun (i,o,c)=>o.length=i/\Dig o/\i<=a.length/\c<=1/\val o+val (b.take i)=val (a.take i)+pw i*c) (fun (i,o,c)=>a.length-i) (0,[],0) wk ⟨rfl,yR,Nat.zero_le _,Nat.zero_le _,by simp [val]⟩ ?_
 rintro ⟨i,o,c⟩ ⟨hl,hd,hi,hc,hv⟩
 have hai:=hda.getD i
 have hbi:=hdb.getD i
 refine jB<|jB<|kx [(13,(vb (decide (((i:Nat):Int)<((a.length:Nat):Int)))))] [] (zM<|zM<|zE (yD kB)<|zE nD<|zZ) ?_
 refine jF rfl (fun h1=>?_) (fun h1=>?_)
 ·replace h1:=vW h1
  refine jH<|jB<|jL<|jB<|kx [(8,(yI (((1000000000+(a.getD i 0))-(b.getD i 0))-c)))] [] (zM<|zM<|zE (kF (eL a i (by first | assumption | exact jZ _ | exact (kZ _).1 | exact (qD _).1)))<|zE (xO (1000000000+(a.getD i 0)))<|zM<|zM<|zE (kF (eL b i (by first | assumption | exact jZ _ | exact (kZ _).1 | exact (qD _).1)))<|zE (oSb ((1000000000+(a.getD i 0))-(b.getD i 0)))<|zM<|zE (oSb (((1000000000+(a.getD i 0))-(b.getD i 0))-c))<|zM<|zZ) ?_
  refine jB<|kf [(5,(.own 0 107 1 ((o++[((((1000000000+(a.getD i 0))-(b.getD i 0))-c) % 1000000000)]).length)))] [(0,some (bm jD (o++[((((1000000000+(a.getD i 0))-(b.getD i 0))-c) % 1000000000)])))] (zM<|zM<|zE (oRe ((((1000000000+(a.getD i 0))-(b.getD i 0))-c) % 1000000000))<|zE (nP gB yN ((((1000000000+(a.getD i 0))-(b.getD i 0))-c) % 1000000000))<|zE (oBs kB uY zL)<|zA jD o [((((1000000000+(a.getD i 0))-(b.getD i 0))-c) % 1000000000)] rfl kB uY gS<|zM<|zF) ?_
  refine kx [(6,(yI (1-((((1000000000+(a.getD i 0))-(b.getD i 0))-c) / 1000000000))))] [] (zM<|zE (oQu ((((1000000000+(a.getD i 0))-(b.getD i 0))-c) / 1000000000))<|zE (oSb (1-((((1000000000+(a.getD i 0))-(b.getD i 0))-c) / 1000000000)))<|zM<|zZ) ?_
  refine kx [(7,(kJ (i+1)))] [] (zM<|zE (xO (i+1))<|zM<|zZ) ?_
  exact ⟨(i+1,o++[(1000000000+a.getD i 0-b.getD i 0-c) % 1000000000],1-(1000000000+a.getD i 0-b.getD i 0-c) / 1000000000),wk,⟨by simp [hl],dig_push hd (Nat.mod_lt _ (by decide)),by omega,by omega,rminus_step hl hv (by omega) (by omega)⟩,(by first|omega|(dsimp only;omega))⟩
 ·replace h1:=xJ h1
  have hie:i=a.length:=by omega
  refine kQ<|jB<|qH (zY (t:=5) (k:=0) (es:=List.map jD o) rfl rfl (vD _ _ (fun _=>rfl)) (vY _ _ rfl) (xB _ _ (fun _=>rfl) rfl)) ?_
  refine kx [(4,(vl 107 1 jD (ofNat (val o))))] [] (zM<|zE (kF (gO false o hd (by omega)))<|zE (oF1 eX xN)<|zM<|zZ) ?_
  refine jE ⟨_,(.tmp (d:=(.sl 107 1 (List.map jD (ofNat (val o))))) rfl .nil),?_⟩
  rw[rminus_end hda hdb hd hie hl hba hv];rfl
theorem r_scaled(a:List Nat)(d:Nat)(hda:Dig a)(hd1:d<=1000000000)(hla:a.length<=8796093022208):jS Tryz.prog 186 [(.sl 107 1 (List.map jD a)),(.val (.int .u64 (((d:Nat):Int))))] (.sl 107 1 (List.map jD (ofNat (val a*d)))):=by
 refine vA Tryz.func186 ?_
 refine jB<|kx [] [] (zE (eY 107 1)<|zZ) ?_
 refine jB<|kx [(5,(.own 0 107 1 0))] [(0,some (bm jD []))] (zN (oBo 0 kB uY zL)<|zM<|zZ) ?_
 refine jB<|kx [(6,(yI 0))] [] (zM<|zZ) ?_
 refine jB<|jB<|kx [(7,(kJ 0))] [] (zM<|zZ) ?_
 refine jL<|kW (α:=Nat × List Nat × Nat) (fun (i,o,c)=>⟨[(0,(vl 107 1 jD a)),(1,(yI d)),(5,(.own 0 107 1 o.length)),(6,(yI c)),(7,(kJ i))],[(0,some (bm jD o))]⟩) (fun (i,o,c)=>o.length=i/\Dig o/\i<=a.length/\c<=999999999/\val o+pw i*c=val (a.take i)*d) (fun (i,o,c)=>a.length-i) (0,[],0) wk ⟨rfl,yR,Nat.zero_le _,Nat.zero_le _,by simp [val]⟩ ?_
 rintro ⟨i,o,c⟩ ⟨hl,hd,hi,hc,hv⟩
 have hai:=hda.getD i
 have hpq:a.getD i 0*d<=999999999*1000000000:=Nat.mul_le_mul (by omega) hd1
 refine jB<|jB<|kx [(13,(vb (decide (((i:Nat):Int)<((a.length:Nat):Int)))))] [] (zM<|zM<|zE (yD kB)<|zE nD<|zZ) ?_
 refine jF rfl (fun h1=>?_) (fun h1=>?_)
 ·replace h1:=vW h1
  refine jH<|jB<|jL<|jB<|kx [(8,(yI (((a.getD i 0)*d)+c)))] [] (zM<|zM<|zE (cR kB i (0:Nat))<|zE (nF qI)<|zE (nP zU xX (a.getD i 0))<|zM<|zE (oMl ((a.getD i 0)*d))<|zM<|zE (xO (((a.getD i 0)*d)+c))<|zM<|zZ) ?_
  refine jB<|kf [(5,(.own 0 107 1 ((o++[((((a.getD i 0)*d)+c) % 1000000000)]).length)))] [(0,some (bm jD (o++[((((a.getD i 0)*d)+c) % 1000000000)])))] (zM<|zM<|zE (oRe ((((a.getD i 0)*d)+c) % 1000000000))<|zE (nP gB yN ((((a.getD i 0)*d)+c) % 1000000000))<|zE (oBs kB uY zL)<|zA jD o [((((a.getD i 0)*d)+c) % 1000000000)] rfl kB uY gS<|zM<|zF) ?_
  refine kx [(6,(yI ((((a.getD i 0)*d)+c) / 1000000000)))] [] (zM<|zE (oQu ((((a.getD i 0)*d)+c) / 1000000000))<|zM<|zZ) ?_
  refine kx [(7,(kJ (i+1)))] [] (zM<|zE (xO (i+1))<|zM<|zZ) ?_
  exact ⟨(i+1,o++[(a.getD i 0*d+c) % 1000000000],(a.getD i 0*d+c) / 1000000000),wk,⟨by simp [hl],dig_push hd (Nat.mod_lt _ (by decide)),by omega,by omega,rscaled_step hl hv rfl⟩,(by first|omega|(dsimp only;omega))⟩
 ·replace h1:=xJ h1
  have hie:i=a.length:=by omega
  rw[take_all (by omega)] at hv
  have hp:=val_push (c:=c) hl
  refine kQ<|jB<|kf [(4,(vl 107 1 jD (ofNat (val (o++[c]))))),(5,.junk)] [(0,none)] (zM<|zM<|zE (nP gB yN c)<|zE (oBs kB uY zL)<|zAQ jD o [c] rfl kB uY gS<|zE (kF (gO false (o++[c]) (dig_push hd (by omega)) (by simp only[List.length_append,List.length_cons,List.length_nil];omega)))<|zE (oF1 eX xN)<|zM<|zF) ?_
  refine jE ⟨_,(.tmp (d:=(.sl 107 1 (List.map jD (ofNat (val (o++[c])))))) rfl .nil),?_⟩
  rw[hp,hv];rfl
theorem r_shifted(a:List Nat)(d:Nat)(hda:Dig a)(hd1:d<1000000000)(hla:a.length<=8796093022208):jS Tryz.prog 187 [(.sl 107 1 (List.map jD a)),(.val (.int .u32 (((d:Nat):Int))))] (.sl 107 1 (List.map jD (ofNat (d+1000000000*val a)))):=by
 refine vA Tryz.func187 ?_
 refine jB<|kx [] [] (zE (eY 107 1)<|zZ) ?_
 refine jB<|kf [(4,(vl 107 1 jD (ofNat (val ([d]++a)))))] [(0,none)] (zM<|zN (oBo 0 kB uY zL)<|zM<|zAQ jD [d] a rfl kB uY gS<|zE (kF (gO false ([d]++a) (aJ.2 ⟨zD.2 ⟨hd1,yR⟩,hda⟩) (by simp only[List.length_append,List.length_cons,List.length_nil];omega)))<|zE (oF1 eX xN)<|zM<|zF) ?_
 refine jE ⟨_,(.tmp (d:=(.sl 107 1 (List.map jD (ofNat (val ([d]++a)))))) rfl .nil),?_⟩
 rfl
end Go.Proofs.YtckccjhflbljgaaGreatDoor
