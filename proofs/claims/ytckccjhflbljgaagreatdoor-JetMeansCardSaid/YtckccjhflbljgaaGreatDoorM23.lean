/- Part 23 of a proof: rules, plain facts, and functions walked. -/
import Derived.Test.YtckccjhflbljgaaGreatDoorM22
set_option linter.all false
set_option maxRecDepth 4000
namespace Go.Proofs.YtckccjhflbljgaaGreatDoor
open Go.Fid
theorem aY:iV Tryz.prog 30 1=some (1,28):=by kernel_rfl
theorem aO(l:List Nat)(i:Nat)(hd:Dig l):jS Tryz.prog 169 [(.sl 107 1 (List.map jC l)),(.val (.int .i64 (((i:Nat):Int))))] (.val (.int .u64 ((((l.getD i 0):Nat):Int)))):=by
 have hg:=hd.getD i
 refine uW Tryz.func169 ?_
 refine jB<|kx [] [] (zM<|zZ) ?_
 refine jB<|jB<|kx [(8,(vb (decide (((i:Nat):Int)<((l.length:Nat):Int)))))] [] (zM<|zM<|zE (yH kJ)<|zE yY<|zZ) ?_
 refine jF rfl (fun h1=>?_) (fun h1=>?_)
 ·replace h1:=vT h1
  refine jB<|kx [(4,(gN (l.getD i 0)))] [] (zM<|zM<|zE (dA kJ i (0:Nat))<|zE (nX qP)<|zE (mP yU yM (l.getD i 0))<|zM<|zZ) ?_
  refine jD ⟨_,(.tmp (d:=(.val (.int .u64 ((((l.getD i 0):Nat):Int))))) rfl .nil),?_⟩
  rfl
 ·replace h1:=xC h1
  refine jE<|jB<|kx [(4,(gN 0))] [] (zM<|zZ) ?_
  refine jD ⟨_,(.tmp (d:=(.val (.int .u64 (0)))) rfl .nil),?_⟩
  rw[show l.getD i 0=0 from getD_out (by omega)];rfl
theorem nR(neg:Bool)(l:List Nat)(hd:Dig l)(hb:l.length<=17592186044416):jS Tryz.prog 115 [(.val (.bool (neg))),(.sl 107 1 (List.map jC l))] (jR (xN neg (val l))):=by
 refine uW Tryz.func115 ?_
 refine jB<|kx [(4,(.ref 0 0))] [(0,some (bx (jR (kW.mk false []))))] (zN (uJ 0 nM nN)<|zZ) ?_
 refine jB<|kx [(5,(jT l.length))] [] (zM<|zE (yH kJ)<|zM<|zZ) ?_
 refine jB<|jH<|kQ (α:=Nat) (fun k=>⟨[(0,(vb neg)),(1,(vl 107 1 jC l)),(4,(.ref 0 0)),(5,(jT k))],[(0,some (bx (jR (kW.mk false []))))]⟩) (fun k=>k<=l.length/\val (l.take k)=val l) (fun k=>k) l.length wk ⟨Nat.le_refl _,by rw[List.take_length]⟩ ?_
 rintro k ⟨hk,hv⟩
 refine jB<|jB<|kx [(17,(vb (decide (0<((k:Nat):Int))&&((((l.getD (k-1) 0):Nat):Int) == 0))))] [] ?_ ?_
 ·refine zM<|zE cI<|zE (oV (vb (decide (0<((k:Nat):Int)))) (qA (by kernel_rfl)))<|?_
  rcases hb1:(decide (0<((k:Nat):Int))) with _ | _
  ·replace hb1:=xC hb1
   exact zK<|zK<|zK<|zK<|zK<|zK<|zE yJ<|zZ
  ·replace hb1:=vT hb1
   exact zM<|zM<|zE (oSb (k-1))<|zE (dA kJ (k-1) (0:Nat))<|zE (nX qP)<|zE yP<|zE aB<|zZ
 refine jF rfl (fun h2=>?_) (fun h2=>?_)
 ·have hm:=r_made_step hk hv h2
  have hm0:=hm.1
  refine jE<|jH<|kx [(5,(jT (k-1)))] [] (zM<|zE (oSb (k-1))<|zM<|zZ) ?_
  exact ⟨(k-1),wk,⟨by omega,hm.2⟩,(by first|omega|(dsimp only;omega))⟩
 ·refine kL<|jB<|kx [] [(0,some (bx (jR (kW.mk (neg&&decide (0<((k:Nat):Int))) (List.take k l)))))] ?_ ?_
  ·refine zM<|zE (oV (vb neg) (qA (by kernel_rfl)))<|?_
   rcases hb3:neg with _ | _
   ·exact zK<|zK<|zE yJ<|zE (oBe kJ)<|zM<|zM<|zE (e_slc (l:=0) (h:=k) (kl:=.i64) (kh:=.i64) (es':=List.map jC (List.take k l)) (by exact rfl) kJ (by exact rfl) (by exact rfl) (by exact rfl) (Nat.zero_le _) (by simp only[List.length_map];omega) (by rw[List.drop_zero,List.map_take]))<|zE (e_appe (by exact rfl) kJ vY (by kernel_rfl) nY (by exact rfl) (by exact rfl) (by simp only[List.length_map,List.length_take,List.length_drop,List.length_append,List.length_cons,List.length_nil,maxLen];omega) (by simp only[List.length_map,List.length_take,List.length_drop,List.length_append,List.length_cons,List.length_nil];omega))<|zE (bH pl30 nM nN)<|zT (qM kD)<|zZ
   ·exact zM<|zE cI<|zE aB<|zE (oBe kJ)<|zM<|zM<|zE (e_slc (l:=0) (h:=k) (kl:=.i64) (kh:=.i64) (es':=List.map jC (List.take k l)) (by exact rfl) kJ (by exact rfl) (by exact rfl) (by exact rfl) (Nat.zero_le _) (by simp only[List.length_map];omega) (by rw[List.drop_zero,List.map_take]))<|zE (e_appe (by exact rfl) kJ vY (by kernel_rfl) nY (by exact rfl) (by exact rfl) (by simp only[List.length_map,List.length_take,List.length_drop,List.length_append,List.length_cons,List.length_nil,maxLen];omega) (by simp only[List.length_map,List.length_take,List.length_drop,List.length_append,List.length_cons,List.length_nil];omega))<|zE (bH pl30 nM nN)<|zT (qM kD)<|zZ
  refine jD ⟨_,(kS (cs:=(bx (jR (kW.mk (neg&&decide (0<((k:Nat):Int))) (List.take k l))))) (d:=(jR (kW.mk (neg&&decide (0<((k:Nat):Int))) (List.take k l)))) rfl rfl kD rfl rfl .nil),?_⟩
  rw[r_made_end hd hk hv h2];rfl
theorem r_valid(x:kW)(hb:x.gs.length<=17592186044416):jS Tryz.prog 94 [(jR x)] (.val (.bool ((uL x)))):=by
 refine uW Tryz.func94 ?_
 refine jB<|kx [(1,(.ref 0 0))] [(0,some (bx (jR x)))] (zN (vX 0)<|zM<|zZ) ?_
 refine jB<|kx [(3,(jT x.gs.length))] [] (zE (kN vK)<|zR (qJ xX)<|zE (yH kJ)<|zM<|zZ) ?_
 refine jB<|jB<|kx [(4,(jT 0))] [] (zM<|zZ) ?_
 refine jH<|kQ (α:=Nat) (fun i=>⟨[(1,(.ref 0 0)),(3,(jT x.gs.length)),(4,(jT i))],[(0,some (bx (jR x)))]⟩) (fun i=>i<=x.gs.length/\Dig (x.gs.take i)) (fun i=>x.gs.length-i) 0 wk ⟨Nat.zero_le _,by rw[List.take_zero];exact gW⟩ ?_
 rintro i ⟨hi,hd⟩
 refine jB<|jB<|kx [(10,(vb (decide (((i:Nat):Int)<((x.gs.length:Nat):Int)))))] [] (zM<|zM<|zE yY<|zZ) ?_
 refine jF rfl (fun h1=>?_) (fun h1=>?_)
 ·replace h1:=vT h1
  refine jE<|jB<|jH<|jB<|kx [(18,(vb (decide (1000000000<=(((x.gs.getD i 0):Nat):Int)))))] [] (zE (kN vK)<|zR (qJ xX)<|zM<|zE (dA kJ i (0:Nat))<|zE (nX qP)<|zE oGe<|zZ) ?_
  refine jF rfl (fun h2=>?_) (fun h2=>?_)
  ·replace h2:=vT h2
   refine jB<|kx [(2,(vb false))] [] (zM<|zZ) ?_
   refine jD ⟨_,(.tmp (d:=(.val (.bool (false)))) rfl .nil),?_⟩
   rw[validI_big (i:=i) (by omega) (by omega)];rfl
  ·replace h2:=xC h2
   refine jE<|kx [(4,(jT (i+1)))] [] (zM<|zE (xD (i+1))<|zM<|zZ) ?_
   exact ⟨(i+1),wk,⟨by omega,dig_take_succ (by omega) hd (by omega)⟩,(by first|omega|(dsimp only;omega))⟩
 ·replace h1:=xC h1
  have hie:i=x.gs.length:=by omega
  rw[hie,List.take_length] at hd
  refine kL<|jB<|jB<|kx [(20,(vb (((x.gs.length:Nat):Int) == 0)))] [] (zM<|zE yP<|zZ) ?_
  refine jF (b:=(((x.gs.length:Nat):Int) == 0)) rfl (fun h3=>?_) (fun h3=>?_)
  ·replace h3:=eq_of_beq h3
   refine jB<|kx [(2,(vb (!x.neg)))] [] (zE (kN vO)<|zR (qJ fG)<|zE cC<|zM<|zZ) ?_
   refine jD ⟨_,(.tmp (d:=(.val (.bool (!x.neg)))) rfl .nil),?_⟩
   rw[validI_nil (by omega)];rfl
  ·replace h3:=ne_of_beq_false h3
   refine jE<|jB<|kx [(2,(vb ((((x.gs.getD (x.gs.length-1) 0):Nat):Int) != 0)))] [] (zE (kN vK)<|zR (qJ xX)<|zM<|zE (oSb (x.gs.length-1))<|zE (dA kJ (x.gs.length-1) (0:Nat))<|zE (nX qP)<|zE bD<|zM<|zZ) ?_
   refine jD ⟨_,(.tmp (d:=(.val (.bool (((((x.gs.getD (x.gs.length-1) 0):Nat):Int) != 0))))) rfl .nil),?_⟩
   rw[validI_dig hd (by omega)];rfl
theorem dW(x:kW)(hb:x.gs.length<=17592186044416):jS Tryz.prog 114 [(jR x)] (jR (kM (jX x))):=by
 refine uW Tryz.func114 ?_
 refine jB<|kx [(1,(.ref 0 0)),(2,(.ref 1 0))] [(0,some (bx (jR x))),(1,some (bx (jR (kW.mk false []))))] (zN (vX 0)<|zN (uJ 1 nM nN)<|zZ) ?_
 refine jB<|jB<|kx [(5,(vb (!(uL x))))] [] (zR (kR kD)<|zE (kB (r_valid x (by omega)))<|zE cC<|zZ) ?_
 refine jF (b:=!(uL x)) rfl (fun h1=>?_) (fun h1=>?_)
 ·refine jB<|kx [] [(1,some (bx (jR (kW.mk false []))))] (zE (bH pl30 nM nN)<|zT (qM kD)<|zZ) ?_
  refine jD ⟨_,(kS (cs:=(bx (jR (kW.mk false [])))) (d:=(jR (kW.mk false []))) rfl rfl kD rfl rfl .nil),?_⟩
  rw[toZ_bad (by rw[Bool.not_eq_true'] at h1;exact h1),ofZ_zero];rfl
 ·refine jE<|jB<|kd [] [(1,some (bx (jR (kW.mk x.neg x.gs))))] mo (wE (kN vO)<|wR (qJ fG)<|wE (oBe kJ)<|wE (kN vK)<|wR (qJ xX)<|wE (e_appe (by exact rfl) kJ vY (by kernel_rfl) nY (by exact rfl) (by exact rfl) (by simp only[List.length_map,List.length_take,List.length_drop,List.length_append,List.length_cons,List.length_nil,maxLen];omega) (by simp only[List.length_map,List.length_take,List.length_drop,List.length_append,List.length_cons,List.length_nil];omega))<|wE (bH pl30 nM nN)<|wT (qM kD)<|wZ) ?_
  refine jD ⟨_,(kS (cs:=(bx (jR (kW.mk x.neg x.gs)))) (d:=(jR (kW.mk x.neg x.gs))) rfl rfl kD rfl rfl .nil),?_⟩
  rw[ofZ_toZ (by simpa using h1)];rfl
theorem r_of(n:Int)(hlo:-9223372036854775808<=n)(hhi:n<=9223372036854775807):jS Tryz.prog 119 [(.val (.int .i64 (n)))] (jR (kM n)):=by
 refine uW Tryz.func119 ?_
 refine jB<|kx [(2,(.ref 0 0))] [(0,some (bx (jR (kW.mk false []))))] (zN (uJ 0 nM nN)<|zZ) ?_
 refine jB<|kx [(3,(gN ((n % 18446744073709551616).toNat)))] [] (zM<|zE (mP un3 yM ((n % 18446744073709551616).toNat) (hr:=by exact (conv_u64 _)))<|zM<|zZ) ?_
 refine jB<|jB<|kx [(8,(vb (decide (n<0))))] [] (zM<|zE yY<|zZ) ?_
 refine jF (b:=decide (n<0)) rfl (fun h1=>?_) (fun h1=>?_)
 ·replace h1:=vT h1
  refine kx [(3,(gN n.natAbs))] [] (zM<|zE (zAd (n+1))<|zE (oNg (-(n+1)))<|zE (mP un3 yM ((-n-1).toNat) (hr:=by exact (wu64 (by omega) (by omega) (by omega))))<|zE (xD n.natAbs)<|zM<|zZ) ?_
  refine jB<|kx [(4,(.own 1 107 1 0))] [(1,some (bm jC []))] (zN (oBo 1 kJ vY yT)<|zM<|zZ) ?_
  refine jB<|jH<|kQ (α:=List Nat × Nat) (fun (o,m)=>⟨[(0,(vi n)),(2,(.ref 0 0)),(3,(gN m)),(4,(.own 1 107 1 o.length))],[(0,some (bx (jR (kW.mk false [])))),(1,some (bm jC o))]⟩) (fun (o,m)=>m<=9223372036854775808/\o++ofNat m=ofNat n.natAbs) (fun (o,m)=>m) ([],n.natAbs) wk ⟨by omega,by rw[List.nil_append]⟩ ?_
  rintro ⟨o,m⟩ ⟨hm,hg⟩
  have hl:=split_len hg (by omega)
  refine jB<|jB<|kx [(16,(vb (decide (0<((m:Nat):Int)))))] [] (zM<|zE cI<|zZ) ?_
  refine jF (b:=decide (0<((m:Nat):Int))) rfl (fun h2=>?_) (fun h2=>?_)
  ·replace h2:=vT h2
   refine jE<|jH<|jB<|kf [(4,(.own 1 107 1 ((o++[(m % 1000000000)]).length)))] [(1,some (bm jC (o++[(m % 1000000000)])))] (zM<|zM<|zE (oRe (m % 1000000000))<|zE (mP nC gV (m % 1000000000))<|zE (fF kJ vY yT)<|zA jC o [(m % 1000000000)] rfl kJ vY nY<|zM<|zF) ?_
   refine kx [(3,(gN (m / 1000000000)))] [] (zM<|zE (oQu (m / 1000000000))<|zM<|zZ) ?_
   exact ⟨(o++[m % 1000000000],m / 1000000000),wk,⟨by omega,split_step hg h2⟩,(by first|omega|(dsimp only;omega))⟩
  ·replace h2:=xC h2
   have hdo:Dig o:=split_dig hg h2
   have hvo:=split_val hg h2
   refine kL<|jB<|kG (yL (t:=4) (k:=1) (es:=List.map jC o) rfl rfl (vQ _ _ (fun _=>rfl)) (vS _ _ rfl) (xP _ _ (fun _=>rfl) rfl)) ?_
   refine kx [] [(0,some (bx (jR (xN (decide (n<0)) (val o)))))] (zM<|zE yY<|zM<|zE (kB (nR (decide (n<0)) o hdo (by omega)))<|zT (qM kD)<|zZ) ?_
   refine jD ⟨_,(kS (cs:=(bx (jR (xN (decide (n<0)) (val o))))) (d:=(jR (xN (decide (n<0)) (val o)))) rfl rfl kD rfl rfl .nil),?_⟩
   rw[hvo];rfl
 ·replace h1:=xC h1
  rw[show (n % 18446744073709551616).toNat=n.natAbs from by omega]
  refine jE<|jB<|kx [(3,(gN n.natAbs)),(4,(.own 2 107 1 0))] [(2,some (bm jC []))] (zN (oBo 2 kJ vY yT)<|zM<|zZ) ?_
  refine jB<|jH<|kQ (α:=List Nat × Nat) (fun (o,m)=>⟨[(0,(vi n)),(2,(.ref 0 0)),(3,(gN m)),(4,(.own 2 107 1 o.length))],[(0,some (bx (jR (kW.mk false [])))),(2,some (bm jC o))]⟩) (fun (o,m)=>m<=9223372036854775808/\o++ofNat m=ofNat n.natAbs) (fun (o,m)=>m) ([],n.natAbs) wk ⟨by omega,by rw[List.nil_append]⟩ ?_
  rintro ⟨o,m⟩ ⟨hm,hg⟩
  have hl:=split_len hg (by omega)
  refine jB<|jB<|kx [(16,(vb (decide (0<((m:Nat):Int)))))] [] (zM<|zE cI<|zZ) ?_
  refine jF (b:=decide (0<((m:Nat):Int))) rfl (fun h3=>?_) (fun h3=>?_)
  ·replace h3:=vT h3
   refine jE<|jH<|jB<|kf [(4,(.own 2 107 1 ((o++[(m % 1000000000)]).length)))] [(2,some (bm jC (o++[(m % 1000000000)])))] (zM<|zM<|zE (oRe (m % 1000000000))<|zE (mP nC gV (m % 1000000000))<|zE (fF kJ vY yT)<|zA jC o [(m % 1000000000)] rfl kJ vY nY<|zM<|zF) ?_
   refine kx [(3,(gN (m / 1000000000)))] [] (zM<|zE (oQu (m / 1000000000))<|zM<|zZ) ?_
   exact ⟨(o++[m % 1000000000],m / 1000000000),wk,⟨by omega,split_step hg h3⟩,(by first|omega|(dsimp only;omega))⟩
  ·replace h3:=xC h3
   have hdo:Dig o:=split_dig hg h3
   have hvo:=split_val hg h3
   refine kL<|jB<|kG (yL (t:=4) (k:=2) (es:=List.map jC o) rfl rfl (vQ _ _ (fun _=>rfl)) (vS _ _ rfl) (xP _ _ (fun _=>rfl) rfl)) ?_
   refine kx [] [(0,some (bx (jR (xN (decide (n<0)) (val o)))))] (zM<|zE yY<|zM<|zE (kB (nR (decide (n<0)) o hdo (by omega)))<|zT (qM kD)<|zZ) ?_
   refine jD ⟨_,(kS (cs:=(bx (jR (xN (decide (n<0)) (val o))))) (d:=(jR (xN (decide (n<0)) (val o)))) rfl rfl kD rfl rfl .nil),?_⟩
   rw[hvo];rfl
theorem r_size(a b:List Nat)(ha:gH a)(hb:gH b)(hla:a.length<=17592186044416)(hlb:b.length<=17592186044416):jS Tryz.prog 117 [(.sl 107 1 (List.map jC a)),(.sl 107 1 (List.map jC b))] (.val (.int .i64 ((vD ((val a:Nat):Int) ((val b:Nat):Int))))):=by
 refine uW Tryz.func117 ?_
 refine jB<|kx [] [] (zM<|zZ) ?_
 refine jB<|jB<|kx [(10,(vb (((a.length:Nat):Int) != ((b.length:Nat):Int))))] [] (zM<|zE (yH kJ)<|zM<|zE (yH kJ)<|zE bD<|zZ) ?_
 refine jF rfl (fun h1=>?_) (fun h1=>?_)
 ·replace h1:=bne_iff_ne.1 h1
  refine jB<|jB<|kx [(15,(vb (decide (((a.length:Nat):Int)<((b.length:Nat):Int)))))] [] (zM<|zE (yH kJ)<|zM<|zE (yH kJ)<|zE yY<|zZ) ?_
  refine jF rfl (fun h2=>?_) (fun h2=>?_)
  ·replace h2:=vT h2
   refine jB<|kx [(4,(vi (-1)))] [] (zM<|zZ) ?_
   refine jD ⟨_,(.tmp (d:=(.val (.int .i64 (-1)))) rfl .nil),?_⟩
   rw[<- cmpI_len ha hb h1];unfold vD;rw[if_pos (by omega)];rfl
  ·replace h2:=xC h2
   refine jE<|jB<|kx [(4,(jT 1))] [] (zM<|zZ) ?_
   refine jD ⟨_,(.tmp (d:=(.val (.int .i64 (1)))) rfl .nil),?_⟩
   rw[<- cmpI_len ha hb h1,aR (by omega)];rfl
 ·replace h1:=bne_eq_false_iff_eq.1 h1
  have hl:a.length=b.length:=by omega
  refine jE<|jB<|jB<|kx [(5,(vi (((a.length:Nat):Int)-1)))] [] (zM<|zE (yH kJ)<|zE (zSb (((a.length:Nat):Int)-1))<|zM<|zZ) ?_
  refine jH<|kQ (α:=Nat) (fun k=>⟨[(0,(vl 107 1 jC a)),(1,(vl 107 1 jC b)),(5,(vi (((k:Nat):Int)-1)))],[]⟩) (fun k=>k<=a.length/\val (a.drop k)=val (b.drop k)) (fun k=>k) a.length wk ⟨Nat.le_refl _,by rw[List.drop_length,hl,List.drop_length]⟩ ?_
  rintro k ⟨hk,he⟩
  refine jB<|jB<|kx [(20,(vb (decide (0<=(((k:Nat):Int)-1)))))] [] (zM<|zE oGe<|zZ) ?_
  refine jF (b:=decide (0<=(((k:Nat):Int)-1))) rfl (fun h3=>?_) (fun h3=>?_)
  ·replace h3:=vT h3
   obtain ⟨i,rfl⟩:∃ i,k=i+1:=⟨k-1,by omega⟩
   rw[show (((i+1:Nat):Int)-1)=((i:Nat):Int) from by omega]
   have ht:=cmpI_top ha.1 hb.1 hl (j:=a.length-1-i) (by omega) (by rw[show a.length-(a.length-1-i)=i+1 by omega];exact he)
   rw[show a.length-1-(a.length-1-i)=i by omega] at ht
   refine jE<|jB<|jH<|jB<|jB<|kd [(5,(jT i)),(31,(vb (decide ((((a.getD i 0):Nat):Int)<(((b.getD i 0):Nat):Int)))))] [] mo (wM<|wM<|wE (dA kJ i (0:Nat))<|wE (nX qP)<|wM<|wM<|wE (dA kJ i (0:Nat))<|wE (nX qP)<|wE yY<|wZ) ?_
   refine jF rfl (fun h4=>?_) (fun h4=>?_)
   ·replace h4:=vT h4
    refine jB<|kx [(4,(vi (-1)))] [] (zM<|zZ) ?_
    refine jD ⟨_,(.tmp (d:=(.val (.int .i64 (-1)))) rfl .nil),?_⟩
    rw[<- ht (by omega)];unfold vD;rw[if_pos (by omega)];rfl
   ·replace h4:=xC h4
    refine jE<|jB<|kd [(40,(vb (decide ((((b.getD i 0):Nat):Int)<(((a.getD i 0):Nat):Int)))))] [] mo (wM<|wM<|wE (dA kJ i (0:Nat))<|wE (nX qP)<|wM<|wM<|wE (dA kJ i (0:Nat))<|wE (nX qP)<|wE cI<|wZ) ?_
    refine jF rfl (fun h5=>?_) (fun h5=>?_)
    ·replace h5:=vT h5
     refine jB<|kx [(4,(jT 1))] [] (zM<|zZ) ?_
     refine jD ⟨_,(.tmp (d:=(.val (.int .i64 (1)))) rfl .nil),?_⟩
     rw[<- ht (by omega),aR (by omega)];rfl
    ·replace h5:=xC h5
     refine jE<|kx [(5,(vi (((i:Nat):Int)-1)))] [] (zM<|zE (zSb (((i:Nat):Int)-1))<|zM<|zZ) ?_
     exact ⟨i,wk,⟨by omega,by rw[xO a i,xO b i,he];omega⟩,(by first|omega|(dsimp only;omega))⟩
  ·replace h3:=xC h3
   obtain rfl:k=0:=by omega
   rw[List.drop_zero,List.drop_zero] at he
   refine kL<|jB<|kx [(4,(jT 0))] [] (zM<|zZ) ?_
   refine jD ⟨_,(.tmp (d:=(.val (.int .i64 (0)))) rfl .nil),?_⟩
   rw[cmpI_same he];rfl
theorem r_plus(a b:List Nat)(hda:Dig a)(hdb:Dig b)(hla:a.length<=8796093022208)(hlb:b.length<=8796093022208):jS Tryz.prog 116 [(.sl 107 1 (List.map jC a)),(.sl 107 1 (List.map jC b))] (.sl 107 1 (List.map jC (ofNat (val a+val b)))):=by
 refine uW Tryz.func116 ?_
 refine jB<|kx [] [] (zE (bB 107 1)<|zZ) ?_
 refine jB<|kx [(5,(.own 0 107 1 0))] [(0,some (bm jC []))] (zN (oBo 0 kJ vY yT)<|zM<|zZ) ?_
 refine jB<|kx [(6,(gN 0))] [] (zM<|zZ) ?_
 refine jB<|jB<|kx [(7,(jT 0))] [] (zM<|zZ) ?_
 refine jH<|kQ (α:=Nat × List Nat × Nat) (fun (i,o,c)=>⟨[(0,(vl 107 1 jC a)),(1,(vl 107 1 jC b)),(5,(.own 0 107 1 o.length)),(6,(gN c)),(7,(jT i))],[(0,some (bm jC o))]⟩) (fun (i,o,c)=>o.length=i/\Dig o/\i<=max a.length b.length/\c<=1/\val o+pw i*c=val (a.take i)+val (b.take i)) (fun (i,o,c)=>max a.length b.length-i) (0,[],0) wk ⟨rfl,gW,Nat.zero_le _,Nat.zero_le _,by simp [val]⟩ ?_
 rintro ⟨i,o,c⟩ ⟨hl,hd,hi,hc,hv⟩
 have hai:=hda.getD i
 have hbi:=hdb.getD i
 refine jB<|jB<|kx [(19,(vb (decide (((i:Nat):Int)<((a.length:Nat):Int))||decide (((i:Nat):Int)<((b.length:Nat):Int)))))] [] ?_ ?_
 ·refine zM<|zM<|zE (yH kJ)<|zE yY<|zE (oV (vb (decide (((i:Nat):Int)<((a.length:Nat):Int)))) (qA (by kernel_rfl)))<|?_
  rcases hb1:(decide (((i:Nat):Int)<((a.length:Nat):Int))) with _ | _
  ·replace hb1:=xC hb1
   exact zM<|zM<|zE (yH kJ)<|zE yY<|zE aD<|zZ
  ·replace hb1:=vT hb1
   exact zK<|zK<|zK<|zK<|zE nT<|zZ
 refine jF rfl (fun h2=>?_) (fun h2=>?_)
 ·rw[Bool.or_eq_true,decide_eq_true_eq,decide_eq_true_eq] at h2
  refine jE<|jB<|jH<|jB<|kx [(8,(gN (((a.getD i 0)+(b.getD i 0))+c)))] [] (zM<|zM<|zE (kB (aO a i (by first | assumption | exact kI _ | exact (qB _).1 | exact (qG _).1)))<|zM<|zM<|zE (kB (aO b i (by first | assumption | exact kI _ | exact (qB _).1 | exact (qG _).1)))<|zE (xD ((a.getD i 0)+(b.getD i 0)))<|zM<|zE (xD (((a.getD i 0)+(b.getD i 0))+c))<|zM<|zZ) ?_
  refine jB<|kf [(5,(.own 0 107 1 ((o++[((((a.getD i 0)+(b.getD i 0))+c) % 1000000000)]).length)))] [(0,some (bm jC (o++[((((a.getD i 0)+(b.getD i 0))+c) % 1000000000)])))] (zM<|zM<|zE (oRe ((((a.getD i 0)+(b.getD i 0))+c) % 1000000000))<|zE (mP nC gV ((((a.getD i 0)+(b.getD i 0))+c) % 1000000000))<|zE (fF kJ vY yT)<|zA jC o [((((a.getD i 0)+(b.getD i 0))+c) % 1000000000)] rfl kJ vY nY<|zM<|zF) ?_
  refine kx [(6,(gN ((((a.getD i 0)+(b.getD i 0))+c) / 1000000000)))] [] (zM<|zE (oQu ((((a.getD i 0)+(b.getD i 0))+c) / 1000000000))<|zM<|zZ) ?_
  refine kx [(7,(jT (i+1)))] [] (zM<|zE (xD (i+1))<|zM<|zZ) ?_
  exact ⟨(i+1,o++[(a.getD i 0+b.getD i 0+c) % 1000000000],(a.getD i 0+b.getD i 0+c) / 1000000000),wk,⟨by simp [hl],dig_push hd (Nat.mod_lt _ (by decide)),by omega,by omega,rplus_step hl hv rfl⟩,(by first|omega|(dsimp only;omega))⟩
 ·rw[Bool.or_eq_false_iff,decide_eq_false_iff_not,decide_eq_false_iff_not] at h2
  rw[take_all (by omega),take_all (by omega)] at hv
  have hp:=val_push (c:=c) hl
  refine kL<|jB<|kf [(4,(vl 107 1 jC (ofNat (val (o++[c]))))),(5,.junk)] [(0,none)] (zM<|zM<|zE (mP nC gV c)<|zE (fF kJ vY yT)<|zAQ jC o [c] rfl kJ vY nY<|zE (kB (nR false (o++[c]) (dig_push hd (by omega)) (by simp only[List.length_append,List.length_cons,List.length_nil];omega)))<|zE (oF1 aY xX)<|zM<|zF) ?_
  refine jD ⟨_,(.tmp (d:=(.sl 107 1 (List.map jC (ofNat (val (o++[c])))))) rfl .nil),?_⟩
  rw[hp,hv];rfl
theorem r_minus(a b:List Nat)(hda:Dig a)(hdb:Dig b)(hba:val b<=val a)(hla:a.length<=8796093022208):jS Tryz.prog 118 [(.sl 107 1 (List.map jC a)),(.sl 107 1 (List.map jC b))] (.sl 107 1 (List.map jC (ofNat (val a-val b)))):=by
 refine uW Tryz.func118 ?_
 refine jB<|kx [] [] (zE (bB 107 1)<|zZ) ?_
 refine jB<|kx [(5,(.own 0 107 1 0))] [(0,some (bm jC []))] (zN (oBo 0 kJ vY yT)<|zM<|zZ) ?_
 refine jB<|kx [(6,(gN 0))] [] (zM<|zZ) ?_
 refine jB<|jB<|kx [(7,(jT 0))] [] (zM<|zZ) ?_
 refine jH<|kQ (α:=Nat × List Nat × Nat) (fun (i,o,c)=>⟨[(0,(vl 107 1 jC a)),(1,(vl 107 1 jC b)),(5,(.own 0 107 1 o.length)),(6,(gN c)),(7,(jT i))],[(0,some (bm jC o))]⟩) (fun (i,o,c)=>o.length=i/\Dig o/\i<=a.length/\c<=1/\val o+val (b.take i)=val (a.take i)+pw i*c) (fun (i,o,c)=>a.length-i) (0,[],0) wk ⟨rfl,gW,Nat.zero_le _,Nat.zero_le _,by simp [val]⟩ ?_
 rintro ⟨i,o,c⟩ ⟨hl,hd,hi,hc,hv⟩
 have hai:=hda.getD i
 have hbi:=hdb.getD i
 refine jB<|jB<|kx [(13,(vb (decide (((i:Nat):Int)<((a.length:Nat):Int)))))] [] (zM<|zM<|zE (yH kJ)<|zE yY<|zZ) ?_
 refine jF rfl (fun h1=>?_) (fun h1=>?_)
 ·replace h1:=vT h1
  refine jE<|jB<|jH<|jB<|kx [(8,(gN (((1000000000+(a.getD i 0))-(b.getD i 0))-c)))] [] (zM<|zM<|zE (kB (aO a i (by first | assumption | exact kI _ | exact (qB _).1 | exact (qG _).1)))<|zE (xD (1000000000+(a.getD i 0)))<|zM<|zM<|zE (kB (aO b i (by first | assumption | exact kI _ | exact (qB _).1 | exact (qG _).1)))<|zE (oSb ((1000000000+(a.getD i 0))-(b.getD i 0)))<|zM<|zE (oSb (((1000000000+(a.getD i 0))-(b.getD i 0))-c))<|zM<|zZ) ?_
  refine jB<|kf [(5,(.own 0 107 1 ((o++[((((1000000000+(a.getD i 0))-(b.getD i 0))-c) % 1000000000)]).length)))] [(0,some (bm jC (o++[((((1000000000+(a.getD i 0))-(b.getD i 0))-c) % 1000000000)])))] (zM<|zM<|zE (oRe ((((1000000000+(a.getD i 0))-(b.getD i 0))-c) % 1000000000))<|zE (mP nC gV ((((1000000000+(a.getD i 0))-(b.getD i 0))-c) % 1000000000))<|zE (fF kJ vY yT)<|zA jC o [((((1000000000+(a.getD i 0))-(b.getD i 0))-c) % 1000000000)] rfl kJ vY nY<|zM<|zF) ?_
  refine kx [(6,(gN (1-((((1000000000+(a.getD i 0))-(b.getD i 0))-c) / 1000000000))))] [] (zM<|zE (oQu ((((1000000000+(a.getD i 0))-(b.getD i 0))-c) / 1000000000))<|zE (oSb (1-((((1000000000+(a.getD i 0))-(b.getD i 0))-c) / 1000000000)))<|zM<|zZ) ?_
  refine kx [(7,(jT (i+1)))] [] (zM<|zE (xD (i+1))<|zM<|zZ) ?_
  exact ⟨(i+1,o++[(1000000000+a.getD i 0-b.getD i 0-c) % 1000000000],1-(1000000000+a.getD i 0-b.getD i 0-c) / 1000000000),wk,⟨by simp [hl],dig_push hd (Nat.mod_lt _ (by decide)),by omega,by omega,rminus_step hl hv (by omega) (by omega)⟩,(by first|omega|(dsimp only;omega))⟩
 ·replace h1:=xC h1
  have hie:i=a.length:=by omega
  refine kL<|jB<|kG (yL (t:=5) (k:=0) (es:=List.map jC o) rfl rfl (vQ _ _ (fun _=>rfl)) (vS _ _ rfl) (xP _ _ (fun _=>rfl) rfl)) ?_
  refine kx [(4,(vl 107 1 jC (ofNat (val o))))] [] (zM<|zE (kB (nR false o hd (by omega)))<|zE (oF1 aY xX)<|zM<|zZ) ?_
  refine jD ⟨_,(.tmp (d:=(.sl 107 1 (List.map jC (ofNat (val o))))) rfl .nil),?_⟩
  rw[rminus_end hda hdb hd hie hl hba hv];rfl
theorem r_scaled(a:List Nat)(d:Nat)(hda:Dig a)(hd1:d<=1000000000)(hla:a.length<=8796093022208):jS Tryz.prog 186 [(.sl 107 1 (List.map jC a)),(.val (.int .u64 (((d:Nat):Int))))] (.sl 107 1 (List.map jC (ofNat (val a*d)))):=by
 refine uW Tryz.func186 ?_
 refine jB<|kx [] [] (zE (bB 107 1)<|zZ) ?_
 refine jB<|kx [(5,(.own 0 107 1 0))] [(0,some (bm jC []))] (zN (oBo 0 kJ vY yT)<|zM<|zZ) ?_
 refine jB<|kx [(6,(gN 0))] [] (zM<|zZ) ?_
 refine jB<|jB<|kx [(7,(jT 0))] [] (zM<|zZ) ?_
 refine jH<|kQ (α:=Nat × List Nat × Nat) (fun (i,o,c)=>⟨[(0,(vl 107 1 jC a)),(1,(gN d)),(5,(.own 0 107 1 o.length)),(6,(gN c)),(7,(jT i))],[(0,some (bm jC o))]⟩) (fun (i,o,c)=>o.length=i/\Dig o/\i<=a.length/\c<=999999999/\val o+pw i*c=val (a.take i)*d) (fun (i,o,c)=>a.length-i) (0,[],0) wk ⟨rfl,gW,Nat.zero_le _,Nat.zero_le _,by simp [val]⟩ ?_
 rintro ⟨i,o,c⟩ ⟨hl,hd,hi,hc,hv⟩
 have hai:=hda.getD i
 have hpq:a.getD i 0*d<=999999999*1000000000:=Nat.mul_le_mul (by omega) hd1
 refine jB<|jB<|kx [(13,(vb (decide (((i:Nat):Int)<((a.length:Nat):Int)))))] [] (zM<|zM<|zE (yH kJ)<|zE yY<|zZ) ?_
 refine jF rfl (fun h1=>?_) (fun h1=>?_)
 ·replace h1:=vT h1
  refine jE<|jB<|jH<|jB<|kx [(8,(gN (((a.getD i 0)*d)+c)))] [] (zM<|zM<|zE (dA kJ i (0:Nat))<|zE (nX qP)<|zE (mP yU yM (a.getD i 0))<|zM<|zE (oMl ((a.getD i 0)*d))<|zM<|zE (xD (((a.getD i 0)*d)+c))<|zM<|zZ) ?_
  refine jB<|kf [(5,(.own 0 107 1 ((o++[((((a.getD i 0)*d)+c) % 1000000000)]).length)))] [(0,some (bm jC (o++[((((a.getD i 0)*d)+c) % 1000000000)])))] (zM<|zM<|zE (oRe ((((a.getD i 0)*d)+c) % 1000000000))<|zE (mP nC gV ((((a.getD i 0)*d)+c) % 1000000000))<|zE (fF kJ vY yT)<|zA jC o [((((a.getD i 0)*d)+c) % 1000000000)] rfl kJ vY nY<|zM<|zF) ?_
  refine kx [(6,(gN ((((a.getD i 0)*d)+c) / 1000000000)))] [] (zM<|zE (oQu ((((a.getD i 0)*d)+c) / 1000000000))<|zM<|zZ) ?_
  refine kx [(7,(jT (i+1)))] [] (zM<|zE (xD (i+1))<|zM<|zZ) ?_
  exact ⟨(i+1,o++[(a.getD i 0*d+c) % 1000000000],(a.getD i 0*d+c) / 1000000000),wk,⟨by simp [hl],dig_push hd (Nat.mod_lt _ (by decide)),by omega,by omega,rscaled_step hl hv rfl⟩,(by first|omega|(dsimp only;omega))⟩
 ·replace h1:=xC h1
  have hie:i=a.length:=by omega
  rw[take_all (by omega)] at hv
  have hp:=val_push (c:=c) hl
  refine kL<|jB<|kf [(4,(vl 107 1 jC (ofNat (val (o++[c]))))),(5,.junk)] [(0,none)] (zM<|zM<|zE (mP nC gV c)<|zE (fF kJ vY yT)<|zAQ jC o [c] rfl kJ vY nY<|zE (kB (nR false (o++[c]) (dig_push hd (by omega)) (by simp only[List.length_append,List.length_cons,List.length_nil];omega)))<|zE (oF1 aY xX)<|zM<|zF) ?_
  refine jD ⟨_,(.tmp (d:=(.sl 107 1 (List.map jC (ofNat (val (o++[c])))))) rfl .nil),?_⟩
  rw[hp,hv];rfl
theorem r_shifted(a:List Nat)(d:Nat)(hda:Dig a)(hd1:d<1000000000)(hla:a.length<=8796093022208):jS Tryz.prog 187 [(.sl 107 1 (List.map jC a)),(.val (.int .u32 (((d:Nat):Int))))] (.sl 107 1 (List.map jC (ofNat (d+1000000000*val a)))):=by
 refine uW Tryz.func187 ?_
 refine jB<|kx [] [] (zE (bB 107 1)<|zZ) ?_
 refine jB<|kf [(4,(vl 107 1 jC (ofNat (val ([d]++a)))))] [(0,none)] (zM<|zN (oBo 0 kJ vY yT)<|zM<|zAQ jC [d] a rfl kJ vY nY<|zE (kB (nR false ([d]++a) (iT.2 ⟨yS.2 ⟨hd1,gW⟩,hda⟩) (by simp only[List.length_append,List.length_cons,List.length_nil];omega)))<|zE (oF1 aY xX)<|zM<|zF) ?_
 refine jD ⟨_,(.tmp (d:=(.sl 107 1 (List.map jC (ofNat (val ([d]++a)))))) rfl .nil),?_⟩
 rfl
end Go.Proofs.YtckccjhflbljgaaGreatDoor
