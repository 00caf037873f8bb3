/- Part 16 of a proof: rules, plain facts, and functions walked. -/
import Derived.Test.YtciingpdmjepgabGreatDoorM15
set_option linter.all false
set_option maxRecDepth 4000
namespace Go.Proofs.YtciingpdmjepgabGreatDoor
open Go.Fid
theorem fE:aP Tryz.prog 26 1=some (1,24):=by kernel_rfl
theorem eS(l:List Nat)(i:Nat)(hd:Dig l):jW Tryz.prog 110 [(.sl 74 1 (List.map jC l)),(.val (.int .i64 (((i:Nat):Int))))] (.val (.int .u64 ((((l.getD i 0):Nat):Int)))):=by
 have hg:=hd.getD i
 refine uW Tryz.func110 ?_
 refine jB<|kx [] [] (zM<|zZ) ?_
 refine jB<|jB<|kx [(8,(vb (decide (((i:Nat):Int)<((l.length:Nat):Int)))))] [] (zM<|zM<|zE (zV kC)<|zE xO<|zZ) ?_
 refine jH rfl (fun h1=>?_) (fun h1=>?_)
 ·replace h1:=xF h1
  refine jB<|kx [(4,(zP (l.getD i 0)))] [] (zM<|zM<|zE (dS kC i (0:Nat))<|zE (gJ uK)<|zE (hC gZ gY (l.getD i 0))<|zM<|zZ) ?_
  refine jE ⟨_,(.tmp (d:=(.val (.int .u64 ((((l.getD i 0):Nat):Int))))) rfl .nil),?_⟩
  rfl
 ·replace h1:=xH h1
  refine jF<|jB<|kx [(4,(zP 0))] [] (zM<|zZ) ?_
  refine jE ⟨_,(.tmp (d:=(.val (.int .u64 (0)))) rfl .nil),?_⟩
  rw[show l.getD i 0=0 from getD_out (by omega)];rfl
theorem yW(neg:Bool)(l:List Nat)(hd:Dig l)(hb:l.length<=35184372088832):jW Tryz.prog 55 [(.val (.bool (neg))),(.sl 74 1 (List.map jC l))] (jM (vC neg (val l))):=by
 refine uW Tryz.func55 ?_
 refine jB<|kx [(4,(.ref 0 0))] [(0,some (bx (jM (kO.mk false []))))] (zN (uT 0 xL xK)<|zZ) ?_
 refine jB<|kx [(5,(jS l.length))] [] (zM<|zE (zV kC)<|zM<|zZ) ?_
 refine jB<|jG<|kU (α:=Nat) (fun k=>⟨[(0,(vb neg)),(1,(vl 74 1 jC l)),(4,(.ref 0 0)),(5,(jS k))],[(0,some (bx (jM (kO.mk false []))))]⟩) (fun k=>k<=l.length/\val (l.take k)=val l) (fun k=>k) l.length wk ⟨Nat.le_refl _,by rw[List.take_length]⟩ ?_
 rintro k ⟨hk,hv⟩
 refine jB<|jB<|kx [(17,(vb (decide (0<((k:Nat):Int))&&((((l.getD (k-1) 0):Nat):Int) == 0))))] [] ?_ ?_
 ·refine zM<|zE mB<|zE (oV (vb (decide (0<((k:Nat):Int)))) (qF (by kernel_rfl)))<|?_
  rcases hb1:(decide (0<((k:Nat):Int))) with _ | _
  ·replace hb1:=xH hb1
   exact zK<|zK<|zK<|zK<|zK<|zK<|zE gK<|zZ
  ·replace hb1:=xF hb1
   exact zM<|zM<|zE (oSb (k-1))<|zE (dS kC (k-1) (0:Nat))<|zE (gJ uK)<|zE nT<|zE oPa<|zZ
 refine jH rfl (fun h2=>?_) (fun h2=>?_)
 ·have hm:=r_made_step hk hv h2
  have hm0:=hm.1
  refine jF<|jG<|kx [(5,(jS (k-1)))] [] (zM<|zE (oSb (k-1))<|zM<|zZ) ?_
  exact ⟨(k-1),wk,⟨by omega,hm.2⟩,(by first|omega|(dsimp only;omega))⟩
 ·refine kK<|jB<|kx [] [(0,some (bx (jM (kO.mk (neg&&decide (0<((k:Nat):Int))) (List.take k l)))))] ?_ ?_
  ·refine zM<|zE (oV (vb neg) (qF (by kernel_rfl)))<|?_
   rcases hb3:neg with _ | _
   ·exact zK<|zK<|zE gK<|zE (oBe kC)<|zM<|zM<|zE (e_slc (l:=0) (h:=k) (kl:=.i64) (kh:=.i64) (es':=List.map jC (List.take k l)) (by exact rfl) kC (by exact rfl) (by exact rfl) (by exact rfl) (Nat.zero_le _) (by simp only[List.length_map];omega) (by rw[List.drop_zero,List.map_take]))<|zE (e_appe (by exact rfl) kC xW (by kernel_rfl) dT (by exact rfl) (by exact rfl) (by simp only[List.length_map,List.length_take,List.length_drop,List.length_append,List.length_cons,List.length_nil,maxLen];omega) (by simp only[List.length_map,List.length_take,List.length_drop,List.length_append,List.length_cons,List.length_nil];omega))<|zE (oBd pl26 xL xK)<|zT (qK jX)<|zZ
   ·exact zM<|zE mB<|zE oPa<|zE (oBe kC)<|zM<|zM<|zE (e_slc (l:=0) (h:=k) (kl:=.i64) (kh:=.i64) (es':=List.map jC (List.take k l)) (by exact rfl) kC (by exact rfl) (by exact rfl) (by exact rfl) (Nat.zero_le _) (by simp only[List.length_map];omega) (by rw[List.drop_zero,List.map_take]))<|zE (e_appe (by exact rfl) kC xW (by kernel_rfl) dT (by exact rfl) (by exact rfl) (by simp only[List.length_map,List.length_take,List.length_drop,List.length_append,List.length_cons,List.length_nil,maxLen];omega) (by simp only[List.length_map,List.length_take,List.length_drop,List.length_append,List.length_cons,List.length_nil];omega))<|zE (oBd pl26 xL xK)<|zT (qK jX)<|zZ
  refine jE ⟨_,(kQ (cs:=(bx (jM (kO.mk (neg&&decide (0<((k:Nat):Int))) (List.take k l))))) (d:=(jM (kO.mk (neg&&decide (0<((k:Nat):Int))) (List.take k l)))) rfl rfl jX rfl rfl .nil),?_⟩
  rw[r_made_end hd hk hv h2];rfl
theorem r_valid(x:kO)(hb:x.gs.length<=35184372088832):jW Tryz.prog 21 [(jM x)] (.val (.bool ((qW x)))):=by
 refine uW Tryz.func21 ?_
 refine jB<|kx [(1,(.ref 0 0))] [(0,some (bx (jM x)))] (zN (xA 0)<|zM<|zZ) ?_
 refine jB<|kx [(3,(jS x.gs.length))] [] (zE (kW uR)<|zR (qR vZ)<|zE (zV kC)<|zM<|zZ) ?_
 refine jB<|jB<|kx [(4,(jS 0))] [] (zM<|zZ) ?_
 refine jG<|kU (α:=Nat) (fun i=>⟨[(1,(.ref 0 0)),(3,(jS x.gs.length)),(4,(jS i))],[(0,some (bx (jM x)))]⟩) (fun i=>i<=x.gs.length/\Dig (x.gs.take i)) (fun i=>x.gs.length-i) 0 wk ⟨Nat.zero_le _,by rw[List.take_zero];exact yA⟩ ?_
 rintro i ⟨hi,hd⟩
 refine jB<|jB<|kx [(10,(vb (decide (((i:Nat):Int)<((x.gs.length:Nat):Int)))))] [] (zM<|zM<|zE xO<|zZ) ?_
 refine jH rfl (fun h1=>?_) (fun h1=>?_)
 ·replace h1:=xF h1
  refine jF<|jB<|jG<|jB<|kx [(18,(vb (decide (1000000000<=(((x.gs.getD i 0):Nat):Int)))))] [] (zE (kW uR)<|zR (qR vZ)<|zM<|zE (dS kC i (0:Nat))<|zE (gJ uK)<|zE oGe<|zZ) ?_
  refine jH rfl (fun h2=>?_) (fun h2=>?_)
  ·replace h2:=xF h2
   refine jB<|kx [(2,(vb false))] [] (zM<|zZ) ?_
   refine jE ⟨_,(.tmp (d:=(.val (.bool (false)))) rfl .nil),?_⟩
   rw[validI_big (i:=i) (by omega) (by omega)];rfl
  ·replace h2:=xH h2
   refine jF<|kx [(4,(jS (i+1)))] [] (zM<|zE (vD (i+1))<|zM<|zZ) ?_
   exact ⟨(i+1),wk,⟨by omega,dig_take_succ (by omega) hd (by omega)⟩,(by first|omega|(dsimp only;omega))⟩
 ·replace h1:=xH h1
  have hie:i=x.gs.length:=by omega
  rw[hie,List.take_length] at hd
  refine kK<|jB<|jB<|kx [(20,(vb (((x.gs.length:Nat):Int) == 0)))] [] (zM<|zE nT<|zZ) ?_
  refine jH (b:=(((x.gs.length:Nat):Int) == 0)) rfl (fun h3=>?_) (fun h3=>?_)
  ·replace h3:=eq_of_beq h3
   refine jB<|kx [(2,(vb (!x.neg)))] [] (zE (kW uS)<|zR (qR sh4)<|zE eL<|zM<|zZ) ?_
   refine jE ⟨_,(.tmp (d:=(.val (.bool (!x.neg)))) rfl .nil),?_⟩
   rw[validI_nil (by omega)];rfl
  ·replace h3:=ne_of_beq_false h3
   refine jF<|jB<|kx [(2,(vb ((((x.gs.getD (x.gs.length-1) 0):Nat):Int) != 0)))] [] (zE (kW uR)<|zR (qR vZ)<|zM<|zE (oSb (x.gs.length-1))<|zE (dS kC (x.gs.length-1) (0:Nat))<|zE (gJ uK)<|zE oNe<|zM<|zZ) ?_
   refine jE ⟨_,(.tmp (d:=(.val (.bool (((((x.gs.getD (x.gs.length-1) 0):Nat):Int) != 0))))) rfl .nil),?_⟩
   rw[validI_dig hd (by omega)];rfl
theorem cR(x:kO)(hb:x.gs.length<=35184372088832):jW Tryz.prog 52 [(jM x)] (jM (kD (jQ x))):=by
 refine uW Tryz.func52 ?_
 refine jB<|kx [(1,(.ref 0 0)),(2,(.ref 1 0))] [(0,some (bx (jM x))),(1,some (bx (jM (kO.mk false []))))] (zN (xA 0)<|zN (uT 1 xL xK)<|zZ) ?_
 refine jB<|jB<|kx [(5,(vb (!(qW x))))] [] (zR (kT jX)<|zE (kH (r_valid x (by omega)))<|zE eL<|zZ) ?_
 refine jH (b:=!(qW x)) rfl (fun h1=>?_) (fun h1=>?_)
 ·refine jB<|kx [] [(1,some (bx (jM (kO.mk false []))))] (zE (oBd pl26 xL xK)<|zT (qK jX)<|zZ) ?_
  refine jE ⟨_,(kQ (cs:=(bx (jM (kO.mk false [])))) (d:=(jM (kO.mk false []))) rfl rfl jX rfl rfl .nil),?_⟩
  rw[toZ_bad (by rw[Bool.not_eq_true'] at h1;exact h1),ofZ_zero];rfl
 ·refine jF<|jB<|kd [] [(1,some (bx (jM (kO.mk x.neg x.gs))))] mo (wE (kW uS)<|wR (qR sh4)<|wE (oBe kC)<|wE (kW uR)<|wR (qR vZ)<|wE (e_appe (by exact rfl) kC xW (by kernel_rfl) dT (by exact rfl) (by exact rfl) (by simp only[List.length_map,List.length_take,List.length_drop,List.length_append,List.length_cons,List.length_nil,maxLen];omega) (by simp only[List.length_map,List.length_take,List.length_drop,List.length_append,List.length_cons,List.length_nil];omega))<|wE (oBd pl26 xL xK)<|wT (qK jX)<|wZ) ?_
  refine jE ⟨_,(kQ (cs:=(bx (jM (kO.mk x.neg x.gs)))) (d:=(jM (kO.mk x.neg x.gs))) rfl rfl jX rfl rfl .nil),?_⟩
  rw[ofZ_toZ (by simpa using h1)];rfl
theorem r_of(n:Int)(hlo:-9223372036854775808<=n)(hhi:n<=9223372036854775807):jW Tryz.prog 57 [(.val (.int .i64 (n)))] (jM (kD n)):=by
 refine uW Tryz.func57 ?_
 refine jB<|kx [(2,(.ref 0 0))] [(0,some (bx (jM (kO.mk false []))))] (zN (uT 0 xL xK)<|zZ) ?_
 refine jB<|kx [(3,(zP ((n % 18446744073709551616).toNat)))] [] (zM<|zE (hC un3 gY ((n % 18446744073709551616).toNat) (hr:=by exact (conv_u64 _)))<|zM<|zZ) ?_
 refine jB<|jB<|kx [(8,(vb (decide (n<0))))] [] (zM<|zE xO<|zZ) ?_
 refine jH (b:=decide (n<0)) rfl (fun h1=>?_) (fun h1=>?_)
 ·replace h1:=xF h1
  refine kx [(3,(zP n.natAbs))] [] (zM<|zE (zAd (n+1))<|zE (oNg (-(n+1)))<|zE (hC un3 gY ((-n-1).toNat) (hr:=by exact (wu64 (by omega) (by omega) (by omega))))<|zE (vD n.natAbs)<|zM<|zZ) ?_
  refine jB<|kx [(4,(.own 1 74 1 0))] [(1,some (bm jC []))] (zN (oBo 1 kC xW hM)<|zM<|zZ) ?_
  refine jB<|jG<|kU (α:=List Nat × Nat) (fun (o,m)=>⟨[(0,(vi n)),(2,(.ref 0 0)),(3,(zP m)),(4,(.own 1 74 1 o.length))],[(0,some (bx (jM (kO.mk false [])))),(1,some (bm jC o))]⟩) (fun (o,m)=>m<=9223372036854775808/\o++ofNat m=ofNat n.natAbs) (fun (o,m)=>m) ([],n.natAbs) wk ⟨by omega,by rw[List.nil_append]⟩ ?_
  rintro ⟨o,m⟩ ⟨hm,hg⟩
  have hl:=split_len hg (by omega)
  refine jB<|jB<|kx [(16,(vb (decide (0<((m:Nat):Int)))))] [] (zM<|zE mB<|zZ) ?_
  refine jH (b:=decide (0<((m:Nat):Int))) rfl (fun h2=>?_) (fun h2=>?_)
  ·replace h2:=xF h2
   refine jF<|jG<|jB<|kf [(4,(.own 1 74 1 ((o++[(m % 1000000000)]).length)))] [(1,some (bm jC (o++[(m % 1000000000)])))] (zM<|zM<|zE (oRe (m % 1000000000))<|zE (hC cY cA (m % 1000000000))<|zE (dM kC xW hM)<|zA jC o [(m % 1000000000)] rfl kC xW dT<|zM<|zF) ?_
   refine kx [(3,(zP (m / 1000000000)))] [] (zM<|zE (oQu (m / 1000000000))<|zM<|zZ) ?_
   exact ⟨(o++[m % 1000000000],m / 1000000000),wk,⟨by omega,split_step hg h2⟩,(by first|omega|(dsimp only;omega))⟩
  ·replace h2:=xH h2
   have hdo:Dig o:=split_dig hg h2
   have hvo:=split_val hg h2
   refine kK<|jB<|kM (vS (t:=4) (k:=1) (es:=List.map jC o) rfl rfl (uM _ _ (fun _=>rfl)) (uD _ _ rfl) (vE _ _ (fun _=>rfl) rfl)) ?_
   refine kx [] [(0,some (bx (jM (vC (decide (n<0)) (val o)))))] (zM<|zE xO<|zM<|zE (kH (yW (decide (n<0)) o hdo (by omega)))<|zT (qK jX)<|zZ) ?_
   refine jE ⟨_,(kQ (cs:=(bx (jM (vC (decide (n<0)) (val o))))) (d:=(jM (vC (decide (n<0)) (val o)))) rfl rfl jX rfl rfl .nil),?_⟩
   rw[hvo];rfl
 ·replace h1:=xH h1
  rw[show (n % 18446744073709551616).toNat=n.natAbs from by omega]
  refine jF<|jB<|kx [(3,(zP n.natAbs)),(4,(.own 2 74 1 0))] [(2,some (bm jC []))] (zN (oBo 2 kC xW hM)<|zM<|zZ) ?_
  refine jB<|jG<|kU (α:=List Nat × Nat) (fun (o,m)=>⟨[(0,(vi n)),(2,(.ref 0 0)),(3,(zP m)),(4,(.own 2 74 1 o.length))],[(0,some (bx (jM (kO.mk false [])))),(2,some (bm jC o))]⟩) (fun (o,m)=>m<=9223372036854775808/\o++ofNat m=ofNat n.natAbs) (fun (o,m)=>m) ([],n.natAbs) wk ⟨by omega,by rw[List.nil_append]⟩ ?_
  rintro ⟨o,m⟩ ⟨hm,hg⟩
  have hl:=split_len hg (by omega)
  refine jB<|jB<|kx [(16,(vb (decide (0<((m:Nat):Int)))))] [] (zM<|zE mB<|zZ) ?_
  refine jH (b:=decide (0<((m:Nat):Int))) rfl (fun h3=>?_) (fun h3=>?_)
  ·replace h3:=xF h3
   refine jF<|jG<|jB<|kf [(4,(.own 2 74 1 ((o++[(m % 1000000000)]).length)))] [(2,some (bm jC (o++[(m % 1000000000)])))] (zM<|zM<|zE (oRe (m % 1000000000))<|zE (hC cY cA (m % 1000000000))<|zE (dM kC xW hM)<|zA jC o [(m % 1000000000)] rfl kC xW dT<|zM<|zF) ?_
   refine kx [(3,(zP (m / 1000000000)))] [] (zM<|zE (oQu (m / 1000000000))<|zM<|zZ) ?_
   exact ⟨(o++[m % 1000000000],m / 1000000000),wk,⟨by omega,split_step hg h3⟩,(by first|omega|(dsimp only;omega))⟩
  ·replace h3:=xH h3
   have hdo:Dig o:=split_dig hg h3
   have hvo:=split_val hg h3
   refine kK<|jB<|kM (vS (t:=4) (k:=2) (es:=List.map jC o) rfl rfl (uM _ _ (fun _=>rfl)) (uD _ _ rfl) (vE _ _ (fun _=>rfl) rfl)) ?_
   refine kx [] [(0,some (bx (jM (vC (decide (n<0)) (val o)))))] (zM<|zE xO<|zM<|zE (kH (yW (decide (n<0)) o hdo (by omega)))<|zT (qK jX)<|zZ) ?_
   refine jE ⟨_,(kQ (cs:=(bx (jM (vC (decide (n<0)) (val o))))) (d:=(jM (vC (decide (n<0)) (val o)))) rfl rfl jX rfl rfl .nil),?_⟩
   rw[hvo];rfl
theorem r_size(a b:List Nat)(ha:zJ a)(hb:zJ b)(hla:a.length<=35184372088832)(hlb:b.length<=35184372088832):jW Tryz.prog 95 [(.sl 74 1 (List.map jC a)),(.sl 74 1 (List.map jC b))] (.val (.int .i64 ((uI ((val a:Nat):Int) ((val b:Nat):Int))))):=by
 refine uW Tryz.func95 ?_
 refine jB<|kx [] [] (zM<|zZ) ?_
 refine jB<|jB<|kx [(10,(vb (((a.length:Nat):Int) != ((b.length:Nat):Int))))] [] (zM<|zE (zV kC)<|zM<|zE (zV kC)<|zE oNe<|zZ) ?_
 refine jH rfl (fun h1=>?_) (fun h1=>?_)
 ·replace h1:=bne_iff_ne.1 h1
  refine jB<|jB<|kx [(15,(vb (decide (((a.length:Nat):Int)<((b.length:Nat):Int)))))] [] (zM<|zE (zV kC)<|zM<|zE (zV kC)<|zE xO<|zZ) ?_
  refine jH rfl (fun h2=>?_) (fun h2=>?_)
  ·replace h2:=xF h2
   refine jB<|kx [(4,(vi (-1)))] [] (zM<|zZ) ?_
   refine jE ⟨_,(.tmp (d:=(.val (.int .i64 (-1)))) rfl .nil),?_⟩
   rw[<- cmpI_len ha hb h1];unfold uI;rw[if_pos (by omega)];rfl
  ·replace h2:=xH h2
   refine jF<|jB<|kx [(4,(jS 1))] [] (zM<|zZ) ?_
   refine jE ⟨_,(.tmp (d:=(.val (.int .i64 (1)))) rfl .nil),?_⟩
   rw[<- cmpI_len ha hb h1,eT (by omega)];rfl
 ·replace h1:=bne_eq_false_iff_eq.1 h1
  have hl:a.length=b.length:=by omega
  refine jF<|jB<|jB<|kx [(5,(vi (((a.length:Nat):Int)-1)))] [] (zM<|zE (zV kC)<|zE (zSb (((a.length:Nat):Int)-1))<|zM<|zZ) ?_
  refine jG<|kU (α:=Nat) (fun k=>⟨[(0,(vl 74 1 jC a)),(1,(vl 74 1 jC b)),(5,(vi (((k:Nat):Int)-1)))],[]⟩) (fun k=>k<=a.length/\val (a.drop k)=val (b.drop k)) (fun k=>k) a.length wk ⟨Nat.le_refl _,by rw[List.drop_length,hl,List.drop_length]⟩ ?_
  rintro k ⟨hk,he⟩
  refine jB<|jB<|kx [(20,(vb (decide (0<=(((k:Nat):Int)-1)))))] [] (zM<|zE oGe<|zZ) ?_
  refine jH (b:=decide (0<=(((k:Nat):Int)-1))) rfl (fun h3=>?_) (fun h3=>?_)
  ·replace h3:=xF h3
   obtain ⟨i,rfl⟩:∃ i,k=i+1:=⟨k-1,by omega⟩
   rw[show (((i+1:Nat):Int)-1)=((i:Nat):Int) from by omega]
   have ht:=cmpI_top ha.1 hb.1 hl (j:=a.length-1-i) (by omega) (by rw[show a.length-(a.length-1-i)=i+1 by omega];exact he)
   rw[show a.length-1-(a.length-1-i)=i by omega] at ht
   refine jF<|jB<|jG<|jB<|jB<|kd [(5,(jS i)),(31,(vb (decide ((((a.getD i 0):Nat):Int)<(((b.getD i 0):Nat):Int)))))] [] mo (wM<|wM<|wE (dS kC i (0:Nat))<|wE (gJ uK)<|wM<|wM<|wE (dS kC i (0:Nat))<|wE (gJ uK)<|wE xO<|wZ) ?_
   refine jH rfl (fun h4=>?_) (fun h4=>?_)
   ·replace h4:=xF h4
    refine jB<|kx [(4,(vi (-1)))] [] (zM<|zZ) ?_
    refine jE ⟨_,(.tmp (d:=(.val (.int .i64 (-1)))) rfl .nil),?_⟩
    rw[<- ht (by omega)];unfold uI;rw[if_pos (by omega)];rfl
   ·replace h4:=xH h4
    refine jF<|jB<|kd [(40,(vb (decide ((((b.getD i 0):Nat):Int)<(((a.getD i 0):Nat):Int)))))] [] mo (wM<|wM<|wE (dS kC i (0:Nat))<|wE (gJ uK)<|wM<|wM<|wE (dS kC i (0:Nat))<|wE (gJ uK)<|wE mB<|wZ) ?_
    refine jH rfl (fun h5=>?_) (fun h5=>?_)
    ·replace h5:=xF h5
     refine jB<|kx [(4,(jS 1))] [] (zM<|zZ) ?_
     refine jE ⟨_,(.tmp (d:=(.val (.int .i64 (1)))) rfl .nil),?_⟩
     rw[<- ht (by omega),eT (by omega)];rfl
    ·replace h5:=xH h5
     refine jF<|kx [(5,(vi (((i:Nat):Int)-1)))] [] (zM<|zE (zSb (((i:Nat):Int)-1))<|zM<|zZ) ?_
     exact ⟨i,wk,⟨by omega,by rw[vM a i,vM b i,he];omega⟩,(by first|omega|(dsimp only;omega))⟩
  ·replace h3:=xH h3
   obtain rfl:k=0:=by omega
   rw[List.drop_zero,List.drop_zero] at he
   refine kK<|jB<|kx [(4,(jS 0))] [] (zM<|zZ) ?_
   refine jE ⟨_,(.tmp (d:=(.val (.int .i64 (0)))) rfl .nil),?_⟩
   rw[cmpI_same he];rfl
theorem r_plus(a b:List Nat)(hda:Dig a)(hdb:Dig b)(hla:a.length<=35184372087824)(hlb:b.length<=35184372087824):jW Tryz.prog 94 [(.sl 74 1 (List.map jC a)),(.sl 74 1 (List.map jC b))] (.sl 74 1 (List.map jC (ofNat (val a+val b)))):=by
 refine uW Tryz.func94 ?_
 refine jB<|kx [] [] (zE (oNl 74 1)<|zZ) ?_
 refine jB<|kx [(5,(.own 0 74 1 0))] [(0,some (bm jC []))] (zN (oBo 0 kC xW hM)<|zM<|zZ) ?_
 refine jB<|kx [(6,(zP 0))] [] (zM<|zZ) ?_
 refine jB<|jB<|kx [(7,(jS 0))] [] (zM<|zZ) ?_
 refine jG<|kU (α:=Nat × List Nat × Nat) (fun (i,o,c)=>⟨[(0,(vl 74 1 jC a)),(1,(vl 74 1 jC b)),(5,(.own 0 74 1 o.length)),(6,(zP c)),(7,(jS i))],[(0,some (bm jC o))]⟩) (fun (i,o,c)=>o.length=i/\Dig o/\i<=max a.length b.length/\c<=1/\val o+pw i*c=val (a.take i)+val (b.take i)) (fun (i,o,c)=>max a.length b.length-i) (0,[],0) wk ⟨rfl,yA,Nat.zero_le _,Nat.zero_le _,by simp [val]⟩ ?_
 rintro ⟨i,o,c⟩ ⟨hl,hd,hi,hc,hv⟩
 have hai:=hda.getD i
 have hbi:=hdb.getD i
 refine jB<|jB<|kx [(19,(vb (decide (((i:Nat):Int)<((a.length:Nat):Int))||decide (((i:Nat):Int)<((b.length:Nat):Int)))))] [] ?_ ?_
 ·refine zM<|zM<|zE (zV kC)<|zE xO<|zE (oV (vb (decide (((i:Nat):Int)<((a.length:Nat):Int)))) (qF (by kernel_rfl)))<|?_
  rcases hb1:(decide (((i:Nat):Int)<((a.length:Nat):Int))) with _ | _
  ·replace hb1:=xH hb1
   exact zM<|zM<|zE (zV kC)<|zE xO<|zE aG<|zZ
  ·replace hb1:=xF hb1
   exact zK<|zK<|zK<|zK<|zE yT<|zZ
 refine jH rfl (fun h2=>?_) (fun h2=>?_)
 ·rw[Bool.or_eq_true,decide_eq_true_eq,decide_eq_true_eq] at h2
  refine jF<|jB<|jG<|jB<|kx [(8,(zP (((a.getD i 0)+(b.getD i 0))+c)))] [] (zM<|zM<|zE (kH (eS a i (by first | assumption | exact kB _ | exact (kX _).1 | exact (qA _).1)))<|zM<|zM<|zE (kH (eS b i (by first | assumption | exact kB _ | exact (kX _).1 | exact (qA _).1)))<|zE (vD ((a.getD i 0)+(b.getD i 0)))<|zM<|zE (vD (((a.getD i 0)+(b.getD i 0))+c))<|zM<|zZ) ?_
  refine jB<|kf [(5,(.own 0 74 1 ((o++[((((a.getD i 0)+(b.getD i 0))+c) % 1000000000)]).length)))] [(0,some (bm jC (o++[((((a.getD i 0)+(b.getD i 0))+c) % 1000000000)])))] (zM<|zM<|zE (oRe ((((a.getD i 0)+(b.getD i 0))+c) % 1000000000))<|zE (hC cY cA ((((a.getD i 0)+(b.getD i 0))+c) % 1000000000))<|zE (dM kC xW hM)<|zA jC o [((((a.getD i 0)+(b.getD i 0))+c) % 1000000000)] rfl kC xW dT<|zM<|zF) ?_
  refine kx [(6,(zP ((((a.getD i 0)+(b.getD i 0))+c) / 1000000000)))] [] (zM<|zE (oQu ((((a.getD i 0)+(b.getD i 0))+c) / 1000000000))<|zM<|zZ) ?_
  refine kx [(7,(jS (i+1)))] [] (zM<|zE (vD (i+1))<|zM<|zZ) ?_
  exact ⟨(i+1,o++[(a.getD i 0+b.getD i 0+c) % 1000000000],(a.getD i 0+b.getD i 0+c) / 1000000000),wk,⟨by simp [hl],dig_push hd (Nat.mod_lt _ (by decide)),by omega,by omega,rplus_step hl hv rfl⟩,(by first|omega|(dsimp only;omega))⟩
 ·rw[Bool.or_eq_false_iff,decide_eq_false_iff_not,decide_eq_false_iff_not] at h2
  rw[take_all (by omega),take_all (by omega)] at hv
  have hp:=val_push (c:=c) hl
  refine kK<|jB<|kf [(4,(vl 74 1 jC (ofNat (val (o++[c]))))),(5,.junk)] [(0,none)] (zM<|zM<|zE (hC cY cA c)<|zE (dM kC xW hM)<|zAQ jC o [c] rfl kC xW dT<|zE (kH (yW false (o++[c]) (dig_push hd (by omega)) (by simp only[List.length_append,List.length_cons,List.length_nil];omega)))<|zE (oF1 fE vZ)<|zM<|zF) ?_
  refine jE ⟨_,(.tmp (d:=(.sl 74 1 (List.map jC (ofNat (val (o++[c])))))) rfl .nil),?_⟩
  rw[hp,hv];rfl
theorem r_minus(a b:List Nat)(hda:Dig a)(hdb:Dig b)(hba:val b<=val a)(hla:a.length<=35184372087824):jW Tryz.prog 96 [(.sl 74 1 (List.map jC a)),(.sl 74 1 (List.map jC b))] (.sl 74 1 (List.map jC (ofNat (val a-val b)))):=by
 refine uW Tryz.func96 ?_
 refine jB<|kx [] [] (zE (oNl 74 1)<|zZ) ?_
 refine jB<|kx [(5,(.own 0 74 1 0))] [(0,some (bm jC []))] (zN (oBo 0 kC xW hM)<|zM<|zZ) ?_
 refine jB<|kx [(6,(zP 0))] [] (zM<|zZ) ?_
 refine jB<|jB<|kx [(7,(jS 0))] [] (zM<|zZ) ?_
 refine jG<|kU (α:=Nat × List Nat × Nat) (fun (i,o,c)=>⟨[(0,(vl 74 1 jC a)),(1,(vl 74 1 jC b)),(5,(.own 0 74 1 o.length)),(6,(zP c)),(7,(jS i))],[(0,some (bm jC o))]⟩) (fun (i,o,c)=>o.length=i/\Dig o/\i<=a.length/\c<=1/\val o+val (b.take i)=val (a.take i)+pw i*c) (fun (i,o,c)=>a.length-i) (0,[],0) wk ⟨rfl,yA,Nat.zero_le _,Nat.zero_le _,by simp [val]⟩ ?_
 rintro ⟨i,o,c⟩ ⟨hl,hd,hi,hc,hv⟩
 have hai:=hda.getD i
 have hbi:=hdb.getD i
 refine jB<|jB<|kx [(13,(vb (decide (((i:Nat):Int)<((a.length:Nat):Int)))))] [] (zM<|zM<|zE (zV kC)<|zE xO<|zZ) ?_
 refine jH rfl (fun h1=>?_) (fun h1=>?_)
 ·replace h1:=xF h1
  refine jF<|jB<|jG<|jB<|kx [(8,(zP (((1000000000+(a.getD i 0))-(b.getD i 0))-c)))] [] (zM<|zM<|zE (kH (eS a i (by first | assumption | exact kB _ | exact (kX _).1 | exact (qA _).1)))<|zE (vD (1000000000+(a.getD i 0)))<|zM<|zM<|zE (kH (eS b i (by first | assumption | exact kB _ | exact (kX _).1 | exact (qA _).1)))<|zE (oSb ((1000000000+(a.getD i 0))-(b.getD i 0)))<|zM<|zE (oSb (((1000000000+(a.getD i 0))-(b.getD i 0))-c))<|zM<|zZ) ?_
  refine jB<|kf [(5,(.own 0 74 1 ((o++[((((1000000000+(a.getD i 0))-(b.getD i 0))-c) % 1000000000)]).length)))] [(0,some (bm jC (o++[((((1000000000+(a.getD i 0))-(b.getD i 0))-c) % 1000000000)])))] (zM<|zM<|zE (oRe ((((1000000000+(a.getD i 0))-(b.getD i 0))-c) % 1000000000))<|zE (hC cY cA ((((1000000000+(a.getD i 0))-(b.getD i 0))-c) % 1000000000))<|zE (dM kC xW hM)<|zA jC o [((((1000000000+(a.getD i 0))-(b.getD i 0))-c) % 1000000000)] rfl kC xW dT<|zM<|zF) ?_
  refine kx [(6,(zP (1-((((1000000000+(a.getD i 0))-(b.getD i 0))-c) / 1000000000))))] [] (zM<|zE (oQu ((((1000000000+(a.getD i 0))-(b.getD i 0))-c) / 1000000000))<|zE (oSb (1-((((1000000000+(a.getD i 0))-(b.getD i 0))-c) / 1000000000)))<|zM<|zZ) ?_
  refine kx [(7,(jS (i+1)))] [] (zM<|zE (vD (i+1))<|zM<|zZ) ?_
  exact ⟨(i+1,o++[(1000000000+a.getD i 0-b.getD i 0-c) % 1000000000],1-(1000000000+a.getD i 0-b.getD i 0-c) / 1000000000),wk,⟨by simp [hl],dig_push hd (Nat.mod_lt _ (by decide)),by omega,by omega,rminus_step hl hv (by omega) (by omega)⟩,(by first|omega|(dsimp only;omega))⟩
 ·replace h1:=xH h1
  have hie:i=a.length:=by omega
  refine kK<|jB<|kM (vS (t:=5) (k:=0) (es:=List.map jC o) rfl rfl (uM _ _ (fun _=>rfl)) (uD _ _ rfl) (vE _ _ (fun _=>rfl) rfl)) ?_
  refine kx [(4,(vl 74 1 jC (ofNat (val o))))] [] (zM<|zE (kH (yW false o hd (by omega)))<|zE (oF1 fE vZ)<|zM<|zZ) ?_
  refine jE ⟨_,(.tmp (d:=(.sl 74 1 (List.map jC (ofNat (val o))))) rfl .nil),?_⟩
  rw[rminus_end hda hdb hd hie hl hba hv];rfl
theorem r_scaled(a:List Nat)(d:Nat)(hda:Dig a)(hd1:d<=1000000000)(hla:a.length<=35184372087824):jW Tryz.prog 108 [(.sl 74 1 (List.map jC a)),(.val (.int .u64 (((d:Nat):Int))))] (.sl 74 1 (List.map jC (ofNat (val a*d)))):=by
 refine uW Tryz.func108 ?_
 refine jB<|kx [] [] (zE (oNl 74 1)<|zZ) ?_
 refine jB<|kx [(5,(.own 0 74 1 0))] [(0,some (bm jC []))] (zN (oBo 0 kC xW hM)<|zM<|zZ) ?_
 refine jB<|kx [(6,(zP 0))] [] (zM<|zZ) ?_
 refine jB<|jB<|kx [(7,(jS 0))] [] (zM<|zZ) ?_
 refine jG<|kU (α:=Nat × List Nat × Nat) (fun (i,o,c)=>⟨[(0,(vl 74 1 jC a)),(1,(zP d)),(5,(.own 0 74 1 o.length)),(6,(zP c)),(7,(jS i))],[(0,some (bm jC o))]⟩) (fun (i,o,c)=>o.length=i/\Dig o/\i<=a.length/\c<=999999999/\val o+pw i*c=val (a.take i)*d) (fun (i,o,c)=>a.length-i) (0,[],0) wk ⟨rfl,yA,Nat.zero_le _,Nat.zero_le _,by simp [val]⟩ ?_
 rintro ⟨i,o,c⟩ ⟨hl,hd,hi,hc,hv⟩
 have hai:=hda.getD i
 have hpq:a.getD i 0*d<=999999999*1000000000:=Nat.mul_le_mul (by omega) hd1
 refine jB<|jB<|kx [(13,(vb (decide (((i:Nat):Int)<((a.length:Nat):Int)))))] [] (zM<|zM<|zE (zV kC)<|zE xO<|zZ) ?_
 refine jH rfl (fun h1=>?_) (fun h1=>?_)
 ·replace h1:=xF h1
  refine jF<|jB<|jG<|jB<|kx [(8,(zP (((a.getD i 0)*d)+c)))] [] (zM<|zM<|zE (dS kC i (0:Nat))<|zE (gJ uK)<|zE (hC gZ gY (a.getD i 0))<|zM<|zE (oMl ((a.getD i 0)*d))<|zM<|zE (vD (((a.getD i 0)*d)+c))<|zM<|zZ) ?_
  refine jB<|kf [(5,(.own 0 74 1 ((o++[((((a.getD i 0)*d)+c) % 1000000000)]).length)))] [(0,some (bm jC (o++[((((a.getD i 0)*d)+c) % 1000000000)])))] (zM<|zM<|zE (oRe ((((a.getD i 0)*d)+c) % 1000000000))<|zE (hC cY cA ((((a.getD i 0)*d)+c) % 1000000000))<|zE (dM kC xW hM)<|zA jC o [((((a.getD i 0)*d)+c) % 1000000000)] rfl kC xW dT<|zM<|zF) ?_
  refine kx [(6,(zP ((((a.getD i 0)*d)+c) / 1000000000)))] [] (zM<|zE (oQu ((((a.getD i 0)*d)+c) / 1000000000))<|zM<|zZ) ?_
  refine kx [(7,(jS (i+1)))] [] (zM<|zE (vD (i+1))<|zM<|zZ) ?_
  exact ⟨(i+1,o++[(a.getD i 0*d+c) % 1000000000],(a.getD i 0*d+c) / 1000000000),wk,⟨by simp [hl],dig_push hd (Nat.mod_lt _ (by decide)),by omega,by omega,rscaled_step hl hv rfl⟩,(by first|omega|(dsimp only;omega))⟩
 ·replace h1:=xH h1
  have hie:i=a.length:=by omega
  rw[take_all (by omega)] at hv
  have hp:=val_push (c:=c) hl
  refine kK<|jB<|kf [(4,(vl 74 1 jC (ofNat (val (o++[c]))))),(5,.junk)] [(0,none)] (zM<|zM<|zE (hC cY cA c)<|zE (dM kC xW hM)<|zAQ jC o [c] rfl kC xW dT<|zE (kH (yW false (o++[c]) (dig_push hd (by omega)) (by simp only[List.length_append,List.length_cons,List.length_nil];omega)))<|zE (oF1 fE vZ)<|zM<|zF) ?_
  refine jE ⟨_,(.tmp (d:=(.sl 74 1 (List.map jC (ofNat (val (o++[c])))))) rfl .nil),?_⟩
  rw[hp,hv];rfl
theorem r_shifted(a:List Nat)(d:Nat)(hda:Dig a)(hd1:d<1000000000)(hla:a.length<=35184372087824):jW Tryz.prog 109 [(.sl 74 1 (List.map jC a)),(.val (.int .u32 (((d:Nat):Int))))] (.sl 74 1 (List.map jC (ofNat (d+1000000000*val a)))):=by
 refine uW Tryz.func109 ?_
 refine jB<|kx [] [] (zE (oNl 74 1)<|zZ) ?_
 refine jB<|kf [(4,(vl 74 1 jC (ofNat (val ([d]++a)))))] [(0,none)] (zM<|zN (oBo 0 kC xW hM)<|zM<|zAQ jC [d] a rfl kC xW dT<|zE (kH (yW false ([d]++a) (bB.2 ⟨xS.2 ⟨hd1,yA⟩,hda⟩) (by simp only[List.length_append,List.length_cons,List.length_nil];omega)))<|zE (oF1 fE vZ)<|zM<|zF) ?_
 refine jE ⟨_,(.tmp (d:=(.sl 74 1 (List.map jC (ofNat (val ([d]++a)))))) rfl .nil),?_⟩
 rfl
end Go.Proofs.YtciingpdmjepgabGreatDoor
