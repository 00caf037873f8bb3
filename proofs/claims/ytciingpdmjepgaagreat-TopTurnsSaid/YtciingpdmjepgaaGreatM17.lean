/- Part 17 of a proof: rules, plain facts, and functions walked. -/
import Derived.Test.YtciingpdmjepgaaGreatM16
set_option linter.all false
set_option maxRecDepth 4000
namespace Go.Proofs.YtciingpdmjepgaaGreat
open Go.Fid
theorem fP:aP Tryz.prog 49 1=some (1,47):=by kernel_rfl
theorem eW(l:List Nat)(i:Nat)(hd:Dig l):jU Tryz.prog 114 [(.sl 135 1 (List.map jC l)),(.val (.int .i64 (((i:Nat):Int))))] (.val (.int .u64 ((((l.getD i 0):Nat):Int)))):=by
 have hg:=hd.getD i
 refine vD Tryz.func114 ?_
 refine jA<|kx [] [] (zM<|zZ) ?_
 refine jA<|jA<|kx [(8,(vb (decide (((i:Nat):Int)<((l.length:Nat):Int)))))] [] (zM<|zM<|zE (vV kE)<|zE uT<|zZ) ?_
 refine jF rfl (fun h1=>?_) (fun h1=>?_)
 ·replace h1:=uY h1
  refine jA<|kx [(4,(yH (l.getD i 0)))] [] (zM<|zM<|zE (nA kE i (0:Nat))<|zE (mV qM)<|zE (nR xW xM (l.getD i 0))<|zM<|zZ) ?_
  refine jG ⟨_,(.tmp (d:=(.val (.int .u64 ((((l.getD i 0):Nat):Int))))) rfl .nil),?_⟩
  rfl
 ·replace h1:=uZ h1
  refine jD<|jA<|kx [(4,(yH 0))] [] (zM<|zZ) ?_
  refine jG ⟨_,(.tmp (d:=(.val (.int .u64 (0)))) rfl .nil),?_⟩
  rw[show l.getD i 0=0 from getD_out (by omega)];rfl
theorem nE(neg:Bool)(l:List Nat)(hd:Dig l)(hb:l.length<=17592186044416):jU Tryz.prog 93 [(.val (.bool (neg))),(.sl 135 1 (List.map jC l))] (jL (xV neg (val l))):=by
 refine vD Tryz.func93 ?_
 refine jA<|kx [(4,(.ref 0 0))] [(0,some (bx (jL (kR.mk false []))))] (zN (vL 0 vY vZ)<|zZ) ?_
 refine jA<|kx [(5,(jN l.length))] [] (zM<|zE (vV kE)<|zM<|zZ) ?_
 refine jA<|jH<|kF (α:=Nat) (fun k=>⟨[(0,(vb neg)),(1,(vl 135 1 jC l)),(4,(.ref 0 0)),(5,(jN k))],[(0,some (bx (jL (kR.mk false []))))]⟩) (fun k=>k<=l.length/\val (l.take k)=val l) (fun k=>k) l.length wk ⟨Nat.le_refl _,by rw[List.take_length]⟩ ?_
 rintro k ⟨hk,hv⟩
 refine jA<|jA<|kx [(17,(vb (decide (0<((k:Nat):Int))&&((((l.getD (k-1) 0):Nat):Int) == 0))))] [] ?_ ?_
 ·refine zM<|zE cC<|zE (oV (vb (decide (0<((k:Nat):Int)))) (kA (by kernel_rfl)))<|?_
  rcases hb1:(decide (0<((k:Nat):Int))) with _ | _
  ·replace hb1:=uZ hb1
   exact zK<|zK<|zK<|zK<|zK<|zK<|zE mJ<|zZ
  ·replace hb1:=uY hb1
   exact zM<|zM<|zE (oSb (k-1))<|zE (nA kE (k-1) (0:Nat))<|zE (mV qM)<|zE zW<|zE aC<|zZ
 refine jF rfl (fun h2=>?_) (fun h2=>?_)
 ·have hm:=r_made_step hk hv h2
  have hm0:=hm.1
  refine jD<|jH<|kx [(5,(jN (k-1)))] [] (zM<|zE (oSb (k-1))<|zM<|zZ) ?_
  exact ⟨(k-1),wk,⟨by omega,hm.2⟩,(by first|omega|(dsimp only;omega))⟩
 ·refine jS<|jA<|kx [] [(0,some (bx (jL (kR.mk (neg&&decide (0<((k:Nat):Int))) (List.take k l)))))] ?_ ?_
  ·refine zM<|zE (oV (vb neg) (kA (by kernel_rfl)))<|?_
   rcases hb3:neg with _ | _
   ·exact zK<|zK<|zE mJ<|zE (oBe kE)<|zM<|zM<|zE (e_slc (l:=0) (h:=k) (kl:=.i64) (kh:=.i64) (es':=List.map jC (List.take k l)) (by exact rfl) kE (by exact rfl) (by exact rfl) (by exact rfl) (Nat.zero_le _) (by simp only[List.length_map];omega) (by rw[List.drop_zero,List.map_take]))<|zE (e_appe (by exact rfl) kE uW (by kernel_rfl) nC (by exact rfl) (by exact rfl) (by simp only[List.length_map,List.length_take,List.length_drop,List.length_append,List.length_cons,List.length_nil,maxLen];omega) (by simp only[List.length_map,List.length_take,List.length_drop,List.length_append,List.length_cons,List.length_nil];omega))<|zE (oBd pl49 vY vZ)<|zT (qO jP)<|zZ
   ·exact zM<|zE cC<|zE aC<|zE (oBe kE)<|zM<|zM<|zE (e_slc (l:=0) (h:=k) (kl:=.i64) (kh:=.i64) (es':=List.map jC (List.take k l)) (by exact rfl) kE (by exact rfl) (by exact rfl) (by exact rfl) (Nat.zero_le _) (by simp only[List.length_map];omega) (by rw[List.drop_zero,List.map_take]))<|zE (e_appe (by exact rfl) kE uW (by kernel_rfl) nC (by exact rfl) (by exact rfl) (by simp only[List.length_map,List.length_take,List.length_drop,List.length_append,List.length_cons,List.length_nil,maxLen];omega) (by simp only[List.length_map,List.length_take,List.length_drop,List.length_append,List.length_cons,List.length_nil];omega))<|zE (oBd pl49 vY vZ)<|zT (qO jP)<|zZ
  refine jG ⟨_,(qK (cs:=(bx (jL (kR.mk (neg&&decide (0<((k:Nat):Int))) (List.take k l))))) (d:=(jL (kR.mk (neg&&decide (0<((k:Nat):Int))) (List.take k l)))) rfl rfl jP rfl rfl .nil),?_⟩
  rw[r_made_end hd hk hv h2];rfl
theorem r_valid(x:kR)(hb:x.gs.length<=17592186044416):jU Tryz.prog 75 [(jL x)] (.val (.bool ((qS x)))):=by
 refine vD Tryz.func75 ?_
 refine jA<|kx [(1,(.ref 0 0))] [(0,some (bx (jL x)))] (zN (yB 0)<|zM<|zZ) ?_
 refine jA<|kx [(3,(jN x.gs.length))] [] (zE (jY gN)<|zR (jZ gM)<|zE (vV kE)<|zM<|zZ) ?_
 refine jA<|jA<|kx [(4,(jN 0))] [] (zM<|zZ) ?_
 refine jH<|kF (α:=Nat) (fun i=>⟨[(1,(.ref 0 0)),(3,(jN x.gs.length)),(4,(jN i))],[(0,some (bx (jL x)))]⟩) (fun i=>i<=x.gs.length/\Dig (x.gs.take i)) (fun i=>x.gs.length-i) 0 wk ⟨Nat.zero_le _,by rw[List.take_zero];exact yF⟩ ?_
 rintro i ⟨hi,hd⟩
 refine jA<|jA<|kx [(10,(vb (decide (((i:Nat):Int)<((x.gs.length:Nat):Int)))))] [] (zM<|zM<|zE uT<|zZ) ?_
 refine jF rfl (fun h1=>?_) (fun h1=>?_)
 ·replace h1:=uY h1
  refine jD<|jA<|jH<|jA<|kx [(18,(vb (decide (1000000000<=(((x.gs.getD i 0):Nat):Int)))))] [] (zE (jY gN)<|zR (jZ gM)<|zM<|zE (nA kE i (0:Nat))<|zE (mV qM)<|zE oGe<|zZ) ?_
  refine jF rfl (fun h2=>?_) (fun h2=>?_)
  ·replace h2:=uY h2
   refine jA<|kx [(2,(vb false))] [] (zM<|zZ) ?_
   refine jG ⟨_,(.tmp (d:=(.val (.bool (false)))) rfl .nil),?_⟩
   rw[validI_big (i:=i) (by omega) (by omega)];rfl
  ·replace h2:=uZ h2
   refine jD<|kx [(4,(jN (i+1)))] [] (zM<|zE (uL (i+1))<|zM<|zZ) ?_
   exact ⟨(i+1),wk,⟨by omega,dig_take_succ (by omega) hd (by omega)⟩,(by first|omega|(dsimp only;omega))⟩
 ·replace h1:=uZ h1
  have hie:i=x.gs.length:=by omega
  rw[hie,List.take_length] at hd
  refine jS<|jA<|jA<|kx [(20,(vb (((x.gs.length:Nat):Int) == 0)))] [] (zM<|zE zW<|zZ) ?_
  refine jF (b:=(((x.gs.length:Nat):Int) == 0)) rfl (fun h3=>?_) (fun h3=>?_)
  ·replace h3:=eq_of_beq h3
   refine jA<|kx [(2,(vb (!x.neg)))] [] (zE (jY vT)<|zR (jZ aH)<|zE eU<|zM<|zZ) ?_
   refine jG ⟨_,(.tmp (d:=(.val (.bool (!x.neg)))) rfl .nil),?_⟩
   rw[validI_nil (by omega)];rfl
  ·replace h3:=ne_of_beq_false h3
   refine jD<|jA<|kx [(2,(vb ((((x.gs.getD (x.gs.length-1) 0):Nat):Int) != 0)))] [] (zE (jY gN)<|zR (jZ gM)<|zM<|zE (oSb (x.gs.length-1))<|zE (nA kE (x.gs.length-1) (0:Nat))<|zE (mV qM)<|zE xX<|zM<|zZ) ?_
   refine jG ⟨_,(.tmp (d:=(.val (.bool (((((x.gs.getD (x.gs.length-1) 0):Nat):Int) != 0))))) rfl .nil),?_⟩
   rw[validI_dig hd (by omega)];rfl
theorem r_value(x:kR)(hb:x.gs.length<=17592186044416):jU Tryz.prog 49 [(jL x)] (jL (kG (qB x))):=by
 refine vD Tryz.func49 ?_
 refine jA<|kx [(1,(.ref 0 0)),(2,(.ref 1 0))] [(0,some (bx (jL x))),(1,some (bx (jL (kR.mk false []))))] (zN (yB 0)<|zN (vL 1 vY vZ)<|zZ) ?_
 refine jA<|jA<|kx [(5,(vb (!(qS x))))] [] (zR (qE jP)<|zE (kD (r_valid x (by omega)))<|zE eU<|zZ) ?_
 refine jF (b:=!(qS x)) rfl (fun h1=>?_) (fun h1=>?_)
 ·refine jA<|kx [] [(1,some (bx (jL (kR.mk false []))))] (zE (oBd pl49 vY vZ)<|zT (qO jP)<|zZ) ?_
  refine jG ⟨_,(qK (cs:=(bx (jL (kR.mk false [])))) (d:=(jL (kR.mk false []))) rfl rfl jP rfl rfl .nil),?_⟩
  rw[toZ_bad (by rw[Bool.not_eq_true'] at h1;exact h1),ofZ_zero];rfl
 ·refine jD<|jA<|kd [] [(1,some (bx (jL (kR.mk x.neg x.gs))))] mo (wE (jY vT)<|wR (jZ aH)<|wE (oBe kE)<|wE (jY gN)<|wR (jZ gM)<|wE (e_appe (by exact rfl) kE uW (by kernel_rfl) nC (by exact rfl) (by exact rfl) (by simp only[List.length_map,List.length_take,List.length_drop,List.length_append,List.length_cons,List.length_nil,maxLen];omega) (by simp only[List.length_map,List.length_take,List.length_drop,List.length_append,List.length_cons,List.length_nil];omega))<|wE (oBd pl49 vY vZ)<|wT (qO jP)<|wZ) ?_
  refine jG ⟨_,(qK (cs:=(bx (jL (kR.mk x.neg x.gs)))) (d:=(jL (kR.mk x.neg x.gs))) rfl rfl jP rfl rfl .nil),?_⟩
  rw[ofZ_toZ (by simpa using h1)];rfl
theorem r_of(n:Int)(hlo:-9223372036854775808<=n)(hhi:n<=9223372036854775807):jU Tryz.prog 95 [(.val (.int .i64 (n)))] (jL (kG n)):=by
 refine vD Tryz.func95 ?_
 refine jA<|kx [(2,(.ref 0 0))] [(0,some (bx (jL (kR.mk false []))))] (zN (vL 0 vY vZ)<|zZ) ?_
 refine jA<|kx [(3,(yH ((n % 18446744073709551616).toNat)))] [] (zM<|zE (nR un3 xM ((n % 18446744073709551616).toNat) (hr:=by exact (conv_u64 _)))<|zM<|zZ) ?_
 refine jA<|jA<|kx [(8,(vb (decide (n<0))))] [] (zM<|zE uT<|zZ) ?_
 refine jF (b:=decide (n<0)) rfl (fun h1=>?_) (fun h1=>?_)
 ·replace h1:=uY h1
  refine kx [(3,(yH n.natAbs))] [] (zM<|zE (zAd (n+1))<|zE (oNg (-(n+1)))<|zE (nR un3 xM ((-n-1).toNat) (hr:=by exact (wu64 (by omega) (by omega) (by omega))))<|zE (uL n.natAbs)<|zM<|zZ) ?_
  refine jA<|kx [(4,(.own 1 135 1 0))] [(1,some (bm jC []))] (zN (oBo 1 kE uW xY)<|zM<|zZ) ?_
  refine jA<|jH<|kF (α:=List Nat × Nat) (fun (o,m)=>⟨[(0,(vi n)),(2,(.ref 0 0)),(3,(yH m)),(4,(.own 1 135 1 o.length))],[(0,some (bx (jL (kR.mk false [])))),(1,some (bm jC o))]⟩) (fun (o,m)=>m<=9223372036854775808/\o++ofNat m=ofNat n.natAbs) (fun (o,m)=>m) ([],n.natAbs) wk ⟨by omega,by rw[List.nil_append]⟩ ?_
  rintro ⟨o,m⟩ ⟨hm,hg⟩
  have hl:=split_len hg (by omega)
  refine jA<|jA<|kx [(16,(vb (decide (0<((m:Nat):Int)))))] [] (zM<|zE cC<|zZ) ?_
  refine jF (b:=decide (0<((m:Nat):Int))) rfl (fun h2=>?_) (fun h2=>?_)
  ·replace h2:=uY h2
   refine jD<|jH<|jA<|kf [(4,(.own 1 135 1 ((o++[(m % 1000000000)]).length)))] [(1,some (bm jC (o++[(m % 1000000000)])))] (zM<|zM<|zE (oRe (m % 1000000000))<|zE (nR yS yT (m % 1000000000))<|zE (eG kE uW xY)<|zA jC o [(m % 1000000000)] rfl kE uW nC<|zM<|zF) ?_
   refine kx [(3,(yH (m / 1000000000)))] [] (zM<|zE (oQu (m / 1000000000))<|zM<|zZ) ?_
   exact ⟨(o++[m % 1000000000],m / 1000000000),wk,⟨by omega,split_step hg h2⟩,(by first|omega|(dsimp only;omega))⟩
  ·replace h2:=uZ h2
   have hdo:Dig o:=split_dig hg h2
   have hvo:=split_val hg h2
   refine jS<|jA<|kU (xR (t:=4) (k:=1) (es:=List.map jC o) rfl rfl (vP _ _ (fun _=>rfl)) (vN _ _ rfl) (xO _ _ (fun _=>rfl) rfl)) ?_
   refine kx [] [(0,some (bx (jL (xV (decide (n<0)) (val o)))))] (zM<|zE uT<|zM<|zE (kD (nE (decide (n<0)) o hdo (by omega)))<|zT (qO jP)<|zZ) ?_
   refine jG ⟨_,(qK (cs:=(bx (jL (xV (decide (n<0)) (val o))))) (d:=(jL (xV (decide (n<0)) (val o)))) rfl rfl jP rfl rfl .nil),?_⟩
   rw[hvo];rfl
 ·replace h1:=uZ h1
  rw[show (n % 18446744073709551616).toNat=n.natAbs from by omega]
  refine jD<|jA<|kx [(3,(yH n.natAbs)),(4,(.own 2 135 1 0))] [(2,some (bm jC []))] (zN (oBo 2 kE uW xY)<|zM<|zZ) ?_
  refine jA<|jH<|kF (α:=List Nat × Nat) (fun (o,m)=>⟨[(0,(vi n)),(2,(.ref 0 0)),(3,(yH m)),(4,(.own 2 135 1 o.length))],[(0,some (bx (jL (kR.mk false [])))),(2,some (bm jC o))]⟩) (fun (o,m)=>m<=9223372036854775808/\o++ofNat m=ofNat n.natAbs) (fun (o,m)=>m) ([],n.natAbs) wk ⟨by omega,by rw[List.nil_append]⟩ ?_
  rintro ⟨o,m⟩ ⟨hm,hg⟩
  have hl:=split_len hg (by omega)
  refine jA<|jA<|kx [(16,(vb (decide (0<((m:Nat):Int)))))] [] (zM<|zE cC<|zZ) ?_
  refine jF (b:=decide (0<((m:Nat):Int))) rfl (fun h3=>?_) (fun h3=>?_)
  ·replace h3:=uY h3
   refine jD<|jH<|jA<|kf [(4,(.own 2 135 1 ((o++[(m % 1000000000)]).length)))] [(2,some (bm jC (o++[(m % 1000000000)])))] (zM<|zM<|zE (oRe (m % 1000000000))<|zE (nR yS yT (m % 1000000000))<|zE (eG kE uW xY)<|zA jC o [(m % 1000000000)] rfl kE uW nC<|zM<|zF) ?_
   refine kx [(3,(yH (m / 1000000000)))] [] (zM<|zE (oQu (m / 1000000000))<|zM<|zZ) ?_
   exact ⟨(o++[m % 1000000000],m / 1000000000),wk,⟨by omega,split_step hg h3⟩,(by first|omega|(dsimp only;omega))⟩
  ·replace h3:=uZ h3
   have hdo:Dig o:=split_dig hg h3
   have hvo:=split_val hg h3
   refine jS<|jA<|kU (xR (t:=4) (k:=2) (es:=List.map jC o) rfl rfl (vP _ _ (fun _=>rfl)) (vN _ _ rfl) (xO _ _ (fun _=>rfl) rfl)) ?_
   refine kx [] [(0,some (bx (jL (xV (decide (n<0)) (val o)))))] (zM<|zE uT<|zM<|zE (kD (nE (decide (n<0)) o hdo (by omega)))<|zT (qO jP)<|zZ) ?_
   refine jG ⟨_,(qK (cs:=(bx (jL (xV (decide (n<0)) (val o))))) (d:=(jL (xV (decide (n<0)) (val o)))) rfl rfl jP rfl rfl .nil),?_⟩
   rw[hvo];rfl
theorem r_size(a b:List Nat)(ha:yA a)(hb:yA b)(hla:a.length<=17592186044416)(hlb:b.length<=17592186044416):jU Tryz.prog 111 [(.sl 135 1 (List.map jC a)),(.sl 135 1 (List.map jC b))] (.val (.int .i64 ((uM ((val a:Nat):Int) ((val b:Nat):Int))))):=by
 refine vD Tryz.func111 ?_
 refine jA<|kx [] [] (zM<|zZ) ?_
 refine jA<|jA<|kx [(10,(vb (((a.length:Nat):Int) != ((b.length:Nat):Int))))] [] (zM<|zE (vV kE)<|zM<|zE (vV kE)<|zE xX<|zZ) ?_
 refine jF rfl (fun h1=>?_) (fun h1=>?_)
 ·replace h1:=bne_iff_ne.1 h1
  refine jA<|jA<|kx [(15,(vb (decide (((a.length:Nat):Int)<((b.length:Nat):Int)))))] [] (zM<|zE (vV kE)<|zM<|zE (vV kE)<|zE uT<|zZ) ?_
  refine jF rfl (fun h2=>?_) (fun h2=>?_)
  ·replace h2:=uY h2
   refine jA<|kx [(4,(vi (-1)))] [] (zM<|zZ) ?_
   refine jG ⟨_,(.tmp (d:=(.val (.int .i64 (-1)))) rfl .nil),?_⟩
   rw[<- cmpI_len ha hb h1];unfold uM;rw[if_pos (by omega)];rfl
  ·replace h2:=uZ h2
   refine jD<|jA<|kx [(4,(jN 1))] [] (zM<|zZ) ?_
   refine jG ⟨_,(.tmp (d:=(.val (.int .i64 (1)))) rfl .nil),?_⟩
   rw[<- cmpI_len ha hb h1,eS (by omega)];rfl
 ·replace h1:=bne_eq_false_iff_eq.1 h1
  have hl:a.length=b.length:=by omega
  refine jD<|jA<|jA<|kx [(5,(vi (((a.length:Nat):Int)-1)))] [] (zM<|zE (vV kE)<|zE (zSb (((a.length:Nat):Int)-1))<|zM<|zZ) ?_
  refine jH<|kF (α:=Nat) (fun k=>⟨[(0,(vl 135 1 jC a)),(1,(vl 135 1 jC b)),(5,(vi (((k:Nat):Int)-1)))],[]⟩) (fun k=>k<=a.length/\val (a.drop k)=val (b.drop k)) (fun k=>k) a.length wk ⟨Nat.le_refl _,by rw[List.drop_length,hl,List.drop_length]⟩ ?_
  rintro k ⟨hk,he⟩
  refine jA<|jA<|kx [(20,(vb (decide (0<=(((k:Nat):Int)-1)))))] [] (zM<|zE oGe<|zZ) ?_
  refine jF (b:=decide (0<=(((k:Nat):Int)-1))) rfl (fun h3=>?_) (fun h3=>?_)
  ·replace h3:=uY h3
   obtain ⟨i,rfl⟩:∃ i,k=i+1:=⟨k-1,by omega⟩
   rw[show (((i+1:Nat):Int)-1)=((i:Nat):Int) from by omega]
   have ht:=cmpI_top ha.1 hb.1 hl (j:=a.length-1-i) (by omega) (by rw[show a.length-(a.length-1-i)=i+1 by omega];exact he)
   rw[show a.length-1-(a.length-1-i)=i by omega] at ht
   refine jD<|jA<|jH<|jA<|jA<|kd [(5,(jN i)),(31,(vb (decide ((((a.getD i 0):Nat):Int)<(((b.getD i 0):Nat):Int)))))] [] mo (wM<|wM<|wE (nA kE i (0:Nat))<|wE (mV qM)<|wM<|wM<|wE (nA kE i (0:Nat))<|wE (mV qM)<|wE uT<|wZ) ?_
   refine jF rfl (fun h4=>?_) (fun h4=>?_)
   ·replace h4:=uY h4
    refine jA<|kx [(4,(vi (-1)))] [] (zM<|zZ) ?_
    refine jG ⟨_,(.tmp (d:=(.val (.int .i64 (-1)))) rfl .nil),?_⟩
    rw[<- ht (by omega)];unfold uM;rw[if_pos (by omega)];rfl
   ·replace h4:=uZ h4
    refine jD<|jA<|kd [(40,(vb (decide ((((b.getD i 0):Nat):Int)<(((a.getD i 0):Nat):Int)))))] [] mo (wM<|wM<|wE (nA kE i (0:Nat))<|wE (mV qM)<|wM<|wM<|wE (nA kE i (0:Nat))<|wE (mV qM)<|wE cC<|wZ) ?_
    refine jF rfl (fun h5=>?_) (fun h5=>?_)
    ·replace h5:=uY h5
     refine jA<|kx [(4,(jN 1))] [] (zM<|zZ) ?_
     refine jG ⟨_,(.tmp (d:=(.val (.int .i64 (1)))) rfl .nil),?_⟩
     rw[<- ht (by omega),eS (by omega)];rfl
    ·replace h5:=uZ h5
     refine jD<|kx [(5,(vi (((i:Nat):Int)-1)))] [] (zM<|zE (zSb (((i:Nat):Int)-1))<|zM<|zZ) ?_
     exact ⟨i,wk,⟨by omega,by rw[vG a i,vG b i,he];omega⟩,(by first|omega|(dsimp only;omega))⟩
  ·replace h3:=uZ h3
   obtain rfl:k=0:=by omega
   rw[List.drop_zero,List.drop_zero] at he
   refine jS<|jA<|kx [(4,(jN 0))] [] (zM<|zZ) ?_
   refine jG ⟨_,(.tmp (d:=(.val (.int .i64 (0)))) rfl .nil),?_⟩
   rw[cmpI_same he];rfl
theorem r_plus(a b:List Nat)(hda:Dig a)(hdb:Dig b)(hla:a.length<=8796093022208)(hlb:b.length<=8796093022208):jU Tryz.prog 123 [(.sl 135 1 (List.map jC a)),(.sl 135 1 (List.map jC b))] (.sl 135 1 (List.map jC (ofNat (val a+val b)))):=by
 refine vD Tryz.func123 ?_
 refine jA<|kx [] [] (zE (fH 135 1)<|zZ) ?_
 refine jA<|kx [(5,(.own 0 135 1 0))] [(0,some (bm jC []))] (zN (oBo 0 kE uW xY)<|zM<|zZ) ?_
 refine jA<|kx [(6,(yH 0))] [] (zM<|zZ) ?_
 refine jA<|jA<|kx [(7,(jN 0))] [] (zM<|zZ) ?_
 refine jH<|kF (α:=Nat × List Nat × Nat) (fun (i,o,c)=>⟨[(0,(vl 135 1 jC a)),(1,(vl 135 1 jC b)),(5,(.own 0 135 1 o.length)),(6,(yH c)),(7,(jN i))],[(0,some (bm jC o))]⟩) (fun (i,o,c)=>o.length=i/\Dig o/\i<=max a.length b.length/\c<=1/\val o+pw i*c=val (a.take i)+val (b.take i)) (fun (i,o,c)=>max a.length b.length-i) (0,[],0) wk ⟨rfl,yF,Nat.zero_le _,Nat.zero_le _,by simp [val]⟩ ?_
 rintro ⟨i,o,c⟩ ⟨hl,hd,hi,hc,hv⟩
 have hai:=hda.getD i
 have hbi:=hdb.getD i
 refine jA<|jA<|kx [(19,(vb (decide (((i:Nat):Int)<((a.length:Nat):Int))||decide (((i:Nat):Int)<((b.length:Nat):Int)))))] [] ?_ ?_
 ·refine zM<|zM<|zE (vV kE)<|zE uT<|zE (oV (vb (decide (((i:Nat):Int)<((a.length:Nat):Int)))) (kA (by kernel_rfl)))<|?_
  rcases hb1:(decide (((i:Nat):Int)<((a.length:Nat):Int))) with _ | _
  ·replace hb1:=uZ hb1
   exact zM<|zM<|zE (vV kE)<|zE uT<|zE zG<|zZ
  ·replace hb1:=uY hb1
   exact zK<|zK<|zK<|zK<|zE uP<|zZ
 refine jF rfl (fun h2=>?_) (fun h2=>?_)
 ·rw[Bool.or_eq_true,decide_eq_true_eq,decide_eq_true_eq] at h2
  refine jD<|jA<|jH<|jA<|kx [(8,(yH (((a.getD i 0)+(b.getD i 0))+c)))] [] (zM<|zM<|zE (kD (eW a i (by first | assumption | exact kB _ | exact (kZ _).1 | exact (kX _).1)))<|zM<|zM<|zE (kD (eW b i (by first | assumption | exact kB _ | exact (kZ _).1 | exact (kX _).1)))<|zE (uL ((a.getD i 0)+(b.getD i 0)))<|zM<|zE (uL (((a.getD i 0)+(b.getD i 0))+c))<|zM<|zZ) ?_
  refine jA<|kf [(5,(.own 0 135 1 ((o++[((((a.getD i 0)+(b.getD i 0))+c) % 1000000000)]).length)))] [(0,some (bm jC (o++[((((a.getD i 0)+(b.getD i 0))+c) % 1000000000)])))] (zM<|zM<|zE (oRe ((((a.getD i 0)+(b.getD i 0))+c) % 1000000000))<|zE (nR yS yT ((((a.getD i 0)+(b.getD i 0))+c) % 1000000000))<|zE (eG kE uW xY)<|zA jC o [((((a.getD i 0)+(b.getD i 0))+c) % 1000000000)] rfl kE uW nC<|zM<|zF) ?_
  refine kx [(6,(yH ((((a.getD i 0)+(b.getD i 0))+c) / 1000000000)))] [] (zM<|zE (oQu ((((a.getD i 0)+(b.getD i 0))+c) / 1000000000))<|zM<|zZ) ?_
  refine kx [(7,(jN (i+1)))] [] (zM<|zE (uL (i+1))<|zM<|zZ) ?_
  exact ⟨(i+1,o++[(a.getD i 0+b.getD i 0+c) % 1000000000],(a.getD i 0+b.getD i 0+c) / 1000000000),wk,⟨by simp [hl],dig_push hd (Nat.mod_lt _ (by decide)),by omega,by omega,rplus_step hl hv rfl⟩,(by first|omega|(dsimp only;omega))⟩
 ·rw[Bool.or_eq_false_iff,decide_eq_false_iff_not,decide_eq_false_iff_not] at h2
  rw[take_all (by omega),take_all (by omega)] at hv
  have hp:=val_push (c:=c) hl
  refine jS<|jA<|kf [(4,(vl 135 1 jC (ofNat (val (o++[c]))))),(5,.junk)] [(0,none)] (zM<|zM<|zE (nR yS yT c)<|zE (eG kE uW xY)<|zAQ jC o [c] rfl kE uW nC<|zE (kD (nE false (o++[c]) (dig_push hd (by omega)) (by simp only[List.length_append,List.length_cons,List.length_nil];omega)))<|zE (oF1 fP gM)<|zM<|zF) ?_
  refine jG ⟨_,(.tmp (d:=(.sl 135 1 (List.map jC (ofNat (val (o++[c])))))) rfl .nil),?_⟩
  rw[hp,hv];rfl
theorem r_minus(a b:List Nat)(hda:Dig a)(hdb:Dig b)(hba:val b<=val a)(hla:a.length<=8796093022208):jU Tryz.prog 115 [(.sl 135 1 (List.map jC a)),(.sl 135 1 (List.map jC b))] (.sl 135 1 (List.map jC (ofNat (val a-val b)))):=by
 refine vD Tryz.func115 ?_
 refine jA<|kx [] [] (zE (fH 135 1)<|zZ) ?_
 refine jA<|kx [(5,(.own 0 135 1 0))] [(0,some (bm jC []))] (zN (oBo 0 kE uW xY)<|zM<|zZ) ?_
 refine jA<|kx [(6,(yH 0))] [] (zM<|zZ) ?_
 refine jA<|jA<|kx [(7,(jN 0))] [] (zM<|zZ) ?_
 refine jH<|kF (α:=Nat × List Nat × Nat) (fun (i,o,c)=>⟨[(0,(vl 135 1 jC a)),(1,(vl 135 1 jC b)),(5,(.own 0 135 1 o.length)),(6,(yH c)),(7,(jN i))],[(0,some (bm jC o))]⟩) (fun (i,o,c)=>o.length=i/\Dig o/\i<=a.length/\c<=1/\val o+val (b.take i)=val (a.take i)+pw i*c) (fun (i,o,c)=>a.length-i) (0,[],0) wk ⟨rfl,yF,Nat.zero_le _,Nat.zero_le _,by simp [val]⟩ ?_
 rintro ⟨i,o,c⟩ ⟨hl,hd,hi,hc,hv⟩
 have hai:=hda.getD i
 have hbi:=hdb.getD i
 refine jA<|jA<|kx [(13,(vb (decide (((i:Nat):Int)<((a.length:Nat):Int)))))] [] (zM<|zM<|zE (vV kE)<|zE uT<|zZ) ?_
 refine jF rfl (fun h1=>?_) (fun h1=>?_)
 ·replace h1:=uY h1
  refine jD<|jA<|jH<|jA<|kx [(8,(yH (((1000000000+(a.getD i 0))-(b.getD i 0))-c)))] [] (zM<|zM<|zE (kD (eW a i (by first | assumption | exact kB _ | exact (kZ _).1 | exact (kX _).1)))<|zE (uL (1000000000+(a.getD i 0)))<|zM<|zM<|zE (kD (eW b i (by first | assumption | exact kB _ | exact (kZ _).1 | exact (kX _).1)))<|zE (oSb ((1000000000+(a.getD i 0))-(b.getD i 0)))<|zM<|zE (oSb (((1000000000+(a.getD i 0))-(b.getD i 0))-c))<|zM<|zZ) ?_
  refine jA<|kf [(5,(.own 0 135 1 ((o++[((((1000000000+(a.getD i 0))-(b.getD i 0))-c) % 1000000000)]).length)))] [(0,some (bm jC (o++[((((1000000000+(a.getD i 0))-(b.getD i 0))-c) % 1000000000)])))] (zM<|zM<|zE (oRe ((((1000000000+(a.getD i 0))-(b.getD i 0))-c) % 1000000000))<|zE (nR yS yT ((((1000000000+(a.getD i 0))-(b.getD i 0))-c) % 1000000000))<|zE (eG kE uW xY)<|zA jC o [((((1000000000+(a.getD i 0))-(b.getD i 0))-c) % 1000000000)] rfl kE uW nC<|zM<|zF) ?_
  refine kx [(6,(yH (1-((((1000000000+(a.getD i 0))-(b.getD i 0))-c) / 1000000000))))] [] (zM<|zE (oQu ((((1000000000+(a.getD i 0))-(b.getD i 0))-c) / 1000000000))<|zE (oSb (1-((((1000000000+(a.getD i 0))-(b.getD i 0))-c) / 1000000000)))<|zM<|zZ) ?_
  refine kx [(7,(jN (i+1)))] [] (zM<|zE (uL (i+1))<|zM<|zZ) ?_
  exact ⟨(i+1,o++[(1000000000+a.getD i 0-b.getD i 0-c) % 1000000000],1-(1000000000+a.getD i 0-b.getD i 0-c) / 1000000000),wk,⟨by simp [hl],dig_push hd (Nat.mod_lt _ (by decide)),by omega,by omega,rminus_step hl hv (by omega) (by omega)⟩,(by first|omega|(dsimp only;omega))⟩
 ·replace h1:=uZ h1
  have hie:i=a.length:=by omega
  refine jS<|jA<|kU (xR (t:=5) (k:=0) (es:=List.map jC o) rfl rfl (vP _ _ (fun _=>rfl)) (vN _ _ rfl) (xO _ _ (fun _=>rfl) rfl)) ?_
  refine kx [(4,(vl 135 1 jC (ofNat (val o))))] [] (zM<|zE (kD (nE false o hd (by omega)))<|zE (oF1 fP gM)<|zM<|zZ) ?_
  refine jG ⟨_,(.tmp (d:=(.sl 135 1 (List.map jC (ofNat (val o))))) rfl .nil),?_⟩
  rw[rminus_end hda hdb hd hie hl hba hv];rfl
theorem r_scaled(a:List Nat)(d:Nat)(hda:Dig a)(hd1:d<=1000000000)(hla:a.length<=8796093022208):jU Tryz.prog 112 [(.sl 135 1 (List.map jC a)),(.val (.int .u64 (((d:Nat):Int))))] (.sl 135 1 (List.map jC (ofNat (val a*d)))):=by
 refine vD Tryz.func112 ?_
 refine jA<|kx [] [] (zE (fH 135 1)<|zZ) ?_
 refine jA<|kx [(5,(.own 0 135 1 0))] [(0,some (bm jC []))] (zN (oBo 0 kE uW xY)<|zM<|zZ) ?_
 refine jA<|kx [(6,(yH 0))] [] (zM<|zZ) ?_
 refine jA<|jA<|kx [(7,(jN 0))] [] (zM<|zZ) ?_
 refine jH<|kF (α:=Nat × List Nat × Nat) (fun (i,o,c)=>⟨[(0,(vl 135 1 jC a)),(1,(yH d)),(5,(.own 0 135 1 o.length)),(6,(yH c)),(7,(jN i))],[(0,some (bm jC o))]⟩) (fun (i,o,c)=>o.length=i/\Dig o/\i<=a.length/\c<=999999999/\val o+pw i*c=val (a.take i)*d) (fun (i,o,c)=>a.length-i) (0,[],0) wk ⟨rfl,yF,Nat.zero_le _,Nat.zero_le _,by simp [val]⟩ ?_
 rintro ⟨i,o,c⟩ ⟨hl,hd,hi,hc,hv⟩
 have hai:=hda.getD i
 have hpq:a.getD i 0*d<=999999999*1000000000:=Nat.mul_le_mul (by omega) hd1
 refine jA<|jA<|kx [(13,(vb (decide (((i:Nat):Int)<((a.length:Nat):Int)))))] [] (zM<|zM<|zE (vV kE)<|zE uT<|zZ) ?_
 refine jF rfl (fun h1=>?_) (fun h1=>?_)
 ·replace h1:=uY h1
  refine jD<|jA<|jH<|jA<|kx [(8,(yH (((a.getD i 0)*d)+c)))] [] (zM<|zM<|zE (nA kE i (0:Nat))<|zE (mV qM)<|zE (nR xW xM (a.getD i 0))<|zM<|zE (oMl ((a.getD i 0)*d))<|zM<|zE (uL (((a.getD i 0)*d)+c))<|zM<|zZ) ?_
  refine jA<|kf [(5,(.own 0 135 1 ((o++[((((a.getD i 0)*d)+c) % 1000000000)]).length)))] [(0,some (bm jC (o++[((((a.getD i 0)*d)+c) % 1000000000)])))] (zM<|zM<|zE (oRe ((((a.getD i 0)*d)+c) % 1000000000))<|zE (nR yS yT ((((a.getD i 0)*d)+c) % 1000000000))<|zE (eG kE uW xY)<|zA jC o [((((a.getD i 0)*d)+c) % 1000000000)] rfl kE uW nC<|zM<|zF) ?_
  refine kx [(6,(yH ((((a.getD i 0)*d)+c) / 1000000000)))] [] (zM<|zE (oQu ((((a.getD i 0)*d)+c) / 1000000000))<|zM<|zZ) ?_
  refine kx [(7,(jN (i+1)))] [] (zM<|zE (uL (i+1))<|zM<|zZ) ?_
  exact ⟨(i+1,o++[(a.getD i 0*d+c) % 1000000000],(a.getD i 0*d+c) / 1000000000),wk,⟨by simp [hl],dig_push hd (Nat.mod_lt _ (by decide)),by omega,by omega,rscaled_step hl hv rfl⟩,(by first|omega|(dsimp only;omega))⟩
 ·replace h1:=uZ h1
  have hie:i=a.length:=by omega
  rw[take_all (by omega)] at hv
  have hp:=val_push (c:=c) hl
  refine jS<|jA<|kf [(4,(vl 135 1 jC (ofNat (val (o++[c]))))),(5,.junk)] [(0,none)] (zM<|zM<|zE (nR yS yT c)<|zE (eG kE uW xY)<|zAQ jC o [c] rfl kE uW nC<|zE (kD (nE false (o++[c]) (dig_push hd (by omega)) (by simp only[List.length_append,List.length_cons,List.length_nil];omega)))<|zE (oF1 fP gM)<|zM<|zF) ?_
  refine jG ⟨_,(.tmp (d:=(.sl 135 1 (List.map jC (ofNat (val (o++[c])))))) rfl .nil),?_⟩
  rw[hp,hv];rfl
theorem r_shifted(a:List Nat)(d:Nat)(hda:Dig a)(hd1:d<1000000000)(hla:a.length<=8796093022208):jU Tryz.prog 113 [(.sl 135 1 (List.map jC a)),(.val (.int .u32 (((d:Nat):Int))))] (.sl 135 1 (List.map jC (ofNat (d+1000000000*val a)))):=by
 refine vD Tryz.func113 ?_
 refine jA<|kx [] [] (zE (fH 135 1)<|zZ) ?_
 refine jA<|kf [(4,(vl 135 1 jC (ofNat (val ([d]++a)))))] [(0,none)] (zM<|zN (oBo 0 kE uW xY)<|zM<|zAQ jC [d] a rfl kE uW nC<|zE (kD (nE false ([d]++a) (aX.2 ⟨xL.2 ⟨hd1,yF⟩,hda⟩) (by simp only[List.length_append,List.length_cons,List.length_nil];omega)))<|zE (oF1 fP gM)<|zM<|zF) ?_
 refine jG ⟨_,(.tmp (d:=(.sl 135 1 (List.map jC (ofNat (val ([d]++a)))))) rfl .nil),?_⟩
 rfl
end Go.Proofs.YtciingpdmjepgaaGreat
