/- Part 15 of a proof: rules, plain facts, and functions walked. -/
import Derived.Test.YtnajallgoaiahaaGreatDoorM14
set_option linter.all false
set_option maxRecDepth 4000
namespace Go.Proofs.YtnajallgoaiahaaGreatDoor
open Go.Fid
theorem cb116:callB Tryz.prog 116=true:=by kernel_rfl
theorem cb144:callB Tryz.prog 144=true:=by kernel_rfl
theorem cb147:callB Tryz.prog 147=true:=by kernel_rfl
theorem cb153:callB Tryz.prog 153=true:=by kernel_rfl
theorem cb154:callB Tryz.prog 154=true:=by kernel_rfl
theorem cb155:callB Tryz.prog 155=true:=by kernel_rfl
theorem cb156:callB Tryz.prog 156=true:=by kernel_rfl
theorem cb233:callB Tryz.prog 233=true:=by kernel_rfl
theorem cb241:callB Tryz.prog 241=true:=by kernel_rfl
theorem cb242:callB Tryz.prog 242=true:=by kernel_rfl
theorem aI:bC Tryz.prog 43 1=some (1,41):=by kernel_rfl
theorem fT(l:List Nat)(i:Nat)(hd:Dig l):jQ Tryz.prog 233 [(.sl 140 1 (List.map jC l)),(.val (.int .i64 (((i:Nat):Int))))] (.val (.int .u64 ((((l.getD i 0):Nat):Int)))):=by
 have hg:=hd.getD i
 refine jG Tryz.func233 rfl cb233 rfl ?_
 show qK _ _ _ _ ⟨[(0,(vl 140 1 jC l)),(1,(jV i))],[]⟩
 refine jB<|kx [] [] (zM<|zZ) ?_
 refine jB<|jB<|kx [(8,(vb (decide (((i:Nat):Int)<((l.length:Nat):Int)))))] [] (zM<|zM<|zE (vC kH)<|zE xT<|zZ) ?_
 refine jF rfl (fun h1=>?_) (fun h1=>?_)
 ·replace h1:=vI h1
  refine jB<|kx [(4,(gC (l.getD i 0)))] [] (zM<|zM<|zE (yL kH i (0:Nat))<|zE (yR qP)<|zE (mU yM yN (l.getD i 0))<|zM<|zZ) ?_
  refine jE ⟨_,(.tmp (d:=(.val (.int .u64 ((((l.getD i 0):Nat):Int))))) rfl .nil),?_⟩
  rfl
 ·replace h1:=vM h1
  refine jD<|jB<|kx [(4,(gC 0))] [] (zM<|zZ) ?_
  refine jE ⟨_,(.tmp (d:=(.val (.int .u64 (0)))) rfl .nil),?_⟩
  rw[show l.getD i 0=0 from getD_out (by omega)];rfl
theorem nT(neg:Bool)(l:List Nat)(hd:Dig l)(hb:l.length≤17592186044416):jQ Tryz.prog 147 [(.val (.bool (neg))),(.sl 140 1 (List.map jC l))] (jN (xB neg (val l))):=by
 refine jG Tryz.func147 rfl cb147 rfl ?_
 show qK _ _ _ _ ⟨[(0,(vb neg)),(1,(vl 140 1 jC l))],[]⟩
 refine jB<|kx [(4,(.ref 0 0))] [(0,some (bx (jN (kU.mk false []))))] (zN (uB 0 yH yF)<|zZ) ?_
 refine jB<|kx [(5,(jV l.length))] [] (zM<|zE (vC kH)<|zM<|zZ) ?_
 refine jB<|jH<|kL (α:=Nat) (fun k=>⟨[(0,(vb neg)),(1,(vl 140 1 jC l)),(4,(.ref 0 0)),(5,(jV k))],[(0,some (bx (jN (kU.mk false []))))]⟩) (fun k=>k≤l.length∧val (l.take k)=val l) (fun k=>k) l.length wk ⟨Nat.le_refl _,by rw[List.take_length]⟩ ?_
 rintro k ⟨hk,hv⟩
 refine jB<|jB<|kx [(17,(vb (decide (0<((k:Nat):Int))&&((((l.getD (k-1) 0):Nat):Int) == 0))))] [] ?_ ?_
 ·refine zM<|zE mT<|zE (oV (vb (decide (0<((k:Nat):Int)))) (kV (by kernel_rfl)))<|?_
  rcases hb1:(decide (0<((k:Nat):Int))) with _ | _
  ·replace hb1:=vM hb1
   exact zK<|zK<|zK<|zK<|zK<|zK<|zE zG<|zZ
  ·replace hb1:=vI hb1
   exact zM<|zM<|zE (oSb (k-1))<|zE (yL kH (k-1) (0:Nat))<|zE (yR qP)<|zE yQ<|zE fM<|zZ
 refine jF rfl (fun h2=>?_) (fun h2=>?_)
 ·have hm:=r_made_step hk hv h2
  have hm0:=hm.1
  refine jD<|jH<|kx [(5,(jV (k-1)))] [] (zM<|zE (oSb (k-1))<|zM<|zZ) ?_
  exact ⟨(k-1),wk,⟨by omega,hm.2⟩,(by first|omega|(dsimp only;omega))⟩
 ·refine kJ<|jB<|kx [] [(0,some (bx (jN (kU.mk (neg&&decide (0<((k:Nat):Int))) (List.take k l)))))] ?_ ?_
  ·refine zM<|zE (oV (vb neg) (kV (by kernel_rfl)))<|?_
   rcases hb3:neg with _ | _
   ·exact zK<|zK<|zE zG<|zE (oBe kH)<|zM<|zM<|zE (e_slc (l:=0) (h:=k) (kl:=.i64) (kh:=.i64) (es':=List.map jC (List.take k l)) (by exact rfl) kH (by exact rfl) (by exact rfl) (by exact rfl) (Nat.zero_le _) (by simp only[List.length_map];omega) (by rw[List.drop_zero,List.map_take]))<|zE (e_appe (by exact rfl) kH vG (by kernel_rfl) nL (by exact rfl) (by exact rfl) (by simp only[List.length_map,List.length_take,List.length_drop,List.length_append,List.length_cons,List.length_nil,maxLen];omega) (by simp only[List.length_map,List.length_take,List.length_drop,List.length_append,List.length_cons,List.length_nil];omega))<|zE (bB pl43 yH yF)<|zT (qD jY)<|zZ
   ·exact zM<|zE mT<|zE fM<|zE (oBe kH)<|zM<|zM<|zE (e_slc (l:=0) (h:=k) (kl:=.i64) (kh:=.i64) (es':=List.map jC (List.take k l)) (by exact rfl) kH (by exact rfl) (by exact rfl) (by exact rfl) (Nat.zero_le _) (by simp only[List.length_map];omega) (by rw[List.drop_zero,List.map_take]))<|zE (e_appe (by exact rfl) kH vG (by kernel_rfl) nL (by exact rfl) (by exact rfl) (by simp only[List.length_map,List.length_take,List.length_drop,List.length_append,List.length_cons,List.length_nil,maxLen];omega) (by simp only[List.length_map,List.length_take,List.length_drop,List.length_append,List.length_cons,List.length_nil];omega))<|zE (bB pl43 yH yF)<|zT (qD jY)<|zZ
  refine jE ⟨_,(kP (cs:=(bx (jN (kU.mk (neg&&decide (0<((k:Nat):Int))) (List.take k l))))) (d:=(jN (kU.mk (neg&&decide (0<((k:Nat):Int))) (List.take k l)))) rfl rfl jY rfl rfl .nil),?_⟩
  rw[r_made_end hd hk hv h2];rfl
theorem r_valid(x:kU)(hb:x.gs.length≤17592186044416):jQ Tryz.prog 116 [(jN x)] (.val (.bool ((uF x)))):=by
 refine jG Tryz.func116 rfl cb116 rfl ?_
 show qK _ _ _ _ ⟨[(0,(.d (jN x)))],[]⟩
 refine jB<|kx [(1,(.ref 0 0))] [(0,some (bx (jN x)))] (zN (vN 0)<|zM<|zZ) ?_
 refine jB<|kx [(3,(jV x.gs.length))] [] (zE (kZ vL)<|zR (qS xZ)<|zE (vC kH)<|zM<|zZ) ?_
 refine jB<|jB<|kx [(4,(jV 0))] [] (zM<|zZ) ?_
 refine jH<|kL (α:=Nat) (fun i=>⟨[(1,(.ref 0 0)),(3,(jV x.gs.length)),(4,(jV i))],[(0,some (bx (jN x)))]⟩) (fun i=>i≤x.gs.length∧Dig (x.gs.take i)) (fun i=>x.gs.length-i) 0 wk ⟨Nat.zero_le _,by rw[List.take_zero];exact gS⟩ ?_
 rintro i ⟨hi,hd⟩
 refine jB<|jB<|kx [(10,(vb (decide (((i:Nat):Int)<((x.gs.length:Nat):Int)))))] [] (zM<|zM<|zE xT<|zZ) ?_
 refine jF rfl (fun h1=>?_) (fun h1=>?_)
 ·replace h1:=vI h1
  refine jD<|jB<|jH<|jB<|kx [(18,(vb (decide (1000000000≤(((x.gs.getD i 0):Nat):Int)))))] [] (zE (kZ vL)<|zR (qS xZ)<|zM<|zE (yL kH i (0:Nat))<|zE (yR qP)<|zE oGe<|zZ) ?_
  refine jF rfl (fun h2=>?_) (fun h2=>?_)
  ·replace h2:=vI h2
   refine jB<|kx [(2,(vb false))] [] (zM<|zZ) ?_
   refine jE ⟨_,(.tmp (d:=(.val (.bool (false)))) rfl .nil),?_⟩
   rw[validI_big (i:=i) (by omega) (by omega)];rfl
  ·replace h2:=vM h2
   refine jD<|kx [(4,(jV (i+1)))] [] (zM<|zE (vY (i+1))<|zM<|zZ) ?_
   exact ⟨(i+1),wk,⟨by omega,dig_take_succ (by omega) hd (by omega)⟩,(by first|omega|(dsimp only;omega))⟩
 ·replace h1:=vM h1
  have hie:i=x.gs.length:=by omega
  rw[hie,List.take_length] at hd
  refine kJ<|jB<|jB<|kx [(20,(vb (((x.gs.length:Nat):Int) == 0)))] [] (zM<|zE yQ<|zZ) ?_
  refine jF (b:=(((x.gs.length:Nat):Int) == 0)) rfl (fun h3=>?_) (fun h3=>?_)
  ·replace h3:=eq_of_beq h3
   refine jB<|kx [(2,(vb (!x.neg)))] [] (zE (kZ vD)<|zR (qS aP)<|zE nF<|zM<|zZ) ?_
   refine jE ⟨_,(.tmp (d:=(.val (.bool (!x.neg)))) rfl .nil),?_⟩
   rw[validI_nil (by omega)];rfl
  ·replace h3:=ne_of_beq_false h3
   refine jD<|jB<|kx [(2,(vb ((((x.gs.getD (x.gs.length-1) 0):Nat):Int) != 0)))] [] (zE (kZ vL)<|zR (qS xZ)<|zM<|zE (oSb (x.gs.length-1))<|zE (yL kH (x.gs.length-1) (0:Nat))<|zE (yR qP)<|zE cM<|zM<|zZ) ?_
   refine jE ⟨_,(.tmp (d:=(.val (.bool (((((x.gs.getD (x.gs.length-1) 0):Nat):Int) != 0))))) rfl .nil),?_⟩
   rw[validI_dig hd (by omega)];rfl
theorem dX(x:kU)(hb:x.gs.length≤17592186044416):jQ Tryz.prog 144 [(jN x)] (jN (kD (jX x))):=by
 refine jG Tryz.func144 rfl cb144 rfl ?_
 show qK _ _ _ _ ⟨[(0,(.d (jN x)))],[]⟩
 refine jB<|kx [(1,(.ref 0 0)),(2,(.ref 1 0))] [(0,some (bx (jN x))),(1,some (bx (jN (kU.mk false []))))] (zN (vN 0)<|zN (uB 1 yH yF)<|zZ) ?_
 refine jB<|jB<|kx [(5,(vb (!(uF x))))] [] (zR (kO jY)<|zE (jZ (r_valid x (by omega)))<|zE nF<|zZ) ?_
 refine jF (b:=!(uF x)) rfl (fun h1=>?_) (fun h1=>?_)
 ·refine jB<|kx [] [(1,some (bx (jN (kU.mk false []))))] (zE (bB pl43 yH yF)<|zT (qD jY)<|zZ) ?_
  refine jE ⟨_,(kP (cs:=(bx (jN (kU.mk false [])))) (d:=(jN (kU.mk false []))) rfl rfl jY rfl rfl .nil),?_⟩
  rw[toZ_bad (by rw[Bool.not_eq_true'] at h1;exact h1),ofZ_zero];rfl
 ·refine jD<|jB<|kd [] [(1,some (bx (jN (kU.mk x.neg x.gs))))] mo (wE (kZ vD)<|wR (qS aP)<|wE (oBe kH)<|wE (kZ vL)<|wR (qS xZ)<|wE (e_appe (by exact rfl) kH vG (by kernel_rfl) nL (by exact rfl) (by exact rfl) (by simp only[List.length_map,List.length_take,List.length_drop,List.length_append,List.length_cons,List.length_nil,maxLen];omega) (by simp only[List.length_map,List.length_take,List.length_drop,List.length_append,List.length_cons,List.length_nil];omega))<|wE (bB pl43 yH yF)<|wT (qD jY)<|wZ) ?_
  refine jE ⟨_,(kP (cs:=(bx (jN (kU.mk x.neg x.gs)))) (d:=(jN (kU.mk x.neg x.gs))) rfl rfl jY rfl rfl .nil),?_⟩
  rw[ofZ_toZ (by simpa using h1)];rfl
theorem r_of(n:Int)(hlo:-9223372036854775808≤n)(hhi:n≤9223372036854775807):jQ Tryz.prog 153 [(.val (.int .i64 (n)))] (jN (kD n)):=by
 refine jG Tryz.func153 rfl cb153 rfl ?_
 show qK _ _ _ _ ⟨[(0,(vi n))],[]⟩
 refine jB<|kx [(2,(.ref 0 0))] [(0,some (bx (jN (kU.mk false []))))] (zN (uB 0 yH yF)<|zZ) ?_
 refine jB<|kx [(3,(gC ((n % 18446744073709551616).toNat)))] [] (zM<|zE (mU un3 yN ((n % 18446744073709551616).toNat) (hr:=by exact (conv_u64 _)))<|zM<|zZ) ?_
 refine jB<|jB<|kx [(8,(vb (decide (n<0))))] [] (zM<|zE xT<|zZ) ?_
 refine jF (b:=decide (n<0)) rfl (fun h1=>?_) (fun h1=>?_)
 ·replace h1:=vI h1
  refine kx [(3,(gC n.natAbs))] [] (zM<|zE (zAd (n+1))<|zE (oNg (-(n+1)))<|zE (mU un3 yN ((-n-1).toNat) (hr:=by exact (wu64 (by omega) (by omega) (by omega))))<|zE (vY n.natAbs)<|zM<|zZ) ?_
  refine jB<|kx [(4,(.own 1 140 1 0))] [(1,some (bm jC []))] (zN (oBo 1 kH vG yB)<|zM<|zZ) ?_
  refine jB<|jH<|kL (α:=List Nat × Nat) (fun (o,m)=>⟨[(0,(vi n)),(2,(.ref 0 0)),(3,(gC m)),(4,(.own 1 140 1 o.length))],[(0,some (bx (jN (kU.mk false [])))),(1,some (bm jC o))]⟩) (fun (o,m)=>m≤9223372036854775808∧o++ofNat m=ofNat n.natAbs) (fun (o,m)=>m) ([],n.natAbs) wk ⟨by omega,by rw[List.nil_append]⟩ ?_
  rintro ⟨o,m⟩ ⟨hm,hg⟩
  have hl:=split_len hg (by omega)
  refine jB<|jB<|kx [(16,(vb (decide (0<((m:Nat):Int)))))] [] (zM<|zE mT<|zZ) ?_
  refine jF (b:=decide (0<((m:Nat):Int))) rfl (fun h2=>?_) (fun h2=>?_)
  ·replace h2:=vI h2
   refine jD<|jH<|jB<|kf [(4,(.own 1 140 1 ((o++[(m % 1000000000)]).length)))] [(1,some (bm jC (o++[(m % 1000000000)])))] (zM<|zM<|zE (oRe (m % 1000000000))<|zE (mU hZ gR (m % 1000000000))<|zE (dG kH vG yB)<|zA jC o [(m % 1000000000)] rfl kH vG nL<|zM<|zF) ?_
   refine kx [(3,(gC (m / 1000000000)))] [] (zM<|zE (oQu (m / 1000000000))<|zM<|zZ) ?_
   exact ⟨(o++[m % 1000000000],m / 1000000000),wk,⟨by omega,split_step hg h2⟩,(by first|omega|(dsimp only;omega))⟩
  ·replace h2:=vM h2
   have hdo:Dig o:=split_dig hg h2
   have hvo:=split_val hg h2
   refine kJ<|jB<|kW (vX (t:=4) (k:=1) (es:=List.map jC o) rfl rfl (uS _ _ (fun _=>rfl)) (uT _ _ rfl) (vS _ _ (fun _=>rfl) rfl)) ?_
   refine kx [] [(0,some (bx (jN (xB (decide (n<0)) (val o)))))] (zM<|zE xT<|zM<|zE (jZ (nT (decide (n<0)) o hdo (by omega)))<|zT (qD jY)<|zZ) ?_
   refine jE ⟨_,(kP (cs:=(bx (jN (xB (decide (n<0)) (val o))))) (d:=(jN (xB (decide (n<0)) (val o)))) rfl rfl jY rfl rfl .nil),?_⟩
   rw[hvo];rfl
 ·replace h1:=vM h1
  rw[show (n % 18446744073709551616).toNat=n.natAbs from by omega]
  refine jD<|jB<|kx [(3,(gC n.natAbs)),(4,(.own 2 140 1 0))] [(2,some (bm jC []))] (zN (oBo 2 kH vG yB)<|zM<|zZ) ?_
  refine jB<|jH<|kL (α:=List Nat × Nat) (fun (o,m)=>⟨[(0,(vi n)),(2,(.ref 0 0)),(3,(gC m)),(4,(.own 2 140 1 o.length))],[(0,some (bx (jN (kU.mk false [])))),(2,some (bm jC o))]⟩) (fun (o,m)=>m≤9223372036854775808∧o++ofNat m=ofNat n.natAbs) (fun (o,m)=>m) ([],n.natAbs) wk ⟨by omega,by rw[List.nil_append]⟩ ?_
  rintro ⟨o,m⟩ ⟨hm,hg⟩
  have hl:=split_len hg (by omega)
  refine jB<|jB<|kx [(16,(vb (decide (0<((m:Nat):Int)))))] [] (zM<|zE mT<|zZ) ?_
  refine jF (b:=decide (0<((m:Nat):Int))) rfl (fun h3=>?_) (fun h3=>?_)
  ·replace h3:=vI h3
   refine jD<|jH<|jB<|kf [(4,(.own 2 140 1 ((o++[(m % 1000000000)]).length)))] [(2,some (bm jC (o++[(m % 1000000000)])))] (zM<|zM<|zE (oRe (m % 1000000000))<|zE (mU hZ gR (m % 1000000000))<|zE (dG kH vG yB)<|zA jC o [(m % 1000000000)] rfl kH vG nL<|zM<|zF) ?_
   refine kx [(3,(gC (m / 1000000000)))] [] (zM<|zE (oQu (m / 1000000000))<|zM<|zZ) ?_
   exact ⟨(o++[m % 1000000000],m / 1000000000),wk,⟨by omega,split_step hg h3⟩,(by first|omega|(dsimp only;omega))⟩
  ·replace h3:=vM h3
   have hdo:Dig o:=split_dig hg h3
   have hvo:=split_val hg h3
   refine kJ<|jB<|kW (vX (t:=4) (k:=2) (es:=List.map jC o) rfl rfl (uS _ _ (fun _=>rfl)) (uT _ _ rfl) (vS _ _ (fun _=>rfl) rfl)) ?_
   refine kx [] [(0,some (bx (jN (xB (decide (n<0)) (val o)))))] (zM<|zE xT<|zM<|zE (jZ (nT (decide (n<0)) o hdo (by omega)))<|zT (qD jY)<|zZ) ?_
   refine jE ⟨_,(kP (cs:=(bx (jN (xB (decide (n<0)) (val o))))) (d:=(jN (xB (decide (n<0)) (val o)))) rfl rfl jY rfl rfl .nil),?_⟩
   rw[hvo];rfl
theorem r_size(a b:List Nat)(ha:zW a)(hb:zW b)(hla:a.length≤17592186044416)(hlb:b.length≤17592186044416):jQ Tryz.prog 155 [(.sl 140 1 (List.map jC a)),(.sl 140 1 (List.map jC b))] (.val (.int .i64 ((uP ((val a:Nat):Int) ((val b:Nat):Int))))):=by
 refine jG Tryz.func155 rfl cb155 rfl ?_
 show qK _ _ _ _ ⟨[(0,(vl 140 1 jC a)),(1,(vl 140 1 jC b))],[]⟩
 refine jB<|kx [] [] (zM<|zZ) ?_
 refine jB<|jB<|kx [(10,(vb (((a.length:Nat):Int) != ((b.length:Nat):Int))))] [] (zM<|zE (vC kH)<|zM<|zE (vC kH)<|zE cM<|zZ) ?_
 refine jF rfl (fun h1=>?_) (fun h1=>?_)
 ·replace h1:=bne_iff_ne.1 h1
  refine jB<|jB<|kx [(15,(vb (decide (((a.length:Nat):Int)<((b.length:Nat):Int)))))] [] (zM<|zE (vC kH)<|zM<|zE (vC kH)<|zE xT<|zZ) ?_
  refine jF rfl (fun h2=>?_) (fun h2=>?_)
  ·replace h2:=vI h2
   refine jB<|kx [(4,(vi (-1)))] [] (zM<|zZ) ?_
   refine jE ⟨_,(.tmp (d:=(.val (.int .i64 (-1)))) rfl .nil),?_⟩
   rw[← cmpI_len ha hb h1];unfold uP;rw[if_pos (by omega)];rfl
  ·replace h2:=vM h2
   refine jD<|jB<|kx [(4,(jV 1))] [] (zM<|zZ) ?_
   refine jE ⟨_,(.tmp (d:=(.val (.int .i64 (1)))) rfl .nil),?_⟩
   rw[← cmpI_len ha hb h1,fY (by omega)];rfl
 ·replace h1:=bne_eq_false_iff_eq.1 h1
  have hl:a.length=b.length:=by omega
  refine jD<|jB<|jB<|kx [(5,(vi (((a.length:Nat):Int)-1)))] [] (zM<|zE (vC kH)<|zE (zSb (((a.length:Nat):Int)-1))<|zM<|zZ) ?_
  refine jH<|kL (α:=Nat) (fun k=>⟨[(0,(vl 140 1 jC a)),(1,(vl 140 1 jC b)),(5,(vi (((k:Nat):Int)-1)))],[]⟩) (fun k=>k≤a.length∧val (a.drop k)=val (b.drop k)) (fun k=>k) a.length wk ⟨Nat.le_refl _,by rw[List.drop_length,hl,List.drop_length]⟩ ?_
  rintro k ⟨hk,he⟩
  refine jB<|jB<|kx [(20,(vb (decide (0≤(((k:Nat):Int)-1)))))] [] (zM<|zE oGe<|zZ) ?_
  refine jF (b:=decide (0≤(((k:Nat):Int)-1))) rfl (fun h3=>?_) (fun h3=>?_)
  ·replace h3:=vI h3
   obtain ⟨i,rfl⟩:∃ i,k=i+1:=⟨k-1,by omega⟩
   rw[show (((i+1:Nat):Int)-1)=((i:Nat):Int) from by omega]
   have ht:=cmpI_top ha.1 hb.1 hl (j:=a.length-1-i) (by omega) (by rw[show a.length-(a.length-1-i)=i+1 by omega];exact he)
   rw[show a.length-1-(a.length-1-i)=i by omega] at ht
   refine jD<|jB<|jH<|jB<|jB<|kd [(5,(jV i)),(31,(vb (decide ((((a.getD i 0):Nat):Int)<(((b.getD i 0):Nat):Int)))))] [] mo (wM<|wM<|wE (yL kH i (0:Nat))<|wE (yR qP)<|wM<|wM<|wE (yL kH i (0:Nat))<|wE (yR qP)<|wE xT<|wZ) ?_
   refine jF rfl (fun h4=>?_) (fun h4=>?_)
   ·replace h4:=vI h4
    refine jB<|kx [(4,(vi (-1)))] [] (zM<|zZ) ?_
    refine jE ⟨_,(.tmp (d:=(.val (.int .i64 (-1)))) rfl .nil),?_⟩
    rw[← ht (by omega)];unfold uP;rw[if_pos (by omega)];rfl
   ·replace h4:=vM h4
    refine jD<|jB<|kd [(40,(vb (decide ((((b.getD i 0):Nat):Int)<(((a.getD i 0):Nat):Int)))))] [] mo (wM<|wM<|wE (yL kH i (0:Nat))<|wE (yR qP)<|wM<|wM<|wE (yL kH i (0:Nat))<|wE (yR qP)<|wE mT<|wZ) ?_
    refine jF rfl (fun h5=>?_) (fun h5=>?_)
    ·replace h5:=vI h5
     refine jB<|kx [(4,(jV 1))] [] (zM<|zZ) ?_
     refine jE ⟨_,(.tmp (d:=(.val (.int .i64 (1)))) rfl .nil),?_⟩
     rw[← ht (by omega),fY (by omega)];rfl
    ·replace h5:=vM h5
     refine jD<|kx [(5,(vi (((i:Nat):Int)-1)))] [] (zM<|zE (zSb (((i:Nat):Int)-1))<|zM<|zZ) ?_
     exact ⟨i,wk,⟨by omega,by rw[xP a i,xP b i,he];omega⟩,(by first|omega|(dsimp only;omega))⟩
  ·replace h3:=vM h3
   obtain rfl:k=0:=by omega
   rw[List.drop_zero,List.drop_zero] at he
   refine kJ<|jB<|kx [(4,(jV 0))] [] (zM<|zZ) ?_
   refine jE ⟨_,(.tmp (d:=(.val (.int .i64 (0)))) rfl .nil),?_⟩
   rw[cmpI_same he];rfl
theorem r_plus(a b:List Nat)(hda:Dig a)(hdb:Dig b)(hla:a.length≤8796093022208)(hlb:b.length≤8796093022208):jQ Tryz.prog 154 [(.sl 140 1 (List.map jC a)),(.sl 140 1 (List.map jC b))] (.sl 140 1 (List.map jC (ofNat (val a+val b)))):=by
 refine jG Tryz.func154 rfl cb154 rfl ?_
 show qK _ _ _ _ ⟨[(0,(vl 140 1 jC a)),(1,(vl 140 1 jC b))],[]⟩
 refine jB<|kx [] [] (zE (dZ 140 1)<|zZ) ?_
 refine jB<|kx [(5,(.own 0 140 1 0))] [(0,some (bm jC []))] (zN (oBo 0 kH vG yB)<|zM<|zZ) ?_
 refine jB<|kx [(6,(gC 0))] [] (zM<|zZ) ?_
 refine jB<|jB<|kx [(7,(jV 0))] [] (zM<|zZ) ?_
 refine jH<|kL (α:=Nat × List Nat × Nat) (fun (i,o,c)=>⟨[(0,(vl 140 1 jC a)),(1,(vl 140 1 jC b)),(5,(.own 0 140 1 o.length)),(6,(gC c)),(7,(jV i))],[(0,some (bm jC o))]⟩) (fun (i,o,c)=>o.length=i∧Dig o∧i≤max a.length b.length∧c≤1∧val o+pw i*c=val (a.take i)+val (b.take i)) (fun (i,o,c)=>max a.length b.length-i) (0,[],0) wk ⟨rfl,gS,Nat.zero_le _,Nat.zero_le _,by simp [val]⟩ ?_
 rintro ⟨i,o,c⟩ ⟨hl,hd,hi,hc,hv⟩
 have hai:=hda.getD i
 have hbi:=hdb.getD i
 refine jB<|jB<|kx [(19,(vb (decide (((i:Nat):Int)<((a.length:Nat):Int))||decide (((i:Nat):Int)<((b.length:Nat):Int)))))] [] ?_ ?_
 ·refine zM<|zM<|zE (vC kH)<|zE xT<|zE (oV (vb (decide (((i:Nat):Int)<((a.length:Nat):Int)))) (kV (by kernel_rfl)))<|?_
  rcases hb1:(decide (((i:Nat):Int)<((a.length:Nat):Int))) with _ | _
  ·replace hb1:=vM hb1
   exact zM<|zM<|zE (vC kH)<|zE xT<|zE cL<|zZ
  ·replace hb1:=vI hb1
   exact zK<|zK<|zK<|zK<|zE xS<|zZ
 refine jF rfl (fun h2=>?_) (fun h2=>?_)
 ·rw[Bool.or_eq_true,decide_eq_true_eq,decide_eq_true_eq] at h2
  refine jD<|jB<|jH<|jB<|kx [(8,(gC (((a.getD i 0)+(b.getD i 0))+c)))] [] (zM<|zM<|zE (jZ (fT a i (by first | assumption | exact kG _ | exact (qB _).1 | exact (qI _).1)))<|zM<|zM<|zE (jZ (fT b i (by first | assumption | exact kG _ | exact (qB _).1 | exact (qI _).1)))<|zE (vY ((a.getD i 0)+(b.getD i 0)))<|zM<|zE (vY (((a.getD i 0)+(b.getD i 0))+c))<|zM<|zZ) ?_
  refine jB<|kf [(5,(.own 0 140 1 ((o++[((((a.getD i 0)+(b.getD i 0))+c) % 1000000000)]).length)))] [(0,some (bm jC (o++[((((a.getD i 0)+(b.getD i 0))+c) % 1000000000)])))] (zM<|zM<|zE (oRe ((((a.getD i 0)+(b.getD i 0))+c) % 1000000000))<|zE (mU hZ gR ((((a.getD i 0)+(b.getD i 0))+c) % 1000000000))<|zE (dG kH vG yB)<|zA jC o [((((a.getD i 0)+(b.getD i 0))+c) % 1000000000)] rfl kH vG nL<|zM<|zF) ?_
  refine kx [(6,(gC ((((a.getD i 0)+(b.getD i 0))+c) / 1000000000)))] [] (zM<|zE (oQu ((((a.getD i 0)+(b.getD i 0))+c) / 1000000000))<|zM<|zZ) ?_
  refine kx [(7,(jV (i+1)))] [] (zM<|zE (vY (i+1))<|zM<|zZ) ?_
  exact ⟨(i+1,o++[(a.getD i 0+b.getD i 0+c) % 1000000000],(a.getD i 0+b.getD i 0+c) / 1000000000),wk,⟨by simp [hl],dig_push hd (Nat.mod_lt _ (by decide)),by omega,by omega,rplus_step hl hv rfl⟩,(by first|omega|(dsimp only;omega))⟩
 ·rw[Bool.or_eq_false_iff,decide_eq_false_iff_not,decide_eq_false_iff_not] at h2
  rw[take_all (by omega),take_all (by omega)] at hv
  have hp:=val_push (c:=c) hl
  refine kJ<|jB<|kf [(4,(vl 140 1 jC (ofNat (val (o++[c]))))),(5,.junk)] [(0,none)] (zM<|zM<|zE (mU hZ gR c)<|zE (dG kH vG yB)<|zAQ jC o [c] rfl kH vG nL<|zE (jZ (nT false (o++[c]) (dig_push hd (by omega)) (by simp only[List.length_append,List.length_cons,List.length_nil];omega)))<|zE (oF1 aI xZ)<|zM<|zF) ?_
  refine jE ⟨_,(.tmp (d:=(.sl 140 1 (List.map jC (ofNat (val (o++[c])))))) rfl .nil),?_⟩
  rw[hp,hv];rfl
theorem r_minus(a b:List Nat)(hda:Dig a)(hdb:Dig b)(hba:val b≤val a)(hla:a.length≤8796093022208):jQ Tryz.prog 156 [(.sl 140 1 (List.map jC a)),(.sl 140 1 (List.map jC b))] (.sl 140 1 (List.map jC (ofNat (val a-val b)))):=by
 refine jG Tryz.func156 rfl cb156 rfl ?_
 show qK _ _ _ _ ⟨[(0,(vl 140 1 jC a)),(1,(vl 140 1 jC b))],[]⟩
 refine jB<|kx [] [] (zE (dZ 140 1)<|zZ) ?_
 refine jB<|kx [(5,(.own 0 140 1 0))] [(0,some (bm jC []))] (zN (oBo 0 kH vG yB)<|zM<|zZ) ?_
 refine jB<|kx [(6,(gC 0))] [] (zM<|zZ) ?_
 refine jB<|jB<|kx [(7,(jV 0))] [] (zM<|zZ) ?_
 refine jH<|kL (α:=Nat × List Nat × Nat) (fun (i,o,c)=>⟨[(0,(vl 140 1 jC a)),(1,(vl 140 1 jC b)),(5,(.own 0 140 1 o.length)),(6,(gC c)),(7,(jV i))],[(0,some (bm jC o))]⟩) (fun (i,o,c)=>o.length=i∧Dig o∧i≤a.length∧c≤1∧val o+val (b.take i)=val (a.take i)+pw i*c) (fun (i,o,c)=>a.length-i) (0,[],0) wk ⟨rfl,gS,Nat.zero_le _,Nat.zero_le _,by simp [val]⟩ ?_
 rintro ⟨i,o,c⟩ ⟨hl,hd,hi,hc,hv⟩
 have hai:=hda.getD i
 have hbi:=hdb.getD i
 refine jB<|jB<|kx [(13,(vb (decide (((i:Nat):Int)<((a.length:Nat):Int)))))] [] (zM<|zM<|zE (vC kH)<|zE xT<|zZ) ?_
 refine jF rfl (fun h1=>?_) (fun h1=>?_)
 ·replace h1:=vI h1
  refine jD<|jB<|jH<|jB<|kx [(8,(gC (((1000000000+(a.getD i 0))-(b.getD i 0))-c)))] [] (zM<|zM<|zE (jZ (fT a i (by first | assumption | exact kG _ | exact (qB _).1 | exact (qI _).1)))<|zE (vY (1000000000+(a.getD i 0)))<|zM<|zM<|zE (jZ (fT b i (by first | assumption | exact kG _ | exact (qB _).1 | exact (qI _).1)))<|zE (oSb ((1000000000+(a.getD i 0))-(b.getD i 0)))<|zM<|zE (oSb (((1000000000+(a.getD i 0))-(b.getD i 0))-c))<|zM<|zZ) ?_
  refine jB<|kf [(5,(.own 0 140 1 ((o++[((((1000000000+(a.getD i 0))-(b.getD i 0))-c) % 1000000000)]).length)))] [(0,some (bm jC (o++[((((1000000000+(a.getD i 0))-(b.getD i 0))-c) % 1000000000)])))] (zM<|zM<|zE (oRe ((((1000000000+(a.getD i 0))-(b.getD i 0))-c) % 1000000000))<|zE (mU hZ gR ((((1000000000+(a.getD i 0))-(b.getD i 0))-c) % 1000000000))<|zE (dG kH vG yB)<|zA jC o [((((1000000000+(a.getD i 0))-(b.getD i 0))-c) % 1000000000)] rfl kH vG nL<|zM<|zF) ?_
  refine kx [(6,(gC (1-((((1000000000+(a.getD i 0))-(b.getD i 0))-c) / 1000000000))))] [] (zM<|zE (oQu ((((1000000000+(a.getD i 0))-(b.getD i 0))-c) / 1000000000))<|zE (oSb (1-((((1000000000+(a.getD i 0))-(b.getD i 0))-c) / 1000000000)))<|zM<|zZ) ?_
  refine kx [(7,(jV (i+1)))] [] (zM<|zE (vY (i+1))<|zM<|zZ) ?_
  exact ⟨(i+1,o++[(1000000000+a.getD i 0-b.getD i 0-c) % 1000000000],1-(1000000000+a.getD i 0-b.getD i 0-c) / 1000000000),wk,⟨by simp [hl],dig_push hd (Nat.mod_lt _ (by decide)),by omega,by omega,rminus_step hl hv (by omega) (by omega)⟩,(by first|omega|(dsimp only;omega))⟩
 ·replace h1:=vM h1
  have hie:i=a.length:=by omega
  refine kJ<|jB<|kW (vX (t:=5) (k:=0) (es:=List.map jC o) rfl rfl (uS _ _ (fun _=>rfl)) (uT _ _ rfl) (vS _ _ (fun _=>rfl) rfl)) ?_
  refine kx [(4,(vl 140 1 jC (ofNat (val o))))] [] (zM<|zE (jZ (nT false o hd (by omega)))<|zE (oF1 aI xZ)<|zM<|zZ) ?_
  refine jE ⟨_,(.tmp (d:=(.sl 140 1 (List.map jC (ofNat (val o))))) rfl .nil),?_⟩
  rw[rminus_end hda hdb hd hie hl hba hv];rfl
theorem r_scaled(a:List Nat)(d:Nat)(hda:Dig a)(hd1:d≤1000000000)(hla:a.length≤8796093022208):jQ Tryz.prog 241 [(.sl 140 1 (List.map jC a)),(.val (.int .u64 (((d:Nat):Int))))] (.sl 140 1 (List.map jC (ofNat (val a*d)))):=by
 refine jG Tryz.func241 rfl cb241 rfl ?_
 show qK _ _ _ _ ⟨[(0,(vl 140 1 jC a)),(1,(gC d))],[]⟩
 refine jB<|kx [] [] (zE (dZ 140 1)<|zZ) ?_
 refine jB<|kx [(5,(.own 0 140 1 0))] [(0,some (bm jC []))] (zN (oBo 0 kH vG yB)<|zM<|zZ) ?_
 refine jB<|kx [(6,(gC 0))] [] (zM<|zZ) ?_
 refine jB<|jB<|kx [(7,(jV 0))] [] (zM<|zZ) ?_
 refine jH<|kL (α:=Nat × List Nat × Nat) (fun (i,o,c)=>⟨[(0,(vl 140 1 jC a)),(1,(gC d)),(5,(.own 0 140 1 o.length)),(6,(gC c)),(7,(jV i))],[(0,some (bm jC o))]⟩) (fun (i,o,c)=>o.length=i∧Dig o∧i≤a.length∧c≤999999999∧val o+pw i*c=val (a.take i)*d) (fun (i,o,c)=>a.length-i) (0,[],0) wk ⟨rfl,gS,Nat.zero_le _,Nat.zero_le _,by simp [val]⟩ ?_
 rintro ⟨i,o,c⟩ ⟨hl,hd,hi,hc,hv⟩
 have hai:=hda.getD i
 have hpq:a.getD i 0*d≤999999999*1000000000:=Nat.mul_le_mul (by omega) hd1
 refine jB<|jB<|kx [(13,(vb (decide (((i:Nat):Int)<((a.length:Nat):Int)))))] [] (zM<|zM<|zE (vC kH)<|zE xT<|zZ) ?_
 refine jF rfl (fun h1=>?_) (fun h1=>?_)
 ·replace h1:=vI h1
  refine jD<|jB<|jH<|jB<|kx [(8,(gC (((a.getD i 0)*d)+c)))] [] (zM<|zM<|zE (yL kH i (0:Nat))<|zE (yR qP)<|zE (mU yM yN (a.getD i 0))<|zM<|zE (oMl ((a.getD i 0)*d))<|zM<|zE (vY (((a.getD i 0)*d)+c))<|zM<|zZ) ?_
  refine jB<|kf [(5,(.own 0 140 1 ((o++[((((a.getD i 0)*d)+c) % 1000000000)]).length)))] [(0,some (bm jC (o++[((((a.getD i 0)*d)+c) % 1000000000)])))] (zM<|zM<|zE (oRe ((((a.getD i 0)*d)+c) % 1000000000))<|zE (mU hZ gR ((((a.getD i 0)*d)+c) % 1000000000))<|zE (dG kH vG yB)<|zA jC o [((((a.getD i 0)*d)+c) % 1000000000)] rfl kH vG nL<|zM<|zF) ?_
  refine kx [(6,(gC ((((a.getD i 0)*d)+c) / 1000000000)))] [] (zM<|zE (oQu ((((a.getD i 0)*d)+c) / 1000000000))<|zM<|zZ) ?_
  refine kx [(7,(jV (i+1)))] [] (zM<|zE (vY (i+1))<|zM<|zZ) ?_
  exact ⟨(i+1,o++[(a.getD i 0*d+c) % 1000000000],(a.getD i 0*d+c) / 1000000000),wk,⟨by simp [hl],dig_push hd (Nat.mod_lt _ (by decide)),by omega,by omega,rscaled_step hl hv rfl⟩,(by first|omega|(dsimp only;omega))⟩
 ·replace h1:=vM h1
  have hie:i=a.length:=by omega
  rw[take_all (by omega)] at hv
  have hp:=val_push (c:=c) hl
  refine kJ<|jB<|kf [(4,(vl 140 1 jC (ofNat (val (o++[c]))))),(5,.junk)] [(0,none)] (zM<|zM<|zE (mU hZ gR c)<|zE (dG kH vG yB)<|zAQ jC o [c] rfl kH vG nL<|zE (jZ (nT false (o++[c]) (dig_push hd (by omega)) (by simp only[List.length_append,List.length_cons,List.length_nil];omega)))<|zE (oF1 aI xZ)<|zM<|zF) ?_
  refine jE ⟨_,(.tmp (d:=(.sl 140 1 (List.map jC (ofNat (val (o++[c])))))) rfl .nil),?_⟩
  rw[hp,hv];rfl
theorem r_shifted(a:List Nat)(d:Nat)(hda:Dig a)(hd1:d<1000000000)(hla:a.length≤8796093022208):jQ Tryz.prog 242 [(.sl 140 1 (List.map jC a)),(.val (.int .u32 (((d:Nat):Int))))] (.sl 140 1 (List.map jC (ofNat (d+1000000000*val a)))):=by
 refine jG Tryz.func242 rfl cb242 rfl ?_
 show qK _ _ _ _ ⟨[(0,(vl 140 1 jC a)),(1,(fN d))],[]⟩
 refine jB<|kx [] [] (zE (dZ 140 1)<|zZ) ?_
 refine jB<|kf [(4,(vl 140 1 jC (ofNat (val ([d]++a)))))] [(0,none)] (zM<|zN (oBo 0 kH vG yB)<|zM<|zAQ jC [d] a rfl kH vG nL<|zE (jZ (nT false ([d]++a) (bF.2 ⟨yS.2 ⟨hd1,gS⟩,hda⟩) (by simp only[List.length_append,List.length_cons,List.length_nil];omega)))<|zE (oF1 aI xZ)<|zM<|zF) ?_
 refine jE ⟨_,(.tmp (d:=(.sl 140 1 (List.map jC (ofNat (val ([d]++a)))))) rfl .nil),?_⟩
 rfl
end Go.Proofs.YtnajallgoaiahaaGreatDoor
