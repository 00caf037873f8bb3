/- Part 16 of a proof: rules, plain facts, and functions walked. -/
import Derived.Test.YteimogfidbkpnabGreatM15
set_option linter.all false
set_option maxRecDepth 4000
namespace Go.Proofs.YteimogfidbkpnabGreat
open Go.Fid
theorem cb63:callB Tryz.prog 63=true:=by kernel_rfl
theorem cb84:callB Tryz.prog 84=true:=by kernel_rfl
theorem cb88:callB Tryz.prog 88=true:=by kernel_rfl
theorem cb101:callB Tryz.prog 101=true:=by kernel_rfl
theorem cb115:callB Tryz.prog 115=true:=by kernel_rfl
theorem cb116:callB Tryz.prog 116=true:=by kernel_rfl
theorem cb117:callB Tryz.prog 117=true:=by kernel_rfl
theorem cb118:callB Tryz.prog 118=true:=by kernel_rfl
theorem cb119:callB Tryz.prog 119=true:=by kernel_rfl
theorem cb121:callB Tryz.prog 121=true:=by kernel_rfl
theorem eN:aE Tryz.prog 42 1=some (1,40):=by kernel_rfl
theorem dV(l:List Nat)(i:Nat)(hd:Dig l):kB Tryz.prog 118 [(.sl 103 1 (List.map jD l)),(.val (.int .i64 (((i:Nat):Int))))] (.val (.int .u64 ((((l.getD i 0):Nat):Int)))):=by
 have hg:=hd.getD i
 refine jK Tryz.func118 rfl cb118 rfl ?_
 show qU _ _ _ _ ⟨[(0,(vl 103 1 jD l)),(1,(jT i))],[]⟩
 refine jA<|kx [] [] (zM<|zZ) ?_
 refine jA<|jA<|kx [(8,(vb (decide (((i:Nat):Int)<((l.length:Nat):Int)))))] [] (zM<|zM<|zE (xD kC)<|zE uM<|zZ) ?_
 refine jG rfl (fun h1=>?_) (fun h1=>?_)
 ·replace h1:=uW h1
  refine jA<|kx [(4,(xT (l.getD i 0)))] [] (zM<|zM<|zE (gV kC i (0:Nat))<|zE (nG qD)<|zE (yR vW vY (l.getD i 0))<|zM<|zZ) ?_
  refine jI ⟨_,(.tmp (d:=(.val (.int .u64 ((((l.getD i 0):Nat):Int))))) rfl .nil),?_⟩
  rfl
 ·replace h1:=uY h1
  refine jE<|jA<|kx [(4,(xT 0))] [] (zM<|zZ) ?_
  refine jI ⟨_,(.tmp (d:=(.val (.int .u64 (0)))) rfl .nil),?_⟩
  rw[show l.getD i 0=0 from getD_out (by omega)];rfl
theorem yP(neg:Bool)(l:List Nat)(hd:Dig l)(hb:l.length≤17592186044416):kB Tryz.prog 88 [(.val (.bool (neg))),(.sl 103 1 (List.map jD l))] (jJ (vE neg (val l))):=by
 refine jK Tryz.func88 rfl cb88 rfl ?_
 show qU _ _ _ _ ⟨[(0,(vb neg)),(1,(vl 103 1 jD l))],[]⟩
 refine jA<|kx [(4,(.ref 0 0))] [(0,some (bx (jJ (kJ.mk false []))))] (zN (uQ 0 uH uI)<|zZ) ?_
 refine jA<|kx [(5,(jT l.length))] [] (zM<|zE (xD kC)<|zM<|zZ) ?_
 refine jA<|jH<|kI (α:=Nat) (fun k=>⟨[(0,(vb neg)),(1,(vl 103 1 jD l)),(4,(.ref 0 0)),(5,(jT k))],[(0,some (bx (jJ (kJ.mk false []))))]⟩) (fun k=>k≤l.length∧val (l.take k)=val l) (fun k=>k) l.length wk ⟨Nat.le_refl _,by rw[List.take_length]⟩ ?_
 rintro k ⟨hk,hv⟩
 refine jA<|jA<|kx [(17,(vb (decide (0<((k:Nat):Int))&&((((l.getD (k-1) 0):Nat):Int) == 0))))] [] ?_ ?_
 ·refine zM<|zE cK<|zE (oV (vb (decide (0<((k:Nat):Int)))) (kZ (by kernel_rfl)))<|?_
  rcases hb1:(decide (0<((k:Nat):Int))) with _ | _
  ·replace hb1:=uY hb1
   exact zK<|zK<|zK<|zK<|zK<|zK<|zE oPf<|zZ
  ·replace hb1:=uW hb1
   exact zM<|zM<|zE (oSb (k-1))<|zE (gV kC (k-1) (0:Nat))<|zE (nG qD)<|zE gX<|zE oPa<|zZ
 refine jG rfl (fun h2=>?_) (fun h2=>?_)
 ·have hm:=r_made_step hk hv h2
  have hm0:=hm.1
  refine jE<|jH<|kx [(5,(jT (k-1)))] [] (zM<|zE (oSb (k-1))<|zM<|zZ) ?_
  exact ⟨(k-1),wk,⟨by omega,hm.2⟩,(by first|omega|(dsimp only;omega))⟩
 ·refine jW<|jA<|kx [] [(0,some (bx (jJ (kJ.mk (neg&&decide (0<((k:Nat):Int))) (List.take k l)))))] ?_ ?_
  ·refine zM<|zE (oV (vb neg) (kZ (by kernel_rfl)))<|?_
   rcases hb3:neg with _ | _
   ·exact zK<|zK<|zE oPf<|zE (oBe kC)<|zM<|zM<|zE (e_slc (l:=0) (h:=k) (kl:=.i64) (kh:=.i64) (es':=List.map jD (List.take k l)) (by exact rfl) kC (by exact rfl) (by exact rfl) (by exact rfl) (Nat.zero_le _) (by simp only[List.length_map];omega) (by rw[List.drop_zero,List.map_take]))<|zE (e_appe (by exact rfl) kC uO (by kernel_rfl) yX (by exact rfl) (by exact rfl) (by simp only[List.length_map,List.length_take,List.length_drop,List.length_append,List.length_cons,List.length_nil,maxLen];omega) (by simp only[List.length_map,List.length_take,List.length_drop,List.length_append,List.length_cons,List.length_nil];omega))<|zE (eQ pl42 uH uI)<|zT (qA jL)<|zZ
   ·exact zM<|zE cK<|zE oPa<|zE (oBe kC)<|zM<|zM<|zE (e_slc (l:=0) (h:=k) (kl:=.i64) (kh:=.i64) (es':=List.map jD (List.take k l)) (by exact rfl) kC (by exact rfl) (by exact rfl) (by exact rfl) (Nat.zero_le _) (by simp only[List.length_map];omega) (by rw[List.drop_zero,List.map_take]))<|zE (e_appe (by exact rfl) kC uO (by kernel_rfl) yX (by exact rfl) (by exact rfl) (by simp only[List.length_map,List.length_take,List.length_drop,List.length_append,List.length_cons,List.length_nil,maxLen];omega) (by simp only[List.length_map,List.length_take,List.length_drop,List.length_append,List.length_cons,List.length_nil];omega))<|zE (eQ pl42 uH uI)<|zT (qA jL)<|zZ
  refine jI ⟨_,(kQ (cs:=(bx (jJ (kJ.mk (neg&&decide (0<((k:Nat):Int))) (List.take k l))))) (d:=(jJ (kJ.mk (neg&&decide (0<((k:Nat):Int))) (List.take k l)))) rfl rfl jL rfl rfl .nil),?_⟩
  rw[r_made_end hd hk hv h2];rfl
theorem r_valid(x:kJ)(hb:x.gs.length≤17592186044416):kB Tryz.prog 101 [(jJ x)] (.val (.bool ((uF x)))):=by
 refine jK Tryz.func101 rfl cb101 rfl ?_
 show qU _ _ _ _ ⟨[(0,(.d (jJ x)))],[]⟩
 refine jA<|kx [(1,(.ref 0 0))] [(0,some (bx (jJ x)))] (zN (yC 0)<|zM<|zZ) ?_
 refine jA<|kx [(3,(jT x.gs.length))] [] (zE (kV uX)<|zR (kP xB)<|zE (xD kC)<|zM<|zZ) ?_
 refine jA<|jA<|kx [(4,(jT 0))] [] (zM<|zZ) ?_
 refine jH<|kI (α:=Nat) (fun i=>⟨[(1,(.ref 0 0)),(3,(jT x.gs.length)),(4,(jT i))],[(0,some (bx (jJ x)))]⟩) (fun i=>i≤x.gs.length∧Dig (x.gs.take i)) (fun i=>x.gs.length-i) 0 wk ⟨Nat.zero_le _,by rw[List.take_zero];exact zP⟩ ?_
 rintro i ⟨hi,hd⟩
 refine jA<|jA<|kx [(10,(vb (decide (((i:Nat):Int)<((x.gs.length:Nat):Int)))))] [] (zM<|zM<|zE uM<|zZ) ?_
 refine jG rfl (fun h1=>?_) (fun h1=>?_)
 ·replace h1:=uW h1
  refine jE<|jA<|jH<|jA<|kx [(18,(vb (decide (1000000000≤(((x.gs.getD i 0):Nat):Int)))))] [] (zE (kV uX)<|zR (kP xB)<|zM<|zE (gV kC i (0:Nat))<|zE (nG qD)<|zE oGe<|zZ) ?_
  refine jG rfl (fun h2=>?_) (fun h2=>?_)
  ·replace h2:=uW h2
   refine jA<|kx [(2,(vb false))] [] (zM<|zZ) ?_
   refine jI ⟨_,(.tmp (d:=(.val (.bool (false)))) rfl .nil),?_⟩
   rw[validI_big (i:=i) (by omega) (by omega)];rfl
  ·replace h2:=uY h2
   refine jE<|kx [(4,(jT (i+1)))] [] (zM<|zE (qS (i+1))<|zM<|zZ) ?_
   exact ⟨(i+1),wk,⟨by omega,dig_take_succ (by omega) hd (by omega)⟩,(by first|omega|(dsimp only;omega))⟩
 ·replace h1:=uY h1
  have hie:i=x.gs.length:=by omega
  rw[hie,List.take_length] at hd
  refine jW<|jA<|jA<|kx [(20,(vb (((x.gs.length:Nat):Int) == 0)))] [] (zM<|zE gX<|zZ) ?_
  refine jG (b:=(((x.gs.length:Nat):Int) == 0)) rfl (fun h3=>?_) (fun h3=>?_)
  ·replace h3:=eq_of_beq h3
   refine jA<|kx [(2,(vb (!x.neg)))] [] (zE (kV uT)<|zR (kP dJ)<|zE oNt<|zM<|zZ) ?_
   refine jI ⟨_,(.tmp (d:=(.val (.bool (!x.neg)))) rfl .nil),?_⟩
   rw[validI_nil (by omega)];rfl
  ·replace h3:=ne_of_beq_false h3
   refine jE<|jA<|kx [(2,(vb ((((x.gs.getD (x.gs.length-1) 0):Nat):Int) != 0)))] [] (zE (kV uX)<|zR (kP xB)<|zM<|zE (oSb (x.gs.length-1))<|zE (gV kC (x.gs.length-1) (0:Nat))<|zE (nG qD)<|zE fO<|zM<|zZ) ?_
   refine jI ⟨_,(.tmp (d:=(.val (.bool (((((x.gs.getD (x.gs.length-1) 0):Nat):Int) != 0))))) rfl .nil),?_⟩
   rw[validI_dig hd (by omega)];rfl
theorem nJ(x:kJ)(hb:x.gs.length≤17592186044416):kB Tryz.prog 84 [(jJ x)] (jJ (jQ (jS x))):=by
 refine jK Tryz.func84 rfl cb84 rfl ?_
 show qU _ _ _ _ ⟨[(0,(.d (jJ x)))],[]⟩
 refine jA<|kx [(1,(.ref 0 0)),(2,(.ref 1 0))] [(0,some (bx (jJ x))),(1,some (bx (jJ (kJ.mk false []))))] (zN (yC 0)<|zN (uQ 1 uH uI)<|zZ) ?_
 refine jA<|jA<|kx [(5,(vb (!(uF x))))] [] (zR (kY jL)<|zE (kE (r_valid x (by omega)))<|zE oNt<|zZ) ?_
 refine jG (b:=!(uF x)) rfl (fun h1=>?_) (fun h1=>?_)
 ·refine jA<|kx [] [(1,some (bx (jJ (kJ.mk false []))))] (zE (eQ pl42 uH uI)<|zT (qA jL)<|zZ) ?_
  refine jI ⟨_,(kQ (cs:=(bx (jJ (kJ.mk false [])))) (d:=(jJ (kJ.mk false []))) rfl rfl jL rfl rfl .nil),?_⟩
  rw[toZ_bad (by rw[Bool.not_eq_true'] at h1;exact h1),ofZ_zero];rfl
 ·refine jE<|jA<|kd [] [(1,some (bx (jJ (kJ.mk x.neg x.gs))))] mo (wE (kV uT)<|wR (kP dJ)<|wE (oBe kC)<|wE (kV uX)<|wR (kP xB)<|wE (e_appe (by exact rfl) kC uO (by kernel_rfl) yX (by exact rfl) (by exact rfl) (by simp only[List.length_map,List.length_take,List.length_drop,List.length_append,List.length_cons,List.length_nil,maxLen];omega) (by simp only[List.length_map,List.length_take,List.length_drop,List.length_append,List.length_cons,List.length_nil];omega))<|wE (eQ pl42 uH uI)<|wT (qA jL)<|wZ) ?_
  refine jI ⟨_,(kQ (cs:=(bx (jJ (kJ.mk x.neg x.gs)))) (d:=(jJ (kJ.mk x.neg x.gs))) rfl rfl jL rfl rfl .nil),?_⟩
  rw[ofZ_toZ (by simpa using h1)];rfl
theorem r_of(n:Int)(hlo:-9223372036854775808≤n)(hhi:n≤9223372036854775807):kB Tryz.prog 63 [(.val (.int .i64 (n)))] (jJ (jQ n)):=by
 refine jK Tryz.func63 rfl cb63 rfl ?_
 show qU _ _ _ _ ⟨[(0,(vi n))],[]⟩
 refine jA<|kx [(2,(.ref 0 0))] [(0,some (bx (jJ (kJ.mk false []))))] (zN (uQ 0 uH uI)<|zZ) ?_
 refine jA<|kx [(3,(xT ((n % 18446744073709551616).toNat)))] [] (zM<|zE (yR un3 vY ((n % 18446744073709551616).toNat) (hr:=by exact (conv_u64 _)))<|zM<|zZ) ?_
 refine jA<|jA<|kx [(8,(vb (decide (n<0))))] [] (zM<|zE uM<|zZ) ?_
 refine jG (b:=decide (n<0)) rfl (fun h1=>?_) (fun h1=>?_)
 ·replace h1:=uW h1
  refine kx [(3,(xT n.natAbs))] [] (zM<|zE (zAd (n+1))<|zE (oNg (-(n+1)))<|zE (yR un3 vY ((-n-1).toNat) (hr:=by exact (wu64 (by omega) (by omega) (by omega))))<|zE (qS n.natAbs)<|zM<|zZ) ?_
  refine jA<|kx [(4,(.own 1 103 1 0))] [(1,some (bm jD []))] (zN (oBo 1 kC uO xQ)<|zM<|zZ) ?_
  refine jA<|jH<|kI (α:=List Nat × Nat) (fun (o,m)=>⟨[(0,(vi n)),(2,(.ref 0 0)),(3,(xT m)),(4,(.own 1 103 1 o.length))],[(0,some (bx (jJ (kJ.mk false [])))),(1,some (bm jD o))]⟩) (fun (o,m)=>m≤9223372036854775808∧o++ofNat m=ofNat n.natAbs) (fun (o,m)=>m) ([],n.natAbs) wk ⟨by omega,by rw[List.nil_append]⟩ ?_
  rintro ⟨o,m⟩ ⟨hm,hg⟩
  have hl:=split_len hg (by omega)
  refine jA<|jA<|kx [(16,(vb (decide (0<((m:Nat):Int)))))] [] (zM<|zE cK<|zZ) ?_
  refine jG (b:=decide (0<((m:Nat):Int))) rfl (fun h2=>?_) (fun h2=>?_)
  ·replace h2:=uW h2
   refine jE<|jH<|jA<|kf [(4,(.own 1 103 1 ((o++[(m % 1000000000)]).length)))] [(1,some (bm jD (o++[(m % 1000000000)])))] (zM<|zM<|zE (oRe (m % 1000000000))<|zE (yR zG zI (m % 1000000000))<|zE (oBs kC uO xQ)<|zA jD o [(m % 1000000000)] rfl kC uO yX<|zM<|zF) ?_
   refine kx [(3,(xT (m / 1000000000)))] [] (zM<|zE (oQu (m / 1000000000))<|zM<|zZ) ?_
   exact ⟨(o++[m % 1000000000],m / 1000000000),wk,⟨by omega,split_step hg h2⟩,(by first|omega|(dsimp only;omega))⟩
  ·replace h2:=uY h2
   have hdo:Dig o:=split_dig hg h2
   have hvo:=split_val hg h2
   refine jW<|jA<|kX (vV (t:=4) (k:=1) (es:=List.map jD o) rfl rfl (uU _ _ (fun _=>rfl)) (vG _ _ rfl) (vS _ _ (fun _=>rfl) rfl)) ?_
   refine kx [] [(0,some (bx (jJ (vE (decide (n<0)) (val o)))))] (zM<|zE uM<|zM<|zE (kE (yP (decide (n<0)) o hdo (by omega)))<|zT (qA jL)<|zZ) ?_
   refine jI ⟨_,(kQ (cs:=(bx (jJ (vE (decide (n<0)) (val o))))) (d:=(jJ (vE (decide (n<0)) (val o)))) rfl rfl jL rfl rfl .nil),?_⟩
   rw[hvo];rfl
 ·replace h1:=uY h1
  rw[show (n % 18446744073709551616).toNat=n.natAbs from by omega]
  refine jE<|jA<|kx [(3,(xT n.natAbs)),(4,(.own 2 103 1 0))] [(2,some (bm jD []))] (zN (oBo 2 kC uO xQ)<|zM<|zZ) ?_
  refine jA<|jH<|kI (α:=List Nat × Nat) (fun (o,m)=>⟨[(0,(vi n)),(2,(.ref 0 0)),(3,(xT m)),(4,(.own 2 103 1 o.length))],[(0,some (bx (jJ (kJ.mk false [])))),(2,some (bm jD o))]⟩) (fun (o,m)=>m≤9223372036854775808∧o++ofNat m=ofNat n.natAbs) (fun (o,m)=>m) ([],n.natAbs) wk ⟨by omega,by rw[List.nil_append]⟩ ?_
  rintro ⟨o,m⟩ ⟨hm,hg⟩
  have hl:=split_len hg (by omega)
  refine jA<|jA<|kx [(16,(vb (decide (0<((m:Nat):Int)))))] [] (zM<|zE cK<|zZ) ?_
  refine jG (b:=decide (0<((m:Nat):Int))) rfl (fun h3=>?_) (fun h3=>?_)
  ·replace h3:=uW h3
   refine jE<|jH<|jA<|kf [(4,(.own 2 103 1 ((o++[(m % 1000000000)]).length)))] [(2,some (bm jD (o++[(m % 1000000000)])))] (zM<|zM<|zE (oRe (m % 1000000000))<|zE (yR zG zI (m % 1000000000))<|zE (oBs kC uO xQ)<|zA jD o [(m % 1000000000)] rfl kC uO yX<|zM<|zF) ?_
   refine kx [(3,(xT (m / 1000000000)))] [] (zM<|zE (oQu (m / 1000000000))<|zM<|zZ) ?_
   exact ⟨(o++[m % 1000000000],m / 1000000000),wk,⟨by omega,split_step hg h3⟩,(by first|omega|(dsimp only;omega))⟩
  ·replace h3:=uY h3
   have hdo:Dig o:=split_dig hg h3
   have hvo:=split_val hg h3
   refine jW<|jA<|kX (vV (t:=4) (k:=2) (es:=List.map jD o) rfl rfl (uU _ _ (fun _=>rfl)) (vG _ _ rfl) (vS _ _ (fun _=>rfl) rfl)) ?_
   refine kx [] [(0,some (bx (jJ (vE (decide (n<0)) (val o)))))] (zM<|zE uM<|zM<|zE (kE (yP (decide (n<0)) o hdo (by omega)))<|zT (qA jL)<|zZ) ?_
   refine jI ⟨_,(kQ (cs:=(bx (jJ (vE (decide (n<0)) (val o))))) (d:=(jJ (vE (decide (n<0)) (val o)))) rfl rfl jL rfl rfl .nil),?_⟩
   rw[hvo];rfl
theorem r_size(a b:List Nat)(ha:xZ a)(hb:xZ b)(hla:a.length≤17592186044416)(hlb:b.length≤17592186044416):kB Tryz.prog 115 [(.sl 103 1 (List.map jD a)),(.sl 103 1 (List.map jD b))] (.val (.int .i64 ((qY ((val a:Nat):Int) ((val b:Nat):Int))))):=by
 refine jK Tryz.func115 rfl cb115 rfl ?_
 show qU _ _ _ _ ⟨[(0,(vl 103 1 jD a)),(1,(vl 103 1 jD b))],[]⟩
 refine jA<|kx [] [] (zM<|zZ) ?_
 refine jA<|jA<|kx [(10,(vb (((a.length:Nat):Int) != ((b.length:Nat):Int))))] [] (zM<|zE (xD kC)<|zM<|zE (xD kC)<|zE fO<|zZ) ?_
 refine jG rfl (fun h1=>?_) (fun h1=>?_)
 ·replace h1:=bne_iff_ne.1 h1
  refine jA<|jA<|kx [(15,(vb (decide (((a.length:Nat):Int)<((b.length:Nat):Int)))))] [] (zM<|zE (xD kC)<|zM<|zE (xD kC)<|zE uM<|zZ) ?_
  refine jG rfl (fun h2=>?_) (fun h2=>?_)
  ·replace h2:=uW h2
   refine jA<|kx [(4,(vi (-1)))] [] (zM<|zZ) ?_
   refine jI ⟨_,(.tmp (d:=(.val (.int .i64 (-1)))) rfl .nil),?_⟩
   rw[← cmpI_len ha hb h1];unfold qY;rw[if_pos (by omega)];rfl
  ·replace h2:=uY h2
   refine jE<|jA<|kx [(4,(jT 1))] [] (zM<|zZ) ?_
   refine jI ⟨_,(.tmp (d:=(.val (.int .i64 (1)))) rfl .nil),?_⟩
   rw[← cmpI_len ha hb h1,cO (by omega)];rfl
 ·replace h1:=bne_eq_false_iff_eq.1 h1
  have hl:a.length=b.length:=by omega
  refine jE<|jA<|jA<|kx [(5,(vi (((a.length:Nat):Int)-1)))] [] (zM<|zE (xD kC)<|zE (zSb (((a.length:Nat):Int)-1))<|zM<|zZ) ?_
  refine jH<|kI (α:=Nat) (fun k=>⟨[(0,(vl 103 1 jD a)),(1,(vl 103 1 jD b)),(5,(vi (((k:Nat):Int)-1)))],[]⟩) (fun k=>k≤a.length∧val (a.drop k)=val (b.drop k)) (fun k=>k) a.length wk ⟨Nat.le_refl _,by rw[List.drop_length,hl,List.drop_length]⟩ ?_
  rintro k ⟨hk,he⟩
  refine jA<|jA<|kx [(20,(vb (decide (0≤(((k:Nat):Int)-1)))))] [] (zM<|zE oGe<|zZ) ?_
  refine jG (b:=decide (0≤(((k:Nat):Int)-1))) rfl (fun h3=>?_) (fun h3=>?_)
  ·replace h3:=uW h3
   obtain ⟨i,rfl⟩:∃ i,k=i+1:=⟨k-1,by omega⟩
   rw[show (((i+1:Nat):Int)-1)=((i:Nat):Int) from by omega]
   have ht:=cmpI_top ha.1 hb.1 hl (j:=a.length-1-i) (by omega) (by rw[show a.length-(a.length-1-i)=i+1 by omega];exact he)
   rw[show a.length-1-(a.length-1-i)=i by omega] at ht
   refine jE<|jA<|jH<|jA<|jA<|kd [(5,(jT i)),(31,(vb (decide ((((a.getD i 0):Nat):Int)<(((b.getD i 0):Nat):Int)))))] [] mo (wM<|wM<|wE (gV kC i (0:Nat))<|wE (nG qD)<|wM<|wM<|wE (gV kC i (0:Nat))<|wE (nG qD)<|wE uM<|wZ) ?_
   refine jG rfl (fun h4=>?_) (fun h4=>?_)
   ·replace h4:=uW h4
    refine jA<|kx [(4,(vi (-1)))] [] (zM<|zZ) ?_
    refine jI ⟨_,(.tmp (d:=(.val (.int .i64 (-1)))) rfl .nil),?_⟩
    rw[← ht (by omega)];unfold qY;rw[if_pos (by omega)];rfl
   ·replace h4:=uY h4
    refine jE<|jA<|kd [(40,(vb (decide ((((b.getD i 0):Nat):Int)<(((a.getD i 0):Nat):Int)))))] [] mo (wM<|wM<|wE (gV kC i (0:Nat))<|wE (nG qD)<|wM<|wM<|wE (gV kC i (0:Nat))<|wE (nG qD)<|wE cK<|wZ) ?_
    refine jG rfl (fun h5=>?_) (fun h5=>?_)
    ·replace h5:=uW h5
     refine jA<|kx [(4,(jT 1))] [] (zM<|zZ) ?_
     refine jI ⟨_,(.tmp (d:=(.val (.int .i64 (1)))) rfl .nil),?_⟩
     rw[← ht (by omega),cO (by omega)];rfl
    ·replace h5:=uY h5
     refine jE<|kx [(5,(vi (((i:Nat):Int)-1)))] [] (zM<|zE (zSb (((i:Nat):Int)-1))<|zM<|zZ) ?_
     exact ⟨i,wk,⟨by omega,by rw[uG a i,uG b i,he];omega⟩,(by first|omega|(dsimp only;omega))⟩
  ·replace h3:=uY h3
   obtain rfl:k=0:=by omega
   rw[List.drop_zero,List.drop_zero] at he
   refine jW<|jA<|kx [(4,(jT 0))] [] (zM<|zZ) ?_
   refine jI ⟨_,(.tmp (d:=(.val (.int .i64 (0)))) rfl .nil),?_⟩
   rw[cmpI_same he];rfl
theorem r_plus(a b:List Nat)(hda:Dig a)(hdb:Dig b)(hla:a.length≤8796093022208)(hlb:b.length≤8796093022208):kB Tryz.prog 121 [(.sl 103 1 (List.map jD a)),(.sl 103 1 (List.map jD b))] (.sl 103 1 (List.map jD (ofNat (val a+val b)))):=by
 refine jK Tryz.func121 rfl cb121 rfl ?_
 show qU _ _ _ _ ⟨[(0,(vl 103 1 jD a)),(1,(vl 103 1 jD b))],[]⟩
 refine jA<|kx [] [] (zE (oNl 103 1)<|zZ) ?_
 refine jA<|kx [(5,(.own 0 103 1 0))] [(0,some (bm jD []))] (zN (oBo 0 kC uO xQ)<|zM<|zZ) ?_
 refine jA<|kx [(6,(xT 0))] [] (zM<|zZ) ?_
 refine jA<|jA<|kx [(7,(jT 0))] [] (zM<|zZ) ?_
 refine jH<|kI (α:=Nat × List Nat × Nat) (fun (i,o,c)=>⟨[(0,(vl 103 1 jD a)),(1,(vl 103 1 jD b)),(5,(.own 0 103 1 o.length)),(6,(xT c)),(7,(jT i))],[(0,some (bm jD o))]⟩) (fun (i,o,c)=>o.length=i∧Dig o∧i≤max a.length b.length∧c≤1∧val o+pw i*c=val (a.take i)+val (b.take i)) (fun (i,o,c)=>max a.length b.length-i) (0,[],0) wk ⟨rfl,zP,Nat.zero_le _,Nat.zero_le _,by simp [val]⟩ ?_
 rintro ⟨i,o,c⟩ ⟨hl,hd,hi,hc,hv⟩
 have hai:=hda.getD i
 have hbi:=hdb.getD i
 refine jA<|jA<|kx [(19,(vb (decide (((i:Nat):Int)<((a.length:Nat):Int))||decide (((i:Nat):Int)<((b.length:Nat):Int)))))] [] ?_ ?_
 ·refine zM<|zM<|zE (xD kC)<|zE uM<|zE (oV (vb (decide (((i:Nat):Int)<((a.length:Nat):Int)))) (kZ (by kernel_rfl)))<|?_
  rcases hb1:(decide (((i:Nat):Int)<((a.length:Nat):Int))) with _ | _
  ·replace hb1:=uY hb1
   exact zM<|zM<|zE (xD kC)<|zE uM<|zE cF<|zZ
  ·replace hb1:=uW hb1
   exact zK<|zK<|zK<|zK<|zE xC<|zZ
 refine jG rfl (fun h2=>?_) (fun h2=>?_)
 ·rw[Bool.or_eq_true,decide_eq_true_eq,decide_eq_true_eq] at h2
  refine jE<|jA<|jH<|jA<|kx [(8,(xT (((a.getD i 0)+(b.getD i 0))+c)))] [] (zM<|zM<|zE (kE (dV a i (by first | assumption | exact kA _ | exact (kM _).1 | exact (kO _).1)))<|zM<|zM<|zE (kE (dV b i (by first | assumption | exact kA _ | exact (kM _).1 | exact (kO _).1)))<|zE (qS ((a.getD i 0)+(b.getD i 0)))<|zM<|zE (qS (((a.getD i 0)+(b.getD i 0))+c))<|zM<|zZ) ?_
  refine jA<|kf [(5,(.own 0 103 1 ((o++[((((a.getD i 0)+(b.getD i 0))+c) % 1000000000)]).length)))] [(0,some (bm jD (o++[((((a.getD i 0)+(b.getD i 0))+c) % 1000000000)])))] (zM<|zM<|zE (oRe ((((a.getD i 0)+(b.getD i 0))+c) % 1000000000))<|zE (yR zG zI ((((a.getD i 0)+(b.getD i 0))+c) % 1000000000))<|zE (oBs kC uO xQ)<|zA jD o [((((a.getD i 0)+(b.getD i 0))+c) % 1000000000)] rfl kC uO yX<|zM<|zF) ?_
  refine kx [(6,(xT ((((a.getD i 0)+(b.getD i 0))+c) / 1000000000)))] [] (zM<|zE (oQu ((((a.getD i 0)+(b.getD i 0))+c) / 1000000000))<|zM<|zZ) ?_
  refine kx [(7,(jT (i+1)))] [] (zM<|zE (qS (i+1))<|zM<|zZ) ?_
  exact ⟨(i+1,o++[(a.getD i 0+b.getD i 0+c) % 1000000000],(a.getD i 0+b.getD i 0+c) / 1000000000),wk,⟨by simp [hl],dig_push hd (Nat.mod_lt _ (by decide)),by omega,by omega,rplus_step hl hv rfl⟩,(by first|omega|(dsimp only;omega))⟩
 ·rw[Bool.or_eq_false_iff,decide_eq_false_iff_not,decide_eq_false_iff_not] at h2
  rw[take_all (by omega),take_all (by omega)] at hv
  have hp:=val_push (c:=c) hl
  refine jW<|jA<|kf [(4,(vl 103 1 jD (ofNat (val (o++[c]))))),(5,.junk)] [(0,none)] (zM<|zM<|zE (yR zG zI c)<|zE (oBs kC uO xQ)<|zAQ jD o [c] rfl kC uO yX<|zE (kE (yP false (o++[c]) (dig_push hd (by omega)) (by simp only[List.length_append,List.length_cons,List.length_nil];omega)))<|zE (oF1 eN xB)<|zM<|zF) ?_
  refine jI ⟨_,(.tmp (d:=(.sl 103 1 (List.map jD (ofNat (val (o++[c])))))) rfl .nil),?_⟩
  rw[hp,hv];rfl
theorem r_minus(a b:List Nat)(hda:Dig a)(hdb:Dig b)(hba:val b≤val a)(hla:a.length≤8796093022208):kB Tryz.prog 119 [(.sl 103 1 (List.map jD a)),(.sl 103 1 (List.map jD b))] (.sl 103 1 (List.map jD (ofNat (val a-val b)))):=by
 refine jK Tryz.func119 rfl cb119 rfl ?_
 show qU _ _ _ _ ⟨[(0,(vl 103 1 jD a)),(1,(vl 103 1 jD b))],[]⟩
 refine jA<|kx [] [] (zE (oNl 103 1)<|zZ) ?_
 refine jA<|kx [(5,(.own 0 103 1 0))] [(0,some (bm jD []))] (zN (oBo 0 kC uO xQ)<|zM<|zZ) ?_
 refine jA<|kx [(6,(xT 0))] [] (zM<|zZ) ?_
 refine jA<|jA<|kx [(7,(jT 0))] [] (zM<|zZ) ?_
 refine jH<|kI (α:=Nat × List Nat × Nat) (fun (i,o,c)=>⟨[(0,(vl 103 1 jD a)),(1,(vl 103 1 jD b)),(5,(.own 0 103 1 o.length)),(6,(xT c)),(7,(jT i))],[(0,some (bm jD o))]⟩) (fun (i,o,c)=>o.length=i∧Dig o∧i≤a.length∧c≤1∧val o+val (b.take i)=val (a.take i)+pw i*c) (fun (i,o,c)=>a.length-i) (0,[],0) wk ⟨rfl,zP,Nat.zero_le _,Nat.zero_le _,by simp [val]⟩ ?_
 rintro ⟨i,o,c⟩ ⟨hl,hd,hi,hc,hv⟩
 have hai:=hda.getD i
 have hbi:=hdb.getD i
 refine jA<|jA<|kx [(13,(vb (decide (((i:Nat):Int)<((a.length:Nat):Int)))))] [] (zM<|zM<|zE (xD kC)<|zE uM<|zZ) ?_
 refine jG rfl (fun h1=>?_) (fun h1=>?_)
 ·replace h1:=uW h1
  refine jE<|jA<|jH<|jA<|kx [(8,(xT (((1000000000+(a.getD i 0))-(b.getD i 0))-c)))] [] (zM<|zM<|zE (kE (dV a i (by first | assumption | exact kA _ | exact (kM _).1 | exact (kO _).1)))<|zE (qS (1000000000+(a.getD i 0)))<|zM<|zM<|zE (kE (dV b i (by first | assumption | exact kA _ | exact (kM _).1 | exact (kO _).1)))<|zE (oSb ((1000000000+(a.getD i 0))-(b.getD i 0)))<|zM<|zE (oSb (((1000000000+(a.getD i 0))-(b.getD i 0))-c))<|zM<|zZ) ?_
  refine jA<|kf [(5,(.own 0 103 1 ((o++[((((1000000000+(a.getD i 0))-(b.getD i 0))-c) % 1000000000)]).length)))] [(0,some (bm jD (o++[((((1000000000+(a.getD i 0))-(b.getD i 0))-c) % 1000000000)])))] (zM<|zM<|zE (oRe ((((1000000000+(a.getD i 0))-(b.getD i 0))-c) % 1000000000))<|zE (yR zG zI ((((1000000000+(a.getD i 0))-(b.getD i 0))-c) % 1000000000))<|zE (oBs kC uO xQ)<|zA jD o [((((1000000000+(a.getD i 0))-(b.getD i 0))-c) % 1000000000)] rfl kC uO yX<|zM<|zF) ?_
  refine kx [(6,(xT (1-((((1000000000+(a.getD i 0))-(b.getD i 0))-c) / 1000000000))))] [] (zM<|zE (oQu ((((1000000000+(a.getD i 0))-(b.getD i 0))-c) / 1000000000))<|zE (oSb (1-((((1000000000+(a.getD i 0))-(b.getD i 0))-c) / 1000000000)))<|zM<|zZ) ?_
  refine kx [(7,(jT (i+1)))] [] (zM<|zE (qS (i+1))<|zM<|zZ) ?_
  exact ⟨(i+1,o++[(1000000000+a.getD i 0-b.getD i 0-c) % 1000000000],1-(1000000000+a.getD i 0-b.getD i 0-c) / 1000000000),wk,⟨by simp [hl],dig_push hd (Nat.mod_lt _ (by decide)),by omega,by omega,rminus_step hl hv (by omega) (by omega)⟩,(by first|omega|(dsimp only;omega))⟩
 ·replace h1:=uY h1
  have hie:i=a.length:=by omega
  refine jW<|jA<|kX (vV (t:=5) (k:=0) (es:=List.map jD o) rfl rfl (uU _ _ (fun _=>rfl)) (vG _ _ rfl) (vS _ _ (fun _=>rfl) rfl)) ?_
  refine kx [(4,(vl 103 1 jD (ofNat (val o))))] [] (zM<|zE (kE (yP false o hd (by omega)))<|zE (oF1 eN xB)<|zM<|zZ) ?_
  refine jI ⟨_,(.tmp (d:=(.sl 103 1 (List.map jD (ofNat (val o))))) rfl .nil),?_⟩
  rw[rminus_end hda hdb hd hie hl hba hv];rfl
theorem r_scaled(a:List Nat)(d:Nat)(hda:Dig a)(hd1:d≤1000000000)(hla:a.length≤8796093022208):kB Tryz.prog 116 [(.sl 103 1 (List.map jD a)),(.val (.int .u64 (((d:Nat):Int))))] (.sl 103 1 (List.map jD (ofNat (val a*d)))):=by
 refine jK Tryz.func116 rfl cb116 rfl ?_
 show qU _ _ _ _ ⟨[(0,(vl 103 1 jD a)),(1,(xT d))],[]⟩
 refine jA<|kx [] [] (zE (oNl 103 1)<|zZ) ?_
 refine jA<|kx [(5,(.own 0 103 1 0))] [(0,some (bm jD []))] (zN (oBo 0 kC uO xQ)<|zM<|zZ) ?_
 refine jA<|kx [(6,(xT 0))] [] (zM<|zZ) ?_
 refine jA<|jA<|kx [(7,(jT 0))] [] (zM<|zZ) ?_
 refine jH<|kI (α:=Nat × List Nat × Nat) (fun (i,o,c)=>⟨[(0,(vl 103 1 jD a)),(1,(xT d)),(5,(.own 0 103 1 o.length)),(6,(xT c)),(7,(jT i))],[(0,some (bm jD o))]⟩) (fun (i,o,c)=>o.length=i∧Dig o∧i≤a.length∧c≤999999999∧val o+pw i*c=val (a.take i)*d) (fun (i,o,c)=>a.length-i) (0,[],0) wk ⟨rfl,zP,Nat.zero_le _,Nat.zero_le _,by simp [val]⟩ ?_
 rintro ⟨i,o,c⟩ ⟨hl,hd,hi,hc,hv⟩
 have hai:=hda.getD i
 have hpq:a.getD i 0*d≤999999999*1000000000:=Nat.mul_le_mul (by omega) hd1
 refine jA<|jA<|kx [(13,(vb (decide (((i:Nat):Int)<((a.length:Nat):Int)))))] [] (zM<|zM<|zE (xD kC)<|zE uM<|zZ) ?_
 refine jG rfl (fun h1=>?_) (fun h1=>?_)
 ·replace h1:=uW h1
  refine jE<|jA<|jH<|jA<|kx [(8,(xT (((a.getD i 0)*d)+c)))] [] (zM<|zM<|zE (gV kC i (0:Nat))<|zE (nG qD)<|zE (yR vW vY (a.getD i 0))<|zM<|zE (oMl ((a.getD i 0)*d))<|zM<|zE (qS (((a.getD i 0)*d)+c))<|zM<|zZ) ?_
  refine jA<|kf [(5,(.own 0 103 1 ((o++[((((a.getD i 0)*d)+c) % 1000000000)]).length)))] [(0,some (bm jD (o++[((((a.getD i 0)*d)+c) % 1000000000)])))] (zM<|zM<|zE (oRe ((((a.getD i 0)*d)+c) % 1000000000))<|zE (yR zG zI ((((a.getD i 0)*d)+c) % 1000000000))<|zE (oBs kC uO xQ)<|zA jD o [((((a.getD i 0)*d)+c) % 1000000000)] rfl kC uO yX<|zM<|zF) ?_
  refine kx [(6,(xT ((((a.getD i 0)*d)+c) / 1000000000)))] [] (zM<|zE (oQu ((((a.getD i 0)*d)+c) / 1000000000))<|zM<|zZ) ?_
  refine kx [(7,(jT (i+1)))] [] (zM<|zE (qS (i+1))<|zM<|zZ) ?_
  exact ⟨(i+1,o++[(a.getD i 0*d+c) % 1000000000],(a.getD i 0*d+c) / 1000000000),wk,⟨by simp [hl],dig_push hd (Nat.mod_lt _ (by decide)),by omega,by omega,rscaled_step hl hv rfl⟩,(by first|omega|(dsimp only;omega))⟩
 ·replace h1:=uY h1
  have hie:i=a.length:=by omega
  rw[take_all (by omega)] at hv
  have hp:=val_push (c:=c) hl
  refine jW<|jA<|kf [(4,(vl 103 1 jD (ofNat (val (o++[c]))))),(5,.junk)] [(0,none)] (zM<|zM<|zE (yR zG zI c)<|zE (oBs kC uO xQ)<|zAQ jD o [c] rfl kC uO yX<|zE (kE (yP false (o++[c]) (dig_push hd (by omega)) (by simp only[List.length_append,List.length_cons,List.length_nil];omega)))<|zE (oF1 eN xB)<|zM<|zF) ?_
  refine jI ⟨_,(.tmp (d:=(.sl 103 1 (List.map jD (ofNat (val (o++[c])))))) rfl .nil),?_⟩
  rw[hp,hv];rfl
theorem r_shifted(a:List Nat)(d:Nat)(hda:Dig a)(hd1:d<1000000000)(hla:a.length≤8796093022208):kB Tryz.prog 117 [(.sl 103 1 (List.map jD a)),(.val (.int .u32 (((d:Nat):Int))))] (.sl 103 1 (List.map jD (ofNat (d+1000000000*val a)))):=by
 refine jK Tryz.func117 rfl cb117 rfl ?_
 show qU _ _ _ _ ⟨[(0,(vl 103 1 jD a)),(1,(dD d))],[]⟩
 refine jA<|kx [] [] (zE (oNl 103 1)<|zZ) ?_
 refine jA<|kf [(4,(vl 103 1 jD (ofNat (val ([d]++a)))))] [(0,none)] (zM<|zN (oBo 0 kC uO xQ)<|zM<|zAQ jD [d] a rfl kC uO yX<|zE (kE (yP false ([d]++a) (fX.2 ⟨xP.2 ⟨hd1,zP⟩,hda⟩) (by simp only[List.length_append,List.length_cons,List.length_nil];omega)))<|zE (oF1 eN xB)<|zM<|zF) ?_
 refine jI ⟨_,(.tmp (d:=(.sl 103 1 (List.map jD (ofNat (val ([d]++a)))))) rfl .nil),?_⟩
 rfl
end Go.Proofs.YteimogfidbkpnabGreat
