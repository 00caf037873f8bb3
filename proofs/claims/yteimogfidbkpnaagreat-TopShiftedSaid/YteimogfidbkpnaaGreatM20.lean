/- Part 20 of a proof: rules, plain facts, and functions walked. -/
import Derived.Test.YteimogfidbkpnaaGreatM19
set_option linter.all false
set_option maxRecDepth 4000
namespace Go.Proofs.YteimogfidbkpnaaGreat
open Go.Fid
theorem cb46:callB Tryz.prog 46=true:=by kernel_rfl
theorem cb51:callB Tryz.prog 51=true:=by kernel_rfl
theorem cb86:callB Tryz.prog 86=true:=by kernel_rfl
theorem cb88:callB Tryz.prog 88=true:=by kernel_rfl
theorem cb116:callB Tryz.prog 116=true:=by kernel_rfl
theorem cb117:callB Tryz.prog 117=true:=by kernel_rfl
theorem cb118:callB Tryz.prog 118=true:=by kernel_rfl
theorem cb119:callB Tryz.prog 119=true:=by kernel_rfl
theorem cb120:callB Tryz.prog 120=true:=by kernel_rfl
theorem cb131:callB Tryz.prog 131=true:=by kernel_rfl
theorem dR:fH Tryz.prog 36 1=some (1,34):=by kernel_rfl
theorem cZ(l:List Nat)(i:Nat)(hd:Dig l):jR Tryz.prog 119 [(.sl 121 1 (List.map jB l)),(.val (.int .i64 (((i:Nat):Int))))] (.val (.int .u64 ((((l.getD i 0):Nat):Int)))):=by
 have hg:=hd.getD i
 refine jH Tryz.func119 rfl cb119 rfl ?_
 show qS _ _ _ _ ⟨[(0,(vl 121 1 jB l)),(1,(jL i))],[]⟩
 refine jA<|kx [] [] (zM<|zZ) ?_
 refine jA<|jA<|kx [(8,(vb (decide (((i:Nat):Int)<((l.length:Nat):Int)))))] [] (zM<|zM<|zE (yU kC)<|zE uE<|zZ) ?_
 refine jG rfl (fun h1=>?_) (fun h1=>?_)
 ·replace h1:=vM h1
  refine jA<|kx [(4,(zG (l.getD i 0)))] [] (zM<|zM<|zE (nG kC i (0:Nat))<|zE (xE qJ)<|zE (gM xU xR (l.getD i 0))<|zM<|zZ) ?_
  refine jE ⟨_,(.tmp (d:=(.val (.int .u64 ((((l.getD i 0):Nat):Int))))) rfl .nil),?_⟩
  rfl
 ·replace h1:=vK h1
  refine jC<|jA<|kx [(4,(zG 0))] [] (zM<|zZ) ?_
  refine jE ⟨_,(.tmp (d:=(.val (.int .u64 (0)))) rfl .nil),?_⟩
  rw[show l.getD i 0=0 from getD_out (by omega)];rfl
theorem gA(neg:Bool)(l:List Nat)(hd:Dig l)(hb:l.length≤17592186044416):jR Tryz.prog 86 [(.val (.bool (neg))),(.sl 121 1 (List.map jB l))] (jJ (vO neg (val l))):=by
 refine jH Tryz.func86 rfl cb86 rfl ?_
 show qS _ _ _ _ ⟨[(0,(vb neg)),(1,(vl 121 1 jB l))],[]⟩
 refine jA<|kx [(4,(.ref 0 0))] [(0,some (bx (jJ (kM.mk false []))))] (zN (uX 0 yI yL)<|zZ) ?_
 refine jA<|kx [(5,(jL l.length))] [] (zM<|zE (yU kC)<|zM<|zZ) ?_
 refine jA<|jD<|kP (α:=Nat) (fun k=>⟨[(0,(vb neg)),(1,(vl 121 1 jB l)),(4,(.ref 0 0)),(5,(jL k))],[(0,some (bx (jJ (kM.mk false []))))]⟩) (fun k=>k≤l.length∧val (l.take k)=val l) (fun k=>k) l.length wk ⟨Nat.le_refl _,by rw[List.take_length]⟩ ?_
 rintro k ⟨hk,hv⟩
 refine jA<|jA<|kx [(17,(vb (decide (0<((k:Nat):Int))&&((((l.getD (k-1) 0):Nat):Int) == 0))))] [] ?_ ?_
 ·refine zM<|zE gF<|zE (oV (vb (decide (0<((k:Nat):Int)))) (kT (by kernel_rfl)))<|?_
  rcases hb1:(decide (0<((k:Nat):Int))) with _ | _
  ·replace hb1:=vK hb1
   exact zK<|zK<|zK<|zK<|zK<|zK<|zE cB<|zZ
  ·replace hb1:=vM hb1
   exact zM<|zM<|zE (cO (k-1))<|zE (nG kC (k-1) (0:Nat))<|zE (xE qJ)<|zE oEq<|zE oPa<|zZ
 refine jG rfl (fun h2=>?_) (fun h2=>?_)
 ·have hm:=r_made_step hk hv h2
  have hm0:=hm.1
  refine jC<|jD<|kx [(5,(jL (k-1)))] [] (zM<|zE (cO (k-1))<|zM<|zZ) ?_
  exact ⟨(k-1),wk,⟨by omega,hm.2⟩,(by first|omega|(dsimp only;omega))⟩
 ·refine jV<|jA<|kx [] [(0,some (bx (jJ (kM.mk (neg&&decide (0<((k:Nat):Int))) (List.take k l)))))] ?_ ?_
  ·refine zM<|zE (oV (vb neg) (kT (by kernel_rfl)))<|?_
   rcases hb3:neg with _ | _
   ·exact zK<|zK<|zE cB<|zE (oBe kC)<|zM<|zM<|zE (e_slc (l:=0) (h:=k) (kl:=.i64) (kh:=.i64) (es':=List.map jB (List.take k l)) (by exact rfl) kC (by exact rfl) (by exact rfl) (by exact rfl) (Nat.zero_le _) (by simp only[List.length_map];omega) (by rw[List.drop_zero,List.map_take]))<|zE (e_appe (by exact rfl) kC vC (by kernel_rfl) gH (by exact rfl) (by exact rfl) (by simp only[List.length_map,List.length_take,List.length_drop,List.length_append,List.length_cons,List.length_nil,maxLen];omega) (by simp only[List.length_map,List.length_take,List.length_drop,List.length_append,List.length_cons,List.length_nil];omega))<|zE (oBd pl36 yI yL)<|zT (qF jS)<|zZ
   ·exact zM<|zE gF<|zE oPa<|zE (oBe kC)<|zM<|zM<|zE (e_slc (l:=0) (h:=k) (kl:=.i64) (kh:=.i64) (es':=List.map jB (List.take k l)) (by exact rfl) kC (by exact rfl) (by exact rfl) (by exact rfl) (Nat.zero_le _) (by simp only[List.length_map];omega) (by rw[List.drop_zero,List.map_take]))<|zE (e_appe (by exact rfl) kC vC (by kernel_rfl) gH (by exact rfl) (by exact rfl) (by simp only[List.length_map,List.length_take,List.length_drop,List.length_append,List.length_cons,List.length_nil,maxLen];omega) (by simp only[List.length_map,List.length_take,List.length_drop,List.length_append,List.length_cons,List.length_nil];omega))<|zE (oBd pl36 yI yL)<|zT (qF jS)<|zZ
  refine jE ⟨_,(kV (cs:=(bx (jJ (kM.mk (neg&&decide (0<((k:Nat):Int))) (List.take k l))))) (d:=(jJ (kM.mk (neg&&decide (0<((k:Nat):Int))) (List.take k l)))) rfl rfl jS rfl rfl .nil),?_⟩
  rw[r_made_end hd hk hv h2];rfl
theorem r_valid(x:kM)(hb:x.gs.length≤17592186044416):jR Tryz.prog 51 [(jJ x)] (.val (.bool ((qY x)))):=by
 refine jH Tryz.func51 rfl cb51 rfl ?_
 show qS _ _ _ _ ⟨[(0,(.d (jJ x)))],[]⟩
 refine jA<|kx [(1,(.ref 0 0))] [(0,some (bx (jJ x)))] (zN (vL 0)<|zM<|zZ) ?_
 refine jA<|kx [(3,(jL x.gs.length))] [] (zE (kJ xC)<|zR (kX xX)<|zE (yU kC)<|zM<|zZ) ?_
 refine jA<|jA<|kx [(4,(jL 0))] [] (zM<|zZ) ?_
 refine jD<|kP (α:=Nat) (fun i=>⟨[(1,(.ref 0 0)),(3,(jL x.gs.length)),(4,(jL i))],[(0,some (bx (jJ x)))]⟩) (fun i=>i≤x.gs.length∧Dig (x.gs.take i)) (fun i=>x.gs.length-i) 0 wk ⟨Nat.zero_le _,by rw[List.take_zero];exact yG⟩ ?_
 rintro i ⟨hi,hd⟩
 refine jA<|jA<|kx [(10,(vb (decide (((i:Nat):Int)<((x.gs.length:Nat):Int)))))] [] (zM<|zM<|zE uE<|zZ) ?_
 refine jG rfl (fun h1=>?_) (fun h1=>?_)
 ·replace h1:=vM h1
  refine jC<|jA<|jD<|jA<|kx [(18,(vb (decide (1000000000≤(((x.gs.getD i 0):Nat):Int)))))] [] (zE (kJ xC)<|zR (kX xX)<|zM<|zE (nG kC i (0:Nat))<|zE (xE qJ)<|zE oGe<|zZ) ?_
  refine jG rfl (fun h2=>?_) (fun h2=>?_)
  ·replace h2:=vM h2
   refine jA<|kx [(2,(vb false))] [] (zM<|zZ) ?_
   refine jE ⟨_,(.tmp (d:=(.val (.bool (false)))) rfl .nil),?_⟩
   rw[validI_big (i:=i) (by omega) (by omega)];rfl
  ·replace h2:=vK h2
   refine jC<|kx [(4,(jL (i+1)))] [] (zM<|zE (qP (i+1))<|zM<|zZ) ?_
   exact ⟨(i+1),wk,⟨by omega,dig_take_succ (by omega) hd (by omega)⟩,(by first|omega|(dsimp only;omega))⟩
 ·replace h1:=vK h1
  have hie:i=x.gs.length:=by omega
  rw[hie,List.take_length] at hd
  refine jV<|jA<|jA<|kx [(20,(vb (((x.gs.length:Nat):Int) == 0)))] [] (zM<|zE oEq<|zZ) ?_
  refine jG (b:=(((x.gs.length:Nat):Int) == 0)) rfl (fun h3=>?_) (fun h3=>?_)
  ·replace h3:=eq_of_beq h3
   refine jA<|kx [(2,(vb (!x.neg)))] [] (zE (kJ vN)<|zR (kX sh4)<|zE oNt<|zM<|zZ) ?_
   refine jE ⟨_,(.tmp (d:=(.val (.bool (!x.neg)))) rfl .nil),?_⟩
   rw[validI_nil (by omega)];rfl
  ·replace h3:=ne_of_beq_false h3
   refine jC<|jA<|kx [(2,(vb ((((x.gs.getD (x.gs.length-1) 0):Nat):Int) != 0)))] [] (zE (kJ xC)<|zR (kX xX)<|zM<|zE (cO (x.gs.length-1))<|zE (nG kC (x.gs.length-1) (0:Nat))<|zE (xE qJ)<|zE oNe<|zM<|zZ) ?_
   refine jE ⟨_,(.tmp (d:=(.val (.bool (((((x.gs.getD (x.gs.length-1) 0):Nat):Int) != 0))))) rfl .nil),?_⟩
   rw[validI_dig hd (by omega)];rfl
theorem mI(x:kM)(hb:x.gs.length≤17592186044416):jR Tryz.prog 88 [(jJ x)] (jJ (jZ (jO x))):=by
 refine jH Tryz.func88 rfl cb88 rfl ?_
 show qS _ _ _ _ ⟨[(0,(.d (jJ x)))],[]⟩
 refine jA<|kx [(1,(.ref 0 0)),(2,(.ref 1 0))] [(0,some (bx (jJ x))),(1,some (bx (jJ (kM.mk false []))))] (zN (vL 0)<|zN (uX 1 yI yL)<|zZ) ?_
 refine jA<|jA<|kx [(5,(vb (!(qY x))))] [] (zR (kI jS)<|zE (jX (r_valid x (by omega)))<|zE oNt<|zZ) ?_
 refine jG (b:=!(qY x)) rfl (fun h1=>?_) (fun h1=>?_)
 ·refine jA<|kx [] [(1,some (bx (jJ (kM.mk false []))))] (zE (oBd pl36 yI yL)<|zT (qF jS)<|zZ) ?_
  refine jE ⟨_,(kV (cs:=(bx (jJ (kM.mk false [])))) (d:=(jJ (kM.mk false []))) rfl rfl jS rfl rfl .nil),?_⟩
  rw[toZ_bad (by rw[Bool.not_eq_true'] at h1;exact h1),ofZ_zero];rfl
 ·refine jC<|jA<|kd [] [(1,some (bx (jJ (kM.mk x.neg x.gs))))] mo (wE (kJ vN)<|wR (kX sh4)<|wE (oBe kC)<|wE (kJ xC)<|wR (kX xX)<|wE (e_appe (by exact rfl) kC vC (by kernel_rfl) gH (by exact rfl) (by exact rfl) (by simp only[List.length_map,List.length_take,List.length_drop,List.length_append,List.length_cons,List.length_nil,maxLen];omega) (by simp only[List.length_map,List.length_take,List.length_drop,List.length_append,List.length_cons,List.length_nil];omega))<|wE (oBd pl36 yI yL)<|wT (qF jS)<|wZ) ?_
  refine jE ⟨_,(kV (cs:=(bx (jJ (kM.mk x.neg x.gs)))) (d:=(jJ (kM.mk x.neg x.gs))) rfl rfl jS rfl rfl .nil),?_⟩
  rw[ofZ_toZ (by simpa using h1)];rfl
theorem r_of(n:Int)(hlo:-9223372036854775808≤n)(hhi:n≤9223372036854775807):jR Tryz.prog 46 [(.val (.int .i64 (n)))] (jJ (jZ n)):=by
 refine jH Tryz.func46 rfl cb46 rfl ?_
 show qS _ _ _ _ ⟨[(0,(vi n))],[]⟩
 refine jA<|kx [(2,(.ref 0 0))] [(0,some (bx (jJ (kM.mk false []))))] (zN (uX 0 yI yL)<|zZ) ?_
 refine jA<|kx [(3,(zG ((n % 18446744073709551616).toNat)))] [] (zM<|zE (gM un3 xR ((n % 18446744073709551616).toNat) (hr:=by exact (conv_u64 _)))<|zM<|zZ) ?_
 refine jA<|jA<|kx [(8,(vb (decide (n<0))))] [] (zM<|zE uE<|zZ) ?_
 refine jG (b:=decide (n<0)) rfl (fun h1=>?_) (fun h1=>?_)
 ·replace h1:=vM h1
  refine kx [(3,(zG n.natAbs))] [] (zM<|zE (zAd (n+1))<|zE (oNg (-(n+1)))<|zE (gM un3 xR ((-n-1).toNat) (hr:=by exact (wu64 (by omega) (by omega) (by omega))))<|zE (qP n.natAbs)<|zM<|zZ) ?_
  refine jA<|kx [(4,(.own 1 121 1 0))] [(1,some (bm jB []))] (zN (oBo 1 kC vC xV)<|zM<|zZ) ?_
  refine jA<|jD<|kP (α:=List Nat × Nat) (fun (o,m)=>⟨[(0,(vi n)),(2,(.ref 0 0)),(3,(zG m)),(4,(.own 1 121 1 o.length))],[(0,some (bx (jJ (kM.mk false [])))),(1,some (bm jB o))]⟩) (fun (o,m)=>m≤9223372036854775808∧o++ofNat m=ofNat n.natAbs) (fun (o,m)=>m) ([],n.natAbs) wk ⟨by omega,by rw[List.nil_append]⟩ ?_
  rintro ⟨o,m⟩ ⟨hm,hg⟩
  have hl:=split_len hg (by omega)
  refine jA<|jA<|kx [(16,(vb (decide (0<((m:Nat):Int)))))] [] (zM<|zE gF<|zZ) ?_
  refine jG (b:=decide (0<((m:Nat):Int))) rfl (fun h2=>?_) (fun h2=>?_)
  ·replace h2:=vM h2
   refine jC<|jD<|jA<|kf [(4,(.own 1 121 1 ((o++[(m % 1000000000)]).length)))] [(1,some (bm jB (o++[(m % 1000000000)])))] (zM<|zM<|zE (oRe (m % 1000000000))<|zE (gM yN yE (m % 1000000000))<|zE (oBs kC vC xV)<|zA jB o [(m % 1000000000)] rfl kC vC gH<|zM<|zF) ?_
   refine kx [(3,(zG (m / 1000000000)))] [] (zM<|zE (oQu (m / 1000000000))<|zM<|zZ) ?_
   exact ⟨(o++[m % 1000000000],m / 1000000000),wk,⟨by omega,split_step hg h2⟩,(by first|omega|(dsimp only;omega))⟩
  ·replace h2:=vK h2
   have hdo:Dig o:=split_dig hg h2
   have hvo:=split_val hg h2
   refine jV<|jA<|kE (vP (t:=4) (k:=1) (es:=List.map jB o) rfl rfl (qZ _ _ (fun _=>rfl)) (uR _ _ rfl) (uS _ _ (fun _=>rfl) rfl)) ?_
   refine kx [] [(0,some (bx (jJ (vO (decide (n<0)) (val o)))))] (zM<|zE uE<|zM<|zE (jX (gA (decide (n<0)) o hdo (by omega)))<|zT (qF jS)<|zZ) ?_
   refine jE ⟨_,(kV (cs:=(bx (jJ (vO (decide (n<0)) (val o))))) (d:=(jJ (vO (decide (n<0)) (val o)))) rfl rfl jS rfl rfl .nil),?_⟩
   rw[hvo];rfl
 ·replace h1:=vK h1
  rw[show (n % 18446744073709551616).toNat=n.natAbs from by omega]
  refine jC<|jA<|kx [(3,(zG n.natAbs)),(4,(.own 2 121 1 0))] [(2,some (bm jB []))] (zN (oBo 2 kC vC xV)<|zM<|zZ) ?_
  refine jA<|jD<|kP (α:=List Nat × Nat) (fun (o,m)=>⟨[(0,(vi n)),(2,(.ref 0 0)),(3,(zG m)),(4,(.own 2 121 1 o.length))],[(0,some (bx (jJ (kM.mk false [])))),(2,some (bm jB o))]⟩) (fun (o,m)=>m≤9223372036854775808∧o++ofNat m=ofNat n.natAbs) (fun (o,m)=>m) ([],n.natAbs) wk ⟨by omega,by rw[List.nil_append]⟩ ?_
  rintro ⟨o,m⟩ ⟨hm,hg⟩
  have hl:=split_len hg (by omega)
  refine jA<|jA<|kx [(16,(vb (decide (0<((m:Nat):Int)))))] [] (zM<|zE gF<|zZ) ?_
  refine jG (b:=decide (0<((m:Nat):Int))) rfl (fun h3=>?_) (fun h3=>?_)
  ·replace h3:=vM h3
   refine jC<|jD<|jA<|kf [(4,(.own 2 121 1 ((o++[(m % 1000000000)]).length)))] [(2,some (bm jB (o++[(m % 1000000000)])))] (zM<|zM<|zE (oRe (m % 1000000000))<|zE (gM yN yE (m % 1000000000))<|zE (oBs kC vC xV)<|zA jB o [(m % 1000000000)] rfl kC vC gH<|zM<|zF) ?_
   refine kx [(3,(zG (m / 1000000000)))] [] (zM<|zE (oQu (m / 1000000000))<|zM<|zZ) ?_
   exact ⟨(o++[m % 1000000000],m / 1000000000),wk,⟨by omega,split_step hg h3⟩,(by first|omega|(dsimp only;omega))⟩
  ·replace h3:=vK h3
   have hdo:Dig o:=split_dig hg h3
   have hvo:=split_val hg h3
   refine jV<|jA<|kE (vP (t:=4) (k:=2) (es:=List.map jB o) rfl rfl (qZ _ _ (fun _=>rfl)) (uR _ _ rfl) (uS _ _ (fun _=>rfl) rfl)) ?_
   refine kx [] [(0,some (bx (jJ (vO (decide (n<0)) (val o)))))] (zM<|zE uE<|zM<|zE (jX (gA (decide (n<0)) o hdo (by omega)))<|zT (qF jS)<|zZ) ?_
   refine jE ⟨_,(kV (cs:=(bx (jJ (vO (decide (n<0)) (val o))))) (d:=(jJ (vO (decide (n<0)) (val o)))) rfl rfl jS rfl rfl .nil),?_⟩
   rw[hvo];rfl
theorem r_size(a b:List Nat)(ha:yB a)(hb:yB b)(hla:a.length≤17592186044416)(hlb:b.length≤17592186044416):jR Tryz.prog 116 [(.sl 121 1 (List.map jB a)),(.sl 121 1 (List.map jB b))] (.val (.int .i64 ((uP ((val a:Nat):Int) ((val b:Nat):Int))))):=by
 refine jH Tryz.func116 rfl cb116 rfl ?_
 show qS _ _ _ _ ⟨[(0,(vl 121 1 jB a)),(1,(vl 121 1 jB b))],[]⟩
 refine jA<|kx [] [] (zM<|zZ) ?_
 refine jA<|jA<|kx [(10,(vb (((a.length:Nat):Int) != ((b.length:Nat):Int))))] [] (zM<|zE (yU kC)<|zM<|zE (yU kC)<|zE oNe<|zZ) ?_
 refine jG rfl (fun h1=>?_) (fun h1=>?_)
 ·replace h1:=bne_iff_ne.1 h1
  refine jA<|jA<|kx [(15,(vb (decide (((a.length:Nat):Int)<((b.length:Nat):Int)))))] [] (zM<|zE (yU kC)<|zM<|zE (yU kC)<|zE uE<|zZ) ?_
  refine jG rfl (fun h2=>?_) (fun h2=>?_)
  ·replace h2:=vM h2
   refine jA<|kx [(4,(vi (-1)))] [] (zM<|zZ) ?_
   refine jE ⟨_,(.tmp (d:=(.val (.int .i64 (-1)))) rfl .nil),?_⟩
   rw[← cmpI_len ha hb h1];unfold uP;rw[if_pos (by omega)];rfl
  ·replace h2:=vK h2
   refine jC<|jA<|kx [(4,(jL 1))] [] (zM<|zZ) ?_
   refine jE ⟨_,(.tmp (d:=(.val (.int .i64 (1)))) rfl .nil),?_⟩
   rw[← cmpI_len ha hb h1,dB (by omega)];rfl
 ·replace h1:=bne_eq_false_iff_eq.1 h1
  have hl:a.length=b.length:=by omega
  refine jC<|jA<|jA<|kx [(5,(vi (((a.length:Nat):Int)-1)))] [] (zM<|zE (yU kC)<|zE (cN (((a.length:Nat):Int)-1))<|zM<|zZ) ?_
  refine jD<|kP (α:=Nat) (fun k=>⟨[(0,(vl 121 1 jB a)),(1,(vl 121 1 jB b)),(5,(vi (((k:Nat):Int)-1)))],[]⟩) (fun k=>k≤a.length∧val (a.drop k)=val (b.drop k)) (fun k=>k) a.length wk ⟨Nat.le_refl _,by rw[List.drop_length,hl,List.drop_length]⟩ ?_
  rintro k ⟨hk,he⟩
  refine jA<|jA<|kx [(20,(vb (decide (0≤(((k:Nat):Int)-1)))))] [] (zM<|zE oGe<|zZ) ?_
  refine jG (b:=decide (0≤(((k:Nat):Int)-1))) rfl (fun h3=>?_) (fun h3=>?_)
  ·replace h3:=vM h3
   obtain ⟨i,rfl⟩:∃ i,k=i+1:=⟨k-1,by omega⟩
   rw[show (((i+1:Nat):Int)-1)=((i:Nat):Int) from by omega]
   have ht:=cmpI_top ha.1 hb.1 hl (j:=a.length-1-i) (by omega) (by rw[show a.length-(a.length-1-i)=i+1 by omega];exact he)
   rw[show a.length-1-(a.length-1-i)=i by omega] at ht
   refine jC<|jA<|jD<|jA<|jA<|kd [(5,(jL i)),(31,(vb (decide ((((a.getD i 0):Nat):Int)<(((b.getD i 0):Nat):Int)))))] [] mo (wM<|wM<|wE (nG kC i (0:Nat))<|wE (xE qJ)<|wM<|wM<|wE (nG kC i (0:Nat))<|wE (xE qJ)<|wE uE<|wZ) ?_
   refine jG rfl (fun h4=>?_) (fun h4=>?_)
   ·replace h4:=vM h4
    refine jA<|kx [(4,(vi (-1)))] [] (zM<|zZ) ?_
    refine jE ⟨_,(.tmp (d:=(.val (.int .i64 (-1)))) rfl .nil),?_⟩
    rw[← ht (by omega)];unfold uP;rw[if_pos (by omega)];rfl
   ·replace h4:=vK h4
    refine jC<|jA<|kd [(40,(vb (decide ((((b.getD i 0):Nat):Int)<(((a.getD i 0):Nat):Int)))))] [] mo (wM<|wM<|wE (nG kC i (0:Nat))<|wE (xE qJ)<|wM<|wM<|wE (nG kC i (0:Nat))<|wE (xE qJ)<|wE gF<|wZ) ?_
    refine jG rfl (fun h5=>?_) (fun h5=>?_)
    ·replace h5:=vM h5
     refine jA<|kx [(4,(jL 1))] [] (zM<|zZ) ?_
     refine jE ⟨_,(.tmp (d:=(.val (.int .i64 (1)))) rfl .nil),?_⟩
     rw[← ht (by omega),dB (by omega)];rfl
    ·replace h5:=vK h5
     refine jC<|kx [(5,(vi (((i:Nat):Int)-1)))] [] (zM<|zE (cN (((i:Nat):Int)-1))<|zM<|zZ) ?_
     exact ⟨i,wk,⟨by omega,by rw[vV a i,vV b i,he];omega⟩,(by first|omega|(dsimp only;omega))⟩
  ·replace h3:=vK h3
   obtain rfl:k=0:=by omega
   rw[List.drop_zero,List.drop_zero] at he
   refine jV<|jA<|kx [(4,(jL 0))] [] (zM<|zZ) ?_
   refine jE ⟨_,(.tmp (d:=(.val (.int .i64 (0)))) rfl .nil),?_⟩
   rw[cmpI_same he];rfl
theorem r_plus(a b:List Nat)(hda:Dig a)(hdb:Dig b)(hla:a.length≤8796093022208)(hlb:b.length≤8796093022208):jR Tryz.prog 131 [(.sl 121 1 (List.map jB a)),(.sl 121 1 (List.map jB b))] (.sl 121 1 (List.map jB (ofNat (val a+val b)))):=by
 refine jH Tryz.func131 rfl cb131 rfl ?_
 show qS _ _ _ _ ⟨[(0,(vl 121 1 jB a)),(1,(vl 121 1 jB b))],[]⟩
 refine jA<|kx [] [] (zE (oNl 121 1)<|zZ) ?_
 refine jA<|kx [(5,(.own 0 121 1 0))] [(0,some (bm jB []))] (zN (oBo 0 kC vC xV)<|zM<|zZ) ?_
 refine jA<|kx [(6,(zG 0))] [] (zM<|zZ) ?_
 refine jA<|jA<|kx [(7,(jL 0))] [] (zM<|zZ) ?_
 refine jD<|kP (α:=Nat × List Nat × Nat) (fun (i,o,c)=>⟨[(0,(vl 121 1 jB a)),(1,(vl 121 1 jB b)),(5,(.own 0 121 1 o.length)),(6,(zG c)),(7,(jL i))],[(0,some (bm jB o))]⟩) (fun (i,o,c)=>o.length=i∧Dig o∧i≤max a.length b.length∧c≤1∧val o+pw i*c=val (a.take i)+val (b.take i)) (fun (i,o,c)=>max a.length b.length-i) (0,[],0) wk ⟨rfl,yG,Nat.zero_le _,Nat.zero_le _,by simp [val]⟩ ?_
 rintro ⟨i,o,c⟩ ⟨hl,hd,hi,hc,hv⟩
 have hai:=hda.getD i
 have hbi:=hdb.getD i
 refine jA<|jA<|kx [(19,(vb (decide (((i:Nat):Int)<((a.length:Nat):Int))||decide (((i:Nat):Int)<((b.length:Nat):Int)))))] [] ?_ ?_
 ·refine zM<|zM<|zE (yU kC)<|zE uE<|zE (oV (vb (decide (((i:Nat):Int)<((a.length:Nat):Int)))) (kT (by kernel_rfl)))<|?_
  rcases hb1:(decide (((i:Nat):Int)<((a.length:Nat):Int))) with _ | _
  ·replace hb1:=vK hb1
   exact zM<|zM<|zE (yU kC)<|zE uE<|zE nS<|zZ
  ·replace hb1:=vM hb1
   exact zK<|zK<|zK<|zK<|zE xB<|zZ
 refine jG rfl (fun h2=>?_) (fun h2=>?_)
 ·rw[Bool.or_eq_true,decide_eq_true_eq,decide_eq_true_eq] at h2
  refine jC<|jA<|jD<|jA<|kx [(8,(zG (((a.getD i 0)+(b.getD i 0))+c)))] [] (zM<|zM<|zE (jX (cZ a i (by first | assumption | exact jY _ | exact (kU _).1 | exact (kW _).1)))<|zM<|zM<|zE (jX (cZ b i (by first | assumption | exact jY _ | exact (kU _).1 | exact (kW _).1)))<|zE (qP ((a.getD i 0)+(b.getD i 0)))<|zM<|zE (qP (((a.getD i 0)+(b.getD i 0))+c))<|zM<|zZ) ?_
  refine jA<|kf [(5,(.own 0 121 1 ((o++[((((a.getD i 0)+(b.getD i 0))+c) % 1000000000)]).length)))] [(0,some (bm jB (o++[((((a.getD i 0)+(b.getD i 0))+c) % 1000000000)])))] (zM<|zM<|zE (oRe ((((a.getD i 0)+(b.getD i 0))+c) % 1000000000))<|zE (gM yN yE ((((a.getD i 0)+(b.getD i 0))+c) % 1000000000))<|zE (oBs kC vC xV)<|zA jB o [((((a.getD i 0)+(b.getD i 0))+c) % 1000000000)] rfl kC vC gH<|zM<|zF) ?_
  refine kx [(6,(zG ((((a.getD i 0)+(b.getD i 0))+c) / 1000000000)))] [] (zM<|zE (oQu ((((a.getD i 0)+(b.getD i 0))+c) / 1000000000))<|zM<|zZ) ?_
  refine kx [(7,(jL (i+1)))] [] (zM<|zE (qP (i+1))<|zM<|zZ) ?_
  exact ⟨(i+1,o++[(a.getD i 0+b.getD i 0+c) % 1000000000],(a.getD i 0+b.getD i 0+c) / 1000000000),wk,⟨by simp [hl],dig_push hd (Nat.mod_lt _ (by decide)),by omega,by omega,rplus_step hl hv rfl⟩,(by first|omega|(dsimp only;omega))⟩
 ·rw[Bool.or_eq_false_iff,decide_eq_false_iff_not,decide_eq_false_iff_not] at h2
  rw[take_all (by omega),take_all (by omega)] at hv
  have hp:=val_push (c:=c) hl
  refine jV<|jA<|kf [(4,(vl 121 1 jB (ofNat (val (o++[c]))))),(5,.junk)] [(0,none)] (zM<|zM<|zE (gM yN yE c)<|zE (oBs kC vC xV)<|zAQ jB o [c] rfl kC vC gH<|zE (jX (gA false (o++[c]) (dig_push hd (by omega)) (by simp only[List.length_append,List.length_cons,List.length_nil];omega)))<|zE (oF1 dR xX)<|zM<|zF) ?_
  refine jE ⟨_,(.tmp (d:=(.sl 121 1 (List.map jB (ofNat (val (o++[c])))))) rfl .nil),?_⟩
  rw[hp,hv];rfl
theorem r_minus(a b:List Nat)(hda:Dig a)(hdb:Dig b)(hba:val b≤val a)(hla:a.length≤8796093022208):jR Tryz.prog 120 [(.sl 121 1 (List.map jB a)),(.sl 121 1 (List.map jB b))] (.sl 121 1 (List.map jB (ofNat (val a-val b)))):=by
 refine jH Tryz.func120 rfl cb120 rfl ?_
 show qS _ _ _ _ ⟨[(0,(vl 121 1 jB a)),(1,(vl 121 1 jB b))],[]⟩
 refine jA<|kx [] [] (zE (oNl 121 1)<|zZ) ?_
 refine jA<|kx [(5,(.own 0 121 1 0))] [(0,some (bm jB []))] (zN (oBo 0 kC vC xV)<|zM<|zZ) ?_
 refine jA<|kx [(6,(zG 0))] [] (zM<|zZ) ?_
 refine jA<|jA<|kx [(7,(jL 0))] [] (zM<|zZ) ?_
 refine jD<|kP (α:=Nat × List Nat × Nat) (fun (i,o,c)=>⟨[(0,(vl 121 1 jB a)),(1,(vl 121 1 jB b)),(5,(.own 0 121 1 o.length)),(6,(zG c)),(7,(jL i))],[(0,some (bm jB o))]⟩) (fun (i,o,c)=>o.length=i∧Dig o∧i≤a.length∧c≤1∧val o+val (b.take i)=val (a.take i)+pw i*c) (fun (i,o,c)=>a.length-i) (0,[],0) wk ⟨rfl,yG,Nat.zero_le _,Nat.zero_le _,by simp [val]⟩ ?_
 rintro ⟨i,o,c⟩ ⟨hl,hd,hi,hc,hv⟩
 have hai:=hda.getD i
 have hbi:=hdb.getD i
 refine jA<|jA<|kx [(13,(vb (decide (((i:Nat):Int)<((a.length:Nat):Int)))))] [] (zM<|zM<|zE (yU kC)<|zE uE<|zZ) ?_
 refine jG rfl (fun h1=>?_) (fun h1=>?_)
 ·replace h1:=vM h1
  refine jC<|jA<|jD<|jA<|kx [(8,(zG (((1000000000+(a.getD i 0))-(b.getD i 0))-c)))] [] (zM<|zM<|zE (jX (cZ a i (by first | assumption | exact jY _ | exact (kU _).1 | exact (kW _).1)))<|zE (qP (1000000000+(a.getD i 0)))<|zM<|zM<|zE (jX (cZ b i (by first | assumption | exact jY _ | exact (kU _).1 | exact (kW _).1)))<|zE (cO ((1000000000+(a.getD i 0))-(b.getD i 0)))<|zM<|zE (cO (((1000000000+(a.getD i 0))-(b.getD i 0))-c))<|zM<|zZ) ?_
  refine jA<|kf [(5,(.own 0 121 1 ((o++[((((1000000000+(a.getD i 0))-(b.getD i 0))-c) % 1000000000)]).length)))] [(0,some (bm jB (o++[((((1000000000+(a.getD i 0))-(b.getD i 0))-c) % 1000000000)])))] (zM<|zM<|zE (oRe ((((1000000000+(a.getD i 0))-(b.getD i 0))-c) % 1000000000))<|zE (gM yN yE ((((1000000000+(a.getD i 0))-(b.getD i 0))-c) % 1000000000))<|zE (oBs kC vC xV)<|zA jB o [((((1000000000+(a.getD i 0))-(b.getD i 0))-c) % 1000000000)] rfl kC vC gH<|zM<|zF) ?_
  refine kx [(6,(zG (1-((((1000000000+(a.getD i 0))-(b.getD i 0))-c) / 1000000000))))] [] (zM<|zE (oQu ((((1000000000+(a.getD i 0))-(b.getD i 0))-c) / 1000000000))<|zE (cO (1-((((1000000000+(a.getD i 0))-(b.getD i 0))-c) / 1000000000)))<|zM<|zZ) ?_
  refine kx [(7,(jL (i+1)))] [] (zM<|zE (qP (i+1))<|zM<|zZ) ?_
  exact ⟨(i+1,o++[(1000000000+a.getD i 0-b.getD i 0-c) % 1000000000],1-(1000000000+a.getD i 0-b.getD i 0-c) / 1000000000),wk,⟨by simp [hl],dig_push hd (Nat.mod_lt _ (by decide)),by omega,by omega,rminus_step hl hv (by omega) (by omega)⟩,(by first|omega|(dsimp only;omega))⟩
 ·replace h1:=vK h1
  have hie:i=a.length:=by omega
  refine jV<|jA<|kE (vP (t:=5) (k:=0) (es:=List.map jB o) rfl rfl (qZ _ _ (fun _=>rfl)) (uR _ _ rfl) (uS _ _ (fun _=>rfl) rfl)) ?_
  refine kx [(4,(vl 121 1 jB (ofNat (val o))))] [] (zM<|zE (jX (gA false o hd (by omega)))<|zE (oF1 dR xX)<|zM<|zZ) ?_
  refine jE ⟨_,(.tmp (d:=(.sl 121 1 (List.map jB (ofNat (val o))))) rfl .nil),?_⟩
  rw[rminus_end hda hdb hd hie hl hba hv];rfl
theorem r_scaled(a:List Nat)(d:Nat)(hda:Dig a)(hd1:d≤1000000000)(hla:a.length≤8796093022208):jR Tryz.prog 117 [(.sl 121 1 (List.map jB a)),(.val (.int .u64 (((d:Nat):Int))))] (.sl 121 1 (List.map jB (ofNat (val a*d)))):=by
 refine jH Tryz.func117 rfl cb117 rfl ?_
 show qS _ _ _ _ ⟨[(0,(vl 121 1 jB a)),(1,(zG d))],[]⟩
 refine jA<|kx [] [] (zE (oNl 121 1)<|zZ) ?_
 refine jA<|kx [(5,(.own 0 121 1 0))] [(0,some (bm jB []))] (zN (oBo 0 kC vC xV)<|zM<|zZ) ?_
 refine jA<|kx [(6,(zG 0))] [] (zM<|zZ) ?_
 refine jA<|jA<|kx [(7,(jL 0))] [] (zM<|zZ) ?_
 refine jD<|kP (α:=Nat × List Nat × Nat) (fun (i,o,c)=>⟨[(0,(vl 121 1 jB a)),(1,(zG d)),(5,(.own 0 121 1 o.length)),(6,(zG c)),(7,(jL i))],[(0,some (bm jB o))]⟩) (fun (i,o,c)=>o.length=i∧Dig o∧i≤a.length∧c≤999999999∧val o+pw i*c=val (a.take i)*d) (fun (i,o,c)=>a.length-i) (0,[],0) wk ⟨rfl,yG,Nat.zero_le _,Nat.zero_le _,by simp [val]⟩ ?_
 rintro ⟨i,o,c⟩ ⟨hl,hd,hi,hc,hv⟩
 have hai:=hda.getD i
 have hpq:a.getD i 0*d≤999999999*1000000000:=Nat.mul_le_mul (by omega) hd1
 refine jA<|jA<|kx [(13,(vb (decide (((i:Nat):Int)<((a.length:Nat):Int)))))] [] (zM<|zM<|zE (yU kC)<|zE uE<|zZ) ?_
 refine jG rfl (fun h1=>?_) (fun h1=>?_)
 ·replace h1:=vM h1
  refine jC<|jA<|jD<|jA<|kx [(8,(zG (((a.getD i 0)*d)+c)))] [] (zM<|zM<|zE (nG kC i (0:Nat))<|zE (xE qJ)<|zE (gM xU xR (a.getD i 0))<|zM<|zE (oMl ((a.getD i 0)*d))<|zM<|zE (qP (((a.getD i 0)*d)+c))<|zM<|zZ) ?_
  refine jA<|kf [(5,(.own 0 121 1 ((o++[((((a.getD i 0)*d)+c) % 1000000000)]).length)))] [(0,some (bm jB (o++[((((a.getD i 0)*d)+c) % 1000000000)])))] (zM<|zM<|zE (oRe ((((a.getD i 0)*d)+c) % 1000000000))<|zE (gM yN yE ((((a.getD i 0)*d)+c) % 1000000000))<|zE (oBs kC vC xV)<|zA jB o [((((a.getD i 0)*d)+c) % 1000000000)] rfl kC vC gH<|zM<|zF) ?_
  refine kx [(6,(zG ((((a.getD i 0)*d)+c) / 1000000000)))] [] (zM<|zE (oQu ((((a.getD i 0)*d)+c) / 1000000000))<|zM<|zZ) ?_
  refine kx [(7,(jL (i+1)))] [] (zM<|zE (qP (i+1))<|zM<|zZ) ?_
  exact ⟨(i+1,o++[(a.getD i 0*d+c) % 1000000000],(a.getD i 0*d+c) / 1000000000),wk,⟨by simp [hl],dig_push hd (Nat.mod_lt _ (by decide)),by omega,by omega,rscaled_step hl hv rfl⟩,(by first|omega|(dsimp only;omega))⟩
 ·replace h1:=vK h1
  have hie:i=a.length:=by omega
  rw[take_all (by omega)] at hv
  have hp:=val_push (c:=c) hl
  refine jV<|jA<|kf [(4,(vl 121 1 jB (ofNat (val (o++[c]))))),(5,.junk)] [(0,none)] (zM<|zM<|zE (gM yN yE c)<|zE (oBs kC vC xV)<|zAQ jB o [c] rfl kC vC gH<|zE (jX (gA false (o++[c]) (dig_push hd (by omega)) (by simp only[List.length_append,List.length_cons,List.length_nil];omega)))<|zE (oF1 dR xX)<|zM<|zF) ?_
  refine jE ⟨_,(.tmp (d:=(.sl 121 1 (List.map jB (ofNat (val (o++[c])))))) rfl .nil),?_⟩
  rw[hp,hv];rfl
theorem r_shifted(a:List Nat)(d:Nat)(hda:Dig a)(hd1:d<1000000000)(hla:a.length≤8796093022208):jR Tryz.prog 118 [(.sl 121 1 (List.map jB a)),(.val (.int .u32 (((d:Nat):Int))))] (.sl 121 1 (List.map jB (ofNat (d+1000000000*val a)))):=by
 refine jH Tryz.func118 rfl cb118 rfl ?_
 show qS _ _ _ _ ⟨[(0,(vl 121 1 jB a)),(1,(cV d))],[]⟩
 refine jA<|kx [] [] (zE (oNl 121 1)<|zZ) ?_
 refine jA<|kf [(4,(vl 121 1 jB (ofNat (val ([d]++a)))))] [(0,none)] (zM<|zN (oBo 0 kC vC xV)<|zM<|zAQ jB [d] a rfl kC vC gH<|zE (jX (gA false ([d]++a) (eV.2 ⟨xW.2 ⟨hd1,yG⟩,hda⟩) (by simp only[List.length_append,List.length_cons,List.length_nil];omega)))<|zE (oF1 dR xX)<|zM<|zF) ?_
 refine jE ⟨_,(.tmp (d:=(.sl 121 1 (List.map jB (ofNat (val ([d]++a)))))) rfl .nil),?_⟩
 rfl
end Go.Proofs.YteimogfidbkpnaaGreat
