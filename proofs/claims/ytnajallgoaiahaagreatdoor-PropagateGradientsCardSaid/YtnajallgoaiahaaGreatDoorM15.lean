/- Part 15 of a proof: rules, plain facts, and functions walked. -/
import Derived.Test.YtnajallgoaiahaaGreatDoorM14
set_option linter.unusedVariables false
set_option linter.unusedSimpArgs false
set_option maxRecDepth 4000
namespace Go.Proofs.YtnajallgoaiahaaGreatDoor
open Go.Fid
theorem cb116:callB Tryz.prog 116=true:=by kernel_rfl
theorem cb144:callB Tryz.prog 144=true:=by kernel_rfl
theorem cb147:callB Tryz.prog 147=true:=by kernel_rfl
theorem cb153:callB Tryz.prog 153=true:=by kernel_rfl
theorem cb154:callB Tryz.prog 154=true:=by kernel_rfl
theorem cb155:callB Tryz.prog 155=true:=by kernel_rfl
theorem cb156:callB Tryz.prog 156=true:=by kernel_rfl
theorem cb233:callB Tryz.prog 233=true:=by kernel_rfl
theorem cb241:callB Tryz.prog 241=true:=by kernel_rfl
theorem cb242:callB Tryz.prog 242=true:=by kernel_rfl
theorem aV:bT Tryz.prog 43 1=some (1,41):=by kernel_rfl
theorem aB(l:List Nat)(i:Nat)(hd:Dig l):jS Tryz.prog 233 [(.sl 140 1 (List.map jE l)),(.val (.int .i64 (((i:Nat):Int))))] (.val (.int .u64 ((((l.getD i 0):Nat):Int)))):=by
 have hg:=hd.getD i
 refine jJ Tryz.func233 rfl cb233 rfl ?_
 show qM _ _ _ _ ⟨[(0,(vl 140 1 jE l)),(1,(jK i))],[]⟩
 refine jB<|kx [] [] (zM<|zZ) ?_
 refine jB<|jB<|kx [(8,(vb (decide (((i:Nat):Int)<((l.length:Nat):Int)))))] [] (zM<|zM<|zE (zD kV)<|zE xY<|zZ) ?_
 refine jH rfl (fun h1=>?_) (fun h1=>?_)
 ·replace h1:=vJ h1
  refine jB<|kx [(4,(gW (l.getD i 0)))] [] (zM<|zM<|zE (nE kV i (0:Nat))<|zE (nC uG)<|zE (cA gH gF (l.getD i 0))<|zM<|zZ) ?_
  refine jG ⟨_,(.tmp (d:=(.val (.int .u64 ((((l.getD i 0):Nat):Int))))) rfl .nil),?_⟩
  rfl
 ·replace h1:=vM h1
  refine jF<|jB<|kx [(4,(gW 0))] [] (zM<|zZ) ?_
  refine jG ⟨_,(.tmp (d:=(.val (.int .u64 (0)))) rfl .nil),?_⟩
  rw[show l.getD i 0=0 from getD_out (by omega)];rfl
theorem mG(neg:Bool)(l:List Nat)(hd:Dig l)(hb:l.length≤17592186044416):jS Tryz.prog 147 [(.val (.bool (neg))),(.sl 140 1 (List.map jE l))] (jT (xX neg (val l))):=by
 refine jJ Tryz.func147 rfl cb147 rfl ?_
 show qM _ _ _ _ ⟨[(0,(vb neg)),(1,(vl 140 1 jE l))],[]⟩
 refine jB<|kx [(4,(.ref 0 0))] [(0,some (bx (jT (qG.mk false []))))] (zN (qW 0 gC gA)<|zZ) ?_
 refine jB<|kx [(5,(jK l.length))] [] (zM<|zE (zD kV)<|zM<|zZ) ?_
 refine jB<|jI<|kM (α:=Nat) (fun k=>⟨[(0,(vb neg)),(1,(vl 140 1 jE l)),(4,(.ref 0 0)),(5,(jK k))],[(0,some (bx (jT (qG.mk false []))))]⟩) (fun k=>k≤l.length∧val (l.take k)=val l) (fun k=>k) l.length wk ⟨Nat.le_refl _,by rw[List.take_length]⟩ ?_
 rintro k ⟨hk,hv⟩
 refine jB<|jB<|kx [(17,(vb (decide (0<((k:Nat):Int))&&((((l.getD (k-1) 0):Nat):Int) == 0))))] [] ?_ ?_
 ·refine zM<|zE gD<|zE (oV (vb (decide (0<((k:Nat):Int)))) (qQ (by kernel_rfl)))<|?_
  rcases hb1:(decide (0<((k:Nat):Int))) with _ | _
  ·replace hb1:=vM hb1
   exact zK<|zK<|zK<|zK<|zK<|zK<|zE gE<|zZ
  ·replace hb1:=vJ hb1
   exact zM<|zM<|zE (oSb (k-1))<|zE (nE kV (k-1) (0:Nat))<|zE (nC uG)<|zE xR<|zE fA<|zZ
 refine jH rfl (fun h2=>?_) (fun h2=>?_)
 ·have hm:=r_made_step hk hv h2
  have hm0:=hm.1
  refine jF<|jI<|kx [(5,(jK (k-1)))] [] (zM<|zE (oSb (k-1))<|zM<|zZ) ?_
  exact ⟨(k-1),wk,⟨by omega,hm.2⟩,(by first|omega|(dsimp only;omega))⟩
 ·refine kL<|jB<|kx [] [(0,some (bx (jT (qG.mk (neg&&decide (0<((k:Nat):Int))) (List.take k l)))))] ?_ ?_
  ·refine zM<|zE (oV (vb neg) (qQ (by kernel_rfl)))<|?_
   rcases hb3:neg with _ | _
   ·exact zK<|zK<|zE gE<|zE (oBe kV)<|zM<|zM<|zE (e_slc (l:=0) (h:=k) (kl:=.i64) (kh:=.i64) (es':=List.map jE (List.take k l)) (by exact rfl) kV (by exact rfl) (by exact rfl) (by exact rfl) (Nat.zero_le _) (by simp only[List.length_map];omega) (by rw[List.drop_zero,List.map_take]))<|zE (e_appe (by exact rfl) kV xH (by kernel_rfl) nZ (by exact rfl) (by exact rfl) (by simp only[List.length_map,List.length_take,List.length_drop,List.length_append,List.length_cons,List.length_nil,maxLen];omega) (by simp only[List.length_map,List.length_take,List.length_drop,List.length_append,List.length_cons,List.length_nil];omega))<|zE (cS pl43 gC gA)<|zT (qF kD)<|zZ
   ·exact zM<|zE gD<|zE fA<|zE (oBe kV)<|zM<|zM<|zE (e_slc (l:=0) (h:=k) (kl:=.i64) (kh:=.i64) (es':=List.map jE (List.take k l)) (by exact rfl) kV (by exact rfl) (by exact rfl) (by exact rfl) (Nat.zero_le _) (by simp only[List.length_map];omega) (by rw[List.drop_zero,List.map_take]))<|zE (e_appe (by exact rfl) kV xH (by kernel_rfl) nZ (by exact rfl) (by exact rfl) (by simp only[List.length_map,List.length_take,List.length_drop,List.length_append,List.length_cons,List.length_nil,maxLen];omega) (by simp only[List.length_map,List.length_take,List.length_drop,List.length_append,List.length_cons,List.length_nil];omega))<|zE (cS pl43 gC gA)<|zT (qF kD)<|zZ
  refine jG ⟨_,(kJ (cs:=(bx (jT (qG.mk (neg&&decide (0<((k:Nat):Int))) (List.take k l))))) (d:=(jT (qG.mk (neg&&decide (0<((k:Nat):Int))) (List.take k l)))) rfl rfl kD rfl rfl .nil),?_⟩
  rw[r_made_end hd hk hv h2];rfl
theorem r_valid(x:qG)(hb:x.gs.length≤17592186044416):jS Tryz.prog 116 [(jT x)] (.val (.bool ((vC x)))):=by
 refine jJ Tryz.func116 rfl cb116 rfl ?_
 show qM _ _ _ _ ⟨[(0,(.d (jT x)))],[]⟩
 refine jB<|kx [(1,(.ref 0 0))] [(0,some (bx (jT x)))] (zN (uY 0)<|zM<|zZ) ?_
 refine jB<|kx [(3,(jK x.gs.length))] [] (zE (qA xN)<|zR (qX yH)<|zE (zD kV)<|zM<|zZ) ?_
 refine jB<|jB<|kx [(4,(jK 0))] [] (zM<|zZ) ?_
 refine jI<|kM (α:=Nat) (fun i=>⟨[(1,(.ref 0 0)),(3,(jK x.gs.length)),(4,(jK i))],[(0,some (bx (jT x)))]⟩) (fun i=>i≤x.gs.length∧Dig (x.gs.take i)) (fun i=>x.gs.length-i) 0 wk ⟨Nat.zero_le _,by rw[List.take_zero];exact nI⟩ ?_
 rintro i ⟨hi,hd⟩
 refine jB<|jB<|kx [(10,(vb (decide (((i:Nat):Int)<((x.gs.length:Nat):Int)))))] [] (zM<|zM<|zE xY<|zZ) ?_
 refine jH rfl (fun h1=>?_) (fun h1=>?_)
 ·replace h1:=vJ h1
  refine jF<|jB<|jI<|jB<|kx [(18,(vb (decide (1000000000≤(((x.gs.getD i 0):Nat):Int)))))] [] (zE (qA xN)<|zR (qX yH)<|zM<|zE (nE kV i (0:Nat))<|zE (nC uG)<|zE oGe<|zZ) ?_
  refine jH rfl (fun h2=>?_) (fun h2=>?_)
  ·replace h2:=vJ h2
   refine jB<|kx [(2,(vb false))] [] (zM<|zZ) ?_
   refine jG ⟨_,(.tmp (d:=(.val (.bool (false)))) rfl .nil),?_⟩
   rw[validI_big (i:=i) (by omega) (by omega)];rfl
  ·replace h2:=vM h2
   refine jF<|kx [(4,(jK (i+1)))] [] (zM<|zE (xE (i+1))<|zM<|zZ) ?_
   exact ⟨(i+1),wk,⟨by omega,dig_take_succ (by omega) hd (by omega)⟩,(by first|omega|(dsimp only;omega))⟩
 ·replace h1:=vM h1
  have hie:i=x.gs.length:=by omega
  rw[hie,List.take_length] at hd
  refine kL<|jB<|jB<|kx [(20,(vb (((x.gs.length:Nat):Int) == 0)))] [] (zM<|zE xR<|zZ) ?_
  refine jH (b:=(((x.gs.length:Nat):Int) == 0)) rfl (fun h3=>?_) (fun h3=>?_)
  ·replace h3:=eq_of_beq h3
   refine jB<|kx [(2,(vb (!x.neg)))] [] (zE (qA xG)<|zR (qX bJ)<|zE mT<|zM<|zZ) ?_
   refine jG ⟨_,(.tmp (d:=(.val (.bool (!x.neg)))) rfl .nil),?_⟩
   rw[validI_nil (by omega)];rfl
  ·replace h3:=ne_of_beq_false h3
   refine jF<|jB<|kx [(2,(vb ((((x.gs.getD (x.gs.length-1) 0):Nat):Int) != 0)))] [] (zE (qA xN)<|zR (qX yH)<|zM<|zE (oSb (x.gs.length-1))<|zE (nE kV (x.gs.length-1) (0:Nat))<|zE (nC uG)<|zE cR<|zM<|zZ) ?_
   refine jG ⟨_,(.tmp (d:=(.val (.bool (((((x.gs.getD (x.gs.length-1) 0):Nat):Int) != 0))))) rfl .nil),?_⟩
   rw[validI_dig hd (by omega)];rfl
theorem eI(x:qG)(hb:x.gs.length≤17592186044416):jS Tryz.prog 144 [(jT x)] (jT (kS (kH x))):=by
 refine jJ Tryz.func144 rfl cb144 rfl ?_
 show qM _ _ _ _ ⟨[(0,(.d (jT x)))],[]⟩
 refine jB<|kx [(1,(.ref 0 0)),(2,(.ref 1 0))] [(0,some (bx (jT x))),(1,some (bx (jT (qG.mk false []))))] (zN (uY 0)<|zN (qW 1 gC gA)<|zZ) ?_
 refine jB<|jB<|kx [(5,(vb (!(vC x))))] [] (zR (kP kD)<|zE (kA (r_valid x (by omega)))<|zE mT<|zZ) ?_
 refine jH (b:=!(vC x)) rfl (fun h1=>?_) (fun h1=>?_)
 ·refine jB<|kx [] [(1,some (bx (jT (qG.mk false []))))] (zE (cS pl43 gC gA)<|zT (qF kD)<|zZ) ?_
  refine jG ⟨_,(kJ (cs:=(bx (jT (qG.mk false [])))) (d:=(jT (qG.mk false []))) rfl rfl kD rfl rfl .nil),?_⟩
  rw[toZ_bad (by rw[Bool.not_eq_true'] at h1;exact h1),ofZ_zero];rfl
 ·refine jF<|jB<|kd [] [(1,some (bx (jT (qG.mk x.neg x.gs))))] mo (wE (qA xG)<|wR (qX bJ)<|wE (oBe kV)<|wE (qA xN)<|wR (qX yH)<|wE (e_appe (by exact rfl) kV xH (by kernel_rfl) nZ (by exact rfl) (by exact rfl) (by simp only[List.length_map,List.length_take,List.length_drop,List.length_append,List.length_cons,List.length_nil,maxLen];omega) (by simp only[List.length_map,List.length_take,List.length_drop,List.length_append,List.length_cons,List.length_nil];omega))<|wE (cS pl43 gC gA)<|wT (qF kD)<|wZ) ?_
  refine jG ⟨_,(kJ (cs:=(bx (jT (qG.mk x.neg x.gs)))) (d:=(jT (qG.mk x.neg x.gs))) rfl rfl kD rfl rfl .nil),?_⟩
  rw[ofZ_toZ (by simpa using h1)];rfl
theorem r_of(n:Int)(hlo:-9223372036854775808≤n)(hhi:n≤9223372036854775807):jS Tryz.prog 153 [(.val (.int .i64 (n)))] (jT (kS n)):=by
 refine jJ Tryz.func153 rfl cb153 rfl ?_
 show qM _ _ _ _ ⟨[(0,(vi n))],[]⟩
 refine jB<|kx [(2,(.ref 0 0))] [(0,some (bx (jT (qG.mk false []))))] (zN (qW 0 gC gA)<|zZ) ?_
 refine jB<|kx [(3,(gW ((n % 18446744073709551616).toNat)))] [] (zM<|zE (cA un3 gF ((n % 18446744073709551616).toNat) (hr:=by exact (conv_u64 _)))<|zM<|zZ) ?_
 refine jB<|jB<|kx [(8,(vb (decide (n<0))))] [] (zM<|zE xY<|zZ) ?_
 refine jH (b:=decide (n<0)) rfl (fun h1=>?_) (fun h1=>?_)
 ·replace h1:=vJ h1
  refine kx [(3,(gW n.natAbs))] [] (zM<|zE (zAd (n+1))<|zE (oNg (-(n+1)))<|zE (cA un3 gF ((-n-1).toNat) (hr:=by exact (wu64 (by omega) (by omega) (by omega))))<|zE (xE n.natAbs)<|zM<|zZ) ?_
  refine jB<|kx [(4,(.own 1 140 1 0))] [(1,some (bm jE []))] (zN (oBo 1 kV xH yT)<|zM<|zZ) ?_
  refine jB<|jI<|kM (α:=List Nat × Nat) (fun (o,m)=>⟨[(0,(vi n)),(2,(.ref 0 0)),(3,(gW m)),(4,(.own 1 140 1 o.length))],[(0,some (bx (jT (qG.mk false [])))),(1,some (bm jE o))]⟩) (fun (o,m)=>m≤9223372036854775808∧o++ofNat m=ofNat n.natAbs) (fun (o,m)=>m) ([],n.natAbs) wk ⟨by omega,by rw[List.nil_append]⟩ ?_
  rintro ⟨o,m⟩ ⟨hm,hg⟩
  have hl:=split_len hg (by omega)
  refine jB<|jB<|kx [(16,(vb (decide (0<((m:Nat):Int)))))] [] (zM<|zE gD<|zZ) ?_
  refine jH (b:=decide (0<((m:Nat):Int))) rfl (fun h2=>?_) (fun h2=>?_)
  ·replace h2:=vJ h2
   refine jF<|jI<|jB<|kf [(4,(.own 1 140 1 ((o++[(m % 1000000000)]).length)))] [(1,some (bm jE (o++[(m % 1000000000)])))] (zM<|zM<|zE (oRe (m % 1000000000))<|zE (cA nT nD (m % 1000000000))<|zE (mC kV xH yT)<|zA jE o [(m % 1000000000)] rfl kV xH nZ<|zM<|zF) ?_
   refine kx [(3,(gW (m / 1000000000)))] [] (zM<|zE (oQu (m / 1000000000))<|zM<|zZ) ?_
   exact ⟨(o++[m % 1000000000],m / 1000000000),wk,⟨by omega,split_step hg h2⟩,(by first|omega|(dsimp only;omega))⟩
  ·replace h2:=vM h2
   have hdo:Dig o:=split_dig hg h2
   have hvo:=split_val hg h2
   refine kL<|jB<|jV (xA (t:=4) (k:=1) (es:=List.map jE o) rfl rfl (uI _ _ (fun _=>rfl)) (qY _ _ rfl) (uU _ _ (fun _=>rfl) rfl)) ?_
   refine kx [] [(0,some (bx (jT (xX (decide (n<0)) (val o)))))] (zM<|zE xY<|zM<|zE (kA (mG (decide (n<0)) o hdo (by omega)))<|zT (qF kD)<|zZ) ?_
   refine jG ⟨_,(kJ (cs:=(bx (jT (xX (decide (n<0)) (val o))))) (d:=(jT (xX (decide (n<0)) (val o)))) rfl rfl kD rfl rfl .nil),?_⟩
   rw[hvo];rfl
 ·replace h1:=vM h1
  rw[show (n % 18446744073709551616).toNat=n.natAbs from by omega]
  refine jF<|jB<|kx [(3,(gW n.natAbs)),(4,(.own 2 140 1 0))] [(2,some (bm jE []))] (zN (oBo 2 kV xH yT)<|zM<|zZ) ?_
  refine jB<|jI<|kM (α:=List Nat × Nat) (fun (o,m)=>⟨[(0,(vi n)),(2,(.ref 0 0)),(3,(gW m)),(4,(.own 2 140 1 o.length))],[(0,some (bx (jT (qG.mk false [])))),(2,some (bm jE o))]⟩) (fun (o,m)=>m≤9223372036854775808∧o++ofNat m=ofNat n.natAbs) (fun (o,m)=>m) ([],n.natAbs) wk ⟨by omega,by rw[List.nil_append]⟩ ?_
  rintro ⟨o,m⟩ ⟨hm,hg⟩
  have hl:=split_len hg (by omega)
  refine jB<|jB<|kx [(16,(vb (decide (0<((m:Nat):Int)))))] [] (zM<|zE gD<|zZ) ?_
  refine jH (b:=decide (0<((m:Nat):Int))) rfl (fun h3=>?_) (fun h3=>?_)
  ·replace h3:=vJ h3
   refine jF<|jI<|jB<|kf [(4,(.own 2 140 1 ((o++[(m % 1000000000)]).length)))] [(2,some (bm jE (o++[(m % 1000000000)])))] (zM<|zM<|zE (oRe (m % 1000000000))<|zE (cA nT nD (m % 1000000000))<|zE (mC kV xH yT)<|zA jE o [(m % 1000000000)] rfl kV xH nZ<|zM<|zF) ?_
   refine kx [(3,(gW (m / 1000000000)))] [] (zM<|zE (oQu (m / 1000000000))<|zM<|zZ) ?_
   exact ⟨(o++[m % 1000000000],m / 1000000000),wk,⟨by omega,split_step hg h3⟩,(by first|omega|(dsimp only;omega))⟩
  ·replace h3:=vM h3
   have hdo:Dig o:=split_dig hg h3
   have hvo:=split_val hg h3
   refine kL<|jB<|jV (xA (t:=4) (k:=2) (es:=List.map jE o) rfl rfl (uI _ _ (fun _=>rfl)) (qY _ _ rfl) (uU _ _ (fun _=>rfl) rfl)) ?_
   refine kx [] [(0,some (bx (jT (xX (decide (n<0)) (val o)))))] (zM<|zE xY<|zM<|zE (kA (mG (decide (n<0)) o hdo (by omega)))<|zT (qF kD)<|zZ) ?_
   refine jG ⟨_,(kJ (cs:=(bx (jT (xX (decide (n<0)) (val o))))) (d:=(jT (xX (decide (n<0)) (val o)))) rfl rfl kD rfl rfl .nil),?_⟩
   rw[hvo];rfl
theorem r_size(a b:List Nat)(ha:yO a)(hb:yO b)(hla:a.length≤17592186044416)(hlb:b.length≤17592186044416):jS Tryz.prog 155 [(.sl 140 1 (List.map jE a)),(.sl 140 1 (List.map jE b))] (.val (.int .i64 ((vN ((val a:Nat):Int) ((val b:Nat):Int))))):=by
 refine jJ Tryz.func155 rfl cb155 rfl ?_
 show qM _ _ _ _ ⟨[(0,(vl 140 1 jE a)),(1,(vl 140 1 jE b))],[]⟩
 refine jB<|kx [] [] (zM<|zZ) ?_
 refine jB<|jB<|kx [(10,(vb (((a.length:Nat):Int) != ((b.length:Nat):Int))))] [] (zM<|zE (zD kV)<|zM<|zE (zD kV)<|zE cR<|zZ) ?_
 refine jH rfl (fun h1=>?_) (fun h1=>?_)
 ·replace h1:=bne_iff_ne.1 h1
  refine jB<|jB<|kx [(15,(vb (decide (((a.length:Nat):Int)<((b.length:Nat):Int)))))] [] (zM<|zE (zD kV)<|zM<|zE (zD kV)<|zE xY<|zZ) ?_
  refine jH rfl (fun h2=>?_) (fun h2=>?_)
  ·replace h2:=vJ h2
   refine jB<|kx [(4,(vi (-1)))] [] (zM<|zZ) ?_
   refine jG ⟨_,(.tmp (d:=(.val (.int .i64 (-1)))) rfl .nil),?_⟩
   rw[← cmpI_len ha hb h1];unfold vN;rw[if_pos (by omega)];rfl
  ·replace h2:=vM h2
   refine jF<|jB<|kx [(4,(jK 1))] [] (zM<|zZ) ?_
   refine jG ⟨_,(.tmp (d:=(.val (.int .i64 (1)))) rfl .nil),?_⟩
   rw[← cmpI_len ha hb h1,aE (by omega)];rfl
 ·replace h1:=bne_eq_false_iff_eq.1 h1
  have hl:a.length=b.length:=by omega
  refine jF<|jB<|jB<|kx [(5,(vi (((a.length:Nat):Int)-1)))] [] (zM<|zE (zD kV)<|zE (zSb (((a.length:Nat):Int)-1))<|zM<|zZ) ?_
  refine jI<|kM (α:=Nat) (fun k=>⟨[(0,(vl 140 1 jE a)),(1,(vl 140 1 jE b)),(5,(vi (((k:Nat):Int)-1)))],[]⟩) (fun k=>k≤a.length∧val (a.drop k)=val (b.drop k)) (fun k=>k) a.length wk ⟨Nat.le_refl _,by rw[List.drop_length,hl,List.drop_length]⟩ ?_
  rintro k ⟨hk,he⟩
  refine jB<|jB<|kx [(20,(vb (decide (0≤(((k:Nat):Int)-1)))))] [] (zM<|zE oGe<|zZ) ?_
  refine jH (b:=decide (0≤(((k:Nat):Int)-1))) rfl (fun h3=>?_) (fun h3=>?_)
  ·replace h3:=vJ h3
   obtain ⟨i,rfl⟩:∃ i,k=i+1:=⟨k-1,by omega⟩
   rw[show (((i+1:Nat):Int)-1)=((i:Nat):Int) from by omega]
   have ht:=cmpI_top ha.1 hb.1 hl (j:=a.length-1-i) (by omega) (by rw[show a.length-(a.length-1-i)=i+1 by omega];exact he)
   rw[show a.length-1-(a.length-1-i)=i by omega] at ht
   refine jF<|jB<|jI<|jB<|jB<|kd [(5,(jK i)),(31,(vb (decide ((((a.getD i 0):Nat):Int)<(((b.getD i 0):Nat):Int)))))] [] mo (wM<|wM<|wE (nE kV i (0:Nat))<|wE (nC uG)<|wM<|wM<|wE (nE kV i (0:Nat))<|wE (nC uG)<|wE xY<|wZ) ?_
   refine jH rfl (fun h4=>?_) (fun h4=>?_)
   ·replace h4:=vJ h4
    refine jB<|kx [(4,(vi (-1)))] [] (zM<|zZ) ?_
    refine jG ⟨_,(.tmp (d:=(.val (.int .i64 (-1)))) rfl .nil),?_⟩
    rw[← ht (by omega)];unfold vN;rw[if_pos (by omega)];rfl
   ·replace h4:=vM h4
    refine jF<|jB<|kd [(40,(vb (decide ((((b.getD i 0):Nat):Int)<(((a.getD i 0):Nat):Int)))))] [] mo (wM<|wM<|wE (nE kV i (0:Nat))<|wE (nC uG)<|wM<|wM<|wE (nE kV i (0:Nat))<|wE (nC uG)<|wE gD<|wZ) ?_
    refine jH rfl (fun h5=>?_) (fun h5=>?_)
    ·replace h5:=vJ h5
     refine jB<|kx [(4,(jK 1))] [] (zM<|zZ) ?_
     refine jG ⟨_,(.tmp (d:=(.val (.int .i64 (1)))) rfl .nil),?_⟩
     rw[← ht (by omega),aE (by omega)];rfl
    ·replace h5:=vM h5
     refine jF<|kx [(5,(vi (((i:Nat):Int)-1)))] [] (zM<|zE (zSb (((i:Nat):Int)-1))<|zM<|zZ) ?_
     exact ⟨i,wk,⟨by omega,by rw[zW a i,zW b i,he];omega⟩,(by first|omega|(dsimp only;omega))⟩
  ·replace h3:=vM h3
   obtain rfl:k=0:=by omega
   rw[List.drop_zero,List.drop_zero] at he
   refine kL<|jB<|kx [(4,(jK 0))] [] (zM<|zZ) ?_
   refine jG ⟨_,(.tmp (d:=(.val (.int .i64 (0)))) rfl .nil),?_⟩
   rw[cmpI_same he];rfl
theorem r_plus(a b:List Nat)(hda:Dig a)(hdb:Dig b)(hla:a.length≤8796093022208)(hlb:b.length≤8796093022208):jS Tryz.prog 154 [(.sl 140 1 (List.map jE a)),(.sl 140 1 (List.map jE b))] (.sl 140 1 (List.map jE (ofNat (val a+val b)))):=by
 refine jJ Tryz.func154 rfl cb154 rfl ?_
 show qM _ _ _ _ ⟨[(0,(vl 140 1 jE a)),(1,(vl 140 1 jE b))],[]⟩
 refine jB<|kx [] [] (zE (cP 140 1)<|zZ) ?_
 refine jB<|kx [(5,(.own 0 140 1 0))] [(0,some (bm jE []))] (zN (oBo 0 kV xH yT)<|zM<|zZ) ?_
 refine jB<|kx [(6,(gW 0))] [] (zM<|zZ) ?_
 refine jB<|jB<|kx [(7,(jK 0))] [] (zM<|zZ) ?_
 refine jI<|kM (α:=Nat × List Nat × Nat) (fun (i,o,c)=>⟨[(0,(vl 140 1 jE a)),(1,(vl 140 1 jE b)),(5,(.own 0 140 1 o.length)),(6,(gW c)),(7,(jK i))],[(0,some (bm jE o))]⟩) (fun (i,o,c)=>o.length=i∧Dig o∧i≤max a.length b.length∧c≤1∧val o+pw i*c=val (a.take i)+val (b.take i)) (fun (i,o,c)=>max a.length b.length-i) (0,[],0) wk ⟨rfl,nI,Nat.zero_le _,Nat.zero_le _,by simp [val]⟩ ?_
 rintro ⟨i,o,c⟩ ⟨hl,hd,hi,hc,hv⟩
 have hai:=hda.getD i
 have hbi:=hdb.getD i
 refine jB<|jB<|kx [(19,(vb (decide (((i:Nat):Int)<((a.length:Nat):Int))||decide (((i:Nat):Int)<((b.length:Nat):Int)))))] [] ?_ ?_
 ·refine zM<|zM<|zE (zD kV)<|zE xY<|zE (oV (vb (decide (((i:Nat):Int)<((a.length:Nat):Int)))) (qQ (by kernel_rfl)))<|?_
  rcases hb1:(decide (((i:Nat):Int)<((a.length:Nat):Int))) with _ | _
  ·replace hb1:=vM hb1
   exact zM<|zM<|zE (zD kV)<|zE xY<|zE fU<|zZ
  ·replace hb1:=vJ hb1
   exact zK<|zK<|zK<|zK<|zE nY<|zZ
 refine jH rfl (fun h2=>?_) (fun h2=>?_)
 ·rw[Bool.or_eq_true,decide_eq_true_eq,decide_eq_true_eq] at h2
  refine jF<|jB<|jI<|jB<|kx [(8,(gW (((a.getD i 0)+(b.getD i 0))+c)))] [] (zM<|zM<|zE (kA (aB a i (by first | assumption | exact kU _ | exact (qO _).1 | exact (uB _).1)))<|zM<|zM<|zE (kA (aB b i (by first | assumption | exact kU _ | exact (qO _).1 | exact (uB _).1)))<|zE (xE ((a.getD i 0)+(b.getD i 0)))<|zM<|zE (xE (((a.getD i 0)+(b.getD i 0))+c))<|zM<|zZ) ?_
  refine jB<|kf [(5,(.own 0 140 1 ((o++[((((a.getD i 0)+(b.getD i 0))+c) % 1000000000)]).length)))] [(0,some (bm jE (o++[((((a.getD i 0)+(b.getD i 0))+c) % 1000000000)])))] (zM<|zM<|zE (oRe ((((a.getD i 0)+(b.getD i 0))+c) % 1000000000))<|zE (cA nT nD ((((a.getD i 0)+(b.getD i 0))+c) % 1000000000))<|zE (mC kV xH yT)<|zA jE o [((((a.getD i 0)+(b.getD i 0))+c) % 1000000000)] rfl kV xH nZ<|zM<|zF) ?_
  refine kx [(6,(gW ((((a.getD i 0)+(b.getD i 0))+c) / 1000000000)))] [] (zM<|zE (oQu ((((a.getD i 0)+(b.getD i 0))+c) / 1000000000))<|zM<|zZ) ?_
  refine kx [(7,(jK (i+1)))] [] (zM<|zE (xE (i+1))<|zM<|zZ) ?_
  exact ⟨(i+1,o++[(a.getD i 0+b.getD i 0+c) % 1000000000],(a.getD i 0+b.getD i 0+c) / 1000000000),wk,⟨by simp [hl],dig_push hd (Nat.mod_lt _ (by decide)),by omega,by omega,rplus_step hl hv rfl⟩,(by first|omega|(dsimp only;omega))⟩
 ·rw[Bool.or_eq_false_iff,decide_eq_false_iff_not,decide_eq_false_iff_not] at h2
  rw[take_all (by omega),take_all (by omega)] at hv
  have hp:=val_push (c:=c) hl
  refine kL<|jB<|kf [(4,(vl 140 1 jE (ofNat (val (o++[c]))))),(5,.junk)] [(0,none)] (zM<|zM<|zE (cA nT nD c)<|zE (mC kV xH yT)<|zAQ jE o [c] rfl kV xH nZ<|zE (kA (mG false (o++[c]) (dig_push hd (by omega)) (by simp only[List.length_append,List.length_cons,List.length_nil];omega)))<|zE (oF1 aV yH)<|zM<|zF) ?_
  refine jG ⟨_,(.tmp (d:=(.sl 140 1 (List.map jE (ofNat (val (o++[c])))))) rfl .nil),?_⟩
  rw[hp,hv];rfl
theorem r_minus(a b:List Nat)(hda:Dig a)(hdb:Dig b)(hba:val b≤val a)(hla:a.length≤8796093022208):jS Tryz.prog 156 [(.sl 140 1 (List.map jE a)),(.sl 140 1 (List.map jE b))] (.sl 140 1 (List.map jE (ofNat (val a-val b)))):=by
 refine jJ Tryz.func156 rfl cb156 rfl ?_
 show qM _ _ _ _ ⟨[(0,(vl 140 1 jE a)),(1,(vl 140 1 jE b))],[]⟩
 refine jB<|kx [] [] (zE (cP 140 1)<|zZ) ?_
 refine jB<|kx [(5,(.own 0 140 1 0))] [(0,some (bm jE []))] (zN (oBo 0 kV xH yT)<|zM<|zZ) ?_
 refine jB<|kx [(6,(gW 0))] [] (zM<|zZ) ?_
 refine jB<|jB<|kx [(7,(jK 0))] [] (zM<|zZ) ?_
 refine jI<|kM (α:=Nat × List Nat × Nat) (fun (i,o,c)=>⟨[(0,(vl 140 1 jE a)),(1,(vl 140 1 jE b)),(5,(.own 0 140 1 o.length)),(6,(gW c)),(7,(jK i))],[(0,some (bm jE o))]⟩) (fun (i,o,c)=>o.length=i∧Dig o∧i≤a.length∧c≤1∧val o+val (b.take i)=val (a.take i)+pw i*c) (fun (i,o,c)=>a.length-i) (0,[],0) wk ⟨rfl,nI,Nat.zero_le _,Nat.zero_le _,by simp [val]⟩ ?_
 rintro ⟨i,o,c⟩ ⟨hl,hd,hi,hc,hv⟩
 have hai:=hda.getD i
 have hbi:=hdb.getD i
 refine jB<|jB<|kx [(13,(vb (decide (((i:Nat):Int)<((a.length:Nat):Int)))))] [] (zM<|zM<|zE (zD kV)<|zE xY<|zZ) ?_
 refine jH rfl (fun h1=>?_) (fun h1=>?_)
 ·replace h1:=vJ h1
  refine jF<|jB<|jI<|jB<|kx [(8,(gW (((1000000000+(a.getD i 0))-(b.getD i 0))-c)))] [] (zM<|zM<|zE (kA (aB a i (by first | assumption | exact kU _ | exact (qO _).1 | exact (uB _).1)))<|zE (xE (1000000000+(a.getD i 0)))<|zM<|zM<|zE (kA (aB b i (by first | assumption | exact kU _ | exact (qO _).1 | exact (uB _).1)))<|zE (oSb ((1000000000+(a.getD i 0))-(b.getD i 0)))<|zM<|zE (oSb (((1000000000+(a.getD i 0))-(b.getD i 0))-c))<|zM<|zZ) ?_
  refine jB<|kf [(5,(.own 0 140 1 ((o++[((((1000000000+(a.getD i 0))-(b.getD i 0))-c) % 1000000000)]).length)))] [(0,some (bm jE (o++[((((1000000000+(a.getD i 0))-(b.getD i 0))-c) % 1000000000)])))] (zM<|zM<|zE (oRe ((((1000000000+(a.getD i 0))-(b.getD i 0))-c) % 1000000000))<|zE (cA nT nD ((((1000000000+(a.getD i 0))-(b.getD i 0))-c) % 1000000000))<|zE (mC kV xH yT)<|zA jE o [((((1000000000+(a.getD i 0))-(b.getD i 0))-c) % 1000000000)] rfl kV xH nZ<|zM<|zF) ?_
  refine kx [(6,(gW (1-((((1000000000+(a.getD i 0))-(b.getD i 0))-c) / 1000000000))))] [] (zM<|zE (oQu ((((1000000000+(a.getD i 0))-(b.getD i 0))-c) / 1000000000))<|zE (oSb (1-((((1000000000+(a.getD i 0))-(b.getD i 0))-c) / 1000000000)))<|zM<|zZ) ?_
  refine kx [(7,(jK (i+1)))] [] (zM<|zE (xE (i+1))<|zM<|zZ) ?_
  exact ⟨(i+1,o++[(1000000000+a.getD i 0-b.getD i 0-c) % 1000000000],1-(1000000000+a.getD i 0-b.getD i 0-c) / 1000000000),wk,⟨by simp [hl],dig_push hd (Nat.mod_lt _ (by decide)),by omega,by omega,rminus_step hl hv (by omega) (by omega)⟩,(by first|omega|(dsimp only;omega))⟩
 ·replace h1:=vM h1
  have hie:i=a.length:=by omega
  refine kL<|jB<|jV (xA (t:=5) (k:=0) (es:=List.map jE o) rfl rfl (uI _ _ (fun _=>rfl)) (qY _ _ rfl) (uU _ _ (fun _=>rfl) rfl)) ?_
  refine kx [(4,(vl 140 1 jE (ofNat (val o))))] [] (zM<|zE (kA (mG false o hd (by omega)))<|zE (oF1 aV yH)<|zM<|zZ) ?_
  refine jG ⟨_,(.tmp (d:=(.sl 140 1 (List.map jE (ofNat (val o))))) rfl .nil),?_⟩
  rw[rminus_end hda hdb hd hie hl hba hv];rfl
theorem r_scaled(a:List Nat)(d:Nat)(hda:Dig a)(hd1:d≤1000000000)(hla:a.length≤8796093022208):jS Tryz.prog 241 [(.sl 140 1 (List.map jE a)),(.val (.int .u64 (((d:Nat):Int))))] (.sl 140 1 (List.map jE (ofNat (val a*d)))):=by
 refine jJ Tryz.func241 rfl cb241 rfl ?_
 show qM _ _ _ _ ⟨[(0,(vl 140 1 jE a)),(1,(gW d))],[]⟩
 refine jB<|kx [] [] (zE (cP 140 1)<|zZ) ?_
 refine jB<|kx [(5,(.own 0 140 1 0))] [(0,some (bm jE []))] (zN (oBo 0 kV xH yT)<|zM<|zZ) ?_
 refine jB<|kx [(6,(gW 0))] [] (zM<|zZ) ?_
 refine jB<|jB<|kx [(7,(jK 0))] [] (zM<|zZ) ?_
 refine jI<|kM (α:=Nat × List Nat × Nat) (fun (i,o,c)=>⟨[(0,(vl 140 1 jE a)),(1,(gW d)),(5,(.own 0 140 1 o.length)),(6,(gW c)),(7,(jK i))],[(0,some (bm jE o))]⟩) (fun (i,o,c)=>o.length=i∧Dig o∧i≤a.length∧c≤999999999∧val o+pw i*c=val (a.take i)*d) (fun (i,o,c)=>a.length-i) (0,[],0) wk ⟨rfl,nI,Nat.zero_le _,Nat.zero_le _,by simp [val]⟩ ?_
 rintro ⟨i,o,c⟩ ⟨hl,hd,hi,hc,hv⟩
 have hai:=hda.getD i
 have hpq:a.getD i 0*d≤999999999*1000000000:=Nat.mul_le_mul (by omega) hd1
 refine jB<|jB<|kx [(13,(vb (decide (((i:Nat):Int)<((a.length:Nat):Int)))))] [] (zM<|zM<|zE (zD kV)<|zE xY<|zZ) ?_
 refine jH rfl (fun h1=>?_) (fun h1=>?_)
 ·replace h1:=vJ h1
  refine jF<|jB<|jI<|jB<|kx [(8,(gW (((a.getD i 0)*d)+c)))] [] (zM<|zM<|zE (nE kV i (0:Nat))<|zE (nC uG)<|zE (cA gH gF (a.getD i 0))<|zM<|zE (oMl ((a.getD i 0)*d))<|zM<|zE (xE (((a.getD i 0)*d)+c))<|zM<|zZ) ?_
  refine jB<|kf [(5,(.own 0 140 1 ((o++[((((a.getD i 0)*d)+c) % 1000000000)]).length)))] [(0,some (bm jE (o++[((((a.getD i 0)*d)+c) % 1000000000)])))] (zM<|zM<|zE (oRe ((((a.getD i 0)*d)+c) % 1000000000))<|zE (cA nT nD ((((a.getD i 0)*d)+c) % 1000000000))<|zE (mC kV xH yT)<|zA jE o [((((a.getD i 0)*d)+c) % 1000000000)] rfl kV xH nZ<|zM<|zF) ?_
  refine kx [(6,(gW ((((a.getD i 0)*d)+c) / 1000000000)))] [] (zM<|zE (oQu ((((a.getD i 0)*d)+c) / 1000000000))<|zM<|zZ) ?_
  refine kx [(7,(jK (i+1)))] [] (zM<|zE (xE (i+1))<|zM<|zZ) ?_
  exact ⟨(i+1,o++[(a.getD i 0*d+c) % 1000000000],(a.getD i 0*d+c) / 1000000000),wk,⟨by simp [hl],dig_push hd (Nat.mod_lt _ (by decide)),by omega,by omega,rscaled_step hl hv rfl⟩,(by first|omega|(dsimp only;omega))⟩
 ·replace h1:=vM h1
  have hie:i=a.length:=by omega
  rw[take_all (by omega)] at hv
  have hp:=val_push (c:=c) hl
  refine kL<|jB<|kf [(4,(vl 140 1 jE (ofNat (val (o++[c]))))),(5,.junk)] [(0,none)] (zM<|zM<|zE (cA nT nD c)<|zE (mC kV xH yT)<|zAQ jE o [c] rfl kV xH nZ<|zE (kA (mG false (o++[c]) (dig_push hd (by omega)) (by simp only[List.length_append,List.length_cons,List.length_nil];omega)))<|zE (oF1 aV yH)<|zM<|zF) ?_
  refine jG ⟨_,(.tmp (d:=(.sl 140 1 (List.map jE (ofNat (val (o++[c])))))) rfl .nil),?_⟩
  rw[hp,hv];rfl
theorem r_shifted(a:List Nat)(d:Nat)(hda:Dig a)(hd1:d<1000000000)(hla:a.length≤8796093022208):jS Tryz.prog 242 [(.sl 140 1 (List.map jE a)),(.val (.int .u32 (((d:Nat):Int))))] (.sl 140 1 (List.map jE (ofNat (d+1000000000*val a)))):=by
 refine jJ Tryz.func242 rfl cb242 rfl ?_
 show qM _ _ _ _ ⟨[(0,(vl 140 1 jE a)),(1,(fT d))],[]⟩
 refine jB<|kx [] [] (zE (cP 140 1)<|zZ) ?_
 refine jB<|kf [(4,(vl 140 1 jE (ofNat (val ([d]++a)))))] [(0,none)] (zM<|zN (oBo 0 kV xH yT)<|zM<|zAQ jE [d] a rfl kV xH nZ<|zE (kA (mG false ([d]++a) (bY.2 ⟨gL.2 ⟨hd1,nI⟩,hda⟩) (by simp only[List.length_append,List.length_cons,List.length_nil];omega)))<|zE (oF1 aV yH)<|zM<|zF) ?_
 refine jG ⟨_,(.tmp (d:=(.sl 140 1 (List.map jE (ofNat (val ([d]++a)))))) rfl .nil),?_⟩
 rfl
end Go.Proofs.YtnajallgoaiahaaGreatDoor
