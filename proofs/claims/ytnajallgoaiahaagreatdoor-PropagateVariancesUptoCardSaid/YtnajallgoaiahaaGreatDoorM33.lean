/- Part 33 of a proof: rules, plain facts, and functions walked. -/
import Derived.Test.YtnajallgoaiahaaGreatDoorM32
import Derived.Test.YtnajallgoaiahaaGreatDoorM19
import Derived.Test.YtnajallgoaiahaaGreatDoorM22
import Derived.Test.YtnajallgoaiahaaGreatDoorM10
import Derived.Test.YtnajallgoaiahaaGreatDoorM27
import Derived.Test.YtnajallgoaiahaaGreatDoorM20
set_option linter.all false
set_option maxRecDepth 4000
namespace Go.Proofs.YtnajallgoaiahaaGreatDoor
open Go.Fid
theorem cb256:callB Tryz.prog 256=true:=by kernel_rfl
theorem cb265:callB Tryz.prog 265=true:=by kernel_rfl
theorem cb268:callB Tryz.prog 268=true:=by kernel_rfl
theorem cb271:callB Tryz.prog 271=true:=by kernel_rfl
theorem cb272:callB Tryz.prog 272=true:=by kernel_rfl
theorem cb273:callB Tryz.prog 273=true:=by kernel_rfl
theorem in3:intB Tryz.prog 3=some .i64:=by kernel_rfl
theorem st9:strB Tryz.prog 9=true:=by kernel_rfl
theorem d_small :jR Tryz.prog 273 [(.val (.int .i64 (((2:Nat):Int))))] (.val (.string (ByteArray.mk #[50]))):=by
 refine jJ Tryz.func273 rfl cb273 rfl ?_
 show qG _ _ _ _ ⟨[(0,(jP 2))],[]⟩
 refine jB<|kx [] [] (zM<|zZ) ?_
 refine jB<|jB<|kx [(4,(vb true))] [] (zM<|zE (vW true xK)<|zZ) ?_
 refine uY ?_
 refine jB<|kx [(2,(.d (.val (.string (ByteArray.mk #[50])))))] [] (zM<|zM<|zE (vC 3 (hr:=by decide))<|zE (oSstr (l:=2) (h:=3) (r:=ByteArray.mk #[50]) st9)<|zM<|zZ) ?_
 refine jE ⟨_,(.tmp (d:=(.val (.string (ByteArray.mk #[50])))) rfl .nil),?_⟩
 rfl
theorem d_fmt :jR Tryz.prog 272 [(.val (.int .i64 (((2:Nat):Int)))),(.val (.int .i64 (((10:Nat):Int))))] (.val (.string (ByteArray.mk #[50]))):=by
 refine jJ Tryz.func272 rfl cb272 rfl ?_
 show qG _ _ _ _ ⟨[(0,(jP 2)),(1,(jP 10))],[]⟩
 refine jB<|kx [] [] (zM<|zZ) ?_
 refine jB<|jB<|kx [(11,(vb true))] [] (zM<|zE (vW true xR)<|zZ) ?_
 refine uY ?_
 refine jB<|jB<|kx [(17,(vb true))] [] (zM<|zE (vW true oLe)<|zM<|zM<|zE (vW true xK)<|zE gR<|zZ) ?_
 refine uY ?_
 refine jB<|kx [(4,(.d (.val (.string (ByteArray.mk #[50])))))] [] (zM<|zE (jY d_small)<|zM<|zZ) ?_
 refine jE ⟨_,(.tmp (d:=(.val (.string (ByteArray.mk #[50])))) rfl .nil),?_⟩
 rfl
theorem d_itoaI :jR Tryz.prog 271 [(.val (.int .i64 (((2:Nat):Int))))] (.val (.string (ByteArray.mk #[50]))):=by
 refine jJ Tryz.func271 rfl cb271 rfl ?_
 show qG _ _ _ _ ⟨[(0,(jP 2))],[]⟩
 refine jB<|kx [] [] (zM<|zZ) ?_
 refine jB<|kx [(2,(.d (.val (.string (ByteArray.mk #[50])))))] [] (zM<|zE (jY d_fmt)<|zM<|zZ) ?_
 refine jE ⟨_,(.tmp (d:=(.val (.string (ByteArray.mk #[50])))) rfl .nil),?_⟩
 rfl
theorem d_itoa :jR Tryz.prog 268 [(.val (.int .i64 (((2:Nat):Int))))] (.val (.string (ByteArray.mk #[50]))):=by
 refine jJ Tryz.func268 rfl cb268 rfl ?_
 show qG _ _ _ _ ⟨[(0,(jP 2))],[]⟩
 refine jB<|kx [] [] (zM<|zZ) ?_
 refine jB<|kx [(2,(.d (.val (.string (ByteArray.mk #[50])))))] [] (zM<|zE (jY d_itoaI)<|zM<|zZ) ?_
 refine jE ⟨_,(.tmp (d:=(.val (.string (ByteArray.mk #[50])))) rfl .nil),?_⟩
 rfl
theorem d_digits :jR Tryz.prog 265 [(.sl 140 1 (List.map jC [2]))] (.val (.int .i64 (((1:Nat):Int)))):=by
 refine jJ Tryz.func265 rfl cb265 rfl ?_
 show qG _ _ _ _ ⟨[(0,(vl 140 1 jC [2]))],[]⟩
 refine jB<|kx [] [] (zM<|zZ) ?_
 refine jB<|jB<|kx [(5,(vb false))] [] (zM<|zE (oLn kO 1)<|zE (vW false xR)<|zZ) ?_
 refine kU ?_
 refine jD<|jB<|kx [(2,(jP 1))] [] (zM<|zE (oLn kO 1)<|zE (oSb 0 (hr:=by decide))<|zE (oMl 0 (hr:=by decide))<|zM<|zM<|zE (oLn kO 1)<|zE (oSb 0 (hr:=by decide))<|zE (oXs kO 0)<|zE (xZ qX)<|zE (cI gI in3 2)<|zE (jY d_itoa)<|zE (oLstr st9 1)<|zE (vC 1 (hr:=by decide))<|zM<|zZ) ?_
 refine jE ⟨_,(.tmp (d:=(.val (.int .i64 (((1:Nat):Int))))) rfl .nil),?_⟩
 rfl
theorem d_pow(n:Nat)(hn:n≤1024):jR Tryz.prog 256 [(jT (kN 2)),(.val (.int .i64 (((n:Nat):Int))))] (.tup [(jT (kN ((2 ^ n:Nat):Int))),(.val (.int .i64 (0)))]):=by
 have hg2:=g2len
 refine jJ Tryz.func256 rfl cb256 rfl ?_
 show qG _ _ _ _ ⟨[(0,(.d (jT (kN 2)))),(1,(jP n))],[]⟩
 refine jB<|kx [(2,(.ref 0 0)),(4,(.ref 1 0))] [(0,some (bx (jT (kN 2)))),(1,some (bx (jT (qB.mk false []))))] (zN (vA 0)<|zN (qV 1 gD gB)<|zM<|zZ) ?_
 refine jB<|kx [(6,(vl 140 1 jC [2]))] [] (zR (kK kF)<|zE (oQd (.sl 140 1 (List.map jC (kW (kN 2)))) (.sl 140 1 (List.map jC [2])) (jY (hC (kN 2) (by omega))) (by exact (congrArg (fun l=>jX.sl 140 1 (List.map jC l)) g2)))<|zM<|zZ) ?_
 refine jB<|jH<|jB<|kx [(11,(vb false))] [] (zM<|zE (vW false xK (by exact decide_eq_false (show ¬ ((n:Nat):Int)<0 by omega)))<|zM<|zM<|zE (vW false mL (by exact decide_eq_false (show ¬ 4096<((n:Nat):Int) by omega)))<|zE yP<|zM<|zZ) ?_
 refine kU ?_
 refine jB<|kx [(19,(vb false))] [] (zM<|zM<|zE (jY d_digits)<|zE (oMl (n*1))<|zE (vW false mL (by exact decide_eq_false (show ¬ 20000<(((n*1):Nat):Int) by omega)))<|zM<|zZ) ?_
 refine kU ?_
 refine jD<|jB<|kx [(7,(vl 140 1 jC [1]))] [] (zE (cN kO xC yU)<|zM<|zZ) ?_
 refine jB<|jB<|kx [(8,(jP 4096))] [] (zM<|zZ) ?_
 refine jH<|kA (α:=Nat × Nat × List Nat) (fun (i,b,out)=>⟨[(1,(jP n)),(2,(.ref 0 0)),(4,(.ref 1 0)),(6,(vl 140 1 jC [2])),(7,(vl 140 1 jC out)),(8,(jP b))],[(0,some (bx (jT (kN 2)))),(1,some (bx (jT (qB.mk false []))))]⟩) (fun (i,b,out)=>i≤13∧b=4096 / 2 ^ i∧out=ofNat (pwS n i)) (fun (i,b,out)=>13-i) (0,4096,[1]) wk ⟨Nat.zero_le _,rfl,pwS_0 (by omega)⟩ ?_
 rintro ⟨i,b,out⟩ ⟨hi,hbi,ho⟩
 have hdo:Dig out:=ho▸kP _
 have hlo:out.length≤4097:=ho▸len_pwS (by omega) i
 have hdt:Dig [2]:=by intro d hd;rw[List.mem_singleton.1 hd];decide
 have hvo:val out=pwS n i:=by rw[ho,kI]
 have hbl:b≤4096:=hbi▸Nat.div_le_self _ _
 have hdq:Dig (ofNat (val out*val out)):=kP _
 have hl2:[2].length≤1:=Nat.le_refl _
 refine jB<|jB<|kx [(28,(vb (decide (0<((b:Nat):Int)))))] [] (zM<|zE mL<|zZ) ?_
 refine jG (b:=decide (0<((b:Nat):Int))) rfl (fun h1=>?_) (fun h1=>?_)
 ·replace h1:=uP h1
  have hi2:=bit_pos hi (hbi▸h1)
  have hlq:=len_sq hvo (show n≤4096 by omega) hi2
  refine jD<|jB<|jH<|jB<|kx [(7,(vl 140 1 jC (ofNat (val out*val out))))] [] (zM<|zM<|zE (jY (t_times out out (by assumption) (by assumption) (by omega) (by omega)))<|zM<|zZ) ?_
  refine jB<|kx [(37,(vb ((((n &&& b):Nat):Int) != 0)))] [] (zM<|zM<|zE (oAb (n &&& b))<|zE nW<|zZ) ?_
  refine jG (b:=((((n &&& b):Nat):Int) != 0)) rfl (fun h2=>?_) (fun h2=>?_)
  ·replace h2:=bne_iff_ne.1 h2
   refine kx [(7,(vl 140 1 jC (ofNat (val (ofNat (val out*val out))*val [2]))))] [] (zM<|zM<|zE (jY (t_times (ofNat (val out*val out)) [2] (by assumption) (by assumption) (by omega) (by omega)))<|zM<|zZ) ?_
   refine kx [(8,(jP (b / 2)))] [] (zM<|zE (e_shr (n:=1) (((b / 2):Nat):Int) (hr:=shr1 _))<|zM<|zZ) ?_
   exact ⟨(i+1,b / 2,ofNat (val (ofNat (val out*val out))*val [2])),wk,⟨by omega,by rw[hbi];exact bit_half i,by rw[kI,hvo,← pwS_odd hi2 (by rw[← hbi];omega)];rfl⟩,(by first|omega|(dsimp only;omega))⟩
  ·replace h2:=bne_eq_false_iff_eq.1 h2
   refine jD<|kx [(8,(jP (b / 2)))] [] (zM<|zE (e_shr (n:=1) (((b / 2):Nat):Int) (hr:=shr1 _))<|zM<|zZ) ?_
   exact ⟨(i+1,b / 2,ofNat (val out*val out)),wk,⟨by omega,by rw[hbi];exact bit_half i,by rw[hvo,pwS_even hi2 (by rw[← hbi];omega)]⟩,(by first|omega|(dsimp only;omega))⟩
 ·replace h1:=uR h1
  have hi13:=bit_end hi (hbi▸h1)
  refine kB<|jB<|kx [(5,(jP 0))] [(1,some (bx (jT (xQ ((kN 2).neg&&((((n % 2):Nat):Int) == 1)) (val out)))))] ?_ ?_
  ·refine zE (kY vL)<|zR (uM aX)<|zE (oV (vb ((kN 2).neg)) (qC (by kernel_rfl)))<|?_
   rcases hb3:((kN 2).neg) with _ | _
   ·exact zK<|zK<|zK<|zE yP<|zM<|zE (jY (cC false out (by assumption) (by omega)))<|zT (qA kF)<|zM<|zZ
   ·exact zM<|zE (oRe (n % 2))<|zE xR<|zE fA<|zM<|zE (jY (cC (true&&((((n % 2):Nat):Int) == 1)) out (by assumption) (by omega)))<|zT (qA kF)<|zM<|zZ
  refine jE ⟨_,(kH (cs:=(bx (jT (xQ ((kN 2).neg&&((((n % 2):Nat):Int) == 1)) (val out))))) (d:=(jT (xQ ((kN 2).neg&&((((n % 2):Nat):Int) == 1)) (val out)))) rfl rfl kF rfl rfl (.tmp (d:=(.val (.int .i64 (0)))) rfl .nil)),?_⟩
  rw[ho,hi13,neg2,Bool.false_and,mk_two];rfl
theorem cb231:callB Tryz.prog 231=true:=by kernel_rfl
theorem d_root(z:Int)(hz:gO (kN z) z 200)(hz0:0≤z):jR Tryz.prog 231 [(jT (kN z))] (.tup [(jT (kN (qZ z))),(.val (.int .i64 (0)))]):=by
 have hzl:(ofNat z.natAbs).length≤200:=hz.ln
 have hzg:=hz.l
 refine jJ Tryz.func231 rfl cb231 rfl ?_
 show qG _ _ _ _ ⟨[(0,(.d (jT (kN z))))],[]⟩
 refine jB<|kx [(1,(.ref 0 0)),(2,(.ref 1 0))] [(0,some (bx (jT (kN z)))),(1,some (bx (jT (qB.mk false []))))] (zN (vA 0)<|zN (qV 1 gD gB)<|zM<|zZ) ?_
 refine jB<|kx [(4,(vl 140 1 jC (ofNat (Int.natAbs z))))] [] (zR (kK kF)<|zE (oQd (.sl 140 1 (List.map jC (kW (kN z)))) (.sl 140 1 (List.map jC (ofNat (Int.natAbs z)))) (jY (hC (kN z) (by omega))) (by exact (congrArg (fun l=>jX.sl 140 1 (List.map jC l)) (grpI_ofZ z))))<|zM<|zZ) ?_
 refine jB<|jB<|kx [(14,(vb ((((ofNat (Int.natAbs z)).length:Nat):Int) == 0)))] [] (zM<|zE (uW kO (L:=(ofNat (Int.natAbs z))))<|zE xR<|zZ) ?_
 refine jG rfl (fun h1=>?_) (fun h1=>?_)
 ·replace h1:=eq_of_beq h1
  refine jB<|kx [(3,(jP 0))] [(1,some (bx (jT (qB.mk false []))))] (zE (eX pl43 gD gB)<|zT (qA kF)<|zM<|zZ) ?_
  refine jE ⟨_,(kH (cs:=(bx (jT (qB.mk false [])))) (d:=(jT (qB.mk false []))) rfl rfl kF rfl rfl (.tmp (d:=(.val (.int .i64 (0)))) rfl .nil)),?_⟩
  rw[root_nil h1];rfl
 ·replace h1:=ne_of_beq_false h1
  refine jD<|jB<|jB<|kx [(17,(vb ((kN z).neg)))] [] (zE (kY vL)<|zR (uM aX)<|zZ) ?_
  refine jG (b:=(kN z).neg) rfl (fun h2=>?_) (fun h2=>?_)
  ·exact (neg_abs hz0 h2).elim
  ·have hX:0<z.natAbs:=by rcases Nat.eq_zero_or_pos z.natAbs with e | e;exact absurd (by rw[e,uN];rfl) h1;exact e
   refine jD<|jB<|kf [(5,(.own 2 140 1 (((List.replicate (((ofNat (Int.natAbs z)).length+1) / 2) 0)++[1]).length)))] [(2,some (bm jC ((List.replicate (((ofNat (Int.natAbs z)).length+1) / 2) 0)++[1])))] (zM<|zE (uW kO (L:=(ofNat (Int.natAbs z))))<|zE (vC ((ofNat (Int.natAbs z)).length+1))<|zE (oQu (((ofNat (Int.natAbs z)).length+1) / 2))<|zN (oMk 2 jC (0:Nat) (((ofNat (Int.natAbs z)).length+1) / 2) (((ofNat (Int.natAbs z)).length+1) / 2) kO xC yU mB)<|zE (cN kO xC yU)<|zA jC (List.replicate (((ofNat (Int.natAbs z)).length+1) / 2) 0) [1] (by rw[List.length_replicate]) kO xC mB<|zM<|zF) ?_
   refine jH<|kS (vD (t:=5) (k:=2) (es:=List.map jC ((List.replicate (((ofNat (Int.natAbs z)).length+1) / 2) 0)++[1])) rfl rfl (uQ _ _ (fun _=>rfl)) (uJ _ _ rfl) (vQ _ _ (fun _=>rfl) rfl)) ?_
   refine kA (α:=List Nat) (fun r=>⟨[(2,(.ref 1 0)),(4,(vl 140 1 jC (ofNat (Int.natAbs z)))),(5,(vl 140 1 jC r))],[(1,some (bx (jT (qB.mk false []))))]⟩) (fun r=>(yQ r∧0<val r∧z.natAbs<(val r+1)*(val r+1))∧r.length≤400) (fun r=>val r) (List.replicate (((ofNat z.natAbs).length+1) / 2) 0++[1]) wk ⟨⟨nw_cano _,by rw[nw_start];exact pw_pos _,nw_top⟩,by simp;omega⟩ ?_
   rintro r ⟨⟨hcr,hr0,hru⟩,hrl⟩
   have hcg:yQ (ofNat z.natAbs):=qK _
   have hdr:=hcr.1
   obtain ⟨q1,q2,q3⟩:=nw_lens (X:=z.natAbs) (by omega) hrl hcr
   have hdq:Dig (ofNat (val (ofNat z.natAbs) / val r)):=kP _
   have hds:Dig (ofNat (val r+val (ofNat (val (ofNat z.natAbs) / val r)))):=kP _
   have hcn:yQ (ofNat (val (ofNat (val r+val (ofNat (val (ofNat (Int.natAbs z)) / val r)))) / 2)):=qK _
   refine jH<|jB<|kx [(6,(vl 140 1 jC (ofNat (val (ofNat (Int.natAbs z)) / val r))))] [] (zM<|zM<|zE (jY (t_over (ofNat (Int.natAbs z)) r (by assumption) (by assumption) (by omega) (by omega) (by omega)))<|zM<|zE uT<|zE uT<|zM<|zM<|zZ) ?_
   refine jB<|kx [(8,(vl 140 1 jC (ofNat (val (ofNat (val r+val (ofNat (val (ofNat (Int.natAbs z)) / val r)))) / 2))))] [] (zM<|zM<|zE (jY (t_plus r (ofNat (val (ofNat (Int.natAbs z)) / val r)) (by assumption) (by assumption) (by omega) (by omega)))<|zE (jY (t_short (ofNat (val r+val (ofNat (val (ofNat (Int.natAbs z)) / val r)))) 2 (by assumption) (by omega) (by omega) (by omega)))<|zM<|zE uT<|zE uT<|zM<|zM<|zZ) ?_
   refine jB<|jB<|kx [(42,(vb (decide (0≤(vF ((val (ofNat (val (ofNat (val r+val (ofNat (val (ofNat (Int.natAbs z)) / val r)))) / 2)):Nat):Int) ((val r:Nat):Int))))))] [] (zM<|zM<|zE (jY (t_compare (ofNat (val (ofNat (val r+val (ofNat (val (ofNat (Int.natAbs z)) / val r)))) / 2)) r (by assumption) (by assumption) (by omega)))<|zE oGe<|zZ) ?_
   refine jG rfl (fun h3=>?_) (fun h3=>?_)
   ·replace h3:=uP h3
    refine jB<|kx [(3,(jP 0))] [(1,some (bx (jT (xQ false (val r)))))] (zM<|zE (jY (cC false r (by assumption) (by omega)))<|zT (qA kF)<|zM<|zZ) ?_
    refine jE ⟨_,(kH (cs:=(bx (jT (xQ false (val r))))) (d:=(jT (xQ false (val r)))) rfl rfl kF rfl rfl (.tmp (d:=(.val (.int .i64 (0)))) rfl .nil)),?_⟩
    rw[nw_end hz0 hr0 hru (nw_stop h3)];rfl
   ·replace h3:=uR h3
    refine jD<|kx [(5,(vl 140 1 jC (ofNat (val (ofNat (val r+val (ofNat (val (ofNat (Int.natAbs z)) / val r)))) / 2))))] [] (zM<|zM<|zZ) ?_
    exact ⟨(ofNat (val (ofNat (val r+val (ofNat (val (ofNat (Int.natAbs z)) / val r)))) / 2)),wk,(by obtain ⟨n1,n2,n3,n4⟩:=nw_ok z.natAbs hr0 hX h3;exact ⟨⟨n1,n2,n3⟩,Nat.le_trans (can_len n1 hcr (Nat.le_of_lt n4)) hrl⟩),(by obtain ⟨n1,n2,n3,n4⟩:=nw_ok z.natAbs hr0 hX h3;exact n4)⟩
theorem cb230:callB Tryz.prog 230=true:=by kernel_rfl
theorem cb232:callB Tryz.prog 232=true:=by kernel_rfl
theorem d_floor(x:Rat)(hx:QL x 200):jR Tryz.prog 232 [(jK (jN x))] (jT (kN (cD x))):=by
 refine jJ Tryz.func232 rfl cb232 rfl ?_
 show qG _ _ _ _ ⟨[(0,(.d (jK (jN x))))],[]⟩
 refine jB<|kx [(1,(.ref 0 0)),(2,(.ref 1 0))] [(0,some (bx (jK (jN x)))),(1,some (bx (jT (qB.mk false []))))] (zN (vA 0)<|zN (qV 1 gD gB)<|zZ) ?_
 refine jB<|kx [] [(0,some (bx (jK (jN x))))] (zR (kK jS)<|zE (jY (dH (jN x) x (jO (jZ hx) (by decide))))<|zT (qA jS)<|zZ) ?_
 refine jB ?_
 have bn1:gO (kN (x.num.fdiv (x.den:Int))) (x.num.fdiv (x.den:Int)) 201:=(iok_fdiv (k:=201) (uI hx) (uD hx) (by decide))
 refine kx [(3,(.ref 2 0))] [(2,some (bx (jT (kN (x.num.fdiv (x.den:Int)))))),(3,none)] (zE (kY xU)<|zR (kK kF)<|zE (kY xJ)<|zR (kK kF)<|zE (jY (s_divide (uI hx) (uD hx) (by decide) (by decide) (by have:=x.den_nz;omega)))<|zM<|zE uT<|zE uT<|zE uT<|zN (qV 2 gD gB)<|zN (qV 3 gD gB)<|zT (qA kF)<|zT (qA kF)<|zM<|zZ) ?_
 refine jB<|kx [] [(1,some (bx (jT (kN (x.num.fdiv (x.den:Int))))))] (zR (kK kF)<|zT (qA kF)<|zZ) ?_
 refine jE ⟨_,(kH (cs:=(bx (jT (kN (x.num.fdiv (x.den:Int)))))) (d:=(jT (kN (x.num.fdiv (x.den:Int))))) rfl rfl kF rfl rfl .nil),?_⟩
 rfl
theorem d_scaled(x:Rat)(hx:QL x 100)(k:Nat)(hk:k≤512):jR Tryz.prog 230 [(jK (jN x)),(.val (.int .i64 (((k:Nat):Int))))] (.tup [(jK (jN (x*(yA k)))),(jT (kN ((2 ^ k:Nat):Int))),(.val (.int .i64 (0)))]):=by
 refine jJ Tryz.func230 rfl cb230 rfl ?_
 show qG _ _ _ _ ⟨[(0,(.d (jK (jN x)))),(1,(jP k))],[]⟩
 refine jB<|kx [(2,(.ref 0 0)),(4,(.ref 1 0)),(5,(.ref 2 0))] [(0,some (bx (jK (jN x)))),(1,some (bx (jK kZ))),(2,some (bx (jT (qB.mk false []))))] (zN (vA 0)<|zN (qV 1 qU qY)<|zN (qV 2 gD gB)<|zM<|zZ) ?_
 refine jB<|jB<|kx [(14,(vb false))] [] (zM<|zE (vW false xK (by exact decide_eq_false (show ¬ ((k:Nat):Int)<0 by omega)))<|zM<|zM<|zE (vW false mL (by exact decide_eq_false (show ¬ 512<((k:Nat):Int) by omega)))<|zE yP<|zZ) ?_
 refine kU ?_
 refine jD<|jB<|kx [(7,(.ref 3 0))] [(3,some (bx (jT (kN ((2 ^ k:Nat):Int)))))] (zE (jY (t_of 2 (by decide) (by decide)))<|zM<|zE (jY (d_pow k (by omega)))<|zM<|zE uT<|zE uT<|zN (qV 3 gD gB)<|zT (qA kF)<|zM<|zZ) ?_
 refine jB ?_
 have bn1:QL (x*(yA k)) 120:=(qM (k:=120) hx (eU (k:=k) (by omega)) (by decide))
 refine kd [(6,(jP 0))] [(1,some (bx (jK (jN (x*(yA k)))))),(2,some (bx (jT (kN ((2 ^ k:Nat):Int)))))] mo (wR (kK jS)<|wR (kK kF)<|wE (jY (t_of 1 (by decide) (by decide)))<|wE (oQd (jK (jQ.mk (kN ((2 ^ k:Nat):Int)) (kN 1))) (jK (jN (yA k))) (eX pl45 qU qY) (by exact rfl))<|wE (jY (fD (jN x) (jN (yA k)) x (yA k) (jO (jZ hx) (by decide)) (jO (jZ (eU (k:=k) (by omega))) (by decide))))<|wR (kK kF)<|wT (qA jS)<|wT (qA kF)<|wM<|wZ) ?_
 refine jE ⟨_,(kH (cs:=(bx (jK (jN (x*(yA k)))))) (d:=(jK (jN (x*(yA k))))) rfl rfl jS rfl rfl (kH (cs:=(bx (jT (kN ((2 ^ k:Nat):Int))))) (d:=(jT (kN ((2 ^ k:Nat):Int)))) rfl rfl kF rfl rfl (.tmp (d:=(.val (.int .i64 (((0:Nat):Int))))) rfl .nil))),?_⟩
 rfl
end Go.Proofs.YtnajallgoaiahaaGreatDoor
namespace Go.Fid
def stnP(x y z u v f:Int):Prop:=(-1048576≤x∧x≤1048576)∧(-1048576≤y∧y≤1048576)∧(-1048576≤z∧z≤1048576)∧(-1048576≤u∧u≤1048576)∧(-1048576≤v∧v≤1048576)∧(1≤f∧f≤1048576)
instance {x y z u v f:Int}:Decidable (stnP x y z u v f):=by unfold stnP;infer_instance
def nq(a b c d:Int):Int:=(((a*a)+(b*b))+(c*c))+(d*d)
def N4(a b c d:Int):Rat:=((nq a b c d:Int):Rat)
def r02(a b c d:Int):Int:=2*((b*d)+(a*c))
def R02(a b c d:Int):Rat:=((r02 a b c d:Int):Rat)
def r12(a b c d:Int):Int:=2*((c*d)-(a*b))
def R12(a b c d:Int):Rat:=((r12 a b c d:Int):Rat)
def r22(a b c d:Int):Int:=(((a*a)-(b*b))-(c*c))+(d*d)
def R22(a b c d:Int):Rat:=((r22 a b c d:Int):Rat)
theorem ql_eqz{x y:Rat}{n:Nat}(h:x=y)(hy:QL y n):QL x n:=h▸hy
def gcd3(a b c:Rat):Int:=((Int.gcd a.num ((Int.gcd b.num c.num:Nat):Int):Nat):Int)
def redK(a b c:Rat):Rat:=Rat.divInt 1 (gcd3 a b c)
def dq0(a b c d p q r s:Int):Rat:=(R02 a b c d*N4 p q r s)+(R02 p q r s*N4 a b c d)
def dq1(a b c d p q r s:Int):Rat:=(R12 a b c d*N4 p q r s)+(R12 p q r s*N4 a b c d)
def dq2(a b c d p q r s:Int):Rat:=(R22 a b c d*N4 p q r s)+(R22 p q r s*N4 a b c d)
def RFr(lx ly lz la lb lc ld rx ry rz ra rb rc rd:Int)(b0 b1 b2 e00 e01 e02 e10 e11 e12 e20 e21 e22:Rat):Prop :=
 (((rx-lx):Int):Rat)=b0 ∧
 (((ry-ly):Int):Rat)=b1 ∧
 (((rz-lz):Int):Rat)=b2 ∧
 b0*redK b0 b1 b2=e00 ∧
 b1*redK b0 b1 b2=e01 ∧
 b2*redK b0 b1 b2=e02 ∧
 (((dq1 la lb lc ld ra rb rc rd)*e02)-((dq2 la lb lc ld ra rb rc rd)*e01))*redK (((dq1 la lb lc ld ra rb rc rd)*e02)-((dq2 la lb lc ld ra rb rc rd)*e01)) (((dq2 la lb lc ld ra rb rc rd)*e00)-((dq0 la lb lc ld ra rb rc rd)*e02)) (((dq0 la lb lc ld ra rb rc rd)*e01)-((dq1 la lb lc ld ra rb rc rd)*e00))=e10 ∧
 (((dq2 la lb lc ld ra rb rc rd)*e00)-((dq0 la lb lc ld ra rb rc rd)*e02))*redK (((dq1 la lb lc ld ra rb rc rd)*e02)-((dq2 la lb lc ld ra rb rc rd)*e01)) (((dq2 la lb lc ld ra rb rc rd)*e00)-((dq0 la lb lc ld ra rb rc rd)*e02)) (((dq0 la lb lc ld ra rb rc rd)*e01)-((dq1 la lb lc ld ra rb rc rd)*e00))=e11 ∧
 (((dq0 la lb lc ld ra rb rc rd)*e01)-((dq1 la lb lc ld ra rb rc rd)*e00))*redK (((dq1 la lb lc ld ra rb rc rd)*e02)-((dq2 la lb lc ld ra rb rc rd)*e01)) (((dq2 la lb lc ld ra rb rc rd)*e00)-((dq0 la lb lc ld ra rb rc rd)*e02)) (((dq0 la lb lc ld ra rb rc rd)*e01)-((dq1 la lb lc ld ra rb rc rd)*e00))=e12 ∧
 ((e01*e12)-(e02*e11))*redK ((e01*e12)-(e02*e11)) ((e02*e10)-(e00*e12)) ((e00*e11)-(e01*e10))=e20 ∧
 ((e02*e10)-(e00*e12))*redK ((e01*e12)-(e02*e11)) ((e02*e10)-(e00*e12)) ((e00*e11)-(e01*e10))=e21 ∧
 ((e00*e11)-(e01*e10))*redK ((e01*e12)-(e02*e11)) ((e02*e10)-(e00*e12)) ((e00*e11)-(e01*e10))=e22
instance {lx ly lz la lb lc ld rx ry rz ra rb rc rd:Int} {b0 b1 b2 e00 e01 e02 e10 e11 e12 e20 e21 e22:Rat}:Decidable (RFr lx ly lz la lb lc ld rx ry rz ra rb rc rd b0 b1 b2 e00 e01 e02 e10 e11 e12 e20 e21 e22):=by unfold RFr;infer_instance
section
variable {lx ly lz la lb lc ld rx ry rz ra rb rc rd:Int} {b0 b1 b2 e00 e01 e02 e10 e11 e12 e20 e21 e22:Rat}
end
end Go.Fid
namespace Go.Proofs.YtnajallgoaiahaaGreatDoor
open Go.Fid
theorem cb151:callB Tryz.prog 151=true:=by kernel_rfl
theorem d_froot(x:Rat)(hx:QL x 100)(k:Nat)(hk:k≤512)(hx0:0≤x):jR Tryz.prog 151 [(jK (jN x)),(.val (.int .i64 (((k:Nat):Int))))] (.tup [(jK (jN (Rat.divInt (qZ (cD (x*((yA k)*(yA k))))) ((2 ^ k:Nat):Int)))),(jK (jN (Rat.divInt (upI (x*((yA k)*(yA k)))) ((2 ^ k:Nat):Int)))),(.val (.int .i64 (0)))]):=by
 have hp0:((2 ^ k:Nat):Int)≠0:=Int.ne_of_gt (two_pos k)
 let y5:=(kN (qZ (cD (x*((yA k)*(yA k))))))
 let y4:=(jK (jN (Rat.divInt (qZ (cD (x*((yA k)*(yA k))))) ((2 ^ k:Nat):Int))))
 let y3:=(bx y4)
 let y2:=(jK (jN (Rat.divInt ((qZ (cD (x*((yA k)*(yA k)))))+1) ((2 ^ k:Nat):Int))))
 let y1:=(jN (((qZ (cD (x*((yA k)*(yA k)))))*(qZ (cD (x*((yA k)*(yA k))))):Int):Rat))
 refine jJ Tryz.func151 rfl cb151 rfl ?_
 show qG _ _ _ _ ⟨[(0,(.d (jK (jN x)))),(1,(jP k))],[]⟩
 refine jB<|kx [(2,(.ref 0 0)),(4,(.ref 1 0)),(5,(.ref 2 0))] [(0,some (bx (jK (jN x)))),(1,some (bx (jK kZ))),(2,some (bx (jK kZ)))] (zN (vA 0)<|zN (qV 1 qU qY)<|zN (qV 2 qU qY)<|zM<|zZ) ?_
 refine jB ?_
 have bn1:QL (x*(yA k)) 120:=(qM (k:=120) hx (eU (k:=k) (by omega)) (by decide))
 refine kx [(6,(vi 0)),(7,(.ref 3 0)),(8,(.ref 4 0))] [(3,some (bx (jK (jN (x*(yA k)))))),(4,some (bx (jT (kN ((2 ^ k:Nat):Int)))))] (zR (kK jS)<|zM<|zE (jY (d_scaled x hx k (by omega)))<|zM<|zE uT<|zE uT<|zE uT<|zN (qV 3 qU qY)<|zN (qV 4 gD gB)<|zT (qA jS)<|zT (qA kF)<|zM<|zZ) ?_
 refine jB<|jB<|kx [(25,(vb false))] [] (zM<|zE (vW false nW)<|zM<|zR (kK jS)<|zE (jY (f_sign (jN x) x (jO (jZ hx) (by decide))))<|zE (vW false xK (by exact decide_eq_false (sgn_nn hx0)))<|zE yP<|zZ) ?_
 refine kU ?_
 refine jD<|jB ?_
 have bn2:QL (x*((yA k)*(yA k))) 140:=(ql_eqz (Eq.symm (Rat.mul_assoc _ _ _)) (qM (k:=140) bn1 (eU (k:=k) (by omega)) (by decide)))
 refine kd [] [(3,some (bx (jK (jN (x*((yA k)*(yA k)))))))] mo (wR (kK jS)<|wR (kK kF)<|wE (jY (t_of 1 (by decide) (by decide)))<|wE (oQd (jK (jQ.mk (kN ((2 ^ k:Nat):Int)) (kN 1))) (jK (jN (yA k))) (eX pl45 qU qY) (by exact rfl))<|wE (jY (by have h:=fD (jN (x*(yA k))) (jN (yA k)) (x*(yA k)) (yA k) (jO (jZ bn1) (by decide)) (jO (jZ (eU (k:=k) (by omega))) (by decide));rw[(Rat.mul_assoc _ _ _)] at h;exact h))<|wT (qA jS)<|wZ) ?_
 refine jB ?_
 have bn3:gO (kN (qZ (cD (x*((yA k)*(yA k)))))) (qZ (cD (x*((yA k)*(yA k))))) 141:=(iok_root (fl_nn (aZ hx0)) (aN (k:=141) bn2 (by decide)))
 refine kx [(9,(.ref 5 0))] [(5,some (bx (jT y5)))] (zR (kK jS)<|zE (jY (d_floor (x*((yA k)*(yA k))) (qu bn2)))<|zE (jY (d_root (cD (x*((yA k)*(yA k)))) (nC (aN (k:=141) bn2 (by decide)) (by decide)) (fl_nn (aZ hx0))))<|zM<|zE uT<|zE uT<|zN (qV 5 gD gB)<|zT (qA kF)<|zM<|zZ) ?_
 refine jB<|kx [(11,(.ref 6 0))] [(6,some (bx (jT y5)))] (zR (kK kF)<|zN (qV 6 gD gB)<|zT (qA kF)<|zZ) ?_
 refine jB<|jB<|kd [(47,(vb (decide ((yC (((qZ (cD (x*((yA k)*(yA k)))))*(qZ (cD (x*((yA k)*(yA k))))):Int):Rat) (x*((yA k)*(yA k))))<((0:Nat):Int)))))] [] mo (wR (kK kF)<|wR (kK kF)<|wE (jY (s_mul bn3 bn3 (by decide) (by decide)))<|wE (jY (t_of 1 (by decide) (by decide)))<|wE (oQd (jK (jQ.mk (kN ((qZ (cD (x*((yA k)*(yA k)))))*(qZ (cD (x*((yA k)*(yA k))))))) (kN 1))) (jK y1) (eX pl45 qU qY) (by exact rfl))<|wR (kK jS)<|wE (jY (cY y1 (jN (x*((yA k)*(yA k)))) (((qZ (cD (x*((yA k)*(yA k)))))*(qZ (cD (x*((yA k)*(yA k))))):Int):Rat) (x*((yA k)*(yA k))) (jO (jZ (xT (z:=((qZ (cD (x*((yA k)*(yA k)))))*(qZ (cD (x*((yA k)*(yA k))))))) (n:=282) (gO.ln (yH (k:=282) bn3 bn3 (by decide))) (by decide))) (by decide)) (jO (jZ bn2) (by decide))))<|wE xK<|wZ) ?_
 refine jG rfl (fun h1=>?_) (fun h1=>?_)
 ·replace h1:=uP h1
  have hup:=upI_t h1
  have bn4:gO (kN ((qZ (cD (x*((yA k)*(yA k)))))+1)) ((qZ (cD (x*((yA k)*(yA k)))))+1) 142:=(iok_add (k:=142) bn3 (bU (z:=1) (by decide)) (by decide))
  refine kd [] [(6,some (bx (jT (kN ((qZ (cD (x*((yA k)*(yA k)))))+1)))))] mo (wR (kK kF)<|wE (jY (t_of 1 (by decide) (by decide)))<|wE (jY (s_add bn3 (bU (z:=1) (by decide)) (by decide) (by decide)))<|wT (qA kF)<|wZ) ?_
  refine jB ?_
  have bn5:QL (Rat.divInt (qZ (cD (x*((yA k)*(yA k))))) ((2 ^ k:Nat):Int)) 141:=(yT (n:=141) (Nat.le_trans (gO.ln bn3) (by decide)) (Nat.le_trans (gO.ln (dV (k:=k) (by omega))) (by decide)) (by decide))
  have bn6:QL (Rat.divInt ((qZ (cD (x*((yA k)*(yA k)))))+1) ((2 ^ k:Nat):Int)) 142:=(yT (n:=142) (Nat.le_trans (gO.ln bn4) (by decide)) (Nat.le_trans (gO.ln (dV (k:=k) (by omega))) (by decide)) (by decide))
  refine kd [(6,(jP 0))] [(1,some y3),(2,some (bx y2))] mo (wR (kK kF)<|wR (kK kF)<|wE (jY (cU y5 (kN ((2 ^ k:Nat):Int)) (qZ (cD (x*((yA k)*(yA k))))) ((2 ^ k:Nat):Int) (iu bn3) (nC (dV (k:=k) (by omega)) (by decide)) (by assumption)))<|wR (kK kF)<|wR (kK kF)<|wE (jY (cU (kN ((qZ (cD (x*((yA k)*(yA k)))))+1)) (kN ((2 ^ k:Nat):Int)) ((qZ (cD (x*((yA k)*(yA k)))))+1) ((2 ^ k:Nat):Int) (iu bn4) (nC (dV (k:=k) (by omega)) (by decide)) (by assumption)))<|wT (qA jS)<|wT (qA jS)<|wM<|wZ) ?_
  refine jE ⟨_,(kH (cs:=y3) (d:=y4) rfl rfl jS rfl rfl (kH (cs:=(bx y2)) (d:=y2) rfl rfl jS rfl rfl (.tmp (d:=(.val (.int .i64 (((0:Nat):Int))))) rfl .nil))),?_⟩
  rw[hup];rfl
 ·replace h1:=uR h1
  have hup:=upI_f h1
  refine jD<|jB ?_
  have bn7:QL (Rat.divInt (qZ (cD (x*((yA k)*(yA k))))) ((2 ^ k:Nat):Int)) 141:=(yT (n:=141) (Nat.le_trans (gO.ln bn3) (by decide)) (Nat.le_trans (gO.ln (dV (k:=k) (by omega))) (by decide)) (by decide))
  refine kd [(6,(jP 0))] [(1,some y3),(2,some y3)] mo (wR (kK kF)<|wR (kK kF)<|wE (jY (cU y5 (kN ((2 ^ k:Nat):Int)) (qZ (cD (x*((yA k)*(yA k))))) ((2 ^ k:Nat):Int) (iu bn3) (nC (dV (k:=k) (by omega)) (by decide)) (by assumption)))<|wR (kK kF)<|wR (kK kF)<|wE (jY (cU y5 (kN ((2 ^ k:Nat):Int)) (qZ (cD (x*((yA k)*(yA k))))) ((2 ^ k:Nat):Int) (iu bn3) (nC (dV (k:=k) (by omega)) (by decide)) (by assumption)))<|wT (qA jS)<|wT (qA jS)<|wM<|wZ) ?_
  refine jE ⟨_,(kH (cs:=y3) (d:=y4) rfl rfl jS rfl rfl (kH (cs:=y3) (d:=y4) rfl rfl jS rfl rfl (.tmp (d:=(.val (.int .i64 (((0:Nat):Int))))) rfl .nil))),?_⟩
  rw[hup];rfl
theorem cb91:callB Tryz.prog 91=true:=by kernel_rfl
theorem di_root(p:Rat)(q:Rat)(hp:QL p 100)(hq:QL q 100)(hpq:p≤q)(k:Nat)(hk:k≤512)(hp0_:0≤p):jR Tryz.prog 91 [(jF (jV.mk (jN p) (jN q))),(.val (.int .i64 (((k:Nat):Int))))] (.tup [(jF (jV.mk (jN (Rat.divInt (qZ (cD (p*((yA k)*(yA k))))) ((2 ^ k:Nat):Int))) (jN (Rat.divInt (upI (q*((yA k)*(yA k)))) ((2 ^ k:Nat):Int))))),(.val (.int .i64 (0)))]):=by
 let y2:=(jF (jV.mk (jN (Rat.divInt (qZ (cD (p*((yA k)*(yA k))))) ((2 ^ k:Nat):Int))) (jN (Rat.divInt (upI (q*((yA k)*(yA k)))) ((2 ^ k:Nat):Int)))))
 let y1:=(bx y2)
 refine jJ Tryz.func91 rfl cb91 rfl ?_
 show qG _ _ _ _ ⟨[(0,(.d (jF (jV.mk (jN p) (jN q))))),(1,(jP k))],[]⟩
 refine jB<|kx [(2,(.ref 0 0)),(4,(.ref 1 0))] [(0,some (bx (jF (jV.mk (jN p) (jN q))))),(1,some (bx (jF (jV.mk kZ kZ))))] (zN (vA 0)<|zN (qV 1 qO qS)<|zM<|zZ) ?_
 refine jB<|jB<|kx [(14,(vb false))] [] (zR (kK jW)<|zE (jY (by have h:=iH (jV.mk (jN p) (jN q)) (hZ (⟨qR (jO (jZ hp) (by decide:100≤100)),qR (jO (jZ hq) (by decide:100≤100))⟩) (by decide));rw[show uK (jV.mk (jN p) (jN q))=true from zU hpq] at h;exact h))<|zE mD<|zZ) ?_
 refine kU ?_
 refine jD<|jB<|jB<|kx [(27,(vb false))] [] (zM<|zE (vW false xK (by exact decide_eq_false (show ¬ ((k:Nat):Int)<0 by omega)))<|zM<|zM<|zE (vW false mL (by exact decide_eq_false (show ¬ 512<((k:Nat):Int) by omega)))<|zE yP<|zM<|zE (kY vK)<|zR (kK jS)<|zE (jY (f_sign (jN p) p (jO (jZ hp) (by decide))))<|zE (vW false xK (by exact decide_eq_false (sgn_nn hp0_)))<|zE yP<|zZ) ?_
 refine kU ?_
 refine jD<|jB ?_
 have bn1:QL (Rat.divInt (qZ (cD (p*((yA k)*(yA k))))) ((2 ^ k:Nat):Int)) 141:=(yT (n:=141) (Nat.le_trans (gO.ln (iok_root (fl_nn (aZ hp0_)) (aN (k:=141) (qM (k:=140) hp (qM (k:=40) (eU (k:=k) (by omega)) (eU (k:=k) (by omega)) (by decide)) (by decide)) (by decide)))) (by decide)) (Nat.le_trans (gO.ln (dV (k:=k) (by omega))) (by decide)) (by decide))
 have bn2:QL (Rat.divInt (upI (p*((yA k)*(yA k)))) ((2 ^ k:Nat):Int)) 142:=(yT (n:=142) (Nat.le_trans (gO.ln (iok_upI (k:=142) (fl_nn (aZ hp0_)) (aN (k:=141) (qM (k:=140) hp (qM (k:=40) (eU (k:=k) (by omega)) (eU (k:=k) (by omega)) (by decide)) (by decide)) (by decide)) (by decide) (by decide))) (by decide)) (Nat.le_trans (gO.ln (dV (k:=k) (by omega))) (by decide)) (by decide))
 refine kx [(6,(.ref 2 0))] [(2,some (bx (jK (jN (Rat.divInt (qZ (cD (p*((yA k)*(yA k))))) ((2 ^ k:Nat):Int)))))),(3,none)] (zE (kY vK)<|zR (kK jS)<|zM<|zE (jY (d_froot p hp k (by omega) hp0_))<|zM<|zE uT<|zE uT<|zE uT<|zN (qV 2 qU qY)<|zN (qV 3 qU qY)<|zT (qA jS)<|zT (qA jS)<|zM<|zZ) ?_
 refine jB ?_
 have bn3:QL (Rat.divInt (qZ (cD (q*((yA k)*(yA k))))) ((2 ^ k:Nat):Int)) 141:=(yT (n:=141) (Nat.le_trans (gO.ln (iok_root (fl_nn (aZ (Rat.le_trans hp0_ hpq))) (aN (k:=141) (qM (k:=140) hq (qM (k:=40) (eU (k:=k) (by omega)) (eU (k:=k) (by omega)) (by decide)) (by decide)) (by decide)))) (by decide)) (Nat.le_trans (gO.ln (dV (k:=k) (by omega))) (by decide)) (by decide))
 have bn4:QL (Rat.divInt (upI (q*((yA k)*(yA k)))) ((2 ^ k:Nat):Int)) 142:=(yT (n:=142) (Nat.le_trans (gO.ln (iok_upI (k:=142) (fl_nn (aZ (Rat.le_trans hp0_ hpq))) (aN (k:=141) (qM (k:=140) hq (qM (k:=40) (eU (k:=k) (by omega)) (eU (k:=k) (by omega)) (by decide)) (by decide)) (by decide)) (by decide) (by decide))) (by decide)) (Nat.le_trans (gO.ln (dV (k:=k) (by omega))) (by decide)) (by decide))
 refine kx [(10,(.ref 5 0))] [(5,some (bx (jK (jN (Rat.divInt (upI (q*((yA k)*(yA k)))) ((2 ^ k:Nat):Int)))))),(4,none)] (zE (kY vY)<|zR (kK jS)<|zM<|zE (jY (d_froot q hq k (by omega) (Rat.le_trans hp0_ hpq)))<|zM<|zE uT<|zE uT<|zE uT<|zN (qV 4 qU qY)<|zN (qV 5 qU qY)<|zT (qA jS)<|zT (qA jS)<|zM<|zZ) ?_
 refine jB<|kx [(5,(jP 0))] [(1,some y1)] (zR (kK jS)<|zR (kK jS)<|zE (eX pl61 qO qS)<|zT (qA jW)<|zM<|zZ) ?_
 refine jE ⟨_,(kH (cs:=y1) (d:=y2) rfl rfl jW rfl rfl (.tmp (d:=(.val (.int .i64 (((0:Nat):Int))))) rfl .nil)),?_⟩
 rfl
theorem cb14:callB Tryz.prog 14=true:=by kernel_rfl
theorem cb27:callB Tryz.prog 27=true:=by kernel_rfl
theorem m_vlist(l:List jQ)(hl:vG 1048576 l):jR Tryz.prog 14 [(.sl 45 4 (List.map jK l))] (.val (.bool ((gC l)))):=by
 have hb:=hl.2
 refine jJ Tryz.func14 rfl cb14 rfl ?_
 show qG _ _ _ _ ⟨[(0,(vl 45 4 jK l))],[]⟩
 refine jB<|kx [] [] (zM<|zZ) ?_
 refine jB<|jB<|kx [(3,(jP 0))] [] (zM<|zZ) ?_
 refine jH<|kA (α:=Nat) (fun i=>⟨[(0,(vl 45 4 jK l)),(3,(jP i))],[]⟩) (fun i=>i≤l.length∧(l.take i).all kR=true) (fun i=>l.length-i) 0 wk ⟨Nat.zero_le _,by simp⟩ ?_
 rintro i ⟨hi,hal⟩
 refine jB<|jB<|kx [(7,(vb (decide (((i:Nat):Int)<((l.length:Nat):Int)))))] [] (zM<|zM<|zE (uW uE)<|zE xK<|zZ) ?_
 refine jG rfl (fun h1=>?_) (fun h1=>?_)
 ·replace h1:=uP h1
  refine jD<|jB<|jH<|jB<|kx [(15,(vb (!(kR (l.getD i kZ)))))] [] (zM<|zM<|zE (xX uE i kZ)<|zE (gE jS)<|zE (jY (iX (l.getD i kZ) (qP (l.getD i kZ)) (jO (vE hl.1 (show i<l.length by omega)) (by decide))))<|zE mD<|zZ) ?_
  refine jG rfl (fun h2=>?_) (fun h2=>?_)
  ·refine jB<|kx [(2,(vb false))] [] (zM<|zZ) ?_
   refine jE ⟨_,(.tmp (d:=(.val (.bool (false)))) rfl .nil),?_⟩
   rw[show gC l=false from all_not (f:=kR) (l:=l) (i:=i) (d:=kZ) (by omega) (by simpa using h2)];rfl
  ·refine jD<|kx [(3,(jP (i+1)))] [] (zM<|zE (vC (i+1))<|zM<|zZ) ?_
   exact ⟨(i+1),wk,⟨by omega,all_take (d:=kZ) (by omega) hal (by simpa using h2)⟩,(by first|omega|(dsimp only;omega))⟩
 ·replace h1:=uR h1
  have hie:i=l.length:=by omega
  rw[hie,List.take_length] at hal
  refine kB<|jB<|kx [(2,(vb true))] [] (zM<|zZ) ?_
  refine jE ⟨_,(.tmp (d:=(.val (.bool (true)))) rfl .nil),?_⟩
  rw[show gC l=true from hal];rfl
theorem p_cov(x:jQ)(p:Rat)(hx:gW x p 200)(a:jQ)(q:Rat)(ha:gW a q 200)(b:jQ)(r:Rat)(hb:gW b r 200)(y:jQ)(s:Rat)(hy:gW y s 200)(gx:kR x=true)(ga:kR a=true)(gb:kR b=true)(gy:kR y=true)(hq:¬ (nX q)<0)(hr:¬ (nX r)<0):jR Tryz.prog 27 [(jK x),(jK a),(jK b),(jK y)] (.tup [(.val (.bool ((decide ((yC ((s-p)*(s-p)) (q*r))≤0))))),(.val (.int .i64 (((0:Nat):Int))))]):=by
 refine jJ Tryz.func27 rfl cb27 rfl ?_
 show qG _ _ _ _ ⟨[(0,(.d (jK x))),(1,(.d (jK a))),(2,(.d (jK b))),(3,(.d (jK y)))],[]⟩
 refine jB<|kx [(4,(.ref 0 0)),(5,(.ref 1 0)),(6,(.ref 2 0)),(7,(.ref 3 0))] [(0,some (bx (jK x))),(1,some (bx (jK a))),(2,some (bx (jK b))),(3,some (bx (jK y)))] (zN (vA 0)<|zN (vA 1)<|zN (vA 2)<|zN (vA 3)<|zM<|zM<|zZ) ?_
 refine jB<|jB<|kx [(17,(vl 45 4 jK [x,a,b,y])),(18,(jP 4)),(19,(jP 0))] [] (zR (kK jS)<|zR (kK jS)<|zR (kK jS)<|zR (kK jS)<|zE (cN uE qU qY)<|zE (oLn uE 4)<|zM<|zZ) ?_
 refine jH<|pwp_rounds 5 ?_
 refine pwp_round<|jB<|kx [(20,(vb true))] [] (zE (vW true xK)<|zZ) ?_
 refine jB<|uY ?_
 refine jD<|jB<|jH<|jB<|kx [(11,(.ref 4 0))] [(4,some (bx (jK x)))] (zE (oXs uE 0)<|zE (gE jS)<|zN (qV 4 qU qY)<|zT (qA jS)<|zZ) ?_
 refine jB<|kx [(25,(vb false))] [] (zR (kK jS)<|zE (vW true (jY (cQ x p (jO hx (by decide)))) (by exact gx))<|zE mD<|zZ) ?_
 refine kU ?_
 refine jD<|kx [(19,(jP 1))] [] (zE (vC 1 (hr:=by decide))<|zM<|zZ) ?_
 refine fP (vB.refl _) ?_
 refine jB<|kx [(20,(vb true))] [] (zE (vW true xK)<|zZ) ?_
 refine jB<|uY ?_
 refine jD<|jB<|jH<|jB<|kx [(11,(.ref 5 0))] [(5,some (bx (jK a)))] (zE (oXs uE 1)<|zE (gE jS)<|zN (qV 5 qU qY)<|zT (qA jS)<|zZ) ?_
 refine jB<|kx [(25,(vb false))] [] (zR (kK jS)<|zE (vW true (jY (cQ a q (jO ha (by decide)))) (by exact ga))<|zE mD<|zZ) ?_
 refine kU ?_
 refine jD<|kx [(19,(jP 2))] [] (zE (vC 2 (hr:=by decide))<|zM<|zZ) ?_
 refine fP (vB.refl _) ?_
 refine jB<|kx [(20,(vb true))] [] (zE (vW true xK)<|zZ) ?_
 refine jB<|uY ?_
 refine jD<|jB<|jH<|jB<|kx [(11,(.ref 6 0))] [(6,some (bx (jK b)))] (zE (oXs uE 2)<|zE (gE jS)<|zN (qV 6 qU qY)<|zT (qA jS)<|zZ) ?_
 refine jB<|kx [(25,(vb false))] [] (zR (kK jS)<|zE (vW true (jY (cQ b r (jO hb (by decide)))) (by exact gb))<|zE mD<|zZ) ?_
 refine kU ?_
 refine jD<|kx [(19,(jP 3))] [] (zE (vC 3 (hr:=by decide))<|zM<|zZ) ?_
 refine fP (vB.refl _) ?_
 refine jB<|kS (wk (l:=[(4,(.ref 0 0)),(5,(.ref 1 0)),(6,(.ref 2 0)),(7,(.ref 3 0)),(17,(vl 45 4 jK [x,a,b,y])),(18,(jP 4)),(19,(jP 3))]) (b:=[(0,some (bx (jK x))),(1,some (bx (jK a))),(2,some (bx (jK b))),(3,some (bx (jK y)))])) ?_
 refine kx [(20,(vb true))] [] (zE (vW true xK)<|zZ) ?_
 refine jB<|uY ?_
 refine jD<|jB<|jH<|jB<|kx [(11,(.ref 7 0))] [(7,some (bx (jK y)))] (zE (oXs uE 3)<|zE (gE jS)<|zN (qV 7 qU qY)<|zT (qA jS)<|zZ) ?_
 refine jB<|kx [(25,(vb false))] [] (zR (kK jS)<|zE (vW true (jY (cQ y s (jO hy (by decide)))) (by exact gy))<|zE mD<|zZ) ?_
 refine kU ?_
 refine jD<|kx [(19,(jP 4))] [] (zE (vC 4 (hr:=by decide))<|zM<|zZ) ?_
 refine fP (vB.refl _) ?_
 refine jB<|kx [(20,(vb false))] [] (zE (vW false xK)<|zZ) ?_
 refine jB<|kU ?_
 refine kB<|jB<|jB<|kx [(34,(vb false))] [] (zR (kK jS)<|zE (jY (f_sign a q (jO ha (by decide))))<|zE (vW false xK (by exact decide_eq_false hq))<|zM<|zR (kK jS)<|zE (jY (f_sign b r (jO hb (by decide))))<|zE (vW false xK (by exact decide_eq_false hr))<|zE yP<|zZ) ?_
 refine kU ?_
 refine jD<|jB<|kx [(12,(.ref 8 0))] [(8,some (bx (jK (jN (s-p)))))] (zR (kK jS)<|zR (kK jS)<|zE (jY (f_sub y x s p (jO hy (by decide)) (jO hx (by decide))))<|zN (qV 8 qU qY)<|zT (qA jS)<|zZ) ?_
 refine jB<|kd [(8,(vb (decide ((yC ((s-p)*(s-p)) (r*q))≤((0:Nat):Int))))),(9,(jP 0))] [] mo (wR (kK jS)<|wR (kK jS)<|wE (jY (fD (jN (s-p)) (jN (s-p)) (s-p) (s-p) (jO (jZ (bC (k:=401) hy.ql hx.ql (by decide))) (by decide)) (jO (jZ (bC (k:=401) hy.ql hx.ql (by decide))) (by decide))))<|wR (kK jS)<|wR (kK jS)<|wE (jY (fD b a r q (jO hb (by decide)) (jO ha (by decide))))<|wE (jY (cY (jN ((s-p)*(s-p))) (jN (r*q)) ((s-p)*(s-p)) (r*q) (jO (jZ (qM (k:=802) (bC (k:=401) hy.ql hx.ql (by decide)) (bC (k:=401) hy.ql hx.ql (by decide)) (by decide))) (by decide)) (jO (jZ (qM (k:=400) hb.ql ha.ql (by decide))) (by decide))))<|wE oLe<|wM<|wM<|wZ) ?_
 refine jE ⟨_,(.tmp (d:=(.val (.bool (decide ((yC ((s-p)*(s-p)) (r*q))≤((0:Nat):Int)))))) rfl (.tmp (d:=(.val (.int .i64 (((0:Nat):Int))))) rfl .nil)),?_⟩
 rw[Rat.mul_comm q r];rfl
def zQ(zs:List Int):List Rat:=zs.map fun z:Int=>(z:Rat)
theorem zQ_ql{zs:List Int}(h:∀ z∈zs,-9223372036854775808≤z∧z≤9223372036854775807):∀ q∈zQ zs,QL q 3:=fun q hq=>by
 obtain ⟨z,hz,rfl⟩:=List.mem_map.1 hq
 exact xT (mN (h z hz).1 (h z hz).2) (by decide)
theorem zQ_row{zs:List Int}{n:Nat}(h:∀ z∈zs,-9223372036854775808≤z∧z≤9223372036854775807)(hn:3≤n)(hl:zs.length≤1000000):vG n (List.map jN (zQ zs)):=pts_row (fun q hq=>xE (zQ_ql h q hq) hn) (by unfold zQ;rw[List.length_map];exact hl)
def kT:List kV:=[⟨1,0,0,zr⟩,⟨1,1,0,zr⟩,⟨4,0,1,zr⟩]
def kX:List Rat:=zQ [2,3]
def kQ:List (List jQ):=[List.map jN (zQ [1,0]),List.map jN (zQ [0,4])]
def kE:List (List jQ):=[List.map jN (zQ [5,4]),List.map jN (zQ [4,5])]
theorem kX_ql:∀ q∈kX,QL q 1048576:=fun q hq=>xE (zQ_ql (by decide) q hq) (by decide)
theorem kT_ok:∀ x∈kT,gW x.n (qP x.n) 1048576:=fun x hx=>by
 have:x.n=zr:=by
  unfold kT at hx
  simp only[List.mem_cons,List.not_mem_nil,or_false] at hx
  rcases hx with rfl | rfl | rfl<;>rfl
 rw[this]
 exact ⟨rfl,by decide,by decide,by decide⟩
theorem kQ_ok:vN 1048576 kQ:=⟨fun r hr=>by
 unfold kQ at hr
 simp only[List.mem_cons,List.not_mem_nil,or_false] at hr
 rcases hr with rfl | rfl<;>exact zQ_row (by decide) (by decide) (by decide),by decide⟩
theorem kE_ok:vN 6 kE:=⟨fun r hr=>by
 unfold kE at hr
 simp only[List.mem_cons,List.not_mem_nil,or_false] at hr
 rcases hr with rfl | rfl<;>exact zQ_row (by decide) (by decide) (by decide),by decide⟩
theorem vrow_of(l:List Rat):gC (List.map jN l)=true:=by
 unfold gC
 rw[List.all_eq_true]
 intro a ha
 obtain ⟨r,h1,rfl⟩:=List.mem_map.1 ha
 exact cS _
theorem kQ_rect:gJ kQ kQ.length kX.length:=⟨rfl,fun l hl=>by
 unfold kQ at hl
 simp only[List.mem_cons,List.not_mem_nil,or_false] at hl
 rcases hl with rfl | rfl<;>exact ⟨rfl,vrow_of _⟩,by decide,by decide,by decide,by decide⟩
theorem kE_rect:gJ kE 2 2:=⟨rfl,fun l hl=>by
 unfold kE at hl
 simp only[List.mem_cons,List.not_mem_nil,or_false] at hl
 rcases hl with rfl | rfl<;>exact ⟨rfl,vrow_of _⟩,by decide,by decide,by decide,by decide⟩
theorem kE_chk:gS kE=0:=rect_chk kE_rect
theorem eqm2{a b c d:Rat}(h:b=c):symB [[jN a,jN b],[jN c,jN d]]=true:=by
 refine sym_yes fun i hi j hj=>?_
 match i,j,hi,hj with
 |1,0,_,_=>exact decide_eq_true (by subst h;rfl)
theorem kQ_fit:mV kQ kX.length=0:=fit_ok ⟨rfl,rfl⟩ (eqm2 rfl)
theorem kE_fit:mV kE kE.length=0:=fit_ok ⟨rfl,rfl⟩ (eqm2 rfl)
instance (n:Nat) (a:R2):Decidable (GL n a):=by unfold GL QL;infer_instance
theorem kT_run:JRun (List.map yF kX) kT:=by
 refine ⟨by decide +kernel,fun k hk=>?_,fun k hk=>?_⟩
 ·match k,hk with
  |0,_=>exact ⟨by decide +kernel,by decide +kernel,rfl⟩
  |1,_=>exact ⟨by decide +kernel,by decide +kernel,rfl⟩
  |2,_=>exact ⟨by decide +kernel,by decide +kernel,rfl⟩
 ·match k,hk with
  |0,_=>intro h;revert h;decide
  |1,_=>intro h;revert h;decide
  |2,_=>intro h;revert h;decide
theorem kGr:vT kX kT=[jN 3,jN 2]:=by
 unfold vT
 rw[show (vZ (List.map yF kX) kT).g=[(3,3),(2,2)] by decide +kernel]
 rfl
theorem kVar:dW kQ (vT kX kT) (vT kX kT)=25:=by
 rw[kGr]
 show 0+qP (jN 3)*qP (jN (0+qP (jN 1)*qP (jN 3)+qP (jN 0)*qP (jN 2)))+qP (jN 2)*qP (jN (0+qP (jN 0)*qP (jN 3)+qP (jN 4)*qP (jN 2)))=25
 simp only[gP]
 decide +kernel
theorem kEa:qP ((kE.getD 0 []).getD 0 kZ)=5:=by
 show qP (jN ((5:Int):Rat))=5
 rw[gP];rfl
theorem kEb:qP ((kE.getD 1 []).getD 1 kZ)=5:=by
 show qP (jN ((5:Int):Rat))=5
 rw[gP];rfl
theorem kEc:qP ((kE.getD 0 []).getD 1 kZ)=4:=by
 show qP (jN ((4:Int):Rat))=4
 rw[gP];rfl
theorem zs_at{zs:List Int}(h:∀ z∈zs,-9223372036854775808≤z∧z≤9223372036854775807){i:Nat}(hi:i<zs.length):-9223372036854775808≤zs.getD i 0∧zs.getD i 0≤9223372036854775807:=by
 rw[List.getD_eq_getElem?_getD,List.getElem?_eq_getElem hi];exact h _ (List.getElem_mem _)
theorem rng2{a b c d:Rat}(h1:a=c)(h2:b=d):jV.mk (jN a) (jN b)=jV.mk (jN c) (jN d):=by rw[h1,h2]
end Go.Proofs.YtnajallgoaiahaaGreatDoor
