/- Part 30 of a proof: rules, plain facts, and functions walked. -/
import Derived.Test.YtnajallgoaiahaaGreatDoorM29
import Derived.Test.YtnajallgoaiahaaGreatDoorM18
import Derived.Test.YtnajallgoaiahaaGreatDoorM21
import Derived.Test.YtnajallgoaiahaaGreatDoorM10
import Derived.Test.YtnajallgoaiahaaGreatDoorM26
import Derived.Test.YtnajallgoaiahaaGreatDoorM19
import Derived.Test.YtnajallgoaiahaaGreatDoorM11
set_option linter.all false
set_option maxRecDepth 4000
namespace Go.Proofs.YtnajallgoaiahaaGreatDoor
open Go.Fid
theorem cb256:callB Tryz.prog 256=true:=by kernel_rfl
theorem cb265:callB Tryz.prog 265=true:=by kernel_rfl
theorem cb268:callB Tryz.prog 268=true:=by kernel_rfl
theorem cb271:callB Tryz.prog 271=true:=by kernel_rfl
theorem cb272:callB Tryz.prog 272=true:=by kernel_rfl
theorem cb273:callB Tryz.prog 273=true:=by kernel_rfl
theorem in3:intB Tryz.prog 3=some .i64:=by kernel_rfl
theorem st9:strB Tryz.prog 9=true:=by kernel_rfl
theorem d_small :jQ Tryz.prog 273 [(.val (.int .i64 (((2:Nat):Int))))] (.val (.string (ByteArray.mk #[50]))):=by
 refine jG Tryz.func273 rfl cb273 rfl ?_
 show qK _ _ _ _ ⟨[(0,(jV 2))],[]⟩
 refine jB<|kx [] [] (zM<|zZ) ?_
 refine jB<|jB<|kx [(4,(vb true))] [] (zM<|zE (xD true xT)<|zZ) ?_
 refine vP ?_
 refine jB<|kx [(2,(.d (.val (.string (ByteArray.mk #[50])))))] [] (zM<|zM<|zE (vY 3 (hr:=by decide))<|zE (oSstr (l:=2) (h:=3) (r:=ByteArray.mk #[50]) st9)<|zM<|zZ) ?_
 refine jE ⟨_,(.tmp (d:=(.val (.string (ByteArray.mk #[50])))) rfl .nil),?_⟩
 rfl
theorem d_fmt :jQ Tryz.prog 272 [(.val (.int .i64 (((2:Nat):Int)))),(.val (.int .i64 (((10:Nat):Int))))] (.val (.string (ByteArray.mk #[50]))):=by
 refine jG Tryz.func272 rfl cb272 rfl ?_
 show qK _ _ _ _ ⟨[(0,(jV 2)),(1,(jV 10))],[]⟩
 refine jB<|kx [] [] (zM<|zZ) ?_
 refine jB<|jB<|kx [(11,(vb true))] [] (zM<|zE (xD true yQ)<|zZ) ?_
 refine vP ?_
 refine jB<|jB<|kx [(17,(vb true))] [] (zM<|zE (xD true oLe)<|zM<|zM<|zE (xD true xT)<|zE xS<|zZ) ?_
 refine vP ?_
 refine jB<|kx [(4,(.d (.val (.string (ByteArray.mk #[50])))))] [] (zM<|zE (jZ d_small)<|zM<|zZ) ?_
 refine jE ⟨_,(.tmp (d:=(.val (.string (ByteArray.mk #[50])))) rfl .nil),?_⟩
 rfl
theorem d_itoaI :jQ Tryz.prog 271 [(.val (.int .i64 (((2:Nat):Int))))] (.val (.string (ByteArray.mk #[50]))):=by
 refine jG Tryz.func271 rfl cb271 rfl ?_
 show qK _ _ _ _ ⟨[(0,(jV 2))],[]⟩
 refine jB<|kx [] [] (zM<|zZ) ?_
 refine jB<|kx [(2,(.d (.val (.string (ByteArray.mk #[50])))))] [] (zM<|zE (jZ d_fmt)<|zM<|zZ) ?_
 refine jE ⟨_,(.tmp (d:=(.val (.string (ByteArray.mk #[50])))) rfl .nil),?_⟩
 rfl
theorem d_itoa :jQ Tryz.prog 268 [(.val (.int .i64 (((2:Nat):Int))))] (.val (.string (ByteArray.mk #[50]))):=by
 refine jG Tryz.func268 rfl cb268 rfl ?_
 show qK _ _ _ _ ⟨[(0,(jV 2))],[]⟩
 refine jB<|kx [] [] (zM<|zZ) ?_
 refine jB<|kx [(2,(.d (.val (.string (ByteArray.mk #[50])))))] [] (zM<|zE (jZ d_itoaI)<|zM<|zZ) ?_
 refine jE ⟨_,(.tmp (d:=(.val (.string (ByteArray.mk #[50])))) rfl .nil),?_⟩
 rfl
theorem d_digits :jQ Tryz.prog 265 [(.sl 140 1 (List.map jC [2]))] (.val (.int .i64 (((1:Nat):Int)))):=by
 refine jG Tryz.func265 rfl cb265 rfl ?_
 show qK _ _ _ _ ⟨[(0,(vl 140 1 jC [2]))],[]⟩
 refine jB<|kx [] [] (zM<|zZ) ?_
 refine jB<|jB<|kx [(5,(vb false))] [] (zM<|zE (oLn kH 1)<|zE (xD false yQ)<|zZ) ?_
 refine kY ?_
 refine jD<|jB<|kx [(2,(jV 1))] [] (zM<|zE (oLn kH 1)<|zE (oSb 0 (hr:=by decide))<|zE (oMl 0 (hr:=by decide))<|zM<|zM<|zE (oLn kH 1)<|zE (oSb 0 (hr:=by decide))<|zE (oXs kH 0)<|zE (yR qP)<|zE (mU yM in3 2)<|zE (jZ d_itoa)<|zE (oLstr st9 1)<|zE (vY 1 (hr:=by decide))<|zM<|zZ) ?_
 refine jE ⟨_,(.tmp (d:=(.val (.int .i64 (((1:Nat):Int))))) rfl .nil),?_⟩
 rfl
theorem d_pow(n:Nat)(hn:n≤1024):jQ Tryz.prog 256 [(jN (kD 2)),(.val (.int .i64 (((n:Nat):Int))))] (.tup [(jN (kD ((2 ^ n:Nat):Int))),(.val (.int .i64 (0)))]):=by
 have hg2:=g2len
 refine jG Tryz.func256 rfl cb256 rfl ?_
 show qK _ _ _ _ ⟨[(0,(.d (jN (kD 2)))),(1,(jV n))],[]⟩
 refine jB<|kx [(2,(.ref 0 0)),(4,(.ref 1 0))] [(0,some (bx (jN (kD 2)))),(1,some (bx (jN (kU.mk false []))))] (zN (vN 0)<|zN (uB 1 yH yF)<|zM<|zZ) ?_
 refine jB<|kx [(6,(vl 140 1 jC [2]))] [] (zR (kO jY)<|zE (oQd (.sl 140 1 (List.map jC (kR (kD 2)))) (.sl 140 1 (List.map jC [2])) (jZ (gK (kD 2) (by omega))) (by exact (congrArg (fun l=>jT.sl 140 1 (List.map jC l)) g2)))<|zM<|zZ) ?_
 refine jB<|jH<|jB<|kx [(11,(vb false))] [] (zM<|zE (xD false xT (by exact decide_eq_false (show ¬ ((n:Nat):Int)<0 by omega)))<|zM<|zM<|zE (xD false mT (by exact decide_eq_false (show ¬ 4096<((n:Nat):Int) by omega)))<|zE zG<|zM<|zZ) ?_
 refine kY ?_
 refine jB<|kx [(19,(vb false))] [] (zM<|zM<|zE (jZ d_digits)<|zE (oMl (n*1))<|zE (xD false mT (by exact decide_eq_false (show ¬ 20000<(((n*1):Nat):Int) by omega)))<|zM<|zZ) ?_
 refine kY ?_
 refine jD<|jB<|kx [(7,(vl 140 1 jC [1]))] [] (zE (dG kH vG yB)<|zM<|zZ) ?_
 refine jB<|jB<|kx [(8,(jV 4096))] [] (zM<|zZ) ?_
 refine jH<|kL (α:=Nat × Nat × List Nat) (fun (i,b,out)=>⟨[(1,(jV n)),(2,(.ref 0 0)),(4,(.ref 1 0)),(6,(vl 140 1 jC [2])),(7,(vl 140 1 jC out)),(8,(jV b))],[(0,some (bx (jN (kD 2)))),(1,some (bx (jN (kU.mk false []))))]⟩) (fun (i,b,out)=>i≤13∧b=4096 / 2 ^ i∧out=ofNat (pwS n i)) (fun (i,b,out)=>13-i) (0,4096,[1]) wk ⟨Nat.zero_le _,rfl,pwS_0 (by omega)⟩ ?_
 rintro ⟨i,b,out⟩ ⟨hi,hbi,ho⟩
 have hdo:Dig out:=ho▸kG _
 have hlo:out.length≤4097:=ho▸len_pwS (by omega) i
 have hdt:Dig [2]:=by intro d hd;rw[List.mem_singleton.1 hd];decide
 have hvo:val out=pwS n i:=by rw[ho,kA]
 have hbl:b≤4096:=hbi▸Nat.div_le_self _ _
 have hdq:Dig (ofNat (val out*val out)):=kG _
 have hl2:[2].length≤1:=Nat.le_refl _
 refine jB<|jB<|kx [(28,(vb (decide (0<((b:Nat):Int)))))] [] (zM<|zE mT<|zZ) ?_
 refine jF (b:=decide (0<((b:Nat):Int))) rfl (fun h1=>?_) (fun h1=>?_)
 ·replace h1:=vI h1
  have hi2:=bit_pos hi (hbi▸h1)
  have hlq:=len_sq hvo (show n≤4096 by omega) hi2
  refine jD<|jB<|jH<|jB<|kx [(7,(vl 140 1 jC (ofNat (val out*val out))))] [] (zM<|zM<|zE (jZ (t_times out out (by assumption) (by assumption) (by omega) (by omega)))<|zM<|zZ) ?_
  refine jB<|kx [(37,(vb ((((n &&& b):Nat):Int) != 0)))] [] (zM<|zM<|zE (oAb (n &&& b))<|zE cM<|zZ) ?_
  refine jF (b:=((((n &&& b):Nat):Int) != 0)) rfl (fun h2=>?_) (fun h2=>?_)
  ·replace h2:=bne_iff_ne.1 h2
   refine kx [(7,(vl 140 1 jC (ofNat (val (ofNat (val out*val out))*val [2]))))] [] (zM<|zM<|zE (jZ (t_times (ofNat (val out*val out)) [2] (by assumption) (by assumption) (by omega) (by omega)))<|zM<|zZ) ?_
   refine kx [(8,(jV (b / 2)))] [] (zM<|zE (e_shr (n:=1) (((b / 2):Nat):Int) (hr:=shr1 _))<|zM<|zZ) ?_
   exact ⟨(i+1,b / 2,ofNat (val (ofNat (val out*val out))*val [2])),wk,⟨by omega,by rw[hbi];exact bit_half i,by rw[kA,hvo,← pwS_odd hi2 (by rw[← hbi];omega)];rfl⟩,(by first|omega|(dsimp only;omega))⟩
  ·replace h2:=bne_eq_false_iff_eq.1 h2
   refine jD<|kx [(8,(jV (b / 2)))] [] (zM<|zE (e_shr (n:=1) (((b / 2):Nat):Int) (hr:=shr1 _))<|zM<|zZ) ?_
   exact ⟨(i+1,b / 2,ofNat (val out*val out)),wk,⟨by omega,by rw[hbi];exact bit_half i,by rw[hvo,pwS_even hi2 (by rw[← hbi];omega)]⟩,(by first|omega|(dsimp only;omega))⟩
 ·replace h1:=vM h1
  have hi13:=bit_end hi (hbi▸h1)
  refine kJ<|jB<|kx [(5,(jV 0))] [(1,some (bx (jN (xB ((kD 2).neg&&((((n % 2):Nat):Int) == 1)) (val out)))))] ?_ ?_
  ·refine zE (kZ vD)<|zR (qS aP)<|zE (oV (vb ((kD 2).neg)) (kV (by kernel_rfl)))<|?_
   rcases hb3:((kD 2).neg) with _ | _
   ·exact zK<|zK<|zK<|zE zG<|zM<|zE (jZ (mQ false out (by assumption) (by omega)))<|zT (qD jY)<|zM<|zZ
   ·exact zM<|zE (oRe (n % 2))<|zE yQ<|zE fM<|zM<|zE (jZ (mQ (true&&((((n % 2):Nat):Int) == 1)) out (by assumption) (by omega)))<|zT (qD jY)<|zM<|zZ
  refine jE ⟨_,(kP (cs:=(bx (jN (xB ((kD 2).neg&&((((n % 2):Nat):Int) == 1)) (val out))))) (d:=(jN (xB ((kD 2).neg&&((((n % 2):Nat):Int) == 1)) (val out)))) rfl rfl jY rfl rfl (.tmp (d:=(.val (.int .i64 (0)))) rfl .nil)),?_⟩
  rw[ho,hi13,neg2,Bool.false_and,mk_two];rfl
theorem cb231:callB Tryz.prog 231=true:=by kernel_rfl
theorem d_root(z:Int)(hz:yZ (kD z) z 200)(hz0:0≤z):jQ Tryz.prog 231 [(jN (kD z))] (.tup [(jN (kD (qR z))),(.val (.int .i64 (0)))]):=by
 have hzl:(ofNat z.natAbs).length≤200:=hz.ln
 have hzg:=hz.l
 refine jG Tryz.func231 rfl cb231 rfl ?_
 show qK _ _ _ _ ⟨[(0,(.d (jN (kD z))))],[]⟩
 refine jB<|kx [(1,(.ref 0 0)),(2,(.ref 1 0))] [(0,some (bx (jN (kD z)))),(1,some (bx (jN (kU.mk false []))))] (zN (vN 0)<|zN (uB 1 yH yF)<|zM<|zZ) ?_
 refine jB<|kx [(4,(vl 140 1 jC (ofNat (Int.natAbs z))))] [] (zR (kO jY)<|zE (oQd (.sl 140 1 (List.map jC (kR (kD z)))) (.sl 140 1 (List.map jC (ofNat (Int.natAbs z)))) (jZ (gK (kD z) (by omega))) (by exact (congrArg (fun l=>jT.sl 140 1 (List.map jC l)) (grpI_ofZ z))))<|zM<|zZ) ?_
 refine jB<|jB<|kx [(14,(vb ((((ofNat (Int.natAbs z)).length:Nat):Int) == 0)))] [] (zM<|zE (vC kH (L:=(ofNat (Int.natAbs z))))<|zE yQ<|zZ) ?_
 refine jF rfl (fun h1=>?_) (fun h1=>?_)
 ·replace h1:=eq_of_beq h1
  refine jB<|kx [(3,(jV 0))] [(1,some (bx (jN (kU.mk false []))))] (zE (bB pl43 yH yF)<|zT (qD jY)<|zM<|zZ) ?_
  refine jE ⟨_,(kP (cs:=(bx (jN (kU.mk false [])))) (d:=(jN (kU.mk false []))) rfl rfl jY rfl rfl (.tmp (d:=(.val (.int .i64 (0)))) rfl .nil)),?_⟩
  rw[root_nil h1];rfl
 ·replace h1:=ne_of_beq_false h1
  refine jD<|jB<|jB<|kx [(17,(vb ((kD z).neg)))] [] (zE (kZ vD)<|zR (qS aP)<|zZ) ?_
  refine jF (b:=(kD z).neg) rfl (fun h2=>?_) (fun h2=>?_)
  ·exact (neg_abs hz0 h2).elim
  ·have hX:0<z.natAbs:=by rcases Nat.eq_zero_or_pos z.natAbs with e | e;exact absurd (by rw[e,uA];rfl) h1;exact e
   refine jD<|jB<|kf [(5,(.own 2 140 1 (((List.replicate (((ofNat (Int.natAbs z)).length+1) / 2) 0)++[1]).length)))] [(2,some (bm jC ((List.replicate (((ofNat (Int.natAbs z)).length+1) / 2) 0)++[1])))] (zM<|zE (vC kH (L:=(ofNat (Int.natAbs z))))<|zE (vY ((ofNat (Int.natAbs z)).length+1))<|zE (oQu (((ofNat (Int.natAbs z)).length+1) / 2))<|zN (oMk 2 jC (0:Nat) (((ofNat (Int.natAbs z)).length+1) / 2) (((ofNat (Int.natAbs z)).length+1) / 2) kH vG yB nL)<|zE (dG kH vG yB)<|zA jC (List.replicate (((ofNat (Int.natAbs z)).length+1) / 2) 0) [1] (by rw[List.length_replicate]) kH vG nL<|zM<|zF) ?_
   refine jH<|kW (vX (t:=5) (k:=2) (es:=List.map jC ((List.replicate (((ofNat (Int.natAbs z)).length+1) / 2) 0)++[1])) rfl rfl (uS _ _ (fun _=>rfl)) (uT _ _ rfl) (vS _ _ (fun _=>rfl) rfl)) ?_
   refine kL (α:=List Nat) (fun r=>⟨[(2,(.ref 1 0)),(4,(vl 140 1 jC (ofNat (Int.natAbs z)))),(5,(vl 140 1 jC r))],[(1,some (bx (jN (kU.mk false []))))]⟩) (fun r=>(zW r∧0<val r∧z.natAbs<(val r+1)*(val r+1))∧r.length≤400) (fun r=>val r) (List.replicate (((ofNat z.natAbs).length+1) / 2) 0++[1]) wk ⟨⟨nw_cano _,by rw[nw_start];exact pw_pos _,nw_top⟩,by simp;omega⟩ ?_
   rintro r ⟨⟨hcr,hr0,hru⟩,hrl⟩
   have hcg:zW (ofNat z.natAbs):=qB _
   have hdr:=hcr.1
   obtain ⟨q1,q2,q3⟩:=nw_lens (X:=z.natAbs) (by omega) hrl hcr
   have hdq:Dig (ofNat (val (ofNat z.natAbs) / val r)):=kG _
   have hds:Dig (ofNat (val r+val (ofNat (val (ofNat z.natAbs) / val r)))):=kG _
   have hcn:zW (ofNat (val (ofNat (val r+val (ofNat (val (ofNat (Int.natAbs z)) / val r)))) / 2)):=qB _
   refine jH<|jB<|kx [(6,(vl 140 1 jC (ofNat (val (ofNat (Int.natAbs z)) / val r))))] [] (zM<|zM<|zE (jZ (t_over (ofNat (Int.natAbs z)) r (by assumption) (by assumption) (by omega) (by omega) (by omega)))<|zM<|zE vT<|zE vT<|zM<|zM<|zZ) ?_
   refine jB<|kx [(8,(vl 140 1 jC (ofNat (val (ofNat (val r+val (ofNat (val (ofNat (Int.natAbs z)) / val r)))) / 2))))] [] (zM<|zM<|zE (jZ (t_plus r (ofNat (val (ofNat (Int.natAbs z)) / val r)) (by assumption) (by assumption) (by omega) (by omega)))<|zE (jZ (t_short (ofNat (val r+val (ofNat (val (ofNat (Int.natAbs z)) / val r)))) 2 (by assumption) (by omega) (by omega) (by omega)))<|zM<|zE vT<|zE vT<|zM<|zM<|zZ) ?_
   refine jB<|jB<|kx [(42,(vb (decide (0≤(uP ((val (ofNat (val (ofNat (val r+val (ofNat (val (ofNat (Int.natAbs z)) / val r)))) / 2)):Nat):Int) ((val r:Nat):Int))))))] [] (zM<|zM<|zE (jZ (t_compare (ofNat (val (ofNat (val r+val (ofNat (val (ofNat (Int.natAbs z)) / val r)))) / 2)) r (by assumption) (by assumption) (by omega)))<|zE oGe<|zZ) ?_
   refine jF rfl (fun h3=>?_) (fun h3=>?_)
   ·replace h3:=vI h3
    refine jB<|kx [(3,(jV 0))] [(1,some (bx (jN (xB false (val r)))))] (zM<|zE (jZ (mQ false r (by assumption) (by omega)))<|zT (qD jY)<|zM<|zZ) ?_
    refine jE ⟨_,(kP (cs:=(bx (jN (xB false (val r))))) (d:=(jN (xB false (val r)))) rfl rfl jY rfl rfl (.tmp (d:=(.val (.int .i64 (0)))) rfl .nil)),?_⟩
    rw[nw_end hz0 hr0 hru (nw_stop h3)];rfl
   ·replace h3:=vM h3
    refine jD<|kx [(5,(vl 140 1 jC (ofNat (val (ofNat (val r+val (ofNat (val (ofNat (Int.natAbs z)) / val r)))) / 2))))] [] (zM<|zM<|zZ) ?_
    exact ⟨(ofNat (val (ofNat (val r+val (ofNat (val (ofNat (Int.natAbs z)) / val r)))) / 2)),wk,(by obtain ⟨n1,n2,n3,n4⟩:=nw_ok z.natAbs hr0 hX h3;exact ⟨⟨n1,n2,n3⟩,Nat.le_trans (can_len n1 hcr (Nat.le_of_lt n4)) hrl⟩),(by obtain ⟨n1,n2,n3,n4⟩:=nw_ok z.natAbs hr0 hX h3;exact n4)⟩
theorem cb230:callB Tryz.prog 230=true:=by kernel_rfl
theorem cb232:callB Tryz.prog 232=true:=by kernel_rfl
theorem d_floor(x:Rat)(hx:QL x 200):jQ Tryz.prog 232 [(jK (jP x))] (jN (kD (mR x))):=by
 refine jG Tryz.func232 rfl cb232 rfl ?_
 show qK _ _ _ _ ⟨[(0,(.d (jK (jP x))))],[]⟩
 refine jB<|kx [(1,(.ref 0 0)),(2,(.ref 1 0))] [(0,some (bx (jK (jP x)))),(1,some (bx (jN (kU.mk false []))))] (zN (vN 0)<|zN (uB 1 yH yF)<|zZ) ?_
 refine jB<|kx [] [(0,some (bx (jK (jP x))))] (zR (kO jS)<|zE (jZ (dB (jP x) x (jR (kC hx) (by decide))))<|zT (qD jS)<|zZ) ?_
 refine jB ?_
 have bn1:yZ (kD (x.num.fdiv (x.den:Int))) (x.num.fdiv (x.den:Int)) 201:=(iok_fdiv (k:=201) (uV hx) (uK hx) (by decide))
 refine kx [(3,(.ref 2 0))] [(2,some (bx (jN (kD (x.num.fdiv (x.den:Int)))))),(3,none)] (zE (kZ yD)<|zR (kO jY)<|zE (kZ xI)<|zR (kO jY)<|zE (jZ (s_divide (uV hx) (uK hx) (by decide) (by decide) (by have:=x.den_nz;omega)))<|zM<|zE vT<|zE vT<|zE vT<|zN (uB 2 yH yF)<|zN (uB 3 yH yF)<|zT (qD jY)<|zT (qD jY)<|zM<|zZ) ?_
 refine jB<|kx [] [(1,some (bx (jN (kD (x.num.fdiv (x.den:Int))))))] (zR (kO jY)<|zT (qD jY)<|zZ) ?_
 refine jE ⟨_,(kP (cs:=(bx (jN (kD (x.num.fdiv (x.den:Int)))))) (d:=(jN (kD (x.num.fdiv (x.den:Int))))) rfl rfl jY rfl rfl .nil),?_⟩
 rfl
theorem d_scaled(x:Rat)(hx:QL x 100)(k:Nat)(hk:k≤512):jQ Tryz.prog 230 [(jK (jP x)),(.val (.int .i64 (((k:Nat):Int))))] (.tup [(jK (jP (x*(xV k)))),(jN (kD ((2 ^ k:Nat):Int))),(.val (.int .i64 (0)))]):=by
 refine jG Tryz.func230 rfl cb230 rfl ?_
 show qK _ _ _ _ ⟨[(0,(.d (jK (jP x)))),(1,(jV k))],[]⟩
 refine jB<|kx [(2,(.ref 0 0)),(4,(.ref 1 0)),(5,(.ref 2 0))] [(0,some (bx (jK (jP x)))),(1,some (bx (jK qM))),(2,some (bx (jN (kU.mk false []))))] (zN (vN 0)<|zN (uB 1 uL uQ)<|zN (uB 2 yH yF)<|zM<|zZ) ?_
 refine jB<|jB<|kx [(14,(vb false))] [] (zM<|zE (xD false xT (by exact decide_eq_false (show ¬ ((k:Nat):Int)<0 by omega)))<|zM<|zM<|zE (xD false mT (by exact decide_eq_false (show ¬ 512<((k:Nat):Int) by omega)))<|zE zG<|zZ) ?_
 refine kY ?_
 refine jD<|jB<|kx [(7,(.ref 3 0))] [(3,some (bx (jN (kD ((2 ^ k:Nat):Int)))))] (zE (jZ (t_of 2 (by decide) (by decide)))<|zM<|zE (jZ (d_pow k (by omega)))<|zM<|zE vT<|zE vT<|zN (uB 3 yH yF)<|zT (qD jY)<|zM<|zZ) ?_
 refine jB ?_
 have bn1:QL (x*(xV k)) 120:=(qQ (k:=120) hx (eD (k:=k) (by omega)) (by decide))
 refine kd [(6,(jV 0))] [(1,some (bx (jK (jP (x*(xV k)))))),(2,some (bx (jN (kD ((2 ^ k:Nat):Int)))))] mo (wR (kO jS)<|wR (kO jY)<|wE (jZ (t_of 1 (by decide) (by decide)))<|wE (oQd (jK (jO.mk (kD ((2 ^ k:Nat):Int)) (kD 1))) (jK (jP (xV k))) (bB pl45 uL uQ) (by exact rfl))<|wE (jZ (eK (jP x) (jP (xV k)) x (xV k) (jR (kC hx) (by decide)) (jR (kC (eD (k:=k) (by omega))) (by decide))))<|wR (kO jY)<|wT (qD jS)<|wT (qD jY)<|wM<|wZ) ?_
 refine jE ⟨_,(kP (cs:=(bx (jK (jP (x*(xV k)))))) (d:=(jK (jP (x*(xV k))))) rfl rfl jS rfl rfl (kP (cs:=(bx (jN (kD ((2 ^ k:Nat):Int))))) (d:=(jN (kD ((2 ^ k:Nat):Int)))) rfl rfl jY rfl rfl (.tmp (d:=(.val (.int .i64 (((0:Nat):Int))))) rfl .nil))),?_⟩
 rfl
end Go.Proofs.YtnajallgoaiahaaGreatDoor
namespace Go.Fid
def stnP(x y z u v f:Int):Prop:=(-1048576≤x∧x≤1048576)∧(-1048576≤y∧y≤1048576)∧(-1048576≤z∧z≤1048576)∧(-1048576≤u∧u≤1048576)∧(-1048576≤v∧v≤1048576)∧(1≤f∧f≤1048576)
instance {x y z u v f:Int}:Decidable (stnP x y z u v f):=by unfold stnP;infer_instance
def nq(a b c d:Int):Int:=(((a*a)+(b*b))+(c*c))+(d*d)
def N4(a b c d:Int):Rat:=((nq a b c d:Int):Rat)
def r02(a b c d:Int):Int:=2*((b*d)+(a*c))
def R02(a b c d:Int):Rat:=((r02 a b c d:Int):Rat)
def r12(a b c d:Int):Int:=2*((c*d)-(a*b))
def R12(a b c d:Int):Rat:=((r12 a b c d:Int):Rat)
def r22(a b c d:Int):Int:=(((a*a)-(b*b))-(c*c))+(d*d)
def R22(a b c d:Int):Rat:=((r22 a b c d:Int):Rat)
theorem ql_eqz{x y:Rat}{n:Nat}(h:x=y)(hy:QL y n):QL x n:=h▸hy
def gcd3(a b c:Rat):Int:=((Int.gcd a.num ((Int.gcd b.num c.num:Nat):Int):Nat):Int)
def redK(a b c:Rat):Rat:=Rat.divInt 1 (gcd3 a b c)
def dq0(a b c d p q r s:Int):Rat:=(R02 a b c d*N4 p q r s)+(R02 p q r s*N4 a b c d)
def dq1(a b c d p q r s:Int):Rat:=(R12 a b c d*N4 p q r s)+(R12 p q r s*N4 a b c d)
def dq2(a b c d p q r s:Int):Rat:=(R22 a b c d*N4 p q r s)+(R22 p q r s*N4 a b c d)
def RFr(lx ly lz la lb lc ld rx ry rz ra rb rc rd:Int)(b0 b1 b2 e00 e01 e02 e10 e11 e12 e20 e21 e22:Rat):Prop :=
 (((rx-lx):Int):Rat)=b0 ∧
 (((ry-ly):Int):Rat)=b1 ∧
 (((rz-lz):Int):Rat)=b2 ∧
 b0*redK b0 b1 b2=e00 ∧
 b1*redK b0 b1 b2=e01 ∧
 b2*redK b0 b1 b2=e02 ∧
 (((dq1 la lb lc ld ra rb rc rd)*e02)-((dq2 la lb lc ld ra rb rc rd)*e01))*redK (((dq1 la lb lc ld ra rb rc rd)*e02)-((dq2 la lb lc ld ra rb rc rd)*e01)) (((dq2 la lb lc ld ra rb rc rd)*e00)-((dq0 la lb lc ld ra rb rc rd)*e02)) (((dq0 la lb lc ld ra rb rc rd)*e01)-((dq1 la lb lc ld ra rb rc rd)*e00))=e10 ∧
 (((dq2 la lb lc ld ra rb rc rd)*e00)-((dq0 la lb lc ld ra rb rc rd)*e02))*redK (((dq1 la lb lc ld ra rb rc rd)*e02)-((dq2 la lb lc ld ra rb rc rd)*e01)) (((dq2 la lb lc ld ra rb rc rd)*e00)-((dq0 la lb lc ld ra rb rc rd)*e02)) (((dq0 la lb lc ld ra rb rc rd)*e01)-((dq1 la lb lc ld ra rb rc rd)*e00))=e11 ∧
 (((dq0 la lb lc ld ra rb rc rd)*e01)-((dq1 la lb lc ld ra rb rc rd)*e00))*redK (((dq1 la lb lc ld ra rb rc rd)*e02)-((dq2 la lb lc ld ra rb rc rd)*e01)) (((dq2 la lb lc ld ra rb rc rd)*e00)-((dq0 la lb lc ld ra rb rc rd)*e02)) (((dq0 la lb lc ld ra rb rc rd)*e01)-((dq1 la lb lc ld ra rb rc rd)*e00))=e12 ∧
 ((e01*e12)-(e02*e11))*redK ((e01*e12)-(e02*e11)) ((e02*e10)-(e00*e12)) ((e00*e11)-(e01*e10))=e20 ∧
 ((e02*e10)-(e00*e12))*redK ((e01*e12)-(e02*e11)) ((e02*e10)-(e00*e12)) ((e00*e11)-(e01*e10))=e21 ∧
 ((e00*e11)-(e01*e10))*redK ((e01*e12)-(e02*e11)) ((e02*e10)-(e00*e12)) ((e00*e11)-(e01*e10))=e22
instance {lx ly lz la lb lc ld rx ry rz ra rb rc rd:Int} {b0 b1 b2 e00 e01 e02 e10 e11 e12 e20 e21 e22:Rat}:Decidable (RFr lx ly lz la lb lc ld rx ry rz ra rb rc rd b0 b1 b2 e00 e01 e02 e10 e11 e12 e20 e21 e22):=by unfold RFr;infer_instance
section
variable {lx ly lz la lb lc ld rx ry rz ra rb rc rd:Int} {b0 b1 b2 e00 e01 e02 e10 e11 e12 e20 e21 e22:Rat}
end
end Go.Fid
namespace Go.Proofs.YtnajallgoaiahaaGreatDoor
open Go.Fid
theorem cb151:callB Tryz.prog 151=true:=by kernel_rfl
theorem d_froot(x:Rat)(hx:QL x 100)(k:Nat)(hk:k≤512)(hx0:0≤x):jQ Tryz.prog 151 [(jK (jP x)),(.val (.int .i64 (((k:Nat):Int))))] (.tup [(jK (jP (Rat.divInt (qR (mR (x*((xV k)*(xV k))))) ((2 ^ k:Nat):Int)))),(jK (jP (Rat.divInt (upI (x*((xV k)*(xV k)))) ((2 ^ k:Nat):Int)))),(.val (.int .i64 (0)))]):=by
 have hp0:((2 ^ k:Nat):Int)≠0:=Int.ne_of_gt (two_pos k)
 let y5:=(kD (qR (mR (x*((xV k)*(xV k))))))
 let y4:=(jK (jP (Rat.divInt (qR (mR (x*((xV k)*(xV k))))) ((2 ^ k:Nat):Int))))
 let y3:=(bx y4)
 let y2:=(jK (jP (Rat.divInt ((qR (mR (x*((xV k)*(xV k)))))+1) ((2 ^ k:Nat):Int))))
 let y1:=(jP (((qR (mR (x*((xV k)*(xV k)))))*(qR (mR (x*((xV k)*(xV k))))):Int):Rat))
 refine jG Tryz.func151 rfl cb151 rfl ?_
 show qK _ _ _ _ ⟨[(0,(.d (jK (jP x)))),(1,(jV k))],[]⟩
 refine jB<|kx [(2,(.ref 0 0)),(4,(.ref 1 0)),(5,(.ref 2 0))] [(0,some (bx (jK (jP x)))),(1,some (bx (jK qM))),(2,some (bx (jK qM)))] (zN (vN 0)<|zN (uB 1 uL uQ)<|zN (uB 2 uL uQ)<|zM<|zZ) ?_
 refine jB ?_
 have bn1:QL (x*(xV k)) 120:=(qQ (k:=120) hx (eD (k:=k) (by omega)) (by decide))
 refine kx [(6,(vi 0)),(7,(.ref 3 0)),(8,(.ref 4 0))] [(3,some (bx (jK (jP (x*(xV k)))))),(4,some (bx (jN (kD ((2 ^ k:Nat):Int)))))] (zR (kO jS)<|zM<|zE (jZ (d_scaled x hx k (by omega)))<|zM<|zE vT<|zE vT<|zE vT<|zN (uB 3 uL uQ)<|zN (uB 4 yH yF)<|zT (qD jS)<|zT (qD jY)<|zM<|zZ) ?_
 refine jB<|jB<|kx [(25,(vb false))] [] (zM<|zE (xD false cM)<|zM<|zR (kO jS)<|zE (jZ (f_sign (jP x) x (jR (kC hx) (by decide))))<|zE (xD false xT (by exact decide_eq_false (sgn_nn hx0)))<|zE zG<|zZ) ?_
 refine kY ?_
 refine jD<|jB ?_
 have bn2:QL (x*((xV k)*(xV k))) 140:=(ql_eqz (Eq.symm (Rat.mul_assoc _ _ _)) (qQ (k:=140) bn1 (eD (k:=k) (by omega)) (by decide)))
 refine kd [] [(3,some (bx (jK (jP (x*((xV k)*(xV k)))))))] mo (wR (kO jS)<|wR (kO jY)<|wE (jZ (t_of 1 (by decide) (by decide)))<|wE (oQd (jK (jO.mk (kD ((2 ^ k:Nat):Int)) (kD 1))) (jK (jP (xV k))) (bB pl45 uL uQ) (by exact rfl))<|wE (jZ (by have h:=eK (jP (x*(xV k))) (jP (xV k)) (x*(xV k)) (xV k) (jR (kC bn1) (by decide)) (jR (kC (eD (k:=k) (by omega))) (by decide));rw[(Rat.mul_assoc _ _ _)] at h;exact h))<|wT (qD jS)<|wZ) ?_
 refine jB ?_
 have bn3:yZ (kD (qR (mR (x*((xV k)*(xV k)))))) (qR (mR (x*((xV k)*(xV k))))) 141:=(iok_root (fl_nn (aK hx0)) (fR (k:=141) bn2 (by decide)))
 refine kx [(9,(.ref 5 0))] [(5,some (bx (jN y5)))] (zR (kO jS)<|zE (jZ (d_floor (x*((xV k)*(xV k))) (qu bn2)))<|zE (jZ (d_root (mR (x*((xV k)*(xV k)))) (mG (fR (k:=141) bn2 (by decide)) (by decide)) (fl_nn (aK hx0))))<|zM<|zE vT<|zE vT<|zN (uB 5 yH yF)<|zT (qD jY)<|zM<|zZ) ?_
 refine jB<|kx [(11,(.ref 6 0))] [(6,some (bx (jN y5)))] (zR (kO jY)<|zN (uB 6 yH yF)<|zT (qD jY)<|zZ) ?_
 refine jB<|jB<|kd [(47,(vb (decide ((yW (((qR (mR (x*((xV k)*(xV k)))))*(qR (mR (x*((xV k)*(xV k))))):Int):Rat) (x*((xV k)*(xV k))))<((0:Nat):Int)))))] [] mo (wR (kO jY)<|wR (kO jY)<|wE (jZ (s_mul bn3 bn3 (by decide) (by decide)))<|wE (jZ (t_of 1 (by decide) (by decide)))<|wE (oQd (jK (jO.mk (kD ((qR (mR (x*((xV k)*(xV k)))))*(qR (mR (x*((xV k)*(xV k))))))) (kD 1))) (jK y1) (bB pl45 uL uQ) (by exact rfl))<|wR (kO jS)<|wE (jZ (cK y1 (jP (x*((xV k)*(xV k)))) (((qR (mR (x*((xV k)*(xV k)))))*(qR (mR (x*((xV k)*(xV k))))):Int):Rat) (x*((xV k)*(xV k))) (jR (kC (zI (z:=((qR (mR (x*((xV k)*(xV k)))))*(qR (mR (x*((xV k)*(xV k))))))) (n:=282) (yZ.ln (gJ (k:=282) bn3 bn3 (by decide))) (by decide))) (by decide)) (jR (kC bn2) (by decide))))<|wE xT<|wZ) ?_
 refine jF rfl (fun h1=>?_) (fun h1=>?_)
 ·replace h1:=vI h1
  have hup:=upI_t h1
  have bn4:yZ (kD ((qR (mR (x*((xV k)*(xV k)))))+1)) ((qR (mR (x*((xV k)*(xV k)))))+1) 142:=(iok_add (k:=142) bn3 (aY (z:=1) (by decide)) (by decide))
  refine kd [] [(6,some (bx (jN (kD ((qR (mR (x*((xV k)*(xV k)))))+1)))))] mo (wR (kO jY)<|wE (jZ (t_of 1 (by decide) (by decide)))<|wE (jZ (s_add bn3 (aY (z:=1) (by decide)) (by decide) (by decide)))<|wT (qD jY)<|wZ) ?_
  refine jB ?_
  have bn5:QL (Rat.divInt (qR (mR (x*((xV k)*(xV k))))) ((2 ^ k:Nat):Int)) 141:=(yA (n:=141) (Nat.le_trans (yZ.ln bn3) (by decide)) (Nat.le_trans (yZ.ln (cQ (k:=k) (by omega))) (by decide)) (by decide))
  have bn6:QL (Rat.divInt ((qR (mR (x*((xV k)*(xV k)))))+1) ((2 ^ k:Nat):Int)) 142:=(yA (n:=142) (Nat.le_trans (yZ.ln bn4) (by decide)) (Nat.le_trans (yZ.ln (cQ (k:=k) (by omega))) (by decide)) (by decide))
  refine kd [(6,(jV 0))] [(1,some y3),(2,some (bx y2))] mo (wR (kO jY)<|wR (kO jY)<|wE (jZ (cI y5 (kD ((2 ^ k:Nat):Int)) (qR (mR (x*((xV k)*(xV k))))) ((2 ^ k:Nat):Int) (iu bn3) (mG (cQ (k:=k) (by omega)) (by decide)) (by assumption)))<|wR (kO jY)<|wR (kO jY)<|wE (jZ (cI (kD ((qR (mR (x*((xV k)*(xV k)))))+1)) (kD ((2 ^ k:Nat):Int)) ((qR (mR (x*((xV k)*(xV k)))))+1) ((2 ^ k:Nat):Int) (iu bn4) (mG (cQ (k:=k) (by omega)) (by decide)) (by assumption)))<|wT (qD jS)<|wT (qD jS)<|wM<|wZ) ?_
  refine jE ⟨_,(kP (cs:=y3) (d:=y4) rfl rfl jS rfl rfl (kP (cs:=(bx y2)) (d:=y2) rfl rfl jS rfl rfl (.tmp (d:=(.val (.int .i64 (((0:Nat):Int))))) rfl .nil))),?_⟩
  rw[hup];rfl
 ·replace h1:=vM h1
  have hup:=upI_f h1
  refine jD<|jB ?_
  have bn7:QL (Rat.divInt (qR (mR (x*((xV k)*(xV k))))) ((2 ^ k:Nat):Int)) 141:=(yA (n:=141) (Nat.le_trans (yZ.ln bn3) (by decide)) (Nat.le_trans (yZ.ln (cQ (k:=k) (by omega))) (by decide)) (by decide))
  refine kd [(6,(jV 0))] [(1,some y3),(2,some y3)] mo (wR (kO jY)<|wR (kO jY)<|wE (jZ (cI y5 (kD ((2 ^ k:Nat):Int)) (qR (mR (x*((xV k)*(xV k))))) ((2 ^ k:Nat):Int) (iu bn3) (mG (cQ (k:=k) (by omega)) (by decide)) (by assumption)))<|wR (kO jY)<|wR (kO jY)<|wE (jZ (cI y5 (kD ((2 ^ k:Nat):Int)) (qR (mR (x*((xV k)*(xV k))))) ((2 ^ k:Nat):Int) (iu bn3) (mG (cQ (k:=k) (by omega)) (by decide)) (by assumption)))<|wT (qD jS)<|wT (qD jS)<|wM<|wZ) ?_
  refine jE ⟨_,(kP (cs:=y3) (d:=y4) rfl rfl jS rfl rfl (kP (cs:=y3) (d:=y4) rfl rfl jS rfl rfl (.tmp (d:=(.val (.int .i64 (((0:Nat):Int))))) rfl .nil))),?_⟩
  rw[hup];rfl
theorem cb91:callB Tryz.prog 91=true:=by kernel_rfl
theorem di_root(p:Rat)(q:Rat)(hp:QL p 100)(hq:QL q 100)(hpq:p≤q)(k:Nat)(hk:k≤512)(hp0_:0≤p):jQ Tryz.prog 91 [(jI (jW.mk (jP p) (jP q))),(.val (.int .i64 (((k:Nat):Int))))] (.tup [(jI (jW.mk (jP (Rat.divInt (qR (mR (p*((xV k)*(xV k))))) ((2 ^ k:Nat):Int))) (jP (Rat.divInt (upI (q*((xV k)*(xV k)))) ((2 ^ k:Nat):Int))))),(.val (.int .i64 (0)))]):=by
 let y2:=(jI (jW.mk (jP (Rat.divInt (qR (mR (p*((xV k)*(xV k))))) ((2 ^ k:Nat):Int))) (jP (Rat.divInt (upI (q*((xV k)*(xV k)))) ((2 ^ k:Nat):Int)))))
 let y1:=(bx y2)
 refine jG Tryz.func91 rfl cb91 rfl ?_
 show qK _ _ _ _ ⟨[(0,(.d (jI (jW.mk (jP p) (jP q))))),(1,(jV k))],[]⟩
 refine jB<|kx [(2,(.ref 0 0)),(4,(.ref 1 0))] [(0,some (bx (jI (jW.mk (jP p) (jP q))))),(1,some (bx (jI (jW.mk qM qM))))] (zN (vN 0)<|zN (uB 1 uC uH)<|zM<|zZ) ?_
 refine jB<|jB<|kx [(14,(vb false))] [] (zR (kO kF)<|zE (jZ (by have h:=bJ (jW.mk (jP p) (jP q)) (gW (⟨qL (jR (kC hp) (by decide:100≤100)),qL (jR (kC hq) (by decide:100≤100))⟩) (by decide));rw[show uG (jW.mk (jP p) (jP q))=true from xX hpq] at h;exact h))<|zE nF<|zZ) ?_
 refine kY ?_
 refine jD<|jB<|jB<|kx [(27,(vb false))] [] (zM<|zE (xD false xT (by exact decide_eq_false (show ¬ ((k:Nat):Int)<0 by omega)))<|zM<|zM<|zE (xD false mT (by exact decide_eq_false (show ¬ 512<((k:Nat):Int) by omega)))<|zE zG<|zM<|zE (kZ zB)<|zR (kO jS)<|zE (jZ (f_sign (jP p) p (jR (kC hp) (by decide))))<|zE (xD false xT (by exact decide_eq_false (sgn_nn hp0_)))<|zE zG<|zZ) ?_
 refine kY ?_
 refine jD<|jB ?_
 have bn1:QL (Rat.divInt (qR (mR (p*((xV k)*(xV k))))) ((2 ^ k:Nat):Int)) 141:=(yA (n:=141) (Nat.le_trans (yZ.ln (iok_root (fl_nn (aK hp0_)) (fR (k:=141) (qQ (k:=140) hp (qQ (k:=40) (eD (k:=k) (by omega)) (eD (k:=k) (by omega)) (by decide)) (by decide)) (by decide)))) (by decide)) (Nat.le_trans (yZ.ln (cQ (k:=k) (by omega))) (by decide)) (by decide))
 have bn2:QL (Rat.divInt (upI (p*((xV k)*(xV k)))) ((2 ^ k:Nat):Int)) 142:=(yA (n:=142) (Nat.le_trans (yZ.ln (iok_upI (k:=142) (fl_nn (aK hp0_)) (fR (k:=141) (qQ (k:=140) hp (qQ (k:=40) (eD (k:=k) (by omega)) (eD (k:=k) (by omega)) (by decide)) (by decide)) (by decide)) (by decide) (by decide))) (by decide)) (Nat.le_trans (yZ.ln (cQ (k:=k) (by omega))) (by decide)) (by decide))
 refine kx [(6,(.ref 2 0))] [(2,some (bx (jK (jP (Rat.divInt (qR (mR (p*((xV k)*(xV k))))) ((2 ^ k:Nat):Int)))))),(3,none)] (zE (kZ zB)<|zR (kO jS)<|zM<|zE (jZ (d_froot p hp k (by omega) hp0_))<|zM<|zE vT<|zE vT<|zE vT<|zN (uB 2 uL uQ)<|zN (uB 3 uL uQ)<|zT (qD jS)<|zT (qD jS)<|zM<|zZ) ?_
 refine jB ?_
 have bn3:QL (Rat.divInt (qR (mR (q*((xV k)*(xV k))))) ((2 ^ k:Nat):Int)) 141:=(yA (n:=141) (Nat.le_trans (yZ.ln (iok_root (fl_nn (aK (Rat.le_trans hp0_ hpq))) (fR (k:=141) (qQ (k:=140) hq (qQ (k:=40) (eD (k:=k) (by omega)) (eD (k:=k) (by omega)) (by decide)) (by decide)) (by decide)))) (by decide)) (Nat.le_trans (yZ.ln (cQ (k:=k) (by omega))) (by decide)) (by decide))
 have bn4:QL (Rat.divInt (upI (q*((xV k)*(xV k)))) ((2 ^ k:Nat):Int)) 142:=(yA (n:=142) (Nat.le_trans (yZ.ln (iok_upI (k:=142) (fl_nn (aK (Rat.le_trans hp0_ hpq))) (fR (k:=141) (qQ (k:=140) hq (qQ (k:=40) (eD (k:=k) (by omega)) (eD (k:=k) (by omega)) (by decide)) (by decide)) (by decide)) (by decide) (by decide))) (by decide)) (Nat.le_trans (yZ.ln (cQ (k:=k) (by omega))) (by decide)) (by decide))
 refine kx [(10,(.ref 5 0))] [(5,some (bx (jK (jP (Rat.divInt (upI (q*((xV k)*(xV k)))) ((2 ^ k:Nat):Int)))))),(4,none)] (zE (kZ zU)<|zR (kO jS)<|zM<|zE (jZ (d_froot q hq k (by omega) (Rat.le_trans hp0_ hpq)))<|zM<|zE vT<|zE vT<|zE vT<|zN (uB 4 uL uQ)<|zN (uB 5 uL uQ)<|zT (qD jS)<|zT (qD jS)<|zM<|zZ) ?_
 refine jB<|kx [(5,(jV 0))] [(1,some y1)] (zR (kO jS)<|zR (kO jS)<|zE (bB pl61 uC uH)<|zT (qD kF)<|zM<|zZ) ?_
 refine jE ⟨_,(kP (cs:=y1) (d:=y2) rfl rfl kF rfl rfl (.tmp (d:=(.val (.int .i64 (((0:Nat):Int))))) rfl .nil)),?_⟩
 rfl
theorem cb14:callB Tryz.prog 14=true:=by kernel_rfl
theorem cb27:callB Tryz.prog 27=true:=by kernel_rfl
theorem m_vlist(l:List jO)(hl:uY 1048576 l):jQ Tryz.prog 14 [(.sl 45 4 (List.map jK l))] (.val (.bool ((gY l)))):=by
 have hb:=hl.2
 refine jG Tryz.func14 rfl cb14 rfl ?_
 show qK _ _ _ _ ⟨[(0,(vl 45 4 jK l))],[]⟩
 refine jB<|kx [] [] (zM<|zZ) ?_
 refine jB<|jB<|kx [(3,(jV 0))] [] (zM<|zZ) ?_
 refine jH<|kL (α:=Nat) (fun i=>⟨[(0,(vl 45 4 jK l)),(3,(jV i))],[]⟩) (fun i=>i≤l.length∧(l.take i).all kM=true) (fun i=>l.length-i) 0 wk ⟨Nat.zero_le _,by simp⟩ ?_
 rintro i ⟨hi,hal⟩
 refine jB<|jB<|kx [(7,(vb (decide (((i:Nat):Int)<((l.length:Nat):Int)))))] [] (zM<|zM<|zE (vC uI)<|zE xT<|zZ) ?_
 refine jF rfl (fun h1=>?_) (fun h1=>?_)
 ·replace h1:=vI h1
  refine jD<|jB<|jH<|jB<|kx [(15,(vb (!(kM (l.getD i qM)))))] [] (zM<|zM<|zE (yL uI i qM)<|zE (nA jS)<|zE (jZ (iA (l.getD i qM) (qJ (l.getD i qM)) (jR (xO hl.1 (show i<l.length by omega)) (by decide))))<|zE nF<|zZ) ?_
  refine jF rfl (fun h2=>?_) (fun h2=>?_)
  ·refine jB<|kx [(2,(vb false))] [] (zM<|zZ) ?_
   refine jE ⟨_,(.tmp (d:=(.val (.bool (false)))) rfl .nil),?_⟩
   rw[show gY l=false from all_not (f:=kM) (l:=l) (i:=i) (d:=qM) (by omega) (by simpa using h2)];rfl
  ·refine jD<|kx [(3,(jV (i+1)))] [] (zM<|zE (vY (i+1))<|zM<|zZ) ?_
   exact ⟨(i+1),wk,⟨by omega,all_take (d:=qM) (by omega) hal (by simpa using h2)⟩,(by first|omega|(dsimp only;omega))⟩
 ·replace h1:=vM h1
  have hie:i=l.length:=by omega
  rw[hie,List.take_length] at hal
  refine kJ<|jB<|kx [(2,(vb true))] [] (zM<|zZ) ?_
  refine jE ⟨_,(.tmp (d:=(.val (.bool (true)))) rfl .nil),?_⟩
  rw[show gY l=true from hal];rfl
theorem p_cov(x:jO)(p:Rat)(hx:mN x p 200)(a:jO)(q:Rat)(ha:mN a q 200)(b:jO)(r:Rat)(hb:mN b r 200)(y:jO)(s:Rat)(hy:mN y s 200)(gx:kM x=true)(ga:kM a=true)(gb:kM b=true)(gy:kM y=true)(hq:¬ (nI q)<0)(hr:¬ (nI r)<0):jQ Tryz.prog 27 [(jK x),(jK a),(jK b),(jK y)] (.tup [(.val (.bool ((decide ((yW ((s-p)*(s-p)) (q*r))≤0))))),(.val (.int .i64 (((0:Nat):Int))))]):=by
 refine jG Tryz.func27 rfl cb27 rfl ?_
 show qK _ _ _ _ ⟨[(0,(.d (jK x))),(1,(.d (jK a))),(2,(.d (jK b))),(3,(.d (jK y)))],[]⟩
 refine jB<|kx [(4,(.ref 0 0)),(5,(.ref 1 0)),(6,(.ref 2 0)),(7,(.ref 3 0))] [(0,some (bx (jK x))),(1,some (bx (jK a))),(2,some (bx (jK b))),(3,some (bx (jK y)))] (zN (vN 0)<|zN (vN 1)<|zN (vN 2)<|zN (vN 3)<|zM<|zM<|zZ) ?_
 refine jB<|jB<|kx [(17,(vl 45 4 jK [x,a,b,y])),(18,(jV 4)),(19,(jV 0))] [] (zR (kO jS)<|zR (kO jS)<|zR (kO jS)<|zR (kO jS)<|zE (dG uI uL uQ)<|zE (oLn uI 4)<|zM<|zZ) ?_
 refine jH<|pwp_rounds 5 ?_
 refine pwp_round<|jB<|kx [(20,(vb true))] [] (zE (xD true xT)<|zZ) ?_
 refine jB<|vP ?_
 refine jD<|jB<|jH<|jB<|kx [(11,(.ref 4 0))] [(4,some (bx (jK x)))] (zE (oXs uI 0)<|zE (nA jS)<|zN (uB 4 uL uQ)<|zT (qD jS)<|zZ) ?_
 refine jB<|kx [(25,(vb false))] [] (zR (kO jS)<|zE (xD true (jZ (cA x p (jR hx (by decide)))) (by exact gx))<|zE nF<|zZ) ?_
 refine kY ?_
 refine jD<|kx [(19,(jV 1))] [] (zE (vY 1 (hr:=by decide))<|zM<|zZ) ?_
 refine cJ (vK.refl _) ?_
 refine jB<|kx [(20,(vb true))] [] (zE (xD true xT)<|zZ) ?_
 refine jB<|vP ?_
 refine jD<|jB<|jH<|jB<|kx [(11,(.ref 5 0))] [(5,some (bx (jK a)))] (zE (oXs uI 1)<|zE (nA jS)<|zN (uB 5 uL uQ)<|zT (qD jS)<|zZ) ?_
 refine jB<|kx [(25,(vb false))] [] (zR (kO jS)<|zE (xD true (jZ (cA a q (jR ha (by decide)))) (by exact ga))<|zE nF<|zZ) ?_
 refine kY ?_
 refine jD<|kx [(19,(jV 2))] [] (zE (vY 2 (hr:=by decide))<|zM<|zZ) ?_
 refine cJ (vK.refl _) ?_
 refine jB<|kx [(20,(vb true))] [] (zE (xD true xT)<|zZ) ?_
 refine jB<|vP ?_
 refine jD<|jB<|jH<|jB<|kx [(11,(.ref 6 0))] [(6,some (bx (jK b)))] (zE (oXs uI 2)<|zE (nA jS)<|zN (uB 6 uL uQ)<|zT (qD jS)<|zZ) ?_
 refine jB<|kx [(25,(vb false))] [] (zR (kO jS)<|zE (xD true (jZ (cA b r (jR hb (by decide)))) (by exact gb))<|zE nF<|zZ) ?_
 refine kY ?_
 refine jD<|kx [(19,(jV 3))] [] (zE (vY 3 (hr:=by decide))<|zM<|zZ) ?_
 refine cJ (vK.refl _) ?_
 refine jB<|kW (wk (l:=[(4,(.ref 0 0)),(5,(.ref 1 0)),(6,(.ref 2 0)),(7,(.ref 3 0)),(17,(vl 45 4 jK [x,a,b,y])),(18,(jV 4)),(19,(jV 3))]) (b:=[(0,some (bx (jK x))),(1,some (bx (jK a))),(2,some (bx (jK b))),(3,some (bx (jK y)))])) ?_
 refine kx [(20,(vb true))] [] (zE (xD true xT)<|zZ) ?_
 refine jB<|vP ?_
 refine jD<|jB<|jH<|jB<|kx [(11,(.ref 7 0))] [(7,some (bx (jK y)))] (zE (oXs uI 3)<|zE (nA jS)<|zN (uB 7 uL uQ)<|zT (qD jS)<|zZ) ?_
 refine jB<|kx [(25,(vb false))] [] (zR (kO jS)<|zE (xD true (jZ (cA y s (jR hy (by decide)))) (by exact gy))<|zE nF<|zZ) ?_
 refine kY ?_
 refine jD<|kx [(19,(jV 4))] [] (zE (vY 4 (hr:=by decide))<|zM<|zZ) ?_
 refine cJ (vK.refl _) ?_
 refine jB<|kx [(20,(vb false))] [] (zE (xD false xT)<|zZ) ?_
 refine jB<|kY ?_
 refine kJ<|jB<|jB<|kx [(34,(vb false))] [] (zR (kO jS)<|zE (jZ (f_sign a q (jR ha (by decide))))<|zE (xD false xT (by exact decide_eq_false hq))<|zM<|zR (kO jS)<|zE (jZ (f_sign b r (jR hb (by decide))))<|zE (xD false xT (by exact decide_eq_false hr))<|zE zG<|zZ) ?_
 refine kY ?_
 refine jD<|jB<|kx [(12,(.ref 8 0))] [(8,some (bx (jK (jP (s-p)))))] (zR (kO jS)<|zR (kO jS)<|zE (jZ (f_sub y x s p (jR hy (by decide)) (jR hx (by decide))))<|zN (uB 8 uL uQ)<|zT (qD jS)<|zZ) ?_
 refine jB<|kd [(8,(vb (decide ((yW ((s-p)*(s-p)) (r*q))≤((0:Nat):Int))))),(9,(jV 0))] [] mo (wR (kO jS)<|wR (kO jS)<|wE (jZ (eK (jP (s-p)) (jP (s-p)) (s-p) (s-p) (jR (kC (aF (k:=401) hy.ql hx.ql (by decide))) (by decide)) (jR (kC (aF (k:=401) hy.ql hx.ql (by decide))) (by decide))))<|wR (kO jS)<|wR (kO jS)<|wE (jZ (eK b a r q (jR hb (by decide)) (jR ha (by decide))))<|wE (jZ (cK (jP ((s-p)*(s-p))) (jP (r*q)) ((s-p)*(s-p)) (r*q) (jR (kC (qQ (k:=802) (aF (k:=401) hy.ql hx.ql (by decide)) (aF (k:=401) hy.ql hx.ql (by decide)) (by decide))) (by decide)) (jR (kC (qQ (k:=400) hb.ql ha.ql (by decide))) (by decide))))<|wE oLe<|wM<|wM<|wZ) ?_
 refine jE ⟨_,(.tmp (d:=(.val (.bool (decide ((yW ((s-p)*(s-p)) (r*q))≤((0:Nat):Int)))))) rfl (.tmp (d:=(.val (.int .i64 (((0:Nat):Int))))) rfl .nil)),?_⟩
 rw[Rat.mul_comm q r];rfl
def zQ(zs:List Int):List Rat:=zs.map fun z:Int=>(z:Rat)
theorem zQ_ql{zs:List Int}(h:∀ z∈zs,-9223372036854775808≤z∧z≤9223372036854775807):∀ q∈zQ zs,QL q 3:=fun q hq=>by
 obtain ⟨z,hz,rfl⟩:=List.mem_map.1 hq
 exact zI (nN (h z hz).1 (h z hz).2) (by decide)
theorem zQ_row{zs:List Int}{n:Nat}(h:∀ z∈zs,-9223372036854775808≤z∧z≤9223372036854775807)(hn:3≤n)(hl:zs.length≤1000000):uY n (List.map jP (zQ zs)):=pts_row (fun q hq=>vR (zQ_ql h q hq) hn) (by unfold zQ;rw[List.length_map];exact hl)
def kT:List kN:=[⟨1,0,0,zr⟩,⟨1,1,0,zr⟩,⟨4,0,1,zr⟩]
def kX:List Rat:=zQ [2,3]
def kQ:List (List jO):=[List.map jP (zQ [1,0]),List.map jP (zQ [0,4])]
def kE:List (List jO):=[List.map jP (zQ [5,4]),List.map jP (zQ [4,5])]
theorem kX_ql:∀ q∈kX,QL q 1048576:=fun q hq=>vR (zQ_ql (by decide) q hq) (by decide)
theorem kT_ok:∀ x∈kT,mN x.n (qJ x.n) 1048576:=fun x hx=>by
 have:x.n=zr:=by
  unfold kT at hx
  simp only[List.mem_cons,List.not_mem_nil,or_false] at hx
  rcases hx with rfl | rfl | rfl<;>rfl
 rw[this]
 exact ⟨rfl,by decide,by decide,by decide⟩
theorem kQ_ok:xG 1048576 kQ:=⟨fun r hr=>by
 unfold kQ at hr
 simp only[List.mem_cons,List.not_mem_nil,or_false] at hr
 rcases hr with rfl | rfl<;>exact zQ_row (by decide) (by decide) (by decide),by decide⟩
theorem kE_ok:xG 6 kE:=⟨fun r hr=>by
 unfold kE at hr
 simp only[List.mem_cons,List.not_mem_nil,or_false] at hr
 rcases hr with rfl | rfl<;>exact zQ_row (by decide) (by decide) (by decide),by decide⟩
theorem vrow_of(l:List Rat):gY (List.map jP l)=true:=by
 unfold gY
 rw[List.all_eq_true]
 intro a ha
 obtain ⟨r,h1,rfl⟩:=List.mem_map.1 ha
 exact cF _
theorem kQ_rect:gQ kQ kQ.length kX.length:=⟨rfl,fun l hl=>by
 unfold kQ at hl
 simp only[List.mem_cons,List.not_mem_nil,or_false] at hl
 rcases hl with rfl | rfl<;>exact ⟨rfl,vrow_of _⟩,by decide,by decide,by decide,by decide⟩
theorem kE_rect:gQ kE 2 2:=⟨rfl,fun l hl=>by
 unfold kE at hl
 simp only[List.mem_cons,List.not_mem_nil,or_false] at hl
 rcases hl with rfl | rfl<;>exact ⟨rfl,vrow_of _⟩,by decide,by decide,by decide,by decide⟩
theorem kE_chk:nZ kE=0:=rect_chk kE_rect
theorem eqm2{a b c d:Rat}(h:b=c):symB [[jP a,jP b],[jP c,jP d]]=true:=by
 refine sym_yes fun i hi j hj=>?_
 match i,j,hi,hj with
 |1,0,_,_=>exact decide_eq_true (by subst h;rfl)
theorem kQ_fit:mW kQ kX.length=0:=fit_ok ⟨rfl,rfl⟩ (eqm2 rfl)
theorem kE_fit:mW kE kE.length=0:=fit_ok ⟨rfl,rfl⟩ (eqm2 rfl)
instance (n:Nat) (a:R2):Decidable (GL n a):=by unfold GL QL;infer_instance
theorem kT_run:fH (List.map gD kX) kT:=by
 refine ⟨by decide +kernel,fun k hk=>?_,fun k hk=>?_⟩
 ·match k,hk with
  |0,_=>exact ⟨by decide +kernel,by decide +kernel,rfl⟩
  |1,_=>exact ⟨by decide +kernel,by decide +kernel,rfl⟩
  |2,_=>exact ⟨by decide +kernel,by decide +kernel,rfl⟩
 ·match k,hk with
  |0,_=>intro h;revert h;decide
  |1,_=>intro h;revert h;decide
  |2,_=>intro h;revert h;decide
theorem kGr:qW kX kT=[jP 3,jP 2]:=by
 unfold qW
 rw[show (xQ (List.map gD kX) kT).g=[(3,3),(2,2)] by decide +kernel]
 rfl
theorem kVar:xU kQ (qW kX kT) (qW kX kT)=25:=by
 rw[kGr]
 show 0+qJ (jP 3)*qJ (jP (0+qJ (jP 1)*qJ (jP 3)+qJ (jP 0)*qJ (jP 2)))+qJ (jP 2)*qJ (jP (0+qJ (jP 0)*qJ (jP 3)+qJ (jP 4)*qJ (jP 2)))=25
 simp only[gU]
 decide +kernel
theorem kEa:qJ ((kE.getD 0 []).getD 0 qM)=5:=by
 show qJ (jP ((5:Int):Rat))=5
 rw[gU];rfl
theorem kEb:qJ ((kE.getD 1 []).getD 1 qM)=5:=by
 show qJ (jP ((5:Int):Rat))=5
 rw[gU];rfl
theorem kEc:qJ ((kE.getD 0 []).getD 1 qM)=4:=by
 show qJ (jP ((4:Int):Rat))=4
 rw[gU];rfl
theorem zs_at{zs:List Int}(h:∀ z∈zs,-9223372036854775808≤z∧z≤9223372036854775807){i:Nat}(hi:i<zs.length):-9223372036854775808≤zs.getD i 0∧zs.getD i 0≤9223372036854775807:=by
 rw[List.getD_eq_getElem?_getD,List.getElem?_eq_getElem hi];exact h _ (List.getElem_mem _)
theorem rng2{a b c d:Rat}(h1:a=c)(h2:b=d):jW.mk (jP a) (jP b)=jW.mk (jP c) (jP d):=by rw[h1,h2]
def brX(x:jO):Bool:=if (decide (1<((x.num.gs.length:Nat):Int))||decide (1<((x.den.gs.length:Nat):Int)))=true then false else
 ((((x.num.gs.length:Nat):Int) == 0)||decide (((x.num.gs.getD 0 0:Nat):Int)<100000))&&((((x.den.gs.length:Nat):Int) == 0)||decide (((x.den.gs.getD 0 0:Nat):Int)≤100))
def shX(n:Nat)(x:jO):Bool:=!(decide (((n:Nat):Int)<((digR x:Nat):Int))||(decide (((n:Nat):Int)≤6)&&!(brX x)))
theorem shX_t{n:Nat}{x:jO}(h:(decide (((n:Nat):Int)<((digR x:Nat):Int))||(decide (((n:Nat):Int)≤6)&&!(brX x)))=true):shX n x=false:=by unfold shX;rw[h];rfl
theorem shX_f{n:Nat}{x:jO}(h:(decide (((n:Nat):Int)<((digR x:Nat):Int))||(decide (((n:Nat):Int)≤6)&&!(brX x)))=false):shX n x=true:=by unfold shX;rw[h];rfl
theorem shX_le{n:Nat}{x:jO}(h:shX n x=true):digR x≤n:=by
 unfold shX at h
 rw[Bool.not_eq_true',Bool.or_eq_false_iff,decide_eq_false_iff_not] at h
 omega
def fE(c n:Nat)(l:List jO):Bool:=decide (l.length≤c)&&l.all (shX n)
def shM(c n:Nat)(m:List (List jO)):Bool:=decide (m.length≤c)&&m.all (fE c n)
theorem all_up{α:Type}{f:α→Bool}{l:List α}{i:Nat}{d:α}(h:i<l.length)(ha:(l.take i).all f=true)(hf:f (l.getD i d)=true):(l.take (i+1)).all f=true:=by
 rw[take_all (d:=d) h,ha,hf];rfl
theorem all_no{α:Type}{f:α→Bool}{l:List α}{i:Nat}{d:α}(h:i<l.length)(hf:f (l.getD i d)=false):l.all f=false:=by
 cases hb:l.all f with
 |false=>rfl
 |true=>
  rw[List.getD_eq_getElem?_getD,List.getElem?_eq_getElem h,Option.getD_some,List.all_eq_true.1 hb _ (List.getElem_mem h)] at hf;cases hf
theorem shR_long{c n:Nat}{l:List jO}(h:((c:Nat):Int)<((l.length:Nat):Int)):fE c n l=false:=by unfold fE;rw[decide_eq_false (by omega)];rfl
theorem shR_no{c n:Nat}{l:List jO}(h:(l.all (shX n))=false):fE c n l=false:=by unfold fE;rw[h,Bool.and_false]
theorem shR_yes{c n:Nat}{l:List jO}(h0:¬ ((c:Nat):Int)<((l.length:Nat):Int))(h:(l.all (shX n))=true):fE c n l=true:=by unfold fE;rw[decide_eq_true (by omega),h];rfl
theorem shM_long{c n:Nat}{l:List (List jO)}(h:((c:Nat):Int)<((l.length:Nat):Int)):shM c n l=false:=by unfold shM;rw[decide_eq_false (by omega)];rfl
theorem shM_no{c n:Nat}{l:List (List jO)}(h:l.all (fE c n)=false):shM c n l=false:=by unfold shM;rw[h,Bool.and_false]
theorem shM_yes{c n:Nat}{l:List (List jO)}(h0:¬ ((c:Nat):Int)<((l.length:Nat):Int))(h:l.all (fE c n)=true):shM c n l=true:=by unfold shM;rw[decide_eq_true (by omega),h];rfl
theorem shM_ok{m:List (List jO)}{c n:Nat}(h:shM c n m=true)(hn:1≤n)(hc:c≤1000):xG n m:=by
 unfold shM at h
 simp only[Bool.and_eq_true,decide_eq_true_eq,List.all_eq_true] at h
 refine ⟨fun r hr=>?_,by omega⟩
 have h2:=h.2 r hr
 unfold fE at h2
 simp only[Bool.and_eq_true,decide_eq_true_eq,List.all_eq_true] at h2
 refine ⟨fun a ha=>?_,by omega⟩
 have h3:=shX_le (h2.2 a ha)
 unfold digR at h3
 exact bN hn (by omega) (by omega)
section
variable {A B C r l:Rat}
end
end Go.Proofs.YtnajallgoaiahaaGreatDoor
