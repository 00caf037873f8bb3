/- Part 21 of a proof: rules, plain facts, and functions walked. -/
import Derived.Test.YtciingpdmjepgabGreatDoorM20
import Derived.Test.YtciingpdmjepgabGreatDoorM11
import Derived.Test.YtciingpdmjepgabGreatDoorM12
import Derived.Test.YtciingpdmjepgabGreatDoorM18
import Derived.Test.YtciingpdmjepgabGreatDoorM10
import Derived.Test.YtciingpdmjepgabGreatDoorM8
set_option linter.all false
set_option maxRecDepth 4000
namespace Go.Fid
abbrev aI (k:Nat):Rat:=((((2 ^ k:Nat):Int):Int):Rat)
def pwS(n i:Nat):Nat:=2 ^ (n / 2 ^ (13-i))
theorem pwS_0{n:Nat}(h:n<=4096):[1]=ofNat (pwS n 0):=by
 have e:n / 2 ^ (13-0)=0:=Nat.div_eq_of_lt (by show n<8192;omega)
 unfold pwS;rw[e,Nat.pow_zero,yR (by decide)]
 have:ofNat (1 / 1000000000)=[]:=by rw[show 1 / 1000000000=0 from rfl,qS]
 rw[this]
theorem pwS_13(n:Nat):pwS n 13=2 ^ n:=by unfold pwS;simp
theorem bit_eq{i:Nat}(h:i<=12):4096 / 2 ^ i=2 ^ (12-i):=by
 rw[show (4096:Nat)=2 ^ 12 from rfl,Nat.pow_div h (by decide)]
theorem bit_13:4096 / 2 ^ 13=0:=by decide
theorem bit_pos{i:Nat}(hi:i<=13)(h:(0:Int)<((4096 / 2 ^ i:Nat):Int)):i<13:=by
 by_cases e:i=13
 ·subst e;rw[bit_13] at h;omega
 ·omega
theorem bit_end{i:Nat}(hi:i<=13)(h:¬ (0:Int)<((4096 / 2 ^ i:Nat):Int)):i=13:=by
 by_cases e:i=13
 ·exact e
 ·rw[bit_eq (by omega)] at h
  have:=Nat.pow_pos (n:=12-i) (show 0<2 by decide)
  omega
theorem bit_half(i:Nat):4096 / 2 ^ i / 2=4096 / 2 ^ (i+1):=by rw[Nat.div_div_eq_div_mul,Nat.pow_succ]
theorem pw_half{n i:Nat}(hi:i<13):n / 2 ^ (12-i)=2*(n / 2 ^ (13-i))+n / 2 ^ (12-i) % 2:=by
 have e:n / 2 ^ (13-i)=n / 2 ^ (12-i) / 2:=by
  rw[Nat.div_div_eq_div_mul,<- Nat.pow_succ,show (12-i).succ=13-i by omega]
 rw[e];omega
theorem pwS_even{n i:Nat}(hi:i<13)(h:(n &&& 4096 / 2 ^ i)=0):pwS n i*pwS n i=pwS n (i+1):=by
 rw[bit_eq (by omega),bit_and] at h
 have e:=pw_half (n:=n) hi
 unfold pwS
 rw[show 13-(i+1)=12-i by omega,e,h,Nat.add_zero,Nat.two_mul,Nat.pow_add]
theorem pwS_odd{n i:Nat}(hi:i<13)(h:¬ (n &&& 4096 / 2 ^ i)=0):pwS n i*pwS n i*2=pwS n (i+1):=by
 rw[bit_eq (by omega),bit_and] at h
 have e:=pw_half (n:=n) hi
 have h2:n / 2 ^ (12-i) % 2=1:=by omega
 unfold pwS
 rw[show 13-(i+1)=12-i by omega,e,h2,Nat.pow_add,Nat.two_mul,Nat.pow_add,Nat.pow_one]
theorem two_pw(e:Nat):2 ^ e<pw (e+1):=by
 induction e with
 |zero=>simp [pw]
 |succ e ih=>rw[Nat.pow_succ,qZ];omega
theorem len_two(e:Nat):(ofNat (2 ^ e)).length<=e+1:=qJ (two_pw e)
theorem len_pwS{n:Nat}(h:n<=4096)(i:Nat):(ofNat (pwS n i)).length<=4097:=by
 have:=len_two (n / 2 ^ (13-i))
 have h2:n / 2 ^ (13-i)<=n:=Nat.div_le_self _ _
 unfold pwS;omega
theorem g2:kJ (kD 2)=[2]:=by
 rw[grpI_ofZ]
 show ofNat 2=[2]
 rw[yR (by decide),show 2 / 1000000000=0 from rfl,qS]
theorem g2n:ofNat (Int.natAbs 2)=[2]:=by rw[<- grpI_ofZ];exact g2
theorem g2len:(kD 2).gs.length=1:=by
 show (ofNat 2).length=1
 rw[show ofNat 2=[2] from g2n];rfl
theorem neg2:(kD 2).neg=false:=rfl
theorem len_sq{n i:Nat}{out:List Nat}(hv:val out=pwS n i)(hn:n<=4096)(hi:i<13):(ofNat (val out*val out)).length<=8195:=by
 rw[hv]
 unfold pwS
 rw[<- Nat.pow_add]
 have:=len_two (n / 2 ^ (13-i)+n / 2 ^ (13-i))
 have h2:n / 2 ^ (13-i)<=n:=Nat.div_le_self _ _
 omega
theorem mk_two(n:Nat):vC false (val (ofNat (pwS n 13)))=kD ((2 ^ n:Nat):Int):=by
 rw[jZ,pwS_13]
 unfold kD
 rw[Int.natAbs_natCast,decide_eq_false (Int.not_lt.2 (Int.natCast_nonneg _))]
theorem two_pos(n:Nat):(0:Int)<((2 ^ n:Nat):Int):=by
 have:=Nat.pow_pos (n:=n) (show 0<2 by decide)
 exact Int.natCast_pos.2 this
theorem aU{k:Nat}(h:k<=512):yZ (kD ((2 ^ k:Nat):Int)) ((2 ^ k:Nat):Int) 20:=fH (by
 rw[nI,Int.natAbs_natCast]
 refine Nat.lt_of_le_of_lt (Nat.pow_le_pow_right (by decide) h) ?_
 unfold pw
 decide +kernel)
theorem ql_2s{k:Nat}(h:k<=512):QL (((2 ^ k:Nat):Int):Rat) 20:=mI (aU h).ln (by decide)
def eM(x:Rat):Int:=x.num.fdiv ((x.den:Nat):Int)
theorem mC{x:Rat}{n k:Nat}(h:QL x n)(hk:n+1<=k:=by decide):yZ (kD (eM x)) (eM x) k:=fH (Nat.le_trans (lenZ_fdiv _ _) (Nat.le_trans (Nat.succ_le_succ h.1) hk))
theorem flZ_floor(x:Rat):eM x=x.floor:=by
 unfold eM;rw[Rat.floor_def,Int.fdiv_eq_ediv_of_nonneg _ (by omega)]
theorem divP(a:Int)(k:Nat):Rat.divInt a ((2 ^ k:Nat):Int)=((a:Int):Rat) / (((2 ^ k:Nat):Int):Rat):=by rw[Rat.divInt_eq_div]
theorem p2_pos(k:Nat):(0:Rat)<(((2 ^ k:Nat):Int):Rat):=by
 rw[<- Rat.intCast_zero];exact Rat.intCast_lt_intCast.2 (two_pos k)
theorem divP_le{a:Int}{k:Nat}{c:Rat}(h:((a:Int):Rat)<=c*(((2 ^ k:Nat):Int):Rat)):Rat.divInt a ((2 ^ k:Nat):Int)<=c:=by
 rw[divP,<- Rat.not_lt,Rat.lt_div_iff (p2_pos k),Rat.not_lt];exact h
theorem le_divP{a:Int}{k:Nat}{c:Rat}(h:c*(((2 ^ k:Nat):Int):Rat)<=((a:Int):Rat)):c<=Rat.divInt a ((2 ^ k:Nat):Int):=by
 rw[divP,<- Rat.not_lt,Rat.div_lt_iff (p2_pos k),Rat.not_lt];exact h
theorem flZ_le(x:Rat):((eM x:Int):Rat)<=x:=by rw[flZ_floor];exact Rat.floor_le x
theorem le_clZ(x:Rat):x<=((-(eM (-x)):Int):Rat):=by
 have h:=flZ_le (-x)
 rw[Rat.intCast_neg]
 have h2:=Rat.neg_le_neg h
 rw[Rat.neg_neg] at h2
 exact h2
theorem dn_le(p:Rat)(k:Nat):Rat.divInt (eM (p*(((2 ^ k:Nat):Int):Rat))) ((2 ^ k:Nat):Int)<=p:=divP_le (flZ_le _)
theorem le_up(q:Rat)(k:Nat):q<=Rat.divInt (-(eM (-(q*(((2 ^ k:Nat):Int):Rat))))) ((2 ^ k:Nat):Int):=le_divP (le_clZ _)
theorem rd_valid{p q:Rat}(k:Nat)(h:p<=q):Rat.divInt (eM (p*(((2 ^ k:Nat):Int):Rat))) ((2 ^ k:Nat):Int)<=Rat.divInt (-(eM (-(q*(((2 ^ k:Nat):Int):Rat))))) ((2 ^ k:Nat):Int) :=
 Rat.le_trans (dn_le p k) (Rat.le_trans h (le_up q k))
end Go.Fid
namespace Go.Proofs.YtciingpdmjepgabGreatDoor
open Go.Fid
theorem in3:intB Tryz.prog 3=some .i64:=by kernel_rfl
theorem st9:strB Tryz.prog 9=true:=by kernel_rfl
theorem d_small :jW Tryz.prog 150 [(.val (.int .i64 (((2:Nat):Int))))] (.val (.string (ByteArray.mk #[50]))):=by
 refine uW Tryz.func150 ?_
 refine jB<|kx [] [] (zM<|zZ) ?_
 refine jB<|jB<|kx [(4,(vb true))] [] (zM<|zE (xC true xO)<|zZ) ?_
 refine uG ?_
 refine jB<|kx [(2,(.d (.val (.string (ByteArray.mk #[50])))))] [] (zM<|zM<|zE (vD 3 (hr:=by decide))<|zE (oSstr (l:=2) (h:=3) (r:=ByteArray.mk #[50]) st9)<|zM<|zZ) ?_
 refine jE ⟨_,(.tmp (d:=(.val (.string (ByteArray.mk #[50])))) rfl .nil),?_⟩
 rfl
theorem d_fmt :jW Tryz.prog 149 [(.val (.int .i64 (((2:Nat):Int)))),(.val (.int .i64 (((10:Nat):Int))))] (.val (.string (ByteArray.mk #[50]))):=by
 refine uW Tryz.func149 ?_
 refine jB<|kx [] [] (zM<|zZ) ?_
 refine jB<|jB<|kx [(11,(vb true))] [] (zM<|zE (xC true nT)<|zZ) ?_
 refine uG ?_
 refine jB<|jB<|kx [(17,(vb true))] [] (zM<|zE (xC true oLe)<|zM<|zM<|zE (xC true xO)<|zE yT<|zZ) ?_
 refine uG ?_
 refine jB<|kx [(4,(.d (.val (.string (ByteArray.mk #[50])))))] [] (zM<|zE (kH d_small)<|zM<|zZ) ?_
 refine jE ⟨_,(.tmp (d:=(.val (.string (ByteArray.mk #[50])))) rfl .nil),?_⟩
 rfl
theorem d_itoaI :jW Tryz.prog 148 [(.val (.int .i64 (((2:Nat):Int))))] (.val (.string (ByteArray.mk #[50]))):=by
 refine uW Tryz.func148 ?_
 refine jB<|kx [] [] (zM<|zZ) ?_
 refine jB<|kx [(2,(.d (.val (.string (ByteArray.mk #[50])))))] [] (zM<|zE (kH d_fmt)<|zM<|zZ) ?_
 refine jE ⟨_,(.tmp (d:=(.val (.string (ByteArray.mk #[50])))) rfl .nil),?_⟩
 rfl
theorem d_itoa :jW Tryz.prog 147 [(.val (.int .i64 (((2:Nat):Int))))] (.val (.string (ByteArray.mk #[50]))):=by
 refine uW Tryz.func147 ?_
 refine jB<|kx [] [] (zM<|zZ) ?_
 refine jB<|kx [(2,(.d (.val (.string (ByteArray.mk #[50])))))] [] (zM<|zE (kH d_itoaI)<|zM<|zZ) ?_
 refine jE ⟨_,(.tmp (d:=(.val (.string (ByteArray.mk #[50])))) rfl .nil),?_⟩
 rfl
theorem d_digits :jW Tryz.prog 146 [(.sl 74 1 (List.map jC [2]))] (.val (.int .i64 (((1:Nat):Int)))):=by
 refine uW Tryz.func146 ?_
 refine jB<|kx [] [] (zM<|zZ) ?_
 refine jB<|jB<|kx [(5,(vb false))] [] (zM<|zE (oLn kC 1)<|zE (xC false nT)<|zZ) ?_
 refine qH ?_
 refine jF<|jB<|kx [(2,(jS 1))] [] (zM<|zE (oLn kC 1)<|zE (oSb 0 (hr:=by decide))<|zE (oMl 0 (hr:=by decide))<|zM<|zM<|zE (oLn kC 1)<|zE (oSb 0 (hr:=by decide))<|zE (fD kC 0)<|zE (gJ uK)<|zE (hC gZ in3 2)<|zE (kH d_itoa)<|zE (oLstr st9 1)<|zE (vD 1 (hr:=by decide))<|zM<|zZ) ?_
 refine jE ⟨_,(.tmp (d:=(.val (.int .i64 (((1:Nat):Int))))) rfl .nil),?_⟩
 rfl
theorem d_pow(n:Nat)(hn:n<=1024):jW Tryz.prog 145 [(jM (kD 2)),(.val (.int .i64 (((n:Nat):Int))))] (.tup [(jM (kD ((2 ^ n:Nat):Int))),(.val (.int .i64 (0)))]):=by
 have hg2:=g2len
 refine uW Tryz.func145 ?_
 refine jB<|kx [(2,(.ref 0 0)),(4,(.ref 1 0))] [(0,some (bx (jM (kD 2)))),(1,some (bx (jM (kO.mk false []))))] (zN (xA 0)<|zN (uT 1 xL xK)<|zM<|zZ) ?_
 refine jB<|kx [(6,(vl 74 1 jC [2]))] [] (zR (kT jX)<|zE (oQd (.sl 74 1 (List.map jC (kJ (kD 2)))) (.sl 74 1 (List.map jC [2])) (kH (yC (kD 2) (by omega))) (by exact (congrArg (fun l=>jT.sl 74 1 (List.map jC l)) g2)))<|zM<|zZ) ?_
 refine jB<|jG<|jB<|kx [(11,(vb false))] [] (zM<|zE (xC false xO (by exact decide_eq_false (show ¬ ((n:Nat):Int)<0 by omega)))<|zM<|zM<|zE (xC false mB (by exact decide_eq_false (show ¬ 4096<((n:Nat):Int) by omega)))<|zE gK<|zM<|zZ) ?_
 refine qH ?_
 refine jB<|kx [(19,(vb false))] [] (zM<|zM<|zE (kH d_digits)<|zE (oMl (n*1))<|zE (xC false mB (by exact decide_eq_false (show ¬ 20000<(((n*1):Nat):Int) by omega)))<|zM<|zZ) ?_
 refine qH ?_
 refine jF<|jB<|kx [(7,(vl 74 1 jC [1]))] [] (zE (dM kC xW hM)<|zM<|zZ) ?_
 refine jB<|jB<|kx [(8,(jS 4096))] [] (zM<|zZ) ?_
 refine jG<|kU (α:=Nat × Nat × List Nat) (fun (i,b,out)=>⟨[(1,(jS n)),(2,(.ref 0 0)),(4,(.ref 1 0)),(6,(vl 74 1 jC [2])),(7,(vl 74 1 jC out)),(8,(jS b))],[(0,some (bx (jM (kD 2)))),(1,some (bx (jM (kO.mk false []))))]⟩) (fun (i,b,out)=>i<=13/\b=4096 / 2 ^ i/\out=ofNat (pwS n i)) (fun (i,b,out)=>13-i) (0,4096,[1]) wk ⟨Nat.zero_le _,rfl,pwS_0 (by omega)⟩ ?_
 rintro ⟨i,b,out⟩ ⟨hi,hbi,ho⟩
 have hdo:Dig out:=ho▸kB _
 have hlo:out.length<=4097:=ho▸len_pwS (by omega) i
 have hdt:Dig [2]:=by intro d hd;rw[List.mem_singleton.1 hd];decide
 have hvo:val out=pwS n i:=by rw[ho,jZ]
 have hbl:b<=4096:=hbi▸Nat.div_le_self _ _
 have hdq:Dig (ofNat (val out*val out)):=kB _
 have hl2:[2].length<=1:=Nat.le_refl _
 refine jB<|jB<|kx [(28,(vb (decide (0<((b:Nat):Int)))))] [] (zM<|zE mB<|zZ) ?_
 refine jH (b:=decide (0<((b:Nat):Int))) rfl (fun h1=>?_) (fun h1=>?_)
 ·replace h1:=xF h1
  have hi2:=bit_pos hi (hbi▸h1)
  have hlq:=len_sq hvo (show n<=4096 by omega) hi2
  refine jF<|jB<|jG<|jB<|kx [(7,(vl 74 1 jC (ofNat (val out*val out))))] [] (zM<|zM<|zE (kH (t_times out out (by assumption) (by assumption) (by omega) (by omega)))<|zM<|zZ) ?_
  refine jB<|kx [(37,(vb ((((n &&& b):Nat):Int) != 0)))] [] (zM<|zM<|zE (oAb (n &&& b))<|zE oNe<|zZ) ?_
  refine jH (b:=((((n &&& b):Nat):Int) != 0)) rfl (fun h2=>?_) (fun h2=>?_)
  ·replace h2:=bne_iff_ne.1 h2
   refine kx [(7,(vl 74 1 jC (ofNat (val (ofNat (val out*val out))*val [2]))))] [] (zM<|zM<|zE (kH (t_times (ofNat (val out*val out)) [2] (by assumption) (by assumption) (by omega) (by omega)))<|zM<|zZ) ?_
   refine kx [(8,(jS (b / 2)))] [] (zM<|zE (e_shr (n:=1) (((b / 2):Nat):Int) (hr:=shr1 _))<|zM<|zZ) ?_
   exact ⟨(i+1,b / 2,ofNat (val (ofNat (val out*val out))*val [2])),wk,⟨by omega,by rw[hbi];exact bit_half i,by rw[jZ,hvo,<- pwS_odd hi2 (by rw[<- hbi];omega)];rfl⟩,(by first|omega|(dsimp only;omega))⟩
  ·replace h2:=bne_eq_false_iff_eq.1 h2
   refine jF<|kx [(8,(jS (b / 2)))] [] (zM<|zE (e_shr (n:=1) (((b / 2):Nat):Int) (hr:=shr1 _))<|zM<|zZ) ?_
   exact ⟨(i+1,b / 2,ofNat (val out*val out)),wk,⟨by omega,by rw[hbi];exact bit_half i,by rw[hvo,pwS_even hi2 (by rw[<- hbi];omega)]⟩,(by first|omega|(dsimp only;omega))⟩
 ·replace h1:=xH h1
  have hi13:=bit_end hi (hbi▸h1)
  refine kK<|jB<|kx [(5,(jS 0))] [(1,some (bx (jM (vC ((kD 2).neg&&((((n % 2):Nat):Int) == 1)) (val out)))))] ?_ ?_
  ·refine zE (kW uS)<|zR (qR sh4)<|zE (oV (vb ((kD 2).neg)) (qF (by kernel_rfl)))<|?_
   rcases hb3:((kD 2).neg) with _ | _
   ·exact zK<|zK<|zK<|zE gK<|zM<|zE (kH (nL false out (by assumption) (by omega)))<|zT (qK jX)<|zM<|zZ
   ·exact zM<|zE (oRe (n % 2))<|zE nT<|zE oPa<|zM<|zE (kH (nL (true&&((((n % 2):Nat):Int) == 1)) out (by assumption) (by omega)))<|zT (qK jX)<|zM<|zZ
  refine jE ⟨_,(kQ (cs:=(bx (jM (vC ((kD 2).neg&&((((n % 2):Nat):Int) == 1)) (val out))))) (d:=(jM (vC ((kD 2).neg&&((((n % 2):Nat):Int) == 1)) (val out)))) rfl rfl jX rfl rfl (.tmp (d:=(.val (.int .i64 (0)))) rfl .nil)),?_⟩
  rw[ho,hi13,neg2,Bool.false_and,mk_two];rfl
theorem d_floor(x:Rat)(hx:QL x 100100):jW Tryz.prog 142 [(jK (jP x))] (jM (kD (eM x))):=by
 refine uW Tryz.func142 ?_
 refine jB<|kx [(1,(.ref 0 0)),(2,(.ref 1 0))] [(0,some (bx (jK (jP x)))),(1,some (bx (jM (kO.mk false []))))] (zN (xA 0)<|zN (uT 1 xL xK)<|zZ) ?_
 refine jB<|kx [] [(0,some (bx (jK (jP x))))] (zR (kT jR)<|zE (kH (gO (jP x) x (kE (kN hx))))<|zT (qK jR)<|zZ) ?_
 refine jB ?_
 have bn1:yZ (kD (x.num.fdiv (x.den:Int))) (x.num.fdiv (x.den:Int)) 100101:=(iok_fdiv (k:=100101) (uE hx) (qU hx) (by decide))
 refine kx [(3,(.ref 2 0))] [(2,some (bx (jM (kD (x.num.fdiv (x.den:Int)))))),(3,none)] (zE (kW xN)<|zR (kT jX)<|zE (kW vQ)<|zR (kT jX)<|zE (kH (s_divide (uE hx) (qU hx) (by decide) (by decide) (by have:=x.den_nz;omega)))<|zM<|zE xX<|zE xX<|zE xX<|zN (uT 2 xL xK)<|zN (uT 3 xL xK)<|zT (qK jX)<|zT (qK jX)<|zM<|zZ) ?_
 refine jB<|kx [] [(1,some (bx (jM (kD (x.num.fdiv (x.den:Int))))))] (zR (kT jX)<|zT (qK jX)<|zZ) ?_
 refine jE ⟨_,(kQ (cs:=(bx (jM (kD (x.num.fdiv (x.den:Int)))))) (d:=(jM (kD (x.num.fdiv (x.den:Int))))) rfl rfl jX rfl rfl .nil),?_⟩
 rfl
theorem d_ceil(x:Rat)(hx:QL x 100090):jW Tryz.prog 143 [(jK (jP x))] (jM (kD (-(eM (-x))))):=by
 refine uW Tryz.func143 ?_
 refine jB<|kx [(1,(.ref 0 0)),(2,(.ref 1 0))] [(0,some (bx (jK (jP x)))),(1,some (bx (jM (kO.mk false []))))] (zN (xA 0)<|zN (uT 1 xL xK)<|zZ) ?_
 refine jB ?_
 have bn1:yZ (kD (-(eM (-x)))) (-(eM (-x))) 100091:=(zL (mC (k:=100091) (nM hx)))
 refine kx [] [(1,some (bx (jM (kD (-(eM (-x)))))))] (zR (kT jR)<|zE (kH (f_neg (jP x) x (kE (kN hx))))<|zE (kH (d_floor (-x) (kS (nM hx))))<|zE (kH (s_neg (mC (k:=100091) (nM hx))))<|zT (qK jX)<|zZ) ?_
 refine jE ⟨_,(kQ (cs:=(bx (jM (kD (-(eM (-x))))))) (d:=(jM (kD (-(eM (-x)))))) rfl rfl jX rfl rfl .nil),?_⟩
 rfl
theorem d_scaled(x:Rat)(hx:QL x 100000)(k:Nat)(hk:k<=512):jW Tryz.prog 144 [(jK (jP x)),(.val (.int .i64 (((k:Nat):Int))))] (.tup [(jK (jP (x*(aI k)))),(jM (kD ((2 ^ k:Nat):Int))),(.val (.int .i64 (0)))]):=by
 refine uW Tryz.func144 ?_
 refine jB<|kx [(2,(.ref 0 0)),(4,(.ref 1 0)),(5,(.ref 2 0))] [(0,some (bx (jK (jP x)))),(1,some (bx (jK qY))),(2,some (bx (jM (kO.mk false []))))] (zN (xA 0)<|zN (uT 1 uU uX)<|zN (uT 2 xL xK)<|zM<|zZ) ?_
 refine jB<|jB<|kx [(14,(vb false))] [] (zM<|zE (xC false xO (by exact decide_eq_false (show ¬ ((k:Nat):Int)<0 by omega)))<|zM<|zM<|zE (xC false mB (by exact decide_eq_false (show ¬ 512<((k:Nat):Int) by omega)))<|zE gK<|zZ) ?_
 refine qH ?_
 refine jF<|jB<|kx [(7,(.ref 3 0))] [(3,some (bx (jM (kD ((2 ^ k:Nat):Int)))))] (zE (kH (t_of 2))<|zM<|zE (kH (d_pow k (by omega)))<|zM<|zE xX<|zE xX<|zN (uT 3 xL xK)<|zT (qK jX)<|zM<|zZ) ?_
 refine jB ?_
 have bn1:QL (x*(aI k)) 100020:=(vW (k:=100020) hx (ql_2s (k:=k) (by omega)))
 refine kd [(6,(jS 0))] [(1,some (bx (jK (jP (x*(aI k)))))),(2,some (bx (jM (kD ((2 ^ k:Nat):Int)))))] mo (wR (kT jR)<|wR (kT jX)<|wE (kH (t_of 1))<|wE (oQd (jK (kP.mk (kD ((2 ^ k:Nat):Int)) (kD 1))) (jK (jP (aI k))) (oBd pl28 uU uX) (by exact rfl))<|wE (kH (f_mul (jP x) (jP (aI k)) x (aI k) (kE (kN hx)) (kE (kN (ql_2s (k:=k) (by omega))))))<|wR (kT jX)<|wT (qK jR)<|wT (qK jX)<|wM<|wZ) ?_
 refine jE ⟨_,(kQ (cs:=(bx (jK (jP (x*(aI k)))))) (d:=(jK (jP (x*(aI k))))) rfl rfl jR rfl rfl (kQ (cs:=(bx (jM (kD ((2 ^ k:Nat):Int))))) (d:=(jM (kD ((2 ^ k:Nat):Int)))) rfl rfl jX rfl rfl (.tmp (d:=(.val (.int .i64 (((0:Nat):Int))))) rfl .nil))),?_⟩
 rfl
end Go.Proofs.YtciingpdmjepgabGreatDoor
namespace Go.Fid
def stnP(x y z u v f:Int):Prop:=(-1048576<=x/\x<=1048576)/\(-1048576<=y/\y<=1048576)/\(-1048576<=z/\z<=1048576)/\(-1048576<=u/\u<=1048576)/\(-1048576<=v/\v<=1048576)/\(1<=f/\f<=1048576)
instance {x y z u v f:Int}:Decidable (stnP x y z u v f):=by unfold stnP;infer_instance
inductive LOk (n:Nat):List kO->List Int->Prop
 |nil:LOk n [] []
 |cons {x:kO} {z:Int} {l:List kO} {zs:List Int} (h:yZ x z n) (t:LOk n l zs):LOk n (x::l) (z::zs)
theorem iok_nilN(n:Nat):yZ ⟨false,[]⟩ 0 n:=⟨by decide,Nat.zero_le _⟩
theorem LOk.len{n:Nat}{l:List kO}{zs:List Int}(h:LOk n l zs):l.length=zs.length:=by
 induction h with
 |nil=>rfl
 |cons h t ih=>simp [ih]
theorem LOk.get{n:Nat}{l:List kO}{zs:List Int}(h:LOk n l zs)(i:Nat):yZ (l.getD i ⟨false,[]⟩) (zs.getD i 0) n:=by
 induction h generalizing i with
 |nil=>exact iok_nilN n
 |cons h t ih=>
  rcases i with _ | i
  ·exact h
  ·exact ih i
theorem LOk.all{n:Nat}{l:List kO}{zs:List Int}(h:LOk n l zs):∀ z∈zs,nA z<=n:=by
 induction h with
 |nil=>simp
 |cons h t ih=>
  intro z hz
  rcases List.mem_cons.1 hz with rfl | hz
  ·exact h.ln
  ·exact ih z hz
theorem LOk.up{m n:Nat}{l:List kO}{zs:List Int}(h:LOk m l zs)(hm:m<=n):LOk n l zs:=by
 induction h with
 |nil=>exact .nil
 |cons h t ih=>exact .cons (cM h hm) ih
theorem LOk.map{n:Nat}{l:List kO}{zs:List Int}(h:LOk n l zs):l.map jQ=zs:=by
 induction h with
 |nil=>rfl
 |cons h t ih=>rw[List.map_cons,ih,h.v]
theorem all_nil{l:List kO}(h:∀ x∈l,x=kO.mk false [])(i:Nat):l.getD i (kO.mk false [])=kO.mk false []:=by
 rw[List.getD]
 cases hj:l[i]? with
 |none=>rfl
 |some q=>exact h q (List.mem_of_getElem? hj)
def nq(a b c d:Int):Int:=(((a*a)+(b*b))+(c*c))+(d*d)
def N4(a b c d:Int):Rat:=((nq a b c d:Int):Rat)
def r02(a b c d:Int):Int:=2*((b*d)+(a*c))
def R02(a b c d:Int):Rat:=((r02 a b c d:Int):Rat)
def r12(a b c d:Int):Int:=2*((c*d)-(a*b))
def R12(a b c d:Int):Rat:=((r12 a b c d:Int):Rat)
def r22(a b c d:Int):Int:=(((a*a)-(b*b))-(c*c))+(d*d)
def R22(a b c d:Int):Rat:=((r22 a b c d:Int):Rat)
def gcd3(a b c:Rat):Int:=((Int.gcd a.num ((Int.gcd b.num c.num:Nat):Int):Nat):Int)
def redK(a b c:Rat):Rat:=Rat.divInt 1 (gcd3 a b c)
def dq0(a b c d p q r s:Int):Rat:=(R02 a b c d*N4 p q r s)+(R02 p q r s*N4 a b c d)
def dq1(a b c d p q r s:Int):Rat:=(R12 a b c d*N4 p q r s)+(R12 p q r s*N4 a b c d)
def dq2(a b c d p q r s:Int):Rat:=(R22 a b c d*N4 p q r s)+(R22 p q r s*N4 a b c d)
def RFr(lx ly lz la lb lc ld rx ry rz ra rb rc rd:Int)(b0 b1 b2 e00 e01 e02 e10 e11 e12 e20 e21 e22:Rat):Prop :=
 (((rx-lx):Int):Rat)=b0 /\
 (((ry-ly):Int):Rat)=b1 /\
 (((rz-lz):Int):Rat)=b2 /\
 b0*redK b0 b1 b2=e00 /\
 b1*redK b0 b1 b2=e01 /\
 b2*redK b0 b1 b2=e02 /\
 (((dq1 la lb lc ld ra rb rc rd)*e02)-((dq2 la lb lc ld ra rb rc rd)*e01))*redK (((dq1 la lb lc ld ra rb rc rd)*e02)-((dq2 la lb lc ld ra rb rc rd)*e01)) (((dq2 la lb lc ld ra rb rc rd)*e00)-((dq0 la lb lc ld ra rb rc rd)*e02)) (((dq0 la lb lc ld ra rb rc rd)*e01)-((dq1 la lb lc ld ra rb rc rd)*e00))=e10 /\
 (((dq2 la lb lc ld ra rb rc rd)*e00)-((dq0 la lb lc ld ra rb rc rd)*e02))*redK (((dq1 la lb lc ld ra rb rc rd)*e02)-((dq2 la lb lc ld ra rb rc rd)*e01)) (((dq2 la lb lc ld ra rb rc rd)*e00)-((dq0 la lb lc ld ra rb rc rd)*e02)) (((dq0 la lb lc ld ra rb rc rd)*e01)-((dq1 la lb lc ld ra rb rc rd)*e00))=e11 /\
 (((dq0 la lb lc ld ra rb rc rd)*e01)-((dq1 la lb lc ld ra rb rc rd)*e00))*redK (((dq1 la lb lc ld ra rb rc rd)*e02)-((dq2 la lb lc ld ra rb rc rd)*e01)) (((dq2 la lb lc ld ra rb rc rd)*e00)-((dq0 la lb lc ld ra rb rc rd)*e02)) (((dq0 la lb lc ld ra rb rc rd)*e01)-((dq1 la lb lc ld ra rb rc rd)*e00))=e12 /\
 ((e01*e12)-(e02*e11))*redK ((e01*e12)-(e02*e11)) ((e02*e10)-(e00*e12)) ((e00*e11)-(e01*e10))=e20 /\
 ((e02*e10)-(e00*e12))*redK ((e01*e12)-(e02*e11)) ((e02*e10)-(e00*e12)) ((e00*e11)-(e01*e10))=e21 /\
 ((e00*e11)-(e01*e10))*redK ((e01*e12)-(e02*e11)) ((e02*e10)-(e00*e12)) ((e00*e11)-(e01*e10))=e22
instance {lx ly lz la lb lc ld rx ry rz ra rb rc rd:Int} {b0 b1 b2 e00 e01 e02 e10 e11 e12 e20 e21 e22:Rat}:Decidable (RFr lx ly lz la lb lc ld rx ry rz ra rb rc rd b0 b1 b2 e00 e01 e02 e10 e11 e12 e20 e21 e22):=by unfold RFr;infer_instance
section
variable {lx ly lz la lb lc ld rx ry rz ra rb rc rd:Int} {b0 b1 b2 e00 e01 e02 e10 e11 e12 e20 e21 e22:Rat}
end
end Go.Fid
namespace Go.Proofs.YtciingpdmjepgabGreatDoor
open Go.Fid
theorem d_plcF(x:Rat)(hx:QL x 100000)(k:Nat)(hk:k<=512):jW Tryz.prog 141 [(jK (jP x)),(.val (.int .i64 (((k:Nat):Int)))),(.val (.func (.func 142) #[] #[]))] (.tup [(jK (jP (Rat.divInt (eM (x*(aI k))) ((2 ^ k:Nat):Int)))),(.val (.int .i64 (0)))]):=by
 have hp0:((2 ^ k:Nat):Int)≠0:=Int.ne_of_gt (two_pos k)
 let y1:=(jK (jP (Rat.divInt (eM (x*(aI k))) ((2 ^ k:Nat):Int))))
 refine uW Tryz.func141 ?_
 refine jB<|kx [(3,(.ref 0 0)),(6,(.ref 1 0))] [(0,some (bx (jK (jP x)))),(1,some (bx (jK qY)))] (zN (xA 0)<|zN (uT 1 uU uX)<|zM<|zZ) ?_
 refine jB ?_
 have bn1:QL (x*(aI k)) 100020:=(vW (k:=100020) hx (ql_2s (k:=k) (by omega)))
 refine kx [(8,(.ref 2 0)),(9,(.ref 3 0)),(10,(vi 0))] [(2,some (bx (jK (jP (x*(aI k)))))),(3,some (bx (jM (kD ((2 ^ k:Nat):Int)))))] (zR (kT jR)<|zM<|zE (kH (d_scaled x hx k (by omega)))<|zM<|zE xX<|zE xX<|zE xX<|zN (uT 2 uU uX)<|zN (uT 3 xL xK)<|zT (qK jR)<|zT (qK jX)<|zM<|zZ) ?_
 refine jB<|jB<|kx [(19,(vb false))] [] (zM<|zE (xC false oNe)<|zZ) ?_
 refine qH ?_
 refine jF<|jB ?_
 have bn2:QL (Rat.divInt (eM (x*(aI k))) ((2 ^ k:Nat):Int)) 100021:=(xY (n:=100021) (Nat.le_trans (yZ.ln (mC (k:=100021) bn1)) (by decide)) (Nat.le_trans (yZ.ln (aU (k:=k) (by omega))) (by decide)))
 refine kd [(7,(jS 0))] [(1,some (bx y1))] mo (wM<|wR (kT jR)<|wE (kH (d_floor (x*(aI k)) (kS bn1)))<|wR (kT jX)<|wE (kH (fP (kD (eM (x*(aI k)))) (kD ((2 ^ k:Nat):Int)) (eM (x*(aI k))) ((2 ^ k:Nat):Int) (cM (mC (k:=100021) bn1)) (cM (aU (k:=k) (by omega))) (by assumption)))<|wT (qK jR)<|wM<|wZ) ?_
 refine jE ⟨_,(kQ (cs:=(bx y1)) (d:=y1) rfl rfl jR rfl rfl (.tmp (d:=(.val (.int .i64 (((0:Nat):Int))))) rfl .nil)),?_⟩
 rfl
theorem d_plcC(x:Rat)(hx:QL x 100000)(k:Nat)(hk:k<=512):jW Tryz.prog 141 [(jK (jP x)),(.val (.int .i64 (((k:Nat):Int)))),(.val (.func (.func 143) #[] #[]))] (.tup [(jK (jP (Rat.divInt (-(eM (-(x*(aI k))))) ((2 ^ k:Nat):Int)))),(.val (.int .i64 (0)))]):=by
 have hp0:((2 ^ k:Nat):Int)≠0:=Int.ne_of_gt (two_pos k)
 let y1:=(jK (jP (Rat.divInt (-(eM (-(x*(aI k))))) ((2 ^ k:Nat):Int))))
 refine uW Tryz.func141 ?_
 refine jB<|kx [(3,(.ref 0 0)),(6,(.ref 1 0))] [(0,some (bx (jK (jP x)))),(1,some (bx (jK qY)))] (zN (xA 0)<|zN (uT 1 uU uX)<|zM<|zZ) ?_
 refine jB ?_
 have bn1:QL (x*(aI k)) 100020:=(vW (k:=100020) hx (ql_2s (k:=k) (by omega)))
 refine kx [(8,(.ref 2 0)),(9,(.ref 3 0)),(10,(vi 0))] [(2,some (bx (jK (jP (x*(aI k)))))),(3,some (bx (jM (kD ((2 ^ k:Nat):Int)))))] (zR (kT jR)<|zM<|zE (kH (d_scaled x hx k (by omega)))<|zM<|zE xX<|zE xX<|zE xX<|zN (uT 2 uU uX)<|zN (uT 3 xL xK)<|zT (qK jR)<|zT (qK jX)<|zM<|zZ) ?_
 refine jB<|jB<|kx [(19,(vb false))] [] (zM<|zE (xC false oNe)<|zZ) ?_
 refine qH ?_
 refine jF<|jB ?_
 have bn2:yZ (kD (-(eM (-(x*(aI k)))))) (-(eM (-(x*(aI k))))) 100021:=(zL (mC (k:=100021) (nM bn1)))
 have bn3:QL (Rat.divInt (-(eM (-(x*(aI k))))) ((2 ^ k:Nat):Int)) 100021:=(xY (n:=100021) (Nat.le_trans (yZ.ln bn2) (by decide)) (Nat.le_trans (yZ.ln (aU (k:=k) (by omega))) (by decide)))
 refine kd [(7,(jS 0))] [(1,some (bx y1))] mo (wM<|wR (kT jR)<|wE (kH (d_ceil (x*(aI k)) (kS bn1)))<|wR (kT jX)<|wE (kH (fP (kD (-(eM (-(x*(aI k)))))) (kD ((2 ^ k:Nat):Int)) (-(eM (-(x*(aI k))))) ((2 ^ k:Nat):Int) (iu bn2) (cM (aU (k:=k) (by omega))) (by assumption)))<|wT (qK jR)<|wM<|wZ) ?_
 refine jE ⟨_,(kQ (cs:=(bx y1)) (d:=y1) rfl rfl jR rfl rfl (.tmp (d:=(.val (.int .i64 (((0:Nat):Int))))) rfl .nil)),?_⟩
 rfl
theorem d_down(x:Rat)(hx:QL x 100000)(k:Nat)(hk:k<=512):jW Tryz.prog 139 [(jK (jP x)),(.val (.int .i64 (((k:Nat):Int))))] (.tup [(jK (jP (Rat.divInt (eM (x*(aI k))) ((2 ^ k:Nat):Int)))),(.val (.int .i64 (0)))]):=by
 let y1:=(jK (jP (Rat.divInt (eM (x*(aI k))) ((2 ^ k:Nat):Int))))
 refine uW Tryz.func139 ?_
 refine jB<|kx [(2,(.ref 0 0)),(4,(.ref 1 0))] [(0,some (bx (jK (jP x)))),(1,some (bx (jK qY)))] (zN (xA 0)<|zN (uT 1 uU uX)<|zM<|zZ) ?_
 refine jB ?_
 have bn1:QL (Rat.divInt (eM (x*(aI k))) ((2 ^ k:Nat):Int)) 100021:=(xY (n:=100021) (Nat.le_trans (yZ.ln (mC (k:=100021) (vW (k:=100020) hx (ql_2s (k:=k) (by omega))))) (by decide)) (Nat.le_trans (yZ.ln (aU (k:=k) (by omega))) (by decide)))
 refine kx [(5,(vi 0))] [(1,some (bx y1))] (zR (kT jR)<|zM<|zE (kH (d_plcF x hx k (by omega)))<|zE xX<|zE xX<|zT (qK jR)<|zM<|zZ) ?_
 refine jE ⟨_,(kQ (cs:=(bx y1)) (d:=y1) rfl rfl jR rfl rfl (.tmp (d:=(.val (.int .i64 (0)))) rfl .nil)),?_⟩
 rfl
theorem d_up(x:Rat)(hx:QL x 100000)(k:Nat)(hk:k<=512):jW Tryz.prog 140 [(jK (jP x)),(.val (.int .i64 (((k:Nat):Int))))] (.tup [(jK (jP (Rat.divInt (-(eM (-(x*(aI k))))) ((2 ^ k:Nat):Int)))),(.val (.int .i64 (0)))]):=by
 let y1:=(jK (jP (Rat.divInt (-(eM (-(x*(aI k))))) ((2 ^ k:Nat):Int))))
 refine uW Tryz.func140 ?_
 refine jB<|kx [(2,(.ref 0 0)),(4,(.ref 1 0))] [(0,some (bx (jK (jP x)))),(1,some (bx (jK qY)))] (zN (xA 0)<|zN (uT 1 uU uX)<|zM<|zZ) ?_
 refine jB ?_
 have bn1:QL (Rat.divInt (-(eM (-(x*(aI k))))) ((2 ^ k:Nat):Int)) 100021:=(xY (n:=100021) (Nat.le_trans (yZ.ln (zL (mC (k:=100021) (nM (vW (k:=100020) hx (ql_2s (k:=k) (by omega))))))) (by decide)) (Nat.le_trans (yZ.ln (aU (k:=k) (by omega))) (by decide)))
 refine kx [(5,(vi 0))] [(1,some (bx y1))] (zR (kT jR)<|zM<|zE (kH (d_plcC x hx k (by omega)))<|zE xX<|zE xX<|zT (qK jR)<|zM<|zZ) ?_
 refine jE ⟨_,(kQ (cs:=(bx y1)) (d:=y1) rfl rfl jR rfl rfl (.tmp (d:=(.val (.int .i64 (0)))) rfl .nil)),?_⟩
 rfl
theorem di_round(p:Rat)(q:Rat)(hp:QL p 100000)(hq:QL q 100000)(hpq:p<=q)(k:Nat)(hk:k<=512):jW Tryz.prog 130 [(jJ (qB.mk (jP p) (jP q))),(.val (.int .i64 (((k:Nat):Int))))] (.tup [(jJ (qB.mk (jP (Rat.divInt (eM (p*(aI k))) ((2 ^ k:Nat):Int))) (jP (Rat.divInt (-(eM (-(q*(aI k))))) ((2 ^ k:Nat):Int))))),(.val (.int .i64 (0)))]):=by
 let y2:=(jJ (qB.mk (jP (Rat.divInt (eM (p*(aI k))) ((2 ^ k:Nat):Int))) (jP (Rat.divInt (-(eM (-(q*(aI k))))) ((2 ^ k:Nat):Int)))))
 let y1:=(bx y2)
 refine uW Tryz.func130 ?_
 refine jB<|kx [(2,(.ref 0 0)),(4,(.ref 1 0))] [(0,some (bx (jJ (qB.mk (jP p) (jP q))))),(1,some (bx (jJ (qB.mk qY qY))))] (zN (xA 0)<|zN (uT 1 vI xB)<|zM<|zZ) ?_
 refine jB<|jB<|kx [(12,(vb false))] [] (zR (kT qI)<|zE (kH (by have h:=i_valid (qB.mk (jP p) (jP q)) (gok_up (⟨yO (kE (kN hp) (by decide:100000<=100000)),yO (kE (kN hq) (by decide:100000<=100000))⟩));rw[show cH (qB.mk (jP p) (jP q))=true from dN hpq] at h;exact h))<|zE eL<|zZ) ?_
 refine qH ?_
 refine jF<|jB<|jB<|kx [(19,(vb false))] [] (zM<|zE (xC false xO (by exact decide_eq_false (show ¬ ((k:Nat):Int)<0 by omega)))<|zM<|zM<|zE (xC false mB (by exact decide_eq_false (show ¬ 512<((k:Nat):Int) by omega)))<|zE gK<|zZ) ?_
 refine qH ?_
 refine jF<|jB ?_
 have bn1:QL (Rat.divInt (eM (p*(aI k))) ((2 ^ k:Nat):Int)) 100021:=(xY (n:=100021) (Nat.le_trans (yZ.ln (mC (k:=100021) (vW (k:=100020) hp (ql_2s (k:=k) (by omega))))) (by decide)) (Nat.le_trans (yZ.ln (aU (k:=k) (by omega))) (by decide)))
 refine kx [(6,(.ref 2 0))] [(2,some (bx (jK (jP (Rat.divInt (eM (p*(aI k))) ((2 ^ k:Nat):Int))))))] (zE (kW gH)<|zR (kT jR)<|zM<|zE (kH (d_down p hp k (by omega)))<|zM<|zE xX<|zE xX<|zN (uT 2 uU uX)<|zT (qK jR)<|zM<|zZ) ?_
 refine jB ?_
 have bn2:QL (Rat.divInt (-(eM (-(q*(aI k))))) ((2 ^ k:Nat):Int)) 100021:=(xY (n:=100021) (Nat.le_trans (yZ.ln (zL (mC (k:=100021) (nM (vW (k:=100020) hq (ql_2s (k:=k) (by omega))))))) (by decide)) (Nat.le_trans (yZ.ln (aU (k:=k) (by omega))) (by decide)))
 refine kx [(8,(.ref 3 0))] [(3,some (bx (jK (jP (Rat.divInt (-(eM (-(q*(aI k))))) ((2 ^ k:Nat):Int))))))] (zE (kW yM)<|zR (kT jR)<|zM<|zE (kH (d_up q hq k (by omega)))<|zM<|zE xX<|zE xX<|zN (uT 3 uU uX)<|zT (qK jR)<|zM<|zZ) ?_
 refine jB<|kx [(5,(jS 0))] [(1,some y1)] (zR (kT jR)<|zR (kT jR)<|zE (oBd pl44 vI xB)<|zT (qK qI)<|zM<|zZ) ?_
 refine jE ⟨_,(kQ (cs:=y1) (d:=y2) rfl rfl qI rfl rfl (.tmp (d:=(.val (.int .i64 (((0:Nat):Int))))) rfl .nil)),?_⟩
 rfl
end Go.Proofs.YtciingpdmjepgabGreatDoor
namespace Go.Fid
section
variable {P:Program} {n:Fr} {ops:Array Oper} {K:SL->BS->Prop} {S:SL} {B:BS} {o:Oper} {l:List Oper} {T E t':TypeId} {x y:Operand} {k s m bytes:Nat} {zv:List Value} {α:Type}
end
section
variable {F:Fence} {N:Nat} {P:Program} {Q:Exit->Act->World->Prop} {a:Act} {w:World} {b:Frame} {k:List Item} {cs:List Frame}
end
section
variable {P:Program} {n:Fr} {Q:Exit->PS->Prop} {st:PS}
end
section
variable {P:Program} {S:SL} {B:BS} {o:Oper} {x y:Operand} {k:Nat} {T:TypeId}
theorem bxs_flen{α:Type}{F:α->jT}{s:Nat}(hF:∀ g,(F g).cells.length=s)(L:List α):(kR (L.map F)).length=L.length*s:=by
 rw[uQ (s:=s) (fun e he=>by obtain ⟨g,_,rfl⟩:=List.mem_map.1 he;exact hF g),List.length_map]
theorem bxs_cell{α:Type}{F:α->jT}{s:Nat}(hF:∀ g,(F g).cells.length=s){L:List α}{j r:Nat}(d:α)(hj:j<L.length)(hr:r<s):(kR (L.map F))[j*s+r]?=(F (L.getD j d)).cells[r]? :=
 flat_get (s:=s) (e:=F (L.getD j d)) (fun e he=>by obtain ⟨g,_,rfl⟩:=List.mem_map.1 he;exact hF g) (by simp [List.getD_eq_getElem?_getD,List.getElem?_eq_getElem hj]) hr
theorem bxs_room{j n s:Nat}(h:j<n):j*s+s<=n*s:=by
 have:=Nat.mul_le_mul_right s (show j+1<=n from h)
 rwa [Nat.add_mul,Nat.one_mul] at this
theorem bxs_cut{α:Type}{F:α->jT}{s:Nat}(hF:∀ g,(F g).cells.length=s){L:List α}{j:Nat}(d:α)(hj:j<L.length):((qP F L).drop (j*s)).take s=(F (L.getD j d)).cells.map SV.d:=by
 apply List.ext_getElem?
 intro r
 unfold qP
 rw[List.getElem?_take]
 split
 ·rename_i hr
  rw[List.getElem?_drop,List.getElem?_map,bxs_cell hF d hj hr,List.getElem?_map]
 ·rename_i hr
  rw[List.getElem?_eq_none (by rw[List.length_map,hF];omega)]
theorem oLA{α:Type}{F:α->jT}{L:List α}{s:Nat}(hs:qD P T=some (true,s))(j:Nat)(d:α)(ho:o.op=.load T x:=by exact rfl)(hx:ev (kA S) x=.ref k (j*s):=by exact rfl)(hb:jY B k=some (qP F L):=by exact rfl)(hF:∀ g,(F g).cells.length=s:=by intro g;kernel_rfl)(hG:∀ g,yD true ((F g).cells.map SV.d)=.d (F g):=by intro g;kernel_rfl)(h1:j<L.length:=by omega):ROk P o S B k (.d (F (L.getD j d))):=by
 have h:=e_load_ref (P:=P) (cs:=qP F L) ho hx hs (fun h=>by cases h) (by unfold qP;rw[List.length_map,bxs_flen hF];exact bxs_room h1) (gR _)
 rw[bxs_cut hF d h1,hG] at h
 exact ⟨_,h,hb⟩
theorem bxs_set{α:Type}{F:α->jT}{s:Nat}(hF:∀ g,(F g).cells.length=s){L:List α}{j:Nat}(v:α)(hj:j<L.length):patch (qP F L) (j*s) ((F v).cells.map SV.d)=qP F (L.set j v):=by
 have hl:=bxs_flen hF L
 have hl2:=bxs_flen hF (L.set j v)
 rw[List.length_set] at hl2
 have hrm:=bxs_room (s:=s) hj
 apply List.ext_getElem?
 intro i
 have hb1:(qP F L).length=L.length*s:=by unfold qP;rw[List.length_map,hl]
 have hb2:(qP F (L.set j v)).length=L.length*s:=by unfold qP;rw[List.length_map,hl2]
 rw[yS (by rw[List.length_map,hF,hb1];exact hrm)]
 by_cases hi:i<L.length*s
 ·have hs0:0<s:=by
   rcases Nat.eq_zero_or_pos s with h | h
   ·subst h;simp at hi
   ·exact h
  have hq:i / s<L.length:=Nat.div_lt_of_lt_mul (by rw[Nat.mul_comm];exact hi)
  have hr:i % s<s:=Nat.mod_lt _ hs0
  have he:i=(i / s)*s+i % s:=by rw[Nat.mul_comm];exact (Nat.div_add_mod i s).symm
  have e1:(qP F (L.set j v))[i]?=((F ((L.set j v).getD (i / s) v)).cells[i % s]?).map SV.d:=by
   unfold qP;rw[List.getElem?_map];conv=>lhs;rw[he]
   rw[bxs_cell hF v (by rw[List.length_set];exact hq) hr]
  have e2:(qP F L)[i]?=((F (L.getD (i / s) v)).cells[i % s]?).map SV.d:=by
   unfold qP;rw[List.getElem?_map];conv=>lhs;rw[he]
   rw[bxs_cell hF v hq hr]
  rw[e1,e2,List.length_map,hF]
  by_cases hc:i / s=j
  ·have h3:j*s<=i/\i<j*s+s:=by subst hc;omega
   rw[if_neg (by omega),if_pos h3.2]
   have h4:(L.set j v).getD (i / s) v=v:=by rw[hc,List.getD_eq_getElem?_getD,List.getElem?_set_self hj];rfl
   rw[h4,List.getElem?_map,show i-j*s=i % s by subst hc;omega]
  ·have h3:¬ (j*s<=i/\i<j*s+s):=fun h=>hc (by
    have a1:j<=i / s:=(Nat.le_div_iff_mul_le hs0).2 h.1
    have a2:i / s<j+1:=Nat.div_lt_of_lt_mul (by rw[Nat.mul_comm,Nat.add_mul,Nat.one_mul];exact h.2)
    omega)
   have h4:(L.set j v).getD (i / s) v=L.getD (i / s) v:=by rw[List.getD_eq_getElem?_getD,List.getElem?_set_ne (fun e=>hc e.symm),<- List.getD_eq_getElem?_getD]
   rw[h4]
   split
   ·rfl
   ·rw[if_neg (fun h=>h3 ⟨by omega,h⟩)]
 ·have n1:(qP F (L.set j v))[i]?=none:=List.getElem?_eq_none (by rw[hb2];omega)
  have n2:(qP F L)[i]?=none:=List.getElem?_eq_none (by rw[hb1];omega)
  rw[n1,n2,List.length_map,hF,if_neg (by omega),if_neg (by omega)]
theorem oSA{α:Type}{F:α->jT}{L:List α}{s:Nat}(hs:qD P T=some (true,s))(j:Nat)(v:α)(ho:o.op=.store T x y:=by exact rfl)(hx:ev (kA S) x=.ref k (j*s):=by exact rfl)(hb:jY B k=some (qP F L):=by exact rfl)(hy:ev (kA S) y=.d (F v):=by kernel_rfl)(h2:(F v).ok1=true:=by kernel_rfl)(hF:∀ g,(F g).cells.length=s:=by intro g;kernel_rfl)(h1:j<L.length:=by omega):TK P o S B k (qP F (L.set j v)):=by
 have h:=t_store (P:=P) (old:=qP F L) ho hx hy hs (.inl ⟨F v,rfl,h2,rfl⟩) (by rw[List.length_map,hF]) (by unfold qP;rw[List.length_map,bxs_flen hF];exact bxs_room h1) (gR _)
 rw[bxs_set hF v h1] at h
 exact ⟨_,h,hb⟩
theorem flat_repl{α:Type}(F:α->jT)(z:α){zd:List jT}(h:zd=(F z).cells):∀ M,(List.replicate M zd).flatten.map SV.d=qP F (List.replicate M z)
 |0=>rfl
 |M+1=>by
  have ih:=flat_repl F z h M
  unfold qP at ih ⊢
  rw[List.replicate_succ,List.flatten_cons,List.map_append,ih,List.replicate_succ,List.map_cons,nZ,List.map_append,h]
theorem oMkS{S:Nat->SV}{α:Type}{E:TypeId}{s bytes:Nat}{kl kc:IntKind}{m n:Int}{zv:List Value}{zd:List jT}(b:Nat)(F:α->jT)(z:α)(N M:Nat)(hT:uB P T=some (E,s))(hz:vP P E=some zv)(hzd:dV zv zd)(hby:vJ P E=some bytes)(ho:o.op=.makeSlice T x y:=by exact rfl)
  (hl:ev S x=.d (.val (.int kl m)):=by exact rfl) (hc:ev S y=.d (.val (.int kc n)):=by exact rfl) (hlN:m=((N:Nat):Int):=by omega) (hcM:n=((M:Nat):Int):=by omega) (hzl:Nat.beq zd.length s=true:=by kernel_rfl) (hnm:N<=M:=by omega) (hb:bytes*M<=281474976710656:=by omega) (hm:M<=maxLen:=by unfold maxLen;omega) (hzF:zd=(F z).cells:=by kernel_rfl) :
  NOk P o S b (qP F (List.replicate M z)) (.own b E s N):=by
 subst hlN;subst hcM
 exact n_mks b ho hT hz hzd (Nat.eq_of_beq_eq_true hzl) hby hl hc hnm hb hm (flat_repl F z hzF M)
end
section
variable {P:Program} {o:Oper}
end
section
variable {P:Program}
section
variable {o:Oper} {S:Nat->SV} {T T':TypeId} {x y:Operand} {c:Nat}
end
end
open Go.RowKit (Below)
def aggOf(s:Nat)(u:Nat->Value):Value:=.agg ((List.range s).map u).toArray
structure BacksS (P:Program) (fB fI:FuncId) (T:TypeId) (s:Nat):Prop where
 call:∀ (a:Option Addr) (len cap:Nat) (w:World),Calls P fB #[.slice a len cap] w fun e w'=>e=.returned (.func (.func fI) #[] #[.pointer (some ⟨w.heap.size,0,none⟩)])/\w'=w.alloc (.cells #[.slice a len cap] T)
 empty:∀ (N l b cap:Nat) (ao:Option Addr) (J:World->Prop) (W:World),W.cell? ⟨b,0,none⟩=some (.slice ao 0 cap)->J W ->
  CallsIn Fence.wide (N+1) P fI #[.func (.yield l) #[] #[],.pointer (some ⟨b,0,none⟩)] W fun e W'=>(∃ v,e=.returned v)/\J W'
 rounds:∀ (N l c b off len cap:Nat) (u:Nat->Nat->Value),(len:Int)<=9223372036854775807->∀ (J:Nat->World->Prop) (Jx:World->Prop),
  (∀ j W,J j W->W.cell? ⟨c,0,none⟩=some (.slice (some ⟨b,off,none⟩) len cap)/\∀ i,i<len->∀ r,r<s->W.cell? ⟨b,off+(i*s+r),none⟩=some (u i r)) ->
  (∀ j W,J j W->j<len->YieldAt Fence.wide N P l #[.int .i64 ((len:Int)-1-(j:Int)),aggOf s (u (len-1-j))] W fun e W'=>(e=.returned (.bool true)/\J (j+1) W')\/(e=.returned (.bool false)/\Jx W')) ->
  ∀ W,J 0 W->CallsIn Fence.wide (N+1) P fI #[.func (.yield l) #[] #[],.pointer (some ⟨c,0,none⟩)] W fun e W'=>(∃ v,e=.returned v)/\(J len W'\/Jx W')
 enters:∀ args w,(callFunc fI args).run P w=.ok (.enter fI args) w
section
variable {C:Ctx} {a a':Act} {w w':World} {st:PS} {D:kV} {β:kY}
variable {P:Program} {n:Fr} {fB fI:FuncId} {T:TypeId} {S:SL} {B:BS} {Q:Exit->PS->Prop} {α:Type}
end
section
variable {P:Program} {o:Oper} {S:Nat->SV} {x:Operand} {k T s n:Nat} {d:jT}
end
section
variable {P:Program} {o:Oper} {S:Nat->SV}
end
end Go.Fid
