/- Part 33 of a proof: rules, plain facts, and functions walked. -/
import Derived.Test.YtnajallgoaiahaaGreatDoorM32
import Derived.Test.YtnajallgoaiahaaGreatDoorM11
import Derived.Test.YtnajallgoaiahaaGreatDoorM20
import Derived.Test.YtnajallgoaiahaaGreatDoorM23
import Derived.Test.YtnajallgoaiahaaGreatDoorM10
set_option linter.all false
set_option maxRecDepth 4000
namespace Go.Fid
abbrev yC (k:Nat):Rat:=((((2 ^ k:Nat):Int):Int):Rat)
def pwS(n i:Nat):Nat:=2 ^ (n / 2 ^ (13-i))
theorem pwS_0{n:Nat}(h:n<=4096):[1]=ofNat (pwS n 0):=by
 have e:n / 2 ^ (13-0)=0:=Nat.div_eq_of_lt (by show n<8192;omega)
 unfold pwS;rw[e,Nat.pow_zero,mK (by decide)]
 have:ofNat (1 / 1000000000)=[]:=by rw[show 1 / 1000000000=0 from rfl,uS]
 rw[this]
theorem pwS_13(n:Nat):pwS n 13=2 ^ n:=by unfold pwS;simp
theorem bit_eq{i:Nat}(h:i<=12):4096 / 2 ^ i=2 ^ (12-i):=by
 rw[show (4096:Nat)=2 ^ 12 from rfl,Nat.pow_div h (by decide)]
theorem bit_13:4096 / 2 ^ 13=0:=by decide
theorem bit_pos{i:Nat}(hi:i<=13)(h:(0:Int)<((4096 / 2 ^ i:Nat):Int)):i<13:=by
 by_cases e:i=13
 ·subst e;rw[bit_13] at h;omega
 ·omega
theorem bit_end{i:Nat}(hi:i<=13)(h:¬ (0:Int)<((4096 / 2 ^ i:Nat):Int)):i=13:=by
 by_cases e:i=13
 ·exact e
 ·rw[bit_eq (by omega)] at h
  have:=Nat.pow_pos (n:=12-i) (show 0<2 by decide)
  omega
theorem bit_half(i:Nat):4096 / 2 ^ i / 2=4096 / 2 ^ (i+1):=by rw[Nat.div_div_eq_div_mul,Nat.pow_succ]
theorem pw_half{n i:Nat}(hi:i<13):n / 2 ^ (12-i)=2*(n / 2 ^ (13-i))+n / 2 ^ (12-i) % 2:=by
 have e:n / 2 ^ (13-i)=n / 2 ^ (12-i) / 2:=by
  rw[Nat.div_div_eq_div_mul,<- Nat.pow_succ,show (12-i).succ=13-i by omega]
 rw[e];omega
theorem pwS_even{n i:Nat}(hi:i<13)(h:(n &&& 4096 / 2 ^ i)=0):pwS n i*pwS n i=pwS n (i+1):=by
 rw[bit_eq (by omega),bit_and] at h
 have e:=pw_half (n:=n) hi
 unfold pwS
 rw[show 13-(i+1)=12-i by omega,e,h,Nat.add_zero,Nat.two_mul,Nat.pow_add]
theorem pwS_odd{n i:Nat}(hi:i<13)(h:¬ (n &&& 4096 / 2 ^ i)=0):pwS n i*pwS n i*2=pwS n (i+1):=by
 rw[bit_eq (by omega),bit_and] at h
 have e:=pw_half (n:=n) hi
 have h2:n / 2 ^ (12-i) % 2=1:=by omega
 unfold pwS
 rw[show 13-(i+1)=12-i by omega,e,h2,Nat.pow_add,Nat.two_mul,Nat.pow_add,Nat.pow_one]
theorem two_pw(e:Nat):2 ^ e<pw (e+1):=by
 induction e with
 |zero=>simp [pw]
 |succ e ih=>rw[Nat.pow_succ,vE];omega
theorem len_two(e:Nat):(ofNat (2 ^ e)).length<=e+1:=uL (two_pw e)
theorem len_pwS{n:Nat}(h:n<=4096)(i:Nat):(ofNat (pwS n i)).length<=4097:=by
 have:=len_two (n / 2 ^ (13-i))
 have h2:n / 2 ^ (13-i)<=n:=Nat.div_le_self _ _
 unfold pwS;omega
theorem g2:kY (kN 2)=[2]:=by
 rw[grpI_ofZ]
 show ofNat 2=[2]
 rw[mK (by decide),show 2 / 1000000000=0 from rfl,uS]
theorem g2n:ofNat (Int.natAbs 2)=[2]:=by rw[<- grpI_ofZ];exact g2
theorem g2len:(kN 2).gs.length=1:=by
 show (ofNat 2).length=1
 rw[show ofNat 2=[2] from g2n];rfl
theorem neg2:(kN 2).neg=false:=rfl
theorem len_sq{n i:Nat}{out:List Nat}(hv:val out=pwS n i)(hn:n<=4096)(hi:i<13):(ofNat (val out*val out)).length<=8195:=by
 rw[hv]
 unfold pwS
 rw[<- Nat.pow_add]
 have:=len_two (n / 2 ^ (13-i)+n / 2 ^ (13-i))
 have h2:n / 2 ^ (13-i)<=n:=Nat.div_le_self _ _
 omega
theorem mk_two(n:Nat):xT false (val (ofNat (pwS n 13)))=kN ((2 ^ n:Nat):Int):=by
 rw[kL,pwS_13]
 unfold kN
 rw[Int.natAbs_natCast,decide_eq_false (Int.not_lt.2 (Int.natCast_nonneg _))]
def uD(z:Int):Int:=((rootN z.toNat:Nat):Int)
theorem rootI_0(z:Int):0<=uD z:=Int.natCast_nonneg _
theorem rootI_le{z:Int}(h:0<=z):uD z*uD z<=z:=by
 obtain ⟨x,rfl⟩:=Int.eq_ofNat_of_zero_le h
 have:=rootN_le x
 unfold uD;rw[Int.toNat_natCast]
 have e:((rootN x*rootN x:Nat):Int)<=(x:Int):=by omega
 simpa using e
theorem lt_rootI{z:Int}(h:0<=z):z<(uD z+1)*(uD z+1):=by
 obtain ⟨x,rfl⟩:=Int.eq_ofNat_of_zero_le h
 have:=lt_rootN x
 unfold uD;rw[Int.toNat_natCast]
 have e:(x:Int)<(((rootN x+1)*(rootN x+1):Nat):Int):=by omega
 simpa using e
theorem rootI_self{z:Int}(h:0<=z):uD z<=z:=by
 have h1:=rootI_le h
 have h2:=rootI_0 z
 by_cases h3:uD z=0
 ·omega
 ·have:uD z*1<=uD z*uD z:=Int.mul_le_mul_of_nonneg_left (by omega) h2
  omega
theorem iok_root{z:Int}{n:Nat}{x:qF}(h:0<=z)(hz:gQ x z n):gQ (kN (uD z)) (uD z) n:=cI (Nat.le_trans (aL (by have:=rootI_0 z;have:=rootI_self h;omega)) hz.ln)
theorem nw_val(X:Nat)(r:List Nat):val (ofNat (val (ofNat (val r+val (ofNat (val (ofNat X) / val r)))) / 2))=(val r+X / val r) / 2:=by
 rw[kL,kL,kL,kL]
theorem val_app(a b:List Nat):val (a++b)=val a+pw a.length*val b:=by
 induction a with
 |nil=>simp [val,pw]
 |cons d a ih=>
  show d+1000000000*val (a++b)=d+1000000000*val a+pw (a.length+1)*val b
  rw[ih,vE,Nat.mul_add,Nat.mul_assoc];omega
theorem val_zeros(n:Nat):val (List.replicate n 0)=0:=by
 induction n with
 |zero=>rfl
 |succ n ih=>rw[List.replicate_succ];show 0+1000000000*val (List.replicate n 0)=0;rw[ih]
theorem nw_start(n:Nat):val (List.replicate n 0++[1])=pw n:=by
 rw[val_app,val_zeros,List.length_replicate]
 show 0+pw n*(1+1000000000*0)=pw n
 omega
theorem nw_cano(n:Nat):yW (List.replicate n 0++[1]):=by
 refine ⟨fun d hd=>?_,?_⟩
 ·rcases List.mem_append.1 hd with h | h
  ·rw[(List.mem_replicate.1 h).2];decide
  ·rw[List.mem_singleton.1 h];decide
 ·unfold Top
  rw[List.getD_eq_getElem?_getD]
  simp
theorem nw_top{X:Nat}:X<(val (List.replicate (((ofNat X).length+1) / 2) 0++[1])+1)*(val (List.replicate (((ofNat X).length+1) / 2) 0++[1])+1):=by
 rw[nw_start]
 have h:=bD X
 have h2:pw (ofNat X).length<=pw (((ofNat X).length+1) / 2+((ofNat X).length+1) / 2):=by unfold pw;exact Nat.pow_le_pow_right (by decide) (by omega)
 rw[pw_add] at h2
 have h3:pw (((ofNat X).length+1) / 2)*pw (((ofNat X).length+1) / 2)<=(pw (((ofNat X).length+1) / 2)+1)*(pw (((ofNat X).length+1) / 2)+1):=Nat.mul_le_mul (by omega) (by omega)
 omega
theorem cmpI_ge0{a b:Int}:0<=vK a b↔b<=a:=by
 unfold vK
 by_cases h:a<b
 ·rw[if_pos h];omega
 ·rw[if_neg h];split<;>omega
theorem nw_end{z:Int}{r:List Nat}(z0:0<=z)(h0:0<val r)(hu:z.natAbs<(val r+1)*(val r+1))(h:val r<=(val r+z.natAbs / val r) / 2):xT false (val r)=kN (uD z):=by
 have e:=newton_root h0 hu h
 obtain ⟨x,rfl⟩:=Int.eq_ofNat_of_zero_le z0
 rw[Int.natAbs_natCast] at e
 unfold uD kN
 rw[Int.toNat_natCast,<- e,Int.natAbs_natCast,decide_eq_false (by omega)]
theorem two_pos(n:Nat):(0:Int)<((2 ^ n:Nat):Int):=by
 have:=Nat.pow_pos (n:=n) (show 0<2 by decide)
 exact Int.natCast_pos.2 this
theorem neg_abs{z:Int}(z0:0<=z)(h:(kN z).neg=true):False:=by
 have:(decide (z<0)&&z.natAbs != 0)=true:=h
 rw[decide_eq_false (show ¬ z<0 by omega)] at this
 cases this
theorem root_nil{z:Int}(h:(((ofNat z.natAbs).length:Nat):Int)=((0:Nat):Int)):kN (uD z)=qF.mk false []:=by
 have e:ofNat z.natAbs=[]:=List.eq_nil_of_length_eq_zero (by omega)
 have e2:=iI.1 e
 have e3:z=0:=by omega
 subst e3
 have:uD 0=0:=by
  have:=rootI_self (z:=0) (by decide);have:=rootI_0 0;omega
 rw[this]
 show qF.mk (decide ((0:Int)<0)&&(Int.natAbs 0 != 0)) (ofNat (Int.natAbs 0))=_
 rw[show Int.natAbs 0=0 from rfl,uS];rfl
theorem nw_ok(X:Nat){r:List Nat}(hr:0<val r)(hX:0<X)(hc:¬ (0:Int)<=vK (((val (ofNat (val (ofNat (val r+val (ofNat (val (ofNat X) / val r)))) / 2)):Nat)):Int) ((val r:Nat):Int)) :
  yW (ofNat (val (ofNat (val r+val (ofNat (val (ofNat X) / val r)))) / 2))/\0<val (ofNat (val (ofNat (val r+val (ofNat (val (ofNat X) / val r)))) / 2))/\X<(val (ofNat (val (ofNat (val r+val (ofNat (val (ofNat X) / val r)))) / 2))+1)*(val (ofNat (val (ofNat (val r+val (ofNat (val (ofNat X) / val r)))) / 2))+1)/\val (ofNat (val (ofNat (val r+val (ofNat (val (ofNat X) / val r)))) / 2))<val r:=by
 rw[cmpI_ge0,nw_val] at hc
 refine ⟨qO _,?_,?_,?_⟩
 ·rw[nw_val];exact newton_pos hX hr
 ·rw[nw_val];exact newton_up hr
 ·rw[nw_val];omega
theorem nw_stop{X:Nat}{r:List Nat}(hc:(0:Int)<=vK (((val (ofNat (val (ofNat (val r+val (ofNat (val (ofNat X) / val r)))) / 2)):Nat)):Int) ((val r:Nat):Int)):val r<=(val r+X / val r) / 2:=by
 rw[cmpI_ge0,nw_val] at hc;omega
theorem can_len{r s:List Nat}(hr:yW r)(hs:yW s)(h:val r<=val s):r.length<=s.length:=by
 rw[can_eq hr,can_eq hs];exact vQ h
theorem nw_lens{X:Nat}{r:List Nat}(hx:(ofNat X).length<=400)(hr:r.length<=400)(hc:yW r):(ofNat (val (ofNat X) / val r)).length<=400/\(ofNat (val r+val (ofNat (val (ofNat X) / val r)))).length<=401/\(ofNat (val (ofNat (val r+val (ofNat (val (ofNat X) / val r)))) / 2)).length<=401:=by
 have h1:(ofNat (val (ofNat X) / val r)).length<=400:=by
  rw[kL];exact Nat.le_trans (vQ (Nat.div_le_self _ _)) hx
 have h2:(ofNat (val r+val (ofNat (val (ofNat X) / val r)))).length<=401:=by
  apply uL
  have a1:=xM hc.1
  have a2:=bD (val (ofNat X) / val r)
  have a3:pw r.length<=pw 400:=nH hr
  have a4:pw (ofNat (val (ofNat X) / val r)).length<=pw 400:=nH h1
  rw[kL (val (ofNat X) / val r),vE]
  omega
 refine ⟨h1,h2,?_⟩
 have h3:=kL (val r+val (ofNat (val (ofNat X) / val r)))
 exact Nat.le_trans (vQ (by rw[h3];exact Nat.div_le_self _ _)) h2
theorem dM{k:Nat}(h:k<=512):gQ (kN ((2 ^ k:Nat):Int)) ((2 ^ k:Nat):Int) 20:=cI (by
 rw[cS,Int.natAbs_natCast]
 refine Nat.lt_of_le_of_lt (Nat.pow_le_pow_right (by decide) h) ?_
 unfold pw
 decide +kernel)
theorem fF{k:Nat}(h:k<=512):QL (((2 ^ k:Nat):Int):Rat) 20:=vS (dM h).ln (by decide)
def cE(x:Rat):Int:=x.num.fdiv ((x.den:Nat):Int)
theorem bF{x:Rat}{n k:Nat}(h:QL x n)(hk:n+1<=k:=by decide):gQ (kN (cE x)) (cE x) k:=cI (Nat.le_trans (lenZ_fdiv _ _) (Nat.le_trans (Nat.succ_le_succ h.1) hk))
theorem flZ_floor(x:Rat):cE x=x.floor:=by
 unfold cE;rw[Rat.floor_def,Int.fdiv_eq_ediv_of_nonneg _ (by omega)]
theorem fl_nn{x:Rat}(h:0<=x):0<=cE x:=by
 rw[flZ_floor,Rat.le_floor_iff];exact h
theorem iA{x:Rat}{k:Nat}(h:0<=x):0<=x*((((2 ^ k:Nat):Int):Rat)*(((2 ^ k:Nat):Int):Rat)):=by
 have h2:(0:Rat)<=(((2 ^ k:Nat):Int):Rat):=by
  rw[<- Rat.intCast_zero];exact Rat.intCast_le_intCast.2 (Int.le_of_lt (two_pos k))
 exact Rat.mul_nonneg h (Rat.mul_nonneg h2 h2)
theorem sgn_nn{x:Rat}(h:0<=x):¬ (mJ x)<0:=by
 unfold mJ
 have h2:0<=x.num:=Rat.num_nonneg.2 h
 unfold uK
 by_cases e:x.num=0
 ·rw[if_pos e];decide
 ·rw[if_neg e,if_neg (by omega)];decide
def upI(y:Rat):Int:=if ((uD (cE y)*uD (cE y):Int):Rat)<y then uD (cE y)+1 else uD (cE y)
theorem iok_upI{y:Rat}{n k:Nat}(h:0<=cE y)(hz:gQ (kN (cE y)) (cE y) n)(hk:n+1<=k:=by decide)(hn:1<=n:=by decide):gQ (kN (upI y)) (upI y) k:=cI (by
 have h1:=(iok_root h hz).ln
 unfold upI
 by_cases e:((uD (cE y)*uD (cE y):Int):Rat)<y
 ·rw[if_pos e]
  exact lenZ_add h1 (vF (z:=1)) (by omega)
 ·rw[if_neg e];omega)
theorem cmpQ_ltR{a b:Rat}:yB a b<0↔a<b:=by
 unfold yB
 by_cases h:a<b
 ·rw[if_pos h];exact ⟨fun _=>h,fun _=>by decide⟩
 ·rw[if_neg h];refine ⟨fun hh=>?_,fun hh=>absurd hh h⟩
  by_cases h2:b<a
  ·rw[if_pos h2] at hh;exact absurd hh (by decide)
  ·rw[if_neg h2] at hh;exact absurd hh (by decide)
theorem upI_t{y:Rat}(h:yB ((uD (cE y)*uD (cE y):Int):Rat) y<0):upI y=uD (cE y)+1:=if_pos (cmpQ_ltR.1 h)
theorem upI_f{y:Rat}(h:¬ yB ((uD (cE y)*uD (cE y):Int):Rat) y<0):upI y=uD (cE y):=if_neg (fun hh=>h (cmpQ_ltR.2 hh))
theorem p2_ne(k:Nat):(((2 ^ k:Nat):Int):Rat)≠0:=by
 intro h
 have:((2 ^ k:Nat):Int)=0:=by rw[<- Rat.intCast_zero] at h;exact Rat.intCast_inj.1 h
 have:=two_pos k;omega
theorem divP(a:Int)(k:Nat):Rat.divInt a ((2 ^ k:Nat):Int)=((a:Int):Rat) / (((2 ^ k:Nat):Int):Rat):=by rw[Rat.divInt_eq_div]
theorem p2_pos(k:Nat):(0:Rat)<(((2 ^ k:Nat):Int):Rat):=by
 rw[<- Rat.intCast_zero];exact Rat.intCast_lt_intCast.2 (two_pos k)
theorem divP_le{a:Int}{k:Nat}{c:Rat}(h:((a:Int):Rat)<=c*(((2 ^ k:Nat):Int):Rat)):Rat.divInt a ((2 ^ k:Nat):Int)<=c:=by
 rw[divP,<- Rat.not_lt,Rat.lt_div_iff (p2_pos k),Rat.not_lt];exact h
theorem flZ_le(x:Rat):((cE x:Int):Rat)<=x:=by rw[flZ_floor];exact Rat.floor_le x
theorem divP_mul(a:Int)(k:Nat):Rat.divInt a ((2 ^ k:Nat):Int)*(((2 ^ k:Nat):Int):Rat)=((a:Int):Rat):=by
 rw[divP,Rat.div_mul_cancel (p2_ne k)]
theorem rt_lo{y:Rat}(hy:0<=y):((uD (cE y)*uD (cE y):Int):Rat)<=y:=Rat.le_trans (Rat.intCast_le_intCast.2 (rootI_le (fl_nn hy))) (flZ_le y)
theorem upI_nn(y:Rat):0<=upI y:=by
 have:=rootI_0 (cE y)
 unfold upI;split<;>omega
theorem rt_hi{y:Rat}(hy:0<=y):y<=((upI y*upI y:Int):Rat):=by
 unfold upI
 by_cases e:((uD (cE y)*uD (cE y):Int):Rat)<y
 ·rw[if_pos e]
  have h1:=lt_rootI (fl_nn hy)
  have h2:y<((cE y+1:Int):Rat):=by rw[flZ_floor];exact Rat.lt_floor_add_one y
  exact Rat.le_trans (Rat.le_of_lt h2) (Rat.intCast_le_intCast.2 h1)
 ·rw[if_neg e];exact Rat.not_lt.1 e
theorem sq_int{a b:Int}(b0:0<=b)(h:a*a<=b*b):a<=b:=by
 by_cases hh:a<=b
 ·exact hh
 ·have h1:b<a:=by omega
  have h2:b*b<a*a:=by
   have q1:b*b<=b*a:=Int.mul_le_mul_of_nonneg_left (by omega) b0
   have q2:b*a<a*a:=Int.mul_lt_mul_of_pos_right h1 (by omega)
   omega
  omega
theorem rt_valid{p q:Rat}(k:Nat)(hp:0<=p)(h:p<=q):Rat.divInt (uD (cE (p*((((2 ^ k:Nat):Int):Rat)*(((2 ^ k:Nat):Int):Rat))))) ((2 ^ k:Nat):Int)<=Rat.divInt (upI (q*((((2 ^ k:Nat):Int):Rat)*(((2 ^ k:Nat):Int):Rat)))) ((2 ^ k:Nat):Int):=by
 refine divP_le ?_
 rw[divP_mul]
 refine Rat.intCast_le_intCast.2 (sq_int (upI_nn _) (Rat.intCast_le_intCast.1 ?_))
 have hq:0<=q:=Rat.le_trans hp h
 have hPP:(0:Rat)<=(((2 ^ k:Nat):Int):Rat)*(((2 ^ k:Nat):Int):Rat):=Rat.mul_nonneg (Rat.le_of_lt (p2_pos k)) (Rat.le_of_lt (p2_pos k))
 exact Rat.le_trans (rt_lo (iA hp)) (Rat.le_trans (Rat.mul_le_mul_of_nonneg_right h hPP) (rt_hi (iA hq)))
end Go.Fid
namespace Go.Proofs.YtnajallgoaiahaaGreatDoor
open Go.Fid
theorem in3:intB Tryz.prog 3=some .i64:=by kernel_rfl
theorem st9:strB Tryz.prog 9=true:=by kernel_rfl
theorem d_small :jO Tryz.prog 273 [(.val (.int .i64 (((2:Nat):Int))))] (.val (.string (ByteArray.mk #[50]))):=by
 refine qY Tryz.func273 ?_
 refine jB<|kx [] [] (zM<|zZ) ?_
 refine jB<|jB<|kx [(4,(vb true))] [] (zM<|zE (uP true xK)<|zZ) ?_
 refine uI ?_
 refine jB<|kx [(2,(.d (.val (.string (ByteArray.mk #[50])))))] [] (zM<|zM<|zE (vO 3 (hr:=by decide))<|zE (oSstr (l:=2) (h:=3) (r:=ByteArray.mk #[50]) st9)<|zM<|zZ) ?_
 refine jE ⟨_,(.tmp (d:=(.val (.string (ByteArray.mk #[50])))) rfl .nil),?_⟩
 rfl
theorem d_fmt :jO Tryz.prog 272 [(.val (.int .i64 (((2:Nat):Int)))),(.val (.int .i64 (((10:Nat):Int))))] (.val (.string (ByteArray.mk #[50]))):=by
 refine qY Tryz.func272 ?_
 refine jB<|kx [] [] (zM<|zZ) ?_
 refine jB<|jB<|kx [(11,(vb true))] [] (zM<|zE (uP true xR)<|zZ) ?_
 refine uI ?_
 refine jB<|jB<|kx [(17,(vb true))] [] (zM<|zE (uP true oLe)<|zM<|zM<|zE (uP true xK)<|zE yR<|zZ) ?_
 refine uI ?_
 refine jB<|kx [(4,(.d (.val (.string (ByteArray.mk #[50])))))] [] (zM<|zE (jV d_small)<|zM<|zZ) ?_
 refine jE ⟨_,(.tmp (d:=(.val (.string (ByteArray.mk #[50])))) rfl .nil),?_⟩
 rfl
theorem d_itoaI :jO Tryz.prog 271 [(.val (.int .i64 (((2:Nat):Int))))] (.val (.string (ByteArray.mk #[50]))):=by
 refine qY Tryz.func271 ?_
 refine jB<|kx [] [] (zM<|zZ) ?_
 refine jB<|kx [(2,(.d (.val (.string (ByteArray.mk #[50])))))] [] (zM<|zE (jV d_fmt)<|zM<|zZ) ?_
 refine jE ⟨_,(.tmp (d:=(.val (.string (ByteArray.mk #[50])))) rfl .nil),?_⟩
 rfl
theorem d_itoa :jO Tryz.prog 268 [(.val (.int .i64 (((2:Nat):Int))))] (.val (.string (ByteArray.mk #[50]))):=by
 refine qY Tryz.func268 ?_
 refine jB<|kx [] [] (zM<|zZ) ?_
 refine jB<|kx [(2,(.d (.val (.string (ByteArray.mk #[50])))))] [] (zM<|zE (jV d_itoaI)<|zM<|zZ) ?_
 refine jE ⟨_,(.tmp (d:=(.val (.string (ByteArray.mk #[50])))) rfl .nil),?_⟩
 rfl
theorem d_digits :jO Tryz.prog 265 [(.sl 140 1 (List.map jD [2]))] (.val (.int .i64 (((1:Nat):Int)))):=by
 refine qY Tryz.func265 ?_
 refine jB<|kx [] [] (zM<|zZ) ?_
 refine jB<|jB<|kx [(5,(vb false))] [] (zM<|zE (fO kO 1)<|zE (uP false xR)<|zZ) ?_
 refine kM ?_
 refine jC<|jB<|kx [(2,(jS 1))] [] (zM<|zE (fO kO 1)<|zE (oSb 0 (hr:=by decide))<|zE (oMl 0 (hr:=by decide))<|zM<|zM<|zE (fO kO 1)<|zE (oSb 0 (hr:=by decide))<|zE (oXs kO 0)<|zE (yV uB)<|zE (cM gN in3 2)<|zE (jV d_itoa)<|zE (oLstr st9 1)<|zE (vO 1 (hr:=by decide))<|zM<|zZ) ?_
 refine jE ⟨_,(.tmp (d:=(.val (.int .i64 (((1:Nat):Int))))) rfl .nil),?_⟩
 rfl
theorem d_pow(n:Nat)(hn:n<=1024):jO Tryz.prog 256 [(jX (kN 2)),(.val (.int .i64 (((n:Nat):Int))))] (.tup [(jX (kN ((2 ^ n:Nat):Int))),(.val (.int .i64 (0)))]):=by
 have hg2:=g2len
 refine qY Tryz.func256 ?_
 refine jB<|kx [(2,(.ref 0 0)),(4,(.ref 1 0))] [(0,some (bx (jX (kN 2)))),(1,some (bx (jX (qF.mk false []))))] (zN (uU 0)<|zN (qR 1 gE gF)<|zM<|zZ) ?_
 refine jB<|kx [(6,(vl 140 1 jD [2]))] [] (zR (kJ kC)<|zE (oQd (.sl 140 1 (List.map jD (kY (kN 2)))) (.sl 140 1 (List.map jD [2])) (jV (nD (kN 2) (by omega))) (by exact (congrArg (fun l=>jZ.sl 140 1 (List.map jD l)) g2)))<|zM<|zZ) ?_
 refine jB<|jH<|jB<|kx [(11,(vb false))] [] (zM<|zE (uP false xK (by exact decide_eq_false (show ¬ ((n:Nat):Int)<0 by omega)))<|zM<|zM<|zE (uP false hH (by exact decide_eq_false (show ¬ 4096<((n:Nat):Int) by omega)))<|zE xQ<|zM<|zZ) ?_
 refine kM ?_
 refine jB<|kx [(19,(vb false))] [] (zM<|zM<|zE (jV d_digits)<|zE (oMl (n*1))<|zE (uP false hH (by exact decide_eq_false (show ¬ 20000<(((n*1):Nat):Int) by omega)))<|zM<|zZ) ?_
 refine kM ?_
 refine jC<|jB<|kx [(7,(vl 140 1 jD [1]))] [] (zE (eE kO xB yZ)<|zM<|zZ) ?_
 refine jB<|jB<|kx [(8,(jS 4096))] [] (zM<|zZ) ?_
 refine jH<|kF (α:=Nat × Nat × List Nat) (fun (i,b,out)=>⟨[(1,(jS n)),(2,(.ref 0 0)),(4,(.ref 1 0)),(6,(vl 140 1 jD [2])),(7,(vl 140 1 jD out)),(8,(jS b))],[(0,some (bx (jX (kN 2)))),(1,some (bx (jX (qF.mk false []))))]⟩) (fun (i,b,out)=>i<=13/\b=4096 / 2 ^ i/\out=ofNat (pwS n i)) (fun (i,b,out)=>13-i) (0,4096,[1]) wk ⟨Nat.zero_le _,rfl,pwS_0 (by omega)⟩ ?_
 rintro ⟨i,b,out⟩ ⟨hi,hbi,ho⟩
 have hdo:Dig out:=ho▸kP _
 have hlo:out.length<=4097:=ho▸len_pwS (by omega) i
 have hdt:Dig [2]:=by intro d hd;rw[List.mem_singleton.1 hd];decide
 have hvo:val out=pwS n i:=by rw[ho,kL]
 have hbl:b<=4096:=hbi▸Nat.div_le_self _ _
 have hdq:Dig (ofNat (val out*val out)):=kP _
 have hl2:[2].length<=1:=Nat.le_refl _
 refine jB<|jB<|kx [(28,(vb (decide (0<((b:Nat):Int)))))] [] (zM<|zE hH<|zZ) ?_
 refine jG (b:=decide (0<((b:Nat):Int))) rfl (fun h1=>?_) (fun h1=>?_)
 ·replace h1:=uV h1
  have hi2:=bit_pos hi (hbi▸h1)
  have hlq:=len_sq hvo (show n<=4096 by omega) hi2
  refine jC<|jB<|jH<|jB<|kx [(7,(vl 140 1 jD (ofNat (val out*val out))))] [] (zM<|zM<|zE (jV (t_times out out (by assumption) (by assumption) (by omega) (by omega)))<|zM<|zZ) ?_
  refine jB<|kx [(37,(vb ((((n &&& b):Nat):Int) != 0)))] [] (zM<|zM<|zE (oAb (n &&& b))<|zE mF<|zZ) ?_
  refine jG (b:=((((n &&& b):Nat):Int) != 0)) rfl (fun h2=>?_) (fun h2=>?_)
  ·replace h2:=bne_iff_ne.1 h2
   refine kx [(7,(vl 140 1 jD (ofNat (val (ofNat (val out*val out))*val [2]))))] [] (zM<|zM<|zE (jV (t_times (ofNat (val out*val out)) [2] (by assumption) (by assumption) (by omega) (by omega)))<|zM<|zZ) ?_
   refine kx [(8,(jS (b / 2)))] [] (zM<|zE (e_shr (n:=1) (((b / 2):Nat):Int) (hr:=shr1 _))<|zM<|zZ) ?_
   exact ⟨(i+1,b / 2,ofNat (val (ofNat (val out*val out))*val [2])),wk,⟨by omega,by rw[hbi];exact bit_half i,by rw[kL,hvo,<- pwS_odd hi2 (by rw[<- hbi];omega)];rfl⟩,(by first|omega|(dsimp only;omega))⟩
  ·replace h2:=bne_eq_false_iff_eq.1 h2
   refine jC<|kx [(8,(jS (b / 2)))] [] (zM<|zE (e_shr (n:=1) (((b / 2):Nat):Int) (hr:=shr1 _))<|zM<|zZ) ?_
   exact ⟨(i+1,b / 2,ofNat (val out*val out)),wk,⟨by omega,by rw[hbi];exact bit_half i,by rw[hvo,pwS_even hi2 (by rw[<- hbi];omega)]⟩,(by first|omega|(dsimp only;omega))⟩
 ·replace h1:=vB h1
  have hi13:=bit_end hi (hbi▸h1)
  refine kD<|jB<|kx [(5,(jS 0))] [(1,some (bx (jX (xT ((kN 2).neg&&((((n % 2):Nat):Int) == 1)) (val out)))))] ?_ ?_
  ·refine zE (kV vZ)<|zR (uE iP)<|zE (oV (vb ((kN 2).neg)) (qC (by kernel_rfl)))<|?_
   rcases hb3:((kN 2).neg) with _ | _
   ·exact zK<|zK<|zK<|zE xQ<|zM<|zE (jV (cK false out (by assumption) (by omega)))<|zT (qA kC)<|zM<|zZ
   ·exact zM<|zE (oRe (n % 2))<|zE xR<|zE fR<|zM<|zE (jV (cK (true&&((((n % 2):Nat):Int) == 1)) out (by assumption) (by omega)))<|zT (qA kC)<|zM<|zZ
  refine jE ⟨_,(kI (cs:=(bx (jX (xT ((kN 2).neg&&((((n % 2):Nat):Int) == 1)) (val out))))) (d:=(jX (xT ((kN 2).neg&&((((n % 2):Nat):Int) == 1)) (val out)))) rfl rfl kC rfl rfl (.tmp (d:=(.val (.int .i64 (0)))) rfl .nil)),?_⟩
  rw[ho,hi13,neg2,Bool.false_and,mk_two];rfl
theorem d_root(z:Int)(hz:gQ (kN z) z 200)(hz0:0<=z):jO Tryz.prog 231 [(jX (kN z))] (.tup [(jX (kN (uD z))),(.val (.int .i64 (0)))]):=by
 have hzl:(ofNat z.natAbs).length<=200:=hz.ln
 have hzg:=hz.l
 refine qY Tryz.func231 ?_
 refine jB<|kx [(1,(.ref 0 0)),(2,(.ref 1 0))] [(0,some (bx (jX (kN z)))),(1,some (bx (jX (qF.mk false []))))] (zN (uU 0)<|zN (qR 1 gE gF)<|zM<|zZ) ?_
 refine jB<|kx [(4,(vl 140 1 jD (ofNat (Int.natAbs z))))] [] (zR (kJ kC)<|zE (oQd (.sl 140 1 (List.map jD (kY (kN z)))) (.sl 140 1 (List.map jD (ofNat (Int.natAbs z)))) (jV (nD (kN z) (by omega))) (by exact (congrArg (fun l=>jZ.sl 140 1 (List.map jD l)) (grpI_ofZ z))))<|zM<|zZ) ?_
 refine jB<|jB<|kx [(14,(vb ((((ofNat (Int.natAbs z)).length:Nat):Int) == 0)))] [] (zM<|zE (vP kO (L:=(ofNat (Int.natAbs z))))<|zE xR<|zZ) ?_
 refine jG rfl (fun h1=>?_) (fun h1=>?_)
 ·replace h1:=eq_of_beq h1
  refine jB<|kx [(3,(jS 0))] [(1,some (bx (jX (qF.mk false []))))] (zE (eD pl43 gE gF)<|zT (qA kC)<|zM<|zZ) ?_
  refine jE ⟨_,(kI (cs:=(bx (jX (qF.mk false [])))) (d:=(jX (qF.mk false []))) rfl rfl kC rfl rfl (.tmp (d:=(.val (.int .i64 (0)))) rfl .nil)),?_⟩
  rw[root_nil h1];rfl
 ·replace h1:=ne_of_beq_false h1
  refine jC<|jB<|jB<|kx [(17,(vb ((kN z).neg)))] [] (zE (kV vZ)<|zR (uE iP)<|zZ) ?_
  refine jG (b:=(kN z).neg) rfl (fun h2=>?_) (fun h2=>?_)
  ·exact (neg_abs hz0 h2).elim
  ·have hX:0<z.natAbs:=by rcases Nat.eq_zero_or_pos z.natAbs with e | e;exact absurd (by rw[e,uS];rfl) h1;exact e
   refine jC<|jB<|kf [(5,(.own 2 140 1 (((List.replicate (((ofNat (Int.natAbs z)).length+1) / 2) 0)++[1]).length)))] [(2,some (bm jD ((List.replicate (((ofNat (Int.natAbs z)).length+1) / 2) 0)++[1])))] (zM<|zE (vP kO (L:=(ofNat (Int.natAbs z))))<|zE (vO ((ofNat (Int.natAbs z)).length+1))<|zE (oQu (((ofNat (Int.natAbs z)).length+1) / 2))<|zN (oMk 2 jD (0:Nat) (((ofNat (Int.natAbs z)).length+1) / 2) (((ofNat (Int.natAbs z)).length+1) / 2) kO xB yZ mI)<|zE (eE kO xB yZ)<|zA jD (List.replicate (((ofNat (Int.natAbs z)).length+1) / 2) 0) [1] (by rw[List.length_replicate]) kO xB mI<|zM<|zF) ?_
   refine jH<|kU (xC (t:=5) (k:=2) (es:=List.map jD ((List.replicate (((ofNat (Int.natAbs z)).length+1) / 2) 0)++[1])) rfl rfl (vD _ _ (fun _=>rfl)) (uW _ _ rfl) (xE _ _ (fun _=>rfl) rfl)) ?_
   refine kF (α:=List Nat) (fun r=>⟨[(2,(.ref 1 0)),(4,(vl 140 1 jD (ofNat (Int.natAbs z)))),(5,(vl 140 1 jD r))],[(1,some (bx (jX (qF.mk false []))))]⟩) (fun r=>(yW r/\0<val r/\z.natAbs<(val r+1)*(val r+1))/\r.length<=400) (fun r=>val r) (List.replicate (((ofNat z.natAbs).length+1) / 2) 0++[1]) wk ⟨⟨nw_cano _,by rw[nw_start];exact pw_pos _,nw_top⟩,by simp;omega⟩ ?_
   rintro r ⟨⟨hcr,hr0,hru⟩,hrl⟩
   have hcg:yW (ofNat z.natAbs):=qO _
   have hdr:=hcr.1
   obtain ⟨q1,q2,q3⟩:=nw_lens (X:=z.natAbs) (by omega) hrl hcr
   have hdq:Dig (ofNat (val (ofNat z.natAbs) / val r)):=kP _
   have hds:Dig (ofNat (val r+val (ofNat (val (ofNat z.natAbs) / val r)))):=kP _
   have hcn:yW (ofNat (val (ofNat (val r+val (ofNat (val (ofNat (Int.natAbs z)) / val r)))) / 2)):=qO _
   refine jH<|jB<|kx [(6,(vl 140 1 jD (ofNat (val (ofNat (Int.natAbs z)) / val r))))] [] (zM<|zM<|zE (jV (t_over (ofNat (Int.natAbs z)) r (by assumption) (by assumption) (by omega) (by omega) (by omega)))<|zM<|zE uX<|zE uX<|zM<|zM<|zZ) ?_
   refine jB<|kx [(8,(vl 140 1 jD (ofNat (val (ofNat (val r+val (ofNat (val (ofNat (Int.natAbs z)) / val r)))) / 2))))] [] (zM<|zM<|zE (jV (t_plus r (ofNat (val (ofNat (Int.natAbs z)) / val r)) (by assumption) (by assumption) (by omega) (by omega)))<|zE (jV (t_short (ofNat (val r+val (ofNat (val (ofNat (Int.natAbs z)) / val r)))) 2 (by assumption) (by omega) (by omega) (by omega)))<|zM<|zE uX<|zE uX<|zM<|zM<|zZ) ?_
   refine jB<|jB<|kx [(42,(vb (decide (0<=(vK ((val (ofNat (val (ofNat (val r+val (ofNat (val (ofNat (Int.natAbs z)) / val r)))) / 2)):Nat):Int) ((val r:Nat):Int))))))] [] (zM<|zM<|zE (jV (t_compare (ofNat (val (ofNat (val r+val (ofNat (val (ofNat (Int.natAbs z)) / val r)))) / 2)) r (by assumption) (by assumption) (by omega)))<|zE oGe<|zZ) ?_
   refine jG rfl (fun h3=>?_) (fun h3=>?_)
   ·replace h3:=uV h3
    refine jB<|kx [(3,(jS 0))] [(1,some (bx (jX (xT false (val r)))))] (zM<|zE (jV (cK false r (by assumption) (by omega)))<|zT (qA kC)<|zM<|zZ) ?_
    refine jE ⟨_,(kI (cs:=(bx (jX (xT false (val r))))) (d:=(jX (xT false (val r)))) rfl rfl kC rfl rfl (.tmp (d:=(.val (.int .i64 (0)))) rfl .nil)),?_⟩
    rw[nw_end hz0 hr0 hru (nw_stop h3)];rfl
   ·replace h3:=vB h3
    refine jC<|kx [(5,(vl 140 1 jD (ofNat (val (ofNat (val r+val (ofNat (val (ofNat (Int.natAbs z)) / val r)))) / 2))))] [] (zM<|zM<|zZ) ?_
    exact ⟨(ofNat (val (ofNat (val r+val (ofNat (val (ofNat (Int.natAbs z)) / val r)))) / 2)),wk,(by obtain ⟨n1,n2,n3,n4⟩:=nw_ok z.natAbs hr0 hX h3;exact ⟨⟨n1,n2,n3⟩,Nat.le_trans (can_len n1 hcr (Nat.le_of_lt n4)) hrl⟩),(by obtain ⟨n1,n2,n3,n4⟩:=nw_ok z.natAbs hr0 hX h3;exact n4)⟩
theorem d_floor(x:Rat)(hx:QL x 200):jO Tryz.prog 232 [(jJ (jN x))] (jX (kN (cE x))):=by
 refine qY Tryz.func232 ?_
 refine jB<|kx [(1,(.ref 0 0)),(2,(.ref 1 0))] [(0,some (bx (jJ (jN x)))),(1,some (bx (jX (qF.mk false []))))] (zN (uU 0)<|zN (qR 1 gE gF)<|zZ) ?_
 refine jB<|kx [] [(0,some (bx (jJ (jN x))))] (zR (kJ jQ)<|zE (jV (dS (jN x) x (jM (jW hx))))<|zT (qA jQ)<|zZ) ?_
 refine jB ?_
 have bn1:gQ (kN (x.num.fdiv (x.den:Int))) (x.num.fdiv (x.den:Int)) 201:=(iok_fdiv (k:=201) (uM hx) (uH hx) (by decide))
 refine kx [(3,(.ref 2 0))] [(2,some (bx (jX (kN (x.num.fdiv (x.den:Int)))))),(3,none)] (zE (kV zB)<|zR (kJ kC)<|zE (kV xI)<|zR (kJ kC)<|zE (jV (s_divide (uM hx) (uH hx) (by decide) (by decide) (by have:=x.den_nz;omega)))<|zM<|zE uX<|zE uX<|zE uX<|zN (qR 2 gE gF)<|zN (qR 3 gE gF)<|zT (qA kC)<|zT (qA kC)<|zM<|zZ) ?_
 refine jB<|kx [] [(1,some (bx (jX (kN (x.num.fdiv (x.den:Int))))))] (zR (kJ kC)<|zT (qA kC)<|zZ) ?_
 refine jE ⟨_,(kI (cs:=(bx (jX (kN (x.num.fdiv (x.den:Int)))))) (d:=(jX (kN (x.num.fdiv (x.den:Int))))) rfl rfl kC rfl rfl .nil),?_⟩
 rfl
theorem d_scaled(x:Rat)(hx:QL x 100)(k:Nat)(hk:k<=512):jO Tryz.prog 230 [(jJ (jN x)),(.val (.int .i64 (((k:Nat):Int))))] (.tup [(jJ (jN (x*(yC k)))),(jX (kN ((2 ^ k:Nat):Int))),(.val (.int .i64 (0)))]):=by
 refine qY Tryz.func230 ?_
 refine jB<|kx [(2,(.ref 0 0)),(4,(.ref 1 0)),(5,(.ref 2 0))] [(0,some (bx (jJ (jN x)))),(1,some (bx (jJ kH))),(2,some (bx (jX (qF.mk false []))))] (zN (uU 0)<|zN (qR 1 qZ uG)<|zN (qR 2 gE gF)<|zM<|zZ) ?_
 refine jB<|jB<|kx [(14,(vb false))] [] (zM<|zE (uP false xK (by exact decide_eq_false (show ¬ ((k:Nat):Int)<0 by omega)))<|zM<|zM<|zE (uP false hH (by exact decide_eq_false (show ¬ 512<((k:Nat):Int) by omega)))<|zE xQ<|zZ) ?_
 refine kM ?_
 refine jC<|jB<|kx [(7,(.ref 3 0))] [(3,some (bx (jX (kN ((2 ^ k:Nat):Int)))))] (zE (jV (t_of 2))<|zM<|zE (jV (d_pow k (by omega)))<|zM<|zE uX<|zE uX<|zN (qR 3 gE gF)<|zT (qA kC)<|zM<|zZ) ?_
 refine jB ?_
 have bn1:QL (x*(yC k)) 120:=(qD (k:=120) hx (fF (k:=k) (by omega)))
 refine kd [(6,(jS 0))] [(1,some (bx (jJ (jN (x*(yC k)))))),(2,some (bx (jX (kN ((2 ^ k:Nat):Int)))))] mo (wR (kJ jQ)<|wR (kJ kC)<|wE (jV (t_of 1))<|wE (oQd (jJ (jR.mk (kN ((2 ^ k:Nat):Int)) (kN 1))) (jJ (jN (yC k))) (eD pl45 qZ uG) (by exact rfl))<|wE (jV (fK (jN x) (jN (yC k)) x (yC k) (jM (jW hx)) (jM (jW (fF (k:=k) (by omega))))))<|wR (kJ kC)<|wT (qA jQ)<|wT (qA kC)<|wM<|wZ) ?_
 refine jE ⟨_,(kI (cs:=(bx (jJ (jN (x*(yC k)))))) (d:=(jJ (jN (x*(yC k))))) rfl rfl jQ rfl rfl (kI (cs:=(bx (jX (kN ((2 ^ k:Nat):Int))))) (d:=(jX (kN ((2 ^ k:Nat):Int)))) rfl rfl kC rfl rfl (.tmp (d:=(.val (.int .i64 (((0:Nat):Int))))) rfl .nil))),?_⟩
 rfl
end Go.Proofs.YtnajallgoaiahaaGreatDoor
namespace Go.Fid
def stnP(x y z u v f:Int):Prop:=(-1048576<=x/\x<=1048576)/\(-1048576<=y/\y<=1048576)/\(-1048576<=z/\z<=1048576)/\(-1048576<=u/\u<=1048576)/\(-1048576<=v/\v<=1048576)/\(1<=f/\f<=1048576)
instance {x y z u v f:Int}:Decidable (stnP x y z u v f):=by unfold stnP;infer_instance
def nq(a b c d:Int):Int:=(((a*a)+(b*b))+(c*c))+(d*d)
def N4(a b c d:Int):Rat:=((nq a b c d:Int):Rat)
def r02(a b c d:Int):Int:=2*((b*d)+(a*c))
def R02(a b c d:Int):Rat:=((r02 a b c d:Int):Rat)
def r12(a b c d:Int):Int:=2*((c*d)-(a*b))
def R12(a b c d:Int):Rat:=((r12 a b c d:Int):Rat)
def r22(a b c d:Int):Int:=(((a*a)-(b*b))-(c*c))+(d*d)
def R22(a b c d:Int):Rat:=((r22 a b c d:Int):Rat)
theorem ql_eqz{x y:Rat}{n:Nat}(h:x=y)(hy:QL y n):QL x n:=h▸hy
def gcd3(a b c:Rat):Int:=((Int.gcd a.num ((Int.gcd b.num c.num:Nat):Int):Nat):Int)
def redK(a b c:Rat):Rat:=Rat.divInt 1 (gcd3 a b c)
def dq0(a b c d p q r s:Int):Rat:=(R02 a b c d*N4 p q r s)+(R02 p q r s*N4 a b c d)
def dq1(a b c d p q r s:Int):Rat:=(R12 a b c d*N4 p q r s)+(R12 p q r s*N4 a b c d)
def dq2(a b c d p q r s:Int):Rat:=(R22 a b c d*N4 p q r s)+(R22 p q r s*N4 a b c d)
def RFr(lx ly lz la lb lc ld rx ry rz ra rb rc rd:Int)(b0 b1 b2 e00 e01 e02 e10 e11 e12 e20 e21 e22:Rat):Prop :=
 (((rx-lx):Int):Rat)=b0 /\
 (((ry-ly):Int):Rat)=b1 /\
 (((rz-lz):Int):Rat)=b2 /\
 b0*redK b0 b1 b2=e00 /\
 b1*redK b0 b1 b2=e01 /\
 b2*redK b0 b1 b2=e02 /\
 (((dq1 la lb lc ld ra rb rc rd)*e02)-((dq2 la lb lc ld ra rb rc rd)*e01))*redK (((dq1 la lb lc ld ra rb rc rd)*e02)-((dq2 la lb lc ld ra rb rc rd)*e01)) (((dq2 la lb lc ld ra rb rc rd)*e00)-((dq0 la lb lc ld ra rb rc rd)*e02)) (((dq0 la lb lc ld ra rb rc rd)*e01)-((dq1 la lb lc ld ra rb rc rd)*e00))=e10 /\
 (((dq2 la lb lc ld ra rb rc rd)*e00)-((dq0 la lb lc ld ra rb rc rd)*e02))*redK (((dq1 la lb lc ld ra rb rc rd)*e02)-((dq2 la lb lc ld ra rb rc rd)*e01)) (((dq2 la lb lc ld ra rb rc rd)*e00)-((dq0 la lb lc ld ra rb rc rd)*e02)) (((dq0 la lb lc ld ra rb rc rd)*e01)-((dq1 la lb lc ld ra rb rc rd)*e00))=e11 /\
 (((dq0 la lb lc ld ra rb rc rd)*e01)-((dq1 la lb lc ld ra rb rc rd)*e00))*redK (((dq1 la lb lc ld ra rb rc rd)*e02)-((dq2 la lb lc ld ra rb rc rd)*e01)) (((dq2 la lb lc ld ra rb rc rd)*e00)-((dq0 la lb lc ld ra rb rc rd)*e02)) (((dq0 la lb lc ld ra rb rc rd)*e01)-((dq1 la lb lc ld ra rb rc rd)*e00))=e12 /\
 ((e01*e12)-(e02*e11))*redK ((e01*e12)-(e02*e11)) ((e02*e10)-(e00*e12)) ((e00*e11)-(e01*e10))=e20 /\
 ((e02*e10)-(e00*e12))*redK ((e01*e12)-(e02*e11)) ((e02*e10)-(e00*e12)) ((e00*e11)-(e01*e10))=e21 /\
 ((e00*e11)-(e01*e10))*redK ((e01*e12)-(e02*e11)) ((e02*e10)-(e00*e12)) ((e00*e11)-(e01*e10))=e22
instance {lx ly lz la lb lc ld rx ry rz ra rb rc rd:Int} {b0 b1 b2 e00 e01 e02 e10 e11 e12 e20 e21 e22:Rat}:Decidable (RFr lx ly lz la lb lc ld rx ry rz ra rb rc rd b0 b1 b2 e00 e01 e02 e10 e11 e12 e20 e21 e22):=by unfold RFr;infer_instance
section
variable {lx ly lz la lb lc ld rx ry rz ra rb rc rd:Int} {b0 b1 b2 e00 e01 e02 e10 e11 e12 e20 e21 e22:Rat}
end
end Go.Fid
namespace Go.Proofs.YtnajallgoaiahaaGreatDoor
open Go.Fid
theorem d_froot(x:Rat)(hx:QL x 100)(k:Nat)(hk:k<=512)(hx0:0<=x):jO Tryz.prog 151 [(jJ (jN x)),(.val (.int .i64 (((k:Nat):Int))))] (.tup [(jJ (jN (Rat.divInt (uD (cE (x*((yC k)*(yC k))))) ((2 ^ k:Nat):Int)))),(jJ (jN (Rat.divInt (upI (x*((yC k)*(yC k)))) ((2 ^ k:Nat):Int)))),(.val (.int .i64 (0)))]):=by
 have hp0:((2 ^ k:Nat):Int)≠0:=Int.ne_of_gt (two_pos k)
 let y5:=(kN (uD (cE (x*((yC k)*(yC k))))))
 let y4:=(jJ (jN (Rat.divInt (uD (cE (x*((yC k)*(yC k))))) ((2 ^ k:Nat):Int))))
 let y3:=(bx y4)
 let y2:=(jJ (jN (Rat.divInt ((uD (cE (x*((yC k)*(yC k)))))+1) ((2 ^ k:Nat):Int))))
 let y1:=(jN (((uD (cE (x*((yC k)*(yC k)))))*(uD (cE (x*((yC k)*(yC k))))):Int):Rat))
 refine qY Tryz.func151 ?_
 refine jB<|kx [(2,(.ref 0 0)),(4,(.ref 1 0)),(5,(.ref 2 0))] [(0,some (bx (jJ (jN x)))),(1,some (bx (jJ kH))),(2,some (bx (jJ kH)))] (zN (uU 0)<|zN (qR 1 qZ uG)<|zN (qR 2 qZ uG)<|zM<|zZ) ?_
 refine jB ?_
 have bn1:QL (x*(yC k)) 120:=(qD (k:=120) hx (fF (k:=k) (by omega)))
 refine kx [(6,(vi 0)),(7,(.ref 3 0)),(8,(.ref 4 0))] [(3,some (bx (jJ (jN (x*(yC k)))))),(4,some (bx (jX (kN ((2 ^ k:Nat):Int)))))] (zR (kJ jQ)<|zM<|zE (jV (d_scaled x hx k (by omega)))<|zM<|zE uX<|zE uX<|zE uX<|zN (qR 3 qZ uG)<|zN (qR 4 gE gF)<|zT (qA jQ)<|zT (qA kC)<|zM<|zZ) ?_
 refine jB<|jB<|kx [(25,(vb false))] [] (zM<|zE (uP false mF)<|zM<|zR (kJ jQ)<|zE (jV (f_sign (jN x) x (jM (jW hx))))<|zE (uP false xK (by exact decide_eq_false (sgn_nn hx0)))<|zE xQ<|zZ) ?_
 refine kM ?_
 refine jC<|jB ?_
 have bn2:QL (x*((yC k)*(yC k))) 140:=(ql_eqz (Eq.symm (Rat.mul_assoc _ _ _)) (qD (k:=140) bn1 (fF (k:=k) (by omega))))
 refine kd [] [(3,some (bx (jJ (jN (x*((yC k)*(yC k)))))))] mo (wR (kJ jQ)<|wR (kJ kC)<|wE (jV (t_of 1))<|wE (oQd (jJ (jR.mk (kN ((2 ^ k:Nat):Int)) (kN 1))) (jJ (jN (yC k))) (eD pl45 qZ uG) (by exact rfl))<|wE (jV (by have h:=fK (jN (x*(yC k))) (jN (yC k)) (x*(yC k)) (yC k) (jM (jW bn1)) (jM (jW (fF (k:=k) (by omega))));rw[(Rat.mul_assoc _ _ _)] at h;exact h))<|wT (qA jQ)<|wZ) ?_
 refine jB ?_
 have bn3:gQ (kN (uD (cE (x*((yC k)*(yC k)))))) (uD (cE (x*((yC k)*(yC k))))) 141:=(iok_root (fl_nn (iA hx0)) (bF (k:=141) bn2))
 refine kx [(9,(.ref 5 0))] [(5,some (bx (jX y5)))] (zR (kJ jQ)<|zE (jV (d_floor (x*((yC k)*(yC k))) (qG bn2)))<|zE (jV (d_root (cE (x*((yC k)*(yC k)))) (gW (bF (k:=141) bn2)) (fl_nn (iA hx0))))<|zM<|zE uX<|zE uX<|zN (qR 5 gE gF)<|zT (qA kC)<|zM<|zZ) ?_
 refine jB<|kx [(11,(.ref 6 0))] [(6,some (bx (jX y5)))] (zR (kJ kC)<|zN (qR 6 gE gF)<|zT (qA kC)<|zZ) ?_
 refine jB<|jB<|kd [(47,(vb (decide ((yB (((uD (cE (x*((yC k)*(yC k)))))*(uD (cE (x*((yC k)*(yC k))))):Int):Rat) (x*((yC k)*(yC k))))<((0:Nat):Int)))))] [] mo (wR (kJ kC)<|wR (kJ kC)<|wE (jV (s_mul bn3 bn3))<|wE (jV (t_of 1))<|wE (oQd (jJ (jR.mk (kN ((uD (cE (x*((yC k)*(yC k)))))*(uD (cE (x*((yC k)*(yC k))))))) (kN 1))) (jJ y1) (eD pl45 qZ uG) (by exact rfl))<|wR (kJ jQ)<|wE (jV (dD y1 (jN (x*((yC k)*(yC k)))) (((uD (cE (x*((yC k)*(yC k)))))*(uD (cE (x*((yC k)*(yC k))))):Int):Rat) (x*((yC k)*(yC k))) (jM (jW (vS (z:=((uD (cE (x*((yC k)*(yC k)))))*(uD (cE (x*((yC k)*(yC k))))))) (n:=282) (gQ.ln (yN (k:=282) bn3 bn3))))) (jM (jW bn2))))<|wE xK<|wZ) ?_
 refine jG rfl (fun h1=>?_) (fun h1=>?_)
 ·replace h1:=uV h1
  have hup:=upI_t h1
  have bn4:gQ (kN ((uD (cE (x*((yC k)*(yC k)))))+1)) ((uD (cE (x*((yC k)*(yC k)))))+1) 142:=(iok_add (k:=142) bn3 (lA (z:=1)))
  refine kd [] [(6,some (bx (jX (kN ((uD (cE (x*((yC k)*(yC k)))))+1)))))] mo (wR (kJ kC)<|wE (jV (t_of 1))<|wE (jV (s_add bn3 (lA (z:=1))))<|wT (qA kC)<|wZ) ?_
  refine jB ?_
  have bn5:QL (Rat.divInt (uD (cE (x*((yC k)*(yC k))))) ((2 ^ k:Nat):Int)) 141:=(xX (n:=141) (Nat.le_trans (gQ.ln bn3) (by decide)) (Nat.le_trans (gQ.ln (dM (k:=k) (by omega))) (by decide)))
  have bn6:QL (Rat.divInt ((uD (cE (x*((yC k)*(yC k)))))+1) ((2 ^ k:Nat):Int)) 142:=(xX (n:=142) (Nat.le_trans (gQ.ln bn4) (by decide)) (Nat.le_trans (gQ.ln (dM (k:=k) (by omega))) (by decide)))
  refine kd [(6,(jS 0))] [(1,some y3),(2,some (bx y2))] mo (wR (kJ kC)<|wR (kJ kC)<|wE (jV (dH y5 (kN ((2 ^ k:Nat):Int)) (uD (cE (x*((yC k)*(yC k))))) ((2 ^ k:Nat):Int) (iu bn3) (gW (dM (k:=k) (by omega))) (by assumption)))<|wR (kJ kC)<|wR (kJ kC)<|wE (jV (dH (kN ((uD (cE (x*((yC k)*(yC k)))))+1)) (kN ((2 ^ k:Nat):Int)) ((uD (cE (x*((yC k)*(yC k)))))+1) ((2 ^ k:Nat):Int) (iu bn4) (gW (dM (k:=k) (by omega))) (by assumption)))<|wT (qA jQ)<|wT (qA jQ)<|wM<|wZ) ?_
  refine jE ⟨_,(kI (cs:=y3) (d:=y4) rfl rfl jQ rfl rfl (kI (cs:=(bx y2)) (d:=y2) rfl rfl jQ rfl rfl (.tmp (d:=(.val (.int .i64 (((0:Nat):Int))))) rfl .nil))),?_⟩
  rw[hup];rfl
 ·replace h1:=vB h1
  have hup:=upI_f h1
  refine jC<|jB ?_
  have bn7:QL (Rat.divInt (uD (cE (x*((yC k)*(yC k))))) ((2 ^ k:Nat):Int)) 141:=(xX (n:=141) (Nat.le_trans (gQ.ln bn3) (by decide)) (Nat.le_trans (gQ.ln (dM (k:=k) (by omega))) (by decide)))
  refine kd [(6,(jS 0))] [(1,some y3),(2,some y3)] mo (wR (kJ kC)<|wR (kJ kC)<|wE (jV (dH y5 (kN ((2 ^ k:Nat):Int)) (uD (cE (x*((yC k)*(yC k))))) ((2 ^ k:Nat):Int) (iu bn3) (gW (dM (k:=k) (by omega))) (by assumption)))<|wR (kJ kC)<|wR (kJ kC)<|wE (jV (dH y5 (kN ((2 ^ k:Nat):Int)) (uD (cE (x*((yC k)*(yC k))))) ((2 ^ k:Nat):Int) (iu bn3) (gW (dM (k:=k) (by omega))) (by assumption)))<|wT (qA jQ)<|wT (qA jQ)<|wM<|wZ) ?_
  refine jE ⟨_,(kI (cs:=y3) (d:=y4) rfl rfl jQ rfl rfl (kI (cs:=y3) (d:=y4) rfl rfl jQ rfl rfl (.tmp (d:=(.val (.int .i64 (((0:Nat):Int))))) rfl .nil))),?_⟩
  rw[hup];rfl
theorem di_root(p:Rat)(q:Rat)(hp:QL p 100)(hq:QL q 100)(hpq:p<=q)(k:Nat)(hk:k<=512)(hp0_:0<=p):jO Tryz.prog 91 [(jF (jL.mk (jN p) (jN q))),(.val (.int .i64 (((k:Nat):Int))))] (.tup [(jF (jL.mk (jN (Rat.divInt (uD (cE (p*((yC k)*(yC k))))) ((2 ^ k:Nat):Int))) (jN (Rat.divInt (upI (q*((yC k)*(yC k)))) ((2 ^ k:Nat):Int))))),(.val (.int .i64 (0)))]):=by
 let y2:=(jF (jL.mk (jN (Rat.divInt (uD (cE (p*((yC k)*(yC k))))) ((2 ^ k:Nat):Int))) (jN (Rat.divInt (upI (q*((yC k)*(yC k)))) ((2 ^ k:Nat):Int)))))
 let y1:=(bx y2)
 refine qY Tryz.func91 ?_
 refine jB<|kx [(2,(.ref 0 0)),(4,(.ref 1 0))] [(0,some (bx (jF (jL.mk (jN p) (jN q))))),(1,some (bx (jF (jL.mk kH kH))))] (zN (uU 0)<|zN (qR 1 qJ qL)<|zM<|zZ) ?_
 refine jB<|jB<|kx [(14,(vb false))] [] (zR (kJ jP)<|zE (jV (by have h:=lP (jL.mk (jN p) (jN q)) (zU (⟨qQ (jM (jW hp) (by decide:100<=100)),qQ (jM (jW hq) (by decide:100<=100))⟩));rw[show uJ (jL.mk (jN p) (jN q))=true from zW hpq] at h;exact h))<|zE gD<|zZ) ?_
 refine kM ?_
 refine jC<|jB<|jB<|kx [(27,(vb false))] [] (zM<|zE (uP false xK (by exact decide_eq_false (show ¬ ((k:Nat):Int)<0 by omega)))<|zM<|zM<|zE (uP false hH (by exact decide_eq_false (show ¬ 512<((k:Nat):Int) by omega)))<|zE xQ<|zM<|zE (kV uO)<|zR (kJ jQ)<|zE (jV (f_sign (jN p) p (jM (jW hp))))<|zE (uP false xK (by exact decide_eq_false (sgn_nn hp0_)))<|zE xQ<|zZ) ?_
 refine kM ?_
 refine jC<|jB ?_
 have bn1:QL (Rat.divInt (uD (cE (p*((yC k)*(yC k))))) ((2 ^ k:Nat):Int)) 141:=(xX (n:=141) (Nat.le_trans (gQ.ln (iok_root (fl_nn (iA hp0_)) (bF (k:=141) (qD (k:=140) hp (qD (k:=40) (fF (k:=k) (by omega)) (fF (k:=k) (by omega))))))) (by decide)) (Nat.le_trans (gQ.ln (dM (k:=k) (by omega))) (by decide)))
 have bn2:QL (Rat.divInt (upI (p*((yC k)*(yC k)))) ((2 ^ k:Nat):Int)) 142:=(xX (n:=142) (Nat.le_trans (gQ.ln (iok_upI (k:=142) (fl_nn (iA hp0_)) (bF (k:=141) (qD (k:=140) hp (qD (k:=40) (fF (k:=k) (by omega)) (fF (k:=k) (by omega))))))) (by decide)) (Nat.le_trans (gQ.ln (dM (k:=k) (by omega))) (by decide)))
 refine kx [(6,(.ref 2 0))] [(2,some (bx (jJ (jN (Rat.divInt (uD (cE (p*((yC k)*(yC k))))) ((2 ^ k:Nat):Int)))))),(3,none)] (zE (kV uO)<|zR (kJ jQ)<|zM<|zE (jV (d_froot p hp k (by omega) hp0_))<|zM<|zE uX<|zE uX<|zE uX<|zN (qR 2 qZ uG)<|zN (qR 3 qZ uG)<|zT (qA jQ)<|zT (qA jQ)<|zM<|zZ) ?_
 refine jB ?_
 have bn3:QL (Rat.divInt (uD (cE (q*((yC k)*(yC k))))) ((2 ^ k:Nat):Int)) 141:=(xX (n:=141) (Nat.le_trans (gQ.ln (iok_root (fl_nn (iA (Rat.le_trans hp0_ hpq))) (bF (k:=141) (qD (k:=140) hq (qD (k:=40) (fF (k:=k) (by omega)) (fF (k:=k) (by omega))))))) (by decide)) (Nat.le_trans (gQ.ln (dM (k:=k) (by omega))) (by decide)))
 have bn4:QL (Rat.divInt (upI (q*((yC k)*(yC k)))) ((2 ^ k:Nat):Int)) 142:=(xX (n:=142) (Nat.le_trans (gQ.ln (iok_upI (k:=142) (fl_nn (iA (Rat.le_trans hp0_ hpq))) (bF (k:=141) (qD (k:=140) hq (qD (k:=40) (fF (k:=k) (by omega)) (fF (k:=k) (by omega))))))) (by decide)) (Nat.le_trans (gQ.ln (dM (k:=k) (by omega))) (by decide)))
 refine kx [(10,(.ref 5 0))] [(5,some (bx (jJ (jN (Rat.divInt (upI (q*((yC k)*(yC k)))) ((2 ^ k:Nat):Int)))))),(4,none)] (zE (kV uT)<|zR (kJ jQ)<|zM<|zE (jV (d_froot q hq k (by omega) (Rat.le_trans hp0_ hpq)))<|zM<|zE uX<|zE uX<|zE uX<|zN (qR 4 qZ uG)<|zN (qR 5 qZ uG)<|zT (qA jQ)<|zT (qA jQ)<|zM<|zZ) ?_
 refine jB<|kx [(5,(jS 0))] [(1,some y1)] (zR (kJ jQ)<|zR (kJ jQ)<|zE (eD iJ qJ qL)<|zT (qA jP)<|zM<|zZ) ?_
 refine jE ⟨_,(kI (cs:=y1) (d:=y2) rfl rfl jP rfl rfl (.tmp (d:=(.val (.int .i64 (((0:Nat):Int))))) rfl .nil)),?_⟩
 rfl
end Go.Proofs.YtnajallgoaiahaaGreatDoor
