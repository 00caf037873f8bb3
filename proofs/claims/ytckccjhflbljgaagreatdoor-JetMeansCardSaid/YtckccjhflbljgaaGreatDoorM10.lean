/- Part 10 of a proof: rules, plain facts, and functions walked. -/
import Derived.Test.YtckccjhflbljgaaGreatDoorM9
import Derived.Test.YtckccjhflbljgaaGreatDoorM8
set_option linter.all false
namespace Go.Fid
def dC(z:Int):Nat:=(ofNat z.natAbs).length
theorem ofZ_len(z:Int):(kM z).gs.length=dC z:=rfl
theorem lD(x:kW):(jX x).natAbs=val (kP x):=by
 unfold jX cK;split<;>simp
theorem grpI_eq(x:kW):kP x=ofNat (jX x).natAbs:=by rw[lD];exact can_eq (qG x)
theorem eC(x:kW):dC (jX x)<=x.gs.length:=by unfold dC;rw[<- grpI_eq];exact gF x
theorem validI_of{b:Bool}{l:List Nat}(h:gH l)(hb:l=[]->b=false):uL ⟨b,l⟩=true:=by
 unfold uL
 by_cases h0:l=[]
 ·subst h0;simp [hb rfl]
 ·have h1:l.length≠0:=fun e=>h0 (List.eq_nil_of_length_eq_zero e)
  rw[if_neg (by show ((l.length:Nat):Int)≠0;omega)]
  obtain ⟨h2,_⟩:=iL h (by omega)
  have h3:xR l=-1:=iR h.1
  simp only[Bool.and_eq_true,Bool.not_eq_true',decide_eq_false_iff_not,bne_iff_ne]
  rw[h3]
  exact ⟨by omega,by omega⟩
theorem validI_iff{x:kW}:uL x=true↔gH x.gs/\(x.gs=[]->x.neg=false):=by
 refine ⟨fun h=>?_,fun ⟨h1,h2⟩=>validI_of h1 h2⟩
 have h1:=qG x
 unfold kP at h1
 rw[if_pos h] at h1
 refine ⟨h1,fun h0=>?_⟩
 unfold uL at h
 rw[if_pos (by rw[h0];rfl)] at h
 simpa using h
theorem validI_ofZ(z:Int):uL (kM z)=true:=validI_iff.2 ⟨qB _,fun h=>by
 have h1:z.natAbs=0:=ofNat_nil.1 h
 have h2:z=0:=by omega
 subst h2;rfl⟩
theorem grpI_ofZ(z:Int):kP (kM z)=ofNat z.natAbs:=by unfold kP;rw[if_pos (validI_ofZ z)];rfl
theorem ofZ_neg(z:Int):(kM z).neg=decide (z<0):=by
 unfold kM xN
 by_cases h:z<0
 ·have:(z.natAbs != 0)=true:=bne_iff_ne.2 (by omega)
  simp [h,this]
 ·simp [h]
theorem cS(z:Int):jX (kM z)=z:=by
 unfold jX cK
 rw[grpI_ofZ,ofZ_neg,kE]
 by_cases h:z<0
 ·simp [h];omega
 ·simp [h];omega
theorem ofZ_toZ{x:kW}(h:uL x=true):kM (jX x)=x:=by
 obtain ⟨h1,h2⟩:=validI_iff.1 h
 obtain ⟨b,l⟩:=x
 have e:kP ⟨b,l⟩=l:=by unfold kP;rw[if_pos h]
 have e1:jX ⟨b,l⟩=cK b (val l):=by unfold jX;rw[e]
 rw[e1,<- cQ]
 unfold xN
 rw[<- can_eq h1]
 congr 1
 cases b with
 |false=>rfl
 |true=>
  have:val l≠0:=fun e0=>by
   have h3:=h2 (lA h1 e0)
   cases h3
  simp [this]
theorem toZ_bad{x:kW}(h:uL x=false):jX x=0:=by
 unfold jX kP
 rw[if_neg (by rw[h];simp)]
 unfold cK;split<;>rfl
theorem eS{z:Int}{n:Nat}:dC z<=n↔z.natAbs<pw n:=by
 refine ⟨fun h=>Nat.lt_of_lt_of_le (ofNat_lt_pw _) (nH h),fun h=>uD h⟩
theorem lenZ_neg(z:Int):dC (-z)=dC z:=by unfold dC;rw[Int.natAbs_neg]
theorem iP{y z:Int}(h:y.natAbs<=z.natAbs):dC y<=dC z:=xS h
theorem lenZ_add{a b:Int}{m n k:Nat}(ha:dC a<=m)(hb:dC b<=n)(h:max m n+1<=k):dC (a+b)<=k:=by
 have h1:=eS.1 ha
 have h2:=eS.1 hb
 refine eS.2 ?_
 have h3:pw m<=pw (max m n):=nH (by omega)
 have h4:pw n<=pw (max m n):=nH (by omega)
 have h5:pw (max m n+1)<=pw k:=nH h
 rw[vA] at h5
 have h6:=Int.natAbs_add_le a b
 omega
theorem cN{a b:Int}{m n k:Nat}(ha:dC a<=m)(hb:dC b<=n)(h:m+n<=k):dC (a*b)<=k:=by
 refine eS.2 ?_
 rw[Int.natAbs_mul]
 refine Nat.lt_of_lt_of_le ?_ (nH h)
 rw[pw_add]
 exact Nat.mul_lt_mul_of_lt_of_le (eS.1 ha) (Nat.le_of_lt (eS.1 hb)) (pw_pos _)
structure dB (x:kW) (z:Int) (n:Nat):Prop where
 v:jX x=z
 l:x.gs.length<=n
theorem dB.ln{x:kW}{z:Int}{n:Nat}(h:dB x z n):dC z<=n:=by rw[<- h.v];exact Nat.le_trans (eC x) h.l
theorem iok_of{z:Int}{n:Nat}(h:dC z<=n):dB (kM z) z n:=⟨cS z,h⟩
theorem yW{x:kW}{n:Nat}(h:x.gs.length<=n):dB x (jX x) n:=⟨rfl,h⟩
theorem iok_add{x y:kW}{a b:Int}{m n k:Nat}(hx:dB x a m)(hy:dB y b n)(h:max m n+1<=k:=by decide):dB (kM (a+b)) (a+b) k:=iok_of (lenZ_add hx.ln hy.ln h)
theorem yX{x y:kW}{a b:Int}{m n k:Nat}(hx:dB x a m)(hy:dB y b n)(h:m+n<=k:=by decide):dB (kM (a*b)) (a*b) k:=iok_of (cN hx.ln hy.ln h)
theorem mZ{x:kW}{a:Int}{m:Nat}(hx:dB x a m):dB (kM (-a)) (-a) m:=iok_of (by rw[lenZ_neg];exact hx.ln)
theorem cR{x:kW}{a:Int}{m n:Nat}(hx:dB x a m)(h:m<=n:=by decide):dB x a n:=⟨hx.v,Nat.le_trans hx.l h⟩
theorem iu{x:kW}{a:Int}{m n:Nat}(hx:dB x a m)(h:m<=n:=by decide):dB x a n:=cR hx h
theorem iok_small{z:Int}(h:z.natAbs<1000000000:=by decide):dB (kM z) z 1:=iok_of (eS.2 (by rw[show (1:Nat)=0+1 from rfl,vA,cA];omega))
theorem signI_sub(a b:Int):qV (a-b)=vD a b:=by
 unfold qV vD
 split
 ·rw[if_neg (by omega),if_neg (by omega)]
 ·split
  ·rw[if_pos (by omega)]
  ·rw[if_neg (by omega),if_pos (by omega)]
theorem cmpI_neg{a b:Nat}(h:vD (a:Int) (b:Int)<0):a<b:=by
 unfold vD at h
 split at h
 ·omega
 ·split at h<;>omega
theorem cmpI_nn{a b:Nat}(h:¬ vD (a:Int) (b:Int)<0):b<=a:=by
 unfold vD at h
 split at h
 ·omega
 ·omega
theorem word_both{a b:List Nat}(ha:Dig a)(h:(mN a&&mN b)=true):yO a=val a/\yO b=val b/\val a<1000000000000000000:=by
 unfold mN at h
 rw[Bool.and_eq_true,decide_eq_true_eq,decide_eq_true_eq] at h
 unfold yO
 rw[if_pos h.1,if_pos h.2]
 exact ⟨rfl,rfl,val_len2 ha h.1⟩
theorem val_pos_len{b:List Nat}(h:0<val b):0<b.length:=by
 rcases b with _ | ⟨d,l⟩
 ·rw[val_nil] at h;omega
 ·simp
theorem cE{b:List Nat}(hb:gH b)(h:0<b.length):0<val b:=by
 have h1:=val_top hb.1 h
 have h2:=iL hb h
 have h3:=Nat.mul_le_mul_right (pw (b.length-1)) h2.1
 have h4:=pw_pos (b.length-1)
 rw[Nat.succ_mul] at h3
 omega
theorem val_len1{b:List Nat}(h:b.length=1):val b=b.getD 0 0:=by
 rcases b with _ | ⟨d,_ | ⟨e,l⟩⟩
 ·simp at h
 ·simp [val]
 ·simp at h
theorem len_quo(l:List Nat)(hl:gH l)(n:Nat):(ofNat (val l / n)).length<=l.length:=by
 have h1:=xS (Nat.div_le_self (val l) n)
 rwa [<- can_eq hl] at h1
theorem len_rem(l:List Nat)(hl:gH l)(n:Nat):(ofNat (val l % n)).length<=l.length:=by
 have h1:=xS (Nat.mod_le (val l) n)
 rwa [<- can_eq hl] at h1
theorem gcd_toZ(x y:kW):Nat.gcd (val (kP x)) (val (kP y))=Int.gcd (jX x) (jX y):=by
 unfold Int.gcd;rw[lD,lD]
theorem mkI_false(n:Nat):xN false n=kM (n:Int):=cQ false n
theorem r_made_end{neg:Bool}{l:List Nat}{k:Nat}(hd:Dig l)(hk:k<=l.length)(hv:val (l.take k)=val l)(h:(decide ((0:Int)<((k:Nat):Int))&&(((l.getD (k-1) 0:Nat):Int) == 0))=false):xN neg (val l)=⟨neg&&decide ((0:Int)<((k:Nat):Int)),l.take k⟩:=by
 have hc:gH (l.take k):=by
  refine ⟨hd.take k,?_⟩
  unfold Top
  rw[List.length_take,Nat.min_eq_left hk]
  rcases Nat.eq_zero_or_pos k with h0 | h0
  ·subst h0;simp
  ·rw[Bool.and_eq_false_iff] at h
   rcases h with h | h
   ·rw[decide_eq_false_iff_not] at h;omega
   ·have h1:=ne_of_beq_false h
    have h6:k-1<l.length:=by omega
    simp [List.getD,List.getElem?_eq_getElem h6,List.getElem?_take_of_lt (show k-1<k by omega)] at h1 ⊢
    exact h1
 unfold xN
 rw[<- hv,<- can_eq hc]
 congr 1
 congr 1
 rcases Nat.eq_zero_or_pos k with h0 | h0
 ·subst h0;simp [val]
 ·have h1:0<val (l.take k):=cE hc (by rw[List.length_take];omega)
  have h2:(val (l.take k) != 0)=true:=bne_iff_ne.2 (by omega)
  rw[h2];symm;exact decide_eq_true (by omega)
theorem r_made_step{l:List Nat}{k:Nat}(hk:k<=l.length)(hv:val (l.take k)=val l)(h:(decide ((0:Int)<((k:Nat):Int))&&(((l.getD (k-1) 0:Nat):Int) == 0))=true):0<k/\val (l.take (k-1))=val l:=by
 rw[Bool.and_eq_true,decide_eq_true_eq,beq_iff_eq] at h
 have h0:0<k:=by omega
 refine ⟨h0,?_⟩
 have h1:=val_take_succ l (k-1)
 rw[show k-1+1=k by omega,show l.getD (k-1) 0=0 by omega] at h1
 omega
theorem validI_big{x:kW}{i:Nat}(h:i<x.gs.length)(hb:¬ x.gs.getD i 0<1000000000):uL x=false:=by
 rcases hv:uL x with _ | _
 ·rfl
 ·exact absurd ((validI_iff.1 hv).1.1.getD i) hb
theorem validI_nil{x:kW}(h:x.gs.length=0):uL x=!x.neg:=by unfold uL;rw[if_pos (by omega)]
theorem validI_dig{x:kW}(hd:Dig x.gs)(h:x.gs.length≠0):uL x=(((x.gs.getD (x.gs.length-1) 0:Nat):Int) != 0):=by
 unfold uL
 rw[if_neg (by omega),iR hd]
 simp
theorem push_step{o:List Nat}{i s:Nat}(hl:o.length=i):val (o++[s % 1000000000])+pw (i+1)*(s / 1000000000)=val o+pw i*s:=by
 rw[dQ,hl,cO,vA]
 have h:=Nat.mod_add_div s 1000000000
 have h2:pw i*s=pw i*(s % 1000000000)+pw i*(1000000000*(s / 1000000000)):=by rw[<- Nat.mul_add,h]
 rw[h2,Nat.mul_comm 1000000000 (pw i),Nat.mul_assoc]
 omega
theorem dig_push{o:List Nat}(h:Dig o){d:Nat}(hd:d<1000000000):Dig (o++[d]):=iT.2 ⟨h,yS.2 ⟨hd,gW⟩⟩
theorem rplus_step{a b o:List Nat}{i c s:Nat}(hl:o.length=i)(hv:val o+pw i*c=val (a.take i)+val (b.take i))(hs:s=a.getD i 0+b.getD i 0+c) :
  val (o++[s % 1000000000])+pw (i+1)*(s / 1000000000)=val (a.take (i+1))+val (b.take (i+1)):=by
 rw[push_step hl,val_take_succ,val_take_succ,hs,Nat.mul_add,Nat.mul_add]
 omega
theorem rminus_step{a b o:List Nat}{i c s:Nat}(hl:o.length=i)(hv:val o+val (b.take i)=val (a.take i)+pw i*c)(hs:s+b.getD i 0+c=1000000000+a.getD i 0)(h1:s / 1000000000<=1) :
  val (o++[s % 1000000000])+val (b.take (i+1))=val (a.take (i+1))+pw (i+1)*(1-s / 1000000000):=by
 have h:=push_step (o:=o) (i:=i) (s:=s) hl
 have h2:pw (i+1)*(1-s / 1000000000)+pw (i+1)*(s / 1000000000)=pw (i+1):=by
  rw[<- Nat.mul_add,Nat.sub_add_cancel h1,Nat.mul_one]
 have h3:=congrArg (pw i*·) hs
 simp only[Nat.mul_add] at h3
 rw[val_take_succ,val_take_succ]
 rw[vA] at h h2 ⊢
 rw[Nat.mul_comm (pw i) 1000000000] at h3
 omega
theorem rscaled_step{a o:List Nat}{i c d s:Nat}(hl:o.length=i)(hv:val o+pw i*c=val (a.take i)*d)(hs:s=a.getD i 0*d+c) :
  val (o++[s % 1000000000])+pw (i+1)*(s / 1000000000)=val (a.take (i+1))*d:=by
 rw[push_step hl,val_take_succ,hs,Nat.mul_add,Nat.add_mul,Nat.mul_assoc]
 omega
theorem val_push{o:List Nat}{i c:Nat}(hl:o.length=i):val (o++[c])=val o+pw i*c:=by rw[dQ,hl,cO]
theorem take_all{a:List Nat}{i:Nat}(h:a.length<=i):a.take i=a:=List.take_of_length_le h
theorem rminus_end{a b o:List Nat}{i c:Nat}(hda:Dig a)(hb:Dig b)(hd:Dig o)(hi:i=a.length)(hl:o.length=i)(hba:val b<=val a)(hv:val o+val (b.take i)=val (a.take i)+pw i*c):val o=val a-val b:=by
 have h1:val (b.take i)=val b:=val_take_of_lt (by rw[hi];exact Nat.lt_of_le_of_lt hba (xA hda))
 rw[h1,hi,List.take_length] at hv
 have h2:=xA hd
 rw[hl,hi] at h2
 rcases Nat.eq_zero_or_pos c with h3 | h3
 ·subst h3;omega
 ·have:=Nat.mul_le_mul_left (pw a.length) h3
  omega
theorem mL(X:Int):cK (kM X).neg X.natAbs=X:=by
 rw[ofZ_neg];unfold cK
 by_cases h:X<0
 ·simp [h];omega
 ·simp [h];omega
theorem rneg_eq(X:Int):xN (!(kM X).neg) (val (ofNat X.natAbs))=kM (-X):=by
 rw[cQ,kE]
 congr 1
 have h:=mL X
 unfold cK at h ⊢
 cases hn:(kM X).neg<;>simp [hn] at h ⊢<;>omega
theorem rsum_same{X Y:Int}(h:(kM X).neg=(kM Y).neg):xN (kM X).neg (val (ofNat (val (ofNat X.natAbs)+val (ofNat Y.natAbs))))=kM (X+Y):=by
 rw[sum_same h,kE,kE,mL,mL]
theorem rsum_first{X Y:Int}(h:(kM X).neg≠(kM Y).neg)(hn:val (ofNat Y.natAbs)<=val (ofNat X.natAbs)):xN (kM X).neg (val (ofNat (val (ofNat X.natAbs)-val (ofNat Y.natAbs))))=kM (X+Y):=by
 rw[sum_first h hn,kE,kE,mL,mL]
theorem rsum_second{X Y:Int}(h:(kM X).neg≠(kM Y).neg)(hn:val (ofNat X.natAbs)<=val (ofNat Y.natAbs)):xN (kM Y).neg (val (ofNat (val (ofNat Y.natAbs)-val (ofNat X.natAbs))))=kM (X+Y):=by
 rw[sum_second h hn,kE,kE,mL,mL]
theorem rmul_eq(X Y:Int):xN (!((kM X).neg == (kM Y).neg)) (val (ofNat X.natAbs)*val (ofNat Y.natAbs))=kM (X*Y):=by
 have h:=mul_eq (b:=(kM X).neg) (c:=(kM Y).neg) (val (ofNat X.natAbs)) (val (ofNat Y.natAbs))
 rw[kE (val (ofNat X.natAbs)*val (ofNat Y.natAbs))] at h
 rw[h,kE,kE,mL,mL]
theorem rsign_zero{X:Int}(h:(((ofNat X.natAbs).length:Nat):Int)=0):qV X=0:=by
 have h1:X.natAbs=0:=ofNat_nil.1 (List.eq_nil_of_length_eq_zero (by omega))
 have h2:X=0:=by omega
 subst h2;rfl
theorem rsign_ne{X:Int}(h:(((ofNat X.natAbs).length:Nat):Int)≠0):X≠0:=fun e=>h (by subst e;simp [uB])
theorem rsign_neg{X:Int}(h:(((ofNat X.natAbs).length:Nat):Int)≠0)(hn:(kM X).neg=true):qV X=-1:=by
 have h1:=rsign_ne h
 rw[ofZ_neg,decide_eq_true_eq] at hn
 unfold qV;rw[if_neg h1,if_pos hn]
theorem rsign_pos{X:Int}(h:(((ofNat X.natAbs).length:Nat):Int)≠0)(hn:(kM X).neg=false):qV X=1:=by
 have h1:=rsign_ne h
 rw[ofZ_neg,decide_eq_false_iff_not] at hn
 unfold qV;rw[if_neg h1,if_neg hn]
theorem gs_val(x:kW):(kM (jX x)).gs.length<=x.gs.length:=eC x
theorem eD(x:kW):(ofNat (jX x).natAbs).length<=x.gs.length:=eC x
theorem gs_neg(x:kW):(kM (-jX x)).gs.length<=x.gs.length:=by rw[ofZ_len,lenZ_neg];exact eC x
theorem gs_sub(x y:kW):(kM (jX x-jX y)).gs.length<=max x.gs.length y.gs.length+1:=by
 rw[Int.sub_eq_add_neg,ofZ_len];exact lenZ_add (eC x) (by rw[lenZ_neg];exact eC y) (Nat.le_refl _)
theorem gs_mul(x y:kW):(kM (jX x*jX y)).gs.length<=x.gs.length+y.gs.length:=cN (eC x) (eC y) (Nat.le_refl _)
theorem val_pair{l:List Nat}(h:l.length<=2):val l=l.getD 1 0*1000000000+l.getD 0 0:=by
 rcases l with _ | ⟨d,_ | ⟨e,_ | ⟨f,l⟩⟩⟩
 ·rfl
 ·simp [val]
 ·simp [val];omega
 ·simp at h
theorem rshift_val{q:List Nat}(u:List Nat){i V r:Nat}(h:val (u.drop (i+1))=V*val (q.drop (i+1))+r):val (u.drop i)=V*(1000000000*val (q.drop (i+1)))+(u.getD i 0+1000000000*r):=by
 rw[xO u i,h,Nat.mul_left_comm]
 rw[Nat.mul_add];omega
theorem rguess{v:List Nat}{W n:Nat}(hv:Dig v)(hn:v.length=n)(h1:1<=n)(hW:W<1000000000*val v) :
  ((ofNat W).getD n 0*1000000000+(ofNat W).getD (n-1) 0) / (v.getD (n-1) 0+1)*val v<=W/\((ofNat W).getD n 0*1000000000+(ofNat W).getD (n-1) 0) / (v.getD (n-1) 0+1)<1000000000:=by
 have hw:=xA hv
 have ht:=val_top hv (by omega)
 rw[hn] at hw ht
 have hp:=pw_pos (n-1)
 have e1:=hZ (ofNat W) 0 (n-1)
 have e2:=xO (ofNat W) (n-1)
 have e3:=xO (ofNat W) n
 have e5:W<pw (n+1):=by rw[vA];omega
 have e4:(ofNat W).drop (n+1)=[]:=List.drop_eq_nil_of_le (uD e5)
 rw[e4,val_nil] at e3
 rw[show n-1+1=n by omega] at e2
 rw[List.drop_zero,kE,Nat.zero_add] at e1
 generalize (ofNat W).getD n 0=t1 at *
 generalize (ofNat W).getD (n-1) 0=t0 at *
 generalize v.getD (n-1) 0=v1 at *
 have e6:pw (n-1)*(t1*1000000000+t0)<=W:=by
  have:t1*1000000000+t0=val ((ofNat W).drop (n-1)):=by omega
  rw[this];omega
 have e7:=Nat.div_mul_le_self (t1*1000000000+t0) (v1+1)
 generalize (t1*1000000000+t0) / (v1+1)=G at *
 have e8:G*val v<=W:=by
  refine Nat.le_trans (Nat.mul_le_mul_left G (Nat.le_of_lt ht.2)) (Nat.le_trans ?_ e6)
  rw[<- Nat.mul_assoc,Nat.mul_comm (pw (n-1))]
  exact Nat.mul_le_mul_right _ e7
 refine ⟨e8,?_⟩
 have e9:G*val v<1000000000*val v:=by omega
 exact Nat.lt_of_mul_lt_mul_right e9
theorem rquo_lt{G V r W:Nat}(h:V*G+r=W)(hW:W<1000000000*V):G<1000000000:=by
 have h1:G*V<1000000000*V:=by rw[Nat.mul_comm G V];omega
 exact Nat.lt_of_mul_lt_mul_right h1
theorem rround{u q:List Nat}{V G r i:Nat}(hi:i<q.length)(h:val (u.drop i)=V*(1000000000*val (q.drop (i+1)))+(V*G+r)):val (u.drop i)=V*val ((q.set i G).drop i)+r:=by
 rw[h,cP q i G hi,Nat.mul_add];omega
theorem split_dig{o:List Nat}{m n:Nat}(h:o++ofNat m=ofNat n)(hm:¬ (0:Int)<((m:Nat):Int)):Dig o:=by
 rw[<- split_end h hm];exact kI n
theorem split_val{o:List Nat}{m n:Nat}(h:o++ofNat m=ofNat n)(hm:¬ (0:Int)<((m:Nat):Int)):val o=n:=by
 rw[<- split_end h hm];exact kE n
theorem ofZ_zero:kM 0=⟨false,[]⟩:=by unfold kM xN;simp [uB]
theorem rshort_step{a q:List Nat}{d xM i n:Nat}(hi:i<q.length)(hv:val (a.drop (i+1))=val (q.drop (i+1))*d+xM)(hn:n=xM*1000000000+a.getD i 0) :
  val (a.drop i)=val ((q.set i (n / d)).drop i)*d+n % d:=by
 rw[xO a i,hv,cP q i _ hi]
 have h3:=Nat.div_add_mod n d
 rw[Nat.add_mul,Nat.mul_comm (n / d) d]
 have h4:1000000000*val (q.drop (i+1))*d=1000000000*(val (q.drop (i+1))*d):=Nat.mul_assoc _ _ _
 omega
theorem fdiv_unique{x y q r:Int}(h:r+y*q=x)(hr:(0<=r/\r<y)\/(y<r/\r<=0)):x.fdiv y=q/\x.fmod y=r:=by
 rcases hr with ⟨h1,h2⟩ | ⟨h1,h2⟩
 ·have hy:0<y:=by omega
  rw[Int.fdiv_eq_ediv_of_nonneg _ (by omega),Int.fmod_eq_emod_of_nonneg _ (by omega)]
  exact (Int.ediv_emod_unique hy).2 ⟨h,h1,h2⟩
 ·have hy:0 < -y:=by omega
  have h3:(-x).fdiv (-y)=q/\(-x).fmod (-y)=-r:=by
   rw[Int.fdiv_eq_ediv_of_nonneg _ (by omega),Int.fmod_eq_emod_of_nonneg _ (by omega)]
   refine (Int.ediv_emod_unique hy).2 ⟨?_,by omega,by omega⟩
   rw[<- h,Int.neg_mul];omega
  rw[Int.neg_fdiv_neg,Int.neg_fmod_neg] at h3
  exact ⟨h3.1,by omega⟩
theorem div_same{b c:Bool}{m n:Nat}(hn:0<n)(h:b=c\/m % n=0) :
  kM ((cK b m).fdiv (cK c n))=xN (!(b == c)) (m / n)/\kM ((cK b m).fmod (cK c n))=xN c (m % n):=by
 have h1:((m % n:Nat):Int)+(n:Int)*((m / n:Nat):Int)=(m:Int):=by
  have:=Nat.mod_add_div m n;exact_mod_cast this
 have h2:=Nat.mod_lt m hn
 rw[cQ,cQ]
 have key:(cK b m).fdiv (cK c n)=cK (!(b == c)) (m / n)/\(cK b m).fmod (cK c n)=cK c (m % n):=by
  have h3:((m % n:Nat):Int)=0\/b=c:=by rcases h with h | h;exact .inr h;exact .inl (by omega)
  generalize m / n=q at *
  generalize m % n=r at *
  refine fdiv_unique ?_ ?_
  ·cases b<;>cases c
   ·show (r:Int)+(n:Int)*(q:Int)=(m:Int);exact h1
   ·show -(r:Int)+(-(n:Int))*(-(q:Int))=(m:Int);rw[Int.neg_mul_neg];rcases h3 with h3 | h3;omega;cases h3
   ·show (r:Int)+(n:Int)*(-(q:Int))=-(m:Int);rw[Int.mul_neg];rcases h3 with h3 | h3;omega;cases h3
   ·show -(r:Int)+(-(n:Int))*(q:Int)=-(m:Int);rw[Int.neg_mul];omega
  ·cases c
   ·left;show 0<=(r:Int)/\(r:Int)<(n:Int);omega
   ·right;show -(n:Int) < -(r:Int)/\-(r:Int)<=0;omega
 rw[key.1,key.2]
 exact ⟨rfl,rfl⟩
theorem div_other{b c:Bool}{m n:Nat}(hn:0<n)(h:b≠c)(hr:0<m % n) :
  kM ((cK b m).fdiv (cK c n))=xN (!(b == c)) (m / n+1)/\kM ((cK b m).fmod (cK c n))=xN c (n-m % n):=by
 have h1:((m % n:Nat):Int)+(n:Int)*((m / n:Nat):Int)=(m:Int):=by
  have:=Nat.mod_add_div m n;exact_mod_cast this
 have h2:=Nat.mod_lt m hn
 rw[cQ,cQ]
 have key:(cK b m).fdiv (cK c n)=cK (!(b == c)) (m / n+1)/\(cK b m).fmod (cK c n)=cK c (n-m % n):=by
  have e1:(n:Int)*(((m / n+1:Nat)):Int)=(n:Int)*((m / n:Nat):Int)+n:=by
   rw[Int.natCast_add,Int.mul_add];simp
  generalize m / n=q at *
  generalize m % n=r at *
  refine fdiv_unique ?_ ?_
  ·cases b<;>cases c
   ·exact absurd rfl h
   ·show -((n-r:Nat):Int)+(-(n:Int))*(-((q+1:Nat):Int))=(m:Int);rw[Int.neg_mul_neg,e1];omega
   ·show ((n-r:Nat):Int)+(n:Int)*(-((q+1:Nat):Int))=-(m:Int);rw[Int.mul_neg,e1];omega
   ·exact absurd rfl h
  ·cases c
   ·left;show 0<=((n-r:Nat):Int)/\((n-r:Nat):Int)<(n:Int);omega
   ·right;show -(n:Int) < -((n-r:Nat):Int)/\-((n-r:Nat):Int)<=0;omega
 rw[key.1,key.2]
 exact ⟨rfl,rfl⟩
theorem r_div_same{X Y:Int}(hn:0<Y.natAbs)(h:(kM X).neg=(kM Y).neg\/¬ (0:Int)<(((ofNat (val (ofNat X.natAbs) % val (ofNat Y.natAbs))).length:Nat):Int)) :
  xN (!((kM X).neg == (kM Y).neg)) (val (ofNat (val (ofNat X.natAbs) / val (ofNat Y.natAbs))))=kM (X.fdiv Y):=by
 rw[kE,kE,kE]
 rw[kE,kE] at h
 have h1:=(div_same (b:=(kM X).neg) (c:=(kM Y).neg) (m:=X.natAbs) (n:=Y.natAbs) hn (by
  rcases h with h | h
  ·exact .inl h
  ·right
   rcases Nat.eq_zero_or_pos (X.natAbs % Y.natAbs) with h2 | h2
   ·exact h2
   ·have:=dV h2;omega)).1
 rw[mL,mL] at h1
 exact h1.symm
theorem r_div_other{X Y:Int}(hn:0<Y.natAbs)(h:(kM X).neg≠(kM Y).neg/\(0:Int)<(((ofNat (val (ofNat X.natAbs) % val (ofNat Y.natAbs))).length:Nat):Int)) :
  kM (jX (xN (!((kM X).neg == (kM Y).neg)) (val (ofNat (val (ofNat X.natAbs) / val (ofNat Y.natAbs)))))-jX (kM 1))=kM (X.fdiv Y):=by
 obtain ⟨h,h0⟩:=h
 rw[kE,kE] at h0
 have h2:0<X.natAbs % Y.natAbs:=by
  rcases Nat.eq_zero_or_pos (X.natAbs % Y.natAbs) with h3 | h3
  ·rw[h3,uB] at h0;simp at h0
  ·exact h3
 have h1:=(div_other hn h h2).1
 rw[mL,mL] at h1
 rw[h1,kE,kE,kE,cQ,cQ,cS,cS]
 have hb:(!((kM X).neg == (kM Y).neg))=true:=by rw[Bool.not_eq_true',beq_eq_false_iff_ne];exact h
 rw[hb]
 congr 1
 unfold cK
 rw[if_pos rfl,if_pos rfl];omega
theorem r_rem_eq(X Y:Int):kM (jX (kM X)-jX (kM (jX (kM (X.fdiv Y))*jX (kM Y))))=kM (X.fmod Y):=by
 rw[cS,cS,cS,cS,Int.fmod_def,Int.mul_comm]
def jN(q:Rat):qE:=⟨kM q.num,kM q.den⟩
def kX(x:qE):Bool:=uL x.num&&(uL x.den&&(decide (0<jX x.den)&&(Int.gcd (jX x.num) (jX x.den) == 1)))
def xW(x:qE):Rat:=if kX x=true then Rat.divInt (jX x.num) (jX x.den) else 0
theorem fT(q:Rat):kX (jN q)=true:=by
 unfold kX jN
 simp only[validI_ofZ,cS,Bool.true_and,Bool.and_eq_true,decide_eq_true_eq,beq_iff_eq]
 refine ⟨by have:=q.den_pos;omega,?_⟩
 have:=q.reduced
 unfold Int.gcd
 rw[Int.natAbs_natCast]
 exact this
theorem eV(q:Rat):xW (jN q)=q:=by
 unfold xW
 rw[if_pos (fT q)]
 unfold jN
 simp only[cS]
 exact Rat.num_divInt_den q
theorem iN{x:qE}(h:kX x=true):jN (xW x)=x:=by
 unfold xW
 rw[if_pos h]
 unfold kX at h
 simp only[Bool.and_eq_true,decide_eq_true_eq,beq_iff_eq] at h
 obtain ⟨h1,h2,h3,h4⟩:=h
 have e1:(Rat.divInt (jX x.num) (jX x.den)).num=jX x.num:=by
  rw[Rat.num_divInt,Int.gcd_comm,h4,Int.sign_eq_one_of_pos h3];simp
 have e2:(((Rat.divInt (jX x.num) (jX x.den)).den:Nat):Int)=jX x.den:=by
  rw[Rat.den_divInt,if_neg (by omega),Int.gcd_comm,h4];simp;omega
 unfold jN
 rw[e1,e2,ofZ_toZ h1,ofZ_toZ h2]
theorem toQ_bad{x:qE}(h:kX x=false):xW x=0:=by unfold xW;rw[if_neg (by rw[h];simp)]
def QL(q:Rat)(n:Nat):Prop:=dC q.num<=n/\dC q.den<=n
theorem qY{q:Rat}{m n:Nat}(h:QL q m)(hm:m<=n:=by decide):QL q n:=⟨Nat.le_trans h.1 hm,Nat.le_trans h.2 hm⟩
theorem yQ{a b:Int}{n:Nat}(ha:dC a<=n)(hb:dC b<=n)(h1:1<=n:=by decide):QL (Rat.divInt a b) n:=by
 constructor
 ·refine Nat.le_trans ?_ ha
  refine iP ?_
  rw[Rat.num_divInt]
  refine Nat.le_trans (Int.natAbs_ediv_le_natAbs _ _) ?_
  rw[Int.natAbs_mul]
  rcases Int.lt_trichotomy b 0 with h | h | h
  ·rw[Int.sign_eq_neg_one_of_neg h];simp
  ·rw[h];simp
  ·rw[Int.sign_eq_one_of_pos h];simp
 ·rw[Rat.den_divInt]
  split
  ·exact Nat.le_trans (by unfold dC;simp [nP,uB]) h1
  ·refine Nat.le_trans ?_ hb
   refine iP ?_
   rw[Int.natAbs_natCast]
   exact Nat.div_le_self _ _
theorem add_divInt(a b:Rat):a+b=Rat.divInt (a.num*b.den+b.num*a.den) (a.den*b.den):=by
 rw[Rat.add_def',<- Rat.divInt_ofNat,Int.natCast_mul]
theorem mul_divInt(a b:Rat):a*b=Rat.divInt (a.num*b.num) (a.den*b.den):=by
 rw[Rat.mul_def',<- Rat.divInt_ofNat,Int.natCast_mul]
theorem div_divInt(a b:Rat):a / b=Rat.divInt (a.num*b.den) (a.den*b.num):=by
 rw[Rat.div_def,Rat.inv_def]
 conv=>lhs;rw[<- Rat.num_divInt_den a]
 rw[Rat.divInt_mul_divInt]
theorem ql_add{a b:Rat}{m n k:Nat}(ha:QL a m)(hb:QL b n)(h:m+n+1<=k):QL (a+b) k:=by
 rw[add_divInt]
 refine yQ (lenZ_add (cN ha.1 hb.2 (Nat.le_refl _)) (cN hb.1 ha.2 (Nat.le_refl _)) (by omega)) (cN ha.2 hb.2 (by omega)) (by omega)
theorem ql_neg{a:Rat}{m:Nat}(ha:QL a m):QL (-a) m:=⟨by rw[Rat.neg_num,lenZ_neg];exact ha.1,by rw[Rat.neg_den];exact ha.2⟩
theorem yD{a b:Rat}{m n k:Nat}(ha:QL a m)(hb:QL b n)(h:m+n+1<=k:=by decide):QL (a-b) k:=by
 rw[Rat.sub_eq_add_neg];exact ql_add ha (ql_neg hb) h
theorem ql_pos{a:Rat}{m:Nat}(ha:QL a m):1<=m:=by
 have h1:=eS.1 ha.2
 rcases Nat.eq_zero_or_pos m with h | h
 ·subst h;rw[cA] at h1;have:=a.den_pos;omega
 ·exact h
theorem vZ{a b:Rat}{m n k:Nat}(ha:QL a m)(hb:QL b n)(h:m+n<=k:=by decide):QL (a*b) k:=by
 have h1:=ql_pos ha
 rw[mul_divInt]
 exact yQ (cN ha.1 hb.1 h) (cN ha.2 hb.2 h) (by omega)
theorem iY{a b:Rat}{m n k:Nat}(ha:QL a m)(hb:QL b n)(h:m+n<=k:=by decide):QL (a / b) k:=by
 have h1:=ql_pos ha
 rw[div_divInt]
 exact yQ (cN ha.1 hb.2 h) (cN ha.2 hb.1 h) (by omega)
theorem yC{z:Int}(h:z.natAbs<1000000000:=by decide):dC z<=1:=eS.2 (by rw[show (1:Nat)=0+1 from rfl,vA,cA];omega)
theorem yV{z:Int}{n:Nat}(h:dC z<=n)(h1:1<=n:=by decide):QL (z:Rat) n:=⟨h,Nat.le_trans (yC (by simp)) h1⟩
theorem eU:QL 0 1:=⟨yC (by simp),yC (by simp)⟩
theorem ql_ite{p:Prop}[Decidable p]{a b:Rat}{n:Nat}(ha:QL a n)(hb:QL b n):QL (if p then a else b) n:=by split<;>assumption
theorem ql_min{a b:Rat}{n:Nat}(ha:QL a n)(hb:QL b n):QL (min a b) n:=by rw[Rat.min_def];exact ql_ite ha hb
theorem ql_max{a b:Rat}{n:Nat}(ha:QL a n)(hb:QL b n):QL (max a b) n:=by rw[Rat.max_def];exact ql_ite hb ha
structure nL (x:qE) (q:Rat) (n:Nat):Prop where
 v:xW x=q
 p:1<=n
 n1:x.num.gs.length<=n
 n2:x.den.gs.length<=n
theorem nL.ql{x:qE}{q:Rat}{n:Nat}(h:nL x q n):QL q n:=by
 rw[<- h.v]
 by_cases hv:kX x=true
 ·unfold xW;rw[if_pos hv]
  exact yQ (Nat.le_trans (eC _) h.n1) (Nat.le_trans (eC _) h.n2) h.p
 ·unfold xW;rw[if_neg hv]
  exact qY eU h.p
theorem jY{q:Rat}{n:Nat}(h:QL q n):nL (jN q) q n:=⟨eV q,ql_pos h,h.1,h.2⟩
theorem uG{q:Rat}{n:Nat}(h:QL q n):dB (jN q).num q.num n:=iok_of h.1
theorem qW{q:Rat}{n:Nat}(h:QL q n):dB (jN q).den q.den n:=iok_of h.2
theorem jP{x:qE}{a:Rat}{m n:Nat}(hx:nL x a m)(h:m<=n:=by decide):nL x a n:=⟨hx.v,Nat.le_trans hx.p h,Nat.le_trans hx.n1 h,Nat.le_trans hx.n2 h⟩
theorem divInt_parts{a b:Int}(hb:0<b):jN (Rat.divInt a b)=⟨kM (a.fdiv (Int.gcd a b)),kM (b.fdiv (Int.gcd a b))⟩:=by
 unfold jN
 have e1:(Rat.divInt a b).num=a.fdiv (Int.gcd a b):=by
  rw[Rat.num_divInt,Int.sign_eq_one_of_pos hb,Int.one_mul,Int.gcd_comm,Int.fdiv_eq_ediv_of_nonneg _ (by omega)]
 have e2:(((Rat.divInt a b).den:Nat):Int)=b.fdiv (Int.gcd a b):=by
  rw[Rat.den_divInt,if_neg (by omega),Int.gcd_comm,Int.fdiv_eq_ediv_of_nonneg _ (by omega),Int.natCast_ediv]
  congr 1;omega
 rw[e1,e2]
def gC(a b:Rat):Int:=if a<b then -1 else if b<a then 1 else 0
theorem cmpQ_cross(a b:Rat):vD (a.num*b.den) (b.num*a.den)=gC a b:=by
 unfold vD gC
 simp only[Rat.lt_iff]
def fN(a:Rat):Int:=qV a.num
theorem signQ_sub(a b:Rat):fN (a-b)=gC a b:=by
 unfold fN qV gC
 have h1:(a-b).num=0↔a-b=0:=Rat.num_eq_zero
 have h2:0<=(a-b).num↔0<=a-b:=Rat.num_nonneg
 have h3:b<=a↔0<=a-b:=Rat.le_iff_sub_nonneg b a
 by_cases hlt:a<b
 ·have h4:¬ 0<=(a-b).num:=fun h=>Rat.not_le.2 hlt (h3.2 (h2.1 h))
  rw[if_neg (by omega),if_pos (by omega),if_pos hlt]
 ·have h4:0<=(a-b).num:=h2.2 (h3.1 (Rat.not_lt.1 hlt))
  rw[if_neg hlt]
  by_cases hgt:b<a
  ·have h5:(a-b).num≠0:=fun h=>by
    have h6:=h1.1 h
    have h7:=(Rat.lt_iff_sub_pos b a).1 hgt
    rw[h6] at h7;exact Rat.lt_irrefl h7
   rw[if_neg h5,if_neg (by omega),if_pos hgt]
  ·have h5:a=b:=Rat.le_antisymm (Rat.not_lt.1 hgt) (Rat.not_lt.1 hlt)
   have h6:(a-b).num=0:=h1.2 (by rw[h5];exact Rat.sub_self)
   rw[if_pos h6,if_neg hgt]
theorem copied_eq{x:qE}(h:kX x=true):(⟨kM (-(-jX x.num)),kM (-(-jX x.den))⟩:qE)=jN (xW x):=by
 have h0:=h
 unfold kX at h
 simp only[Bool.and_eq_true] at h
 rw[iN h0,Int.neg_neg,Int.neg_neg,ofZ_toZ h.1,ofZ_toZ h.2.1]
theorem red_neg{a b:Int}(hb:b<0):(⟨kM ((-a).fdiv (Int.gcd (-a) (-b))),kM ((-b).fdiv (Int.gcd (-a) (-b)))⟩:qE)=jN (Rat.divInt a b):=by
 rw[<- divInt_parts (by omega),Rat.neg_divInt_neg]
theorem red_pos{a b:Int}(hb:¬ b<0)(h0:b≠0):(⟨kM (a.fdiv (Int.gcd a b)),kM (b.fdiv (Int.gcd a b))⟩:qE)=jN (Rat.divInt a b):=(divInt_parts (by omega)).symm
theorem gcd_ne{a b:Int}(hb:b≠0):((Int.gcd a b:Nat):Int)≠0:=by
 intro h
 have h1:Int.gcd a b=0:=by omega
 rw[Int.gcd_eq_zero_iff] at h1
 exact hb h1.2
theorem lenZ_gcd{a b:Int}{n:Nat}(hb:b≠0)(h:dC b<=n):dC ((Int.gcd a b:Nat):Int)<=n:=by
 refine Nat.le_trans (iP ?_) h
 rw[Int.natAbs_natCast]
 exact Nat.le_of_dvd (by omega) (Int.gcd_dvd_natAbs_right a b)
theorem signI_le{z:Int}:qV z<=0↔z<=0:=by
 rcases yN z with ⟨h1,h2⟩ | ⟨h1,h2⟩ | ⟨h1,h2⟩<;>omega
theorem signI_lt{z:Int}:qV z<0↔z<0:=by
 rcases yN z with ⟨h1,h2⟩ | ⟨h1,h2⟩ | ⟨h1,h2⟩<;>omega
theorem cmpI_zero{a b:Int}:vD a b=0↔a=b:=by
 unfold vD
 split
 ·constructor<;>intro h<;>omega
 ·split<;>constructor<;>intro h<;>omega
theorem validR_no{x:qE}(h:((!uL x.num||!uL x.den)||decide (qV (jX x.den)<=0))=true):kX x=false:=by
 unfold kX
 rw[Bool.or_eq_true,Bool.or_eq_true,Bool.not_eq_true',Bool.not_eq_true',decide_eq_true_eq,signI_le] at h
 rcases h with (h | h) | h
 ·rw[h];rfl
 ·rw[h];simp
 ·rw[show decide (0<jX x.den)=false from decide_eq_false (by omega)];simp
theorem validR_yes{x:qE}(h:((!uL x.num||!uL x.den)||decide (qV (jX x.den)<=0))=false):kX x=(vD ((Int.gcd (jX x.num) (jX x.den):Nat):Int) 1 == 0):=by
 unfold kX
 rw[Bool.or_eq_false_iff,Bool.or_eq_false_iff,Bool.not_eq_false',Bool.not_eq_false',decide_eq_false_iff_not,signI_le] at h
 obtain ⟨⟨h1,h2⟩,h3⟩:=h
 rw[h1,h2,show decide (0<jX x.den)=true from decide_eq_true (by omega)]
 simp only[Bool.true_and]
 rw[Bool.eq_iff_iff,beq_iff_eq,beq_iff_eq,cmpI_zero]
 omega
theorem signQ_zero{q:Rat}:qV q.num=0↔q=0:=by
 rw[<- Rat.num_eq_zero]
 rcases yN q.num with ⟨h1,h2⟩ | ⟨h1,h2⟩ | ⟨h1,h2⟩<;>omega
def divR(p q:Rat):qE:=if q=0 then ⟨⟨false,[]⟩,⟨false,[]⟩⟩ else jN (p / q)
def divC(q:Rat):Int:=if q=0 then 14 else 0
theorem divR_zero{p q:Rat}(h:q=0):divR p q=⟨⟨false,[]⟩,⟨false,[]⟩⟩:=if_pos h
theorem divR_ne{p q:Rat}(h:q≠0):divR p q=jN (p / q):=if_neg h
theorem divC_zero{q:Rat}(h:q=0):divC q=14:=if_pos h
theorem divC_ne{q:Rat}(h:q≠0):divC q=0:=if_neg h
theorem mul_ne{a b:Int}(ha:a≠0)(hb:b≠0):a*b≠0:=Int.mul_ne_zero ha hb
theorem iI(q:Rat):(q.den:Int)≠0:=by have:=q.den_pos;omega
theorem num_ne{q:Rat}(h:q≠0):q.num≠0:=fun e=>h (Rat.num_eq_zero.1 e)
theorem cU{x y:kW}{a b:Int}{m n k:Nat}(hx:dB x a m)(hy:dB y b n)(h:max m n<=k:=by decide):dB (kM ((Int.gcd a b:Nat):Int)) ((Int.gcd a b:Nat):Int) k:=iok_of (by
 by_cases hb:b=0
 ·subst hb
  rw[Int.gcd_zero_right]
  refine Nat.le_trans (iP (z:=a) ?_) (Nat.le_trans hx.ln (by omega))
  simp
 ·exact Nat.le_trans (lenZ_gcd hb hy.ln) (by omega))
theorem uE{z:Int}(h1:-9223372036854775808<=z:=by decide)(h2:z<=9223372036854775807:=by decide):dC z<=3:=fP (by omega)
theorem iok_int{z:Int}(h1:-9223372036854775808<=z)(h2:z<=9223372036854775807):dB (kM z) z 3:=iok_of (uE h1 h2)
theorem red_neg2{a b:Int}(hb:b<0):jN (Rat.divInt a b)=⟨kM (a.fdiv (-((Int.gcd a b:Nat):Int))),kM (b.fdiv (-((Int.gcd a b:Nat):Int)))⟩:=by
 rw[<- red_neg hb]
 have e:Int.gcd (-a) (-b)=Int.gcd a b:=by simp
 rw[e]
 have h1:=Int.neg_fdiv_neg a (-((Int.gcd a b:Nat):Int))
 have h2:=Int.neg_fdiv_neg b (-((Int.gcd a b:Nat):Int))
 rw[Int.neg_neg] at h1 h2
 rw[h1,h2]
open Go.RowKit (Below)
theorem sim_put{C:Ctx}{a:Act}{w:World}{S:SL}{B:BS}{D:kV}{β:kU}{t:Tmp}{v:Value}{x:SV}(h:bU C a w ⟨S,B⟩ D β)(hd:gZ C.n (some t)=true)(hx:kT w D β v x):bU C (a.put (some t) v) w ⟨(t,x)::S,B⟩ D β :=
 ⟨h.base.put hd _,h.mem,h.high,fun u=>by
  show kT w D β ((a.put (some t) v).tmps.getD u undef) (kA ((t,x)::S) u)
  rw[vH h.base.size hd,qL]
  by_cases e:t=u
  ·rw[if_pos e,if_pos (by rw[e])];exact hx
  ·rw[if_neg e,if_neg (fun e'=>e (by injection e'))];exact h.slots u⟩
theorem pwp_nilq{P:Program}{n:Fr}{S:SL}{B:BS}{Q:Exit->PS->Prop}{id:Nat}{o1 o2:Oper}{t0 ta tb:Tmp}{T T' E t:TypeId}{s s':Nat}{es:List jQ}
  (h1:o1.op=.move (.tmp t0)) (h1d:o1.dst=some ta) (h1g:o1.guard=none) (h2:o2.op=.binOp .eql T (.tmp ta) (.const (.slice none 0 0)) T') (h2d:o2.dst=some tb) (h2g:o2.guard=none)
  (hT:uS P T=some (E,s)) (hda:gZ n (some ta)=true) (hdb:gZ n (some tb)=true) (hx:kA S t0=.d (.sl t s' es))
  (hq:∀ b:Bool,(b=true->es=[])->Q .normal ⟨(tb,.d (.val (.bool b)))::(ta,.d (.sl t s' es))::S,B⟩):cZ P n (.region id #[o1,o2] false) Q ⟨S,B⟩:=fun C a w N hn hs=>by
 subst hn
 obtain ⟨D,β,hs⟩:=hs
 have hv:=hs.slots t0
 have hv':kT w D β (a.tmps.getD t0 undef) (kA S t0):=hv
 rw[hx] at hv'
 have hev:a.eval (.tmp t0)=a.tmps.getD t0 undef:=rfl
 generalize a.tmps.getD t0 undef=v at hv' hev
 have hv'':uQ w D v (.sl t s' es):=hv'
 obtain ⟨i,f1,f2,f3⟩:=mY hT
 cases hv'' with
 |sl g off u hnn hcc hmm hss ha hD hu dT hrr=>
 rename_i ad len cap
 subst hnn
 have hp1:gE o1=true:=by simp [gE,h1]
 have hp2:gE o2=true:=by simp [gE,h2]
 have hs1:=sim_put hs hda hv'
 have hs2:=sim_put (v:=.bool ad.isNone) hs1 hdb (x:=.d (.val (.bool ad.isNone))) (uQ.val _)
 refine wpIn_region_lit (wpListIn_plain h1g fun K1 hK1=>iO hp1 (mU (v:=.slice ad es.length cap) (w':=w) ?_ (hK1 _ _ (wpListIn_plain h2g fun K2 hK2=>iO hp2 (mU (v:=.bool ad.isNone) (w':=w) ?_ (hK2 _ _ (wpListIn_nil ?_)))))))
 ·simp only[execOp,h1,hev,Sem.run_pure]
 ·have hta:(a.put o1.dst (Value.slice ad es.length cap)).eval (.tmp ta)=.slice ad es.length cap:=by
   show (a.put o1.dst (Value.slice ad es.length cap)).tmps.getD ta undef=_
   rw[h1d,vH hs.base.size hda,if_pos rfl]
  have hce:(a.put o1.dst (Value.slice ad es.length cap)).eval (.const (.slice none 0 0))=.slice none 0 0:=rfl
  have heq:∀ d:Nat,(Op.equalIn (d+1) T (.slice ad es.length cap) (.slice none 0 0)).run P w=.ok ad.isNone w:=fun d=>by
   cases ad<;>simp [Op.equalIn,run_underlying f1]
  have heq':(Op.equal T (.slice ad es.length cap) (.slice none 0 0)).run P w=.ok ad.isNone w:=heq 9999
  simp only[execOp,h2,hta,hce]
  simp [eqGuard,binOp,heq']
 ·rw[h1d,h2d]
  refine ⟨_,⟨D,β,hs2⟩,hq _ fun hb=>?_⟩
  cases ad with
  |none=>
   refine List.eq_nil_of_length_eq_zero ?_
   rcases Nat.eq_zero_or_pos es.length with h | h
   ·exact h
   ·have:=ha h;cases this
  |some x=>cases hb
end Go.Fid
