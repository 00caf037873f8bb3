/- Part 10 of a proof: rules, plain facts, and functions walked. -/
import Derived.Test.YtckccjhflbljgaaGreatDoorM9
import Derived.Test.YtckccjhflbljgaaGreatDoorM8
set_option linter.all false
namespace Go.Fid
def mN(z:Int):Nat:=(ofNat z.natAbs).length
theorem ofZ_len(z:Int):(kD z).gs.length=mN z:=rfl
theorem fY(x:kO):(jR x).natAbs=val (kG x):=by
 unfold jR mI;split<;>simp
theorem grpI_eq(x:kO):kG x=ofNat (jR x).natAbs:=by rw[fY];exact can_eq (qD x)
theorem cD(x:kO):mN (jR x)<=x.gs.length:=by unfold mN;rw[<- grpI_eq];exact yG x
theorem validI_of{b:Bool}{l:List Nat}(h:yF l)(hb:l=[]->b=false):qZ ⟨b,l⟩=true:=by
 unfold qZ
 by_cases h0:l=[]
 ·subst h0;simp [hb rfl]
 ·have h1:l.length≠0:=fun e=>h0 (List.eq_nil_of_length_eq_zero e)
  rw[if_neg (by show ((l.length:Nat):Int)≠0;omega)]
  obtain ⟨h2,_⟩:=aR h (by omega)
  have h3:vS l=-1:=fX h.1
  simp only[Bool.and_eq_true,Bool.not_eq_true',decide_eq_false_iff_not,bne_iff_ne]
  rw[h3]
  exact ⟨by omega,by omega⟩
theorem validI_iff{x:kO}:qZ x=true↔yF x.gs/\(x.gs=[]->x.neg=false):=by
 refine ⟨fun h=>?_,fun ⟨h1,h2⟩=>validI_of h1 h2⟩
 have h1:=qD x
 unfold kG at h1
 rw[if_pos h] at h1
 refine ⟨h1,fun h0=>?_⟩
 unfold qZ at h
 rw[if_pos (by rw[h0];rfl)] at h
 simpa using h
theorem validI_ofZ(z:Int):qZ (kD z)=true:=validI_iff.2 ⟨kZ _,fun h=>by
 have h1:z.natAbs=0:=ofNat_nil.1 h
 have h2:z=0:=by omega
 subst h2;rfl⟩
theorem grpI_ofZ(z:Int):kG (kD z)=ofNat z.natAbs:=by unfold kG;rw[if_pos (validI_ofZ z)];rfl
theorem ofZ_neg(z:Int):(kD z).neg=decide (z<0):=by
 unfold kD vL
 by_cases h:z<0
 ·have:(z.natAbs != 0)=true:=bne_iff_ne.2 (by omega)
  simp [h,this]
 ·simp [h]
theorem mE(z:Int):jR (kD z)=z:=by
 unfold jR mI
 rw[grpI_ofZ,ofZ_neg,jY]
 by_cases h:z<0
 ·simp [h];omega
 ·simp [h];omega
theorem ofZ_toZ{x:kO}(h:qZ x=true):kD (jR x)=x:=by
 obtain ⟨h1,h2⟩:=validI_iff.1 h
 obtain ⟨b,l⟩:=x
 have e:kG ⟨b,l⟩=l:=by unfold kG;rw[if_pos h]
 have e1:jR ⟨b,l⟩=mI b (val l):=by unfold jR;rw[e]
 rw[e1,<- mJ]
 unfold vL
 rw[<- can_eq h1]
 congr 1
 cases b with
 |false=>rfl
 |true=>
  have:val l≠0:=fun e0=>by
   have h3:=h2 (aC h1 e0)
   cases h3
  simp [this]
theorem toZ_bad{x:kO}(h:qZ x=false):jR x=0:=by
 unfold jR kG
 rw[if_neg (by rw[h];simp)]
 unfold mI;split<;>rfl
theorem dD{z:Int}{n:Nat}:mN z<=n↔z.natAbs<pw n:=by
 refine ⟨fun h=>Nat.lt_of_lt_of_le (ofNat_lt_pw _) (gD h),fun h=>qR h⟩
theorem lenZ_neg(z:Int):mN (-z)=mN z:=by unfold mN;rw[Int.natAbs_neg]
theorem aP{y z:Int}(h:y.natAbs<=z.natAbs):mN y<=mN z:=vN h
theorem lenZ_add{a b:Int}{m n k:Nat}(ha:mN a<=m)(hb:mN b<=n)(h:max m n+1<=k):mN (a+b)<=k:=by
 have h1:=dD.1 ha
 have h2:=dD.1 hb
 refine dD.2 ?_
 have h3:pw m<=pw (max m n):=gD (by omega)
 have h4:pw n<=pw (max m n):=gD (by omega)
 have h5:pw (max m n+1)<=pw k:=gD h
 rw[uJ] at h5
 have h6:=Int.natAbs_add_le a b
 omega
theorem mL{a b:Int}{m n k:Nat}(ha:mN a<=m)(hb:mN b<=n)(h:m+n<=k):mN (a*b)<=k:=by
 refine dD.2 ?_
 rw[Int.natAbs_mul]
 refine Nat.lt_of_lt_of_le ?_ (gD h)
 rw[pw_add]
 exact Nat.mul_lt_mul_of_lt_of_le (dD.1 ha) (Nat.le_of_lt (dD.1 hb)) (pw_pos _)
structure cF (x:kO) (z:Int) (n:Nat):Prop where
 v:jR x=z
 l:x.gs.length<=n
theorem cF.ln{x:kO}{z:Int}{n:Nat}(h:cF x z n):mN z<=n:=by rw[<- h.v];exact Nat.le_trans (cD x) h.l
theorem iok_of{z:Int}{n:Nat}(h:mN z<=n):cF (kD z) z n:=⟨mE z,h⟩
theorem zW{x:kO}{n:Nat}(h:x.gs.length<=n):cF x (jR x) n:=⟨rfl,h⟩
theorem iok_add{x y:kO}{a b:Int}{m n k:Nat}(hx:cF x a m)(hy:cF y b n)(h:max m n+1<=k:=by decide):cF (kD (a+b)) (a+b) k:=iok_of (lenZ_add hx.ln hy.ln h)
theorem yS{x y:kO}{a b:Int}{m n k:Nat}(hx:cF x a m)(hy:cF y b n)(h:m+n<=k:=by decide):cF (kD (a*b)) (a*b) k:=iok_of (mL hx.ln hy.ln h)
theorem nQ{x:kO}{a:Int}{m:Nat}(hx:cF x a m):cF (kD (-a)) (-a) m:=iok_of (by rw[lenZ_neg];exact hx.ln)
theorem eT{x:kO}{a:Int}{m n:Nat}(hx:cF x a m)(h:m<=n:=by decide):cF x a n:=⟨hx.v,Nat.le_trans hx.l h⟩
theorem iu{x:kO}{a:Int}{m n:Nat}(hx:cF x a m)(h:m<=n:=by decide):cF x a n:=eT hx h
theorem iok_small{z:Int}(h:z.natAbs<1000000000:=by decide):cF (kD z) z 1:=iok_of (dD.2 (by rw[show (1:Nat)=0+1 from rfl,uJ,nO];omega))
theorem signI_sub(a b:Int):qO (a-b)=uN a b:=by
 unfold qO uN
 split
 ·rw[if_neg (by omega),if_neg (by omega)]
 ·split
  ·rw[if_pos (by omega)]
  ·rw[if_neg (by omega),if_pos (by omega)]
theorem cmpI_neg{a b:Nat}(h:uN (a:Int) (b:Int)<0):a<b:=by
 unfold uN at h
 split at h
 ·omega
 ·split at h<;>omega
theorem cmpI_nn{a b:Nat}(h:¬ uN (a:Int) (b:Int)<0):b<=a:=by
 unfold uN at h
 split at h
 ·omega
 ·omega
theorem word_both{a b:List Nat}(ha:Dig a)(h:(nC a&&nC b)=true):xZ a=val a/\xZ b=val b/\val a<1000000000000000000:=by
 unfold nC at h
 rw[Bool.and_eq_true,decide_eq_true_eq,decide_eq_true_eq] at h
 unfold xZ
 rw[if_pos h.1,if_pos h.2]
 exact ⟨rfl,rfl,val_len2 ha h.1⟩
theorem val_pos_len{b:List Nat}(h:0<val b):0<b.length:=by
 rcases b with _ | ⟨d,l⟩
 ·rw[val_nil] at h;omega
 ·simp
theorem nU{b:List Nat}(hb:yF b)(h:0<b.length):0<val b:=by
 have h1:=val_top hb.1 h
 have h2:=aR hb h
 have h3:=Nat.mul_le_mul_right (pw (b.length-1)) h2.1
 have h4:=pw_pos (b.length-1)
 rw[Nat.succ_mul] at h3
 omega
theorem val_len1{b:List Nat}(h:b.length=1):val b=b.getD 0 0:=by
 rcases b with _ | ⟨d,_ | ⟨e,l⟩⟩
 ·simp at h
 ·simp [val]
 ·simp at h
theorem len_quo(l:List Nat)(hl:yF l)(n:Nat):(ofNat (val l / n)).length<=l.length:=by
 have h1:=vN (Nat.div_le_self (val l) n)
 rwa [<- can_eq hl] at h1
theorem len_rem(l:List Nat)(hl:yF l)(n:Nat):(ofNat (val l % n)).length<=l.length:=by
 have h1:=vN (Nat.mod_le (val l) n)
 rwa [<- can_eq hl] at h1
theorem gcd_toZ(x y:kO):Nat.gcd (val (kG x)) (val (kG y))=Int.gcd (jR x) (jR y):=by
 unfold Int.gcd;rw[fY,fY]
theorem mkI_false(n:Nat):vL false n=kD (n:Int):=mJ false n
theorem r_made_end{neg:Bool}{l:List Nat}{k:Nat}(hd:Dig l)(hk:k<=l.length)(hv:val (l.take k)=val l)(h:(decide ((0:Int)<((k:Nat):Int))&&(((l.getD (k-1) 0:Nat):Int) == 0))=false):vL neg (val l)=⟨neg&&decide ((0:Int)<((k:Nat):Int)),l.take k⟩:=by
 have hc:yF (l.take k):=by
  refine ⟨hd.take k,?_⟩
  unfold Top
  rw[List.length_take,Nat.min_eq_left hk]
  rcases Nat.eq_zero_or_pos k with h0 | h0
  ·subst h0;simp
  ·rw[Bool.and_eq_false_iff] at h
   rcases h with h | h
   ·rw[decide_eq_false_iff_not] at h;omega
   ·have h1:=ne_of_beq_false h
    have h6:k-1<l.length:=by omega
    simp [List.getD,List.getElem?_eq_getElem h6,List.getElem?_take_of_lt (show k-1<k by omega)] at h1 ⊢
    exact h1
 unfold vL
 rw[<- hv,<- can_eq hc]
 congr 1
 congr 1
 rcases Nat.eq_zero_or_pos k with h0 | h0
 ·subst h0;simp [val]
 ·have h1:0<val (l.take k):=nU hc (by rw[List.length_take];omega)
  have h2:(val (l.take k) != 0)=true:=bne_iff_ne.2 (by omega)
  rw[h2];symm;exact decide_eq_true (by omega)
theorem r_made_step{l:List Nat}{k:Nat}(hk:k<=l.length)(hv:val (l.take k)=val l)(h:(decide ((0:Int)<((k:Nat):Int))&&(((l.getD (k-1) 0:Nat):Int) == 0))=true):0<k/\val (l.take (k-1))=val l:=by
 rw[Bool.and_eq_true,decide_eq_true_eq,beq_iff_eq] at h
 have h0:0<k:=by omega
 refine ⟨h0,?_⟩
 have h1:=val_take_succ l (k-1)
 rw[show k-1+1=k by omega,show l.getD (k-1) 0=0 by omega] at h1
 omega
theorem validI_big{x:kO}{i:Nat}(h:i<x.gs.length)(hb:¬ x.gs.getD i 0<1000000000):qZ x=false:=by
 rcases hv:qZ x with _ | _
 ·rfl
 ·exact absurd ((validI_iff.1 hv).1.1.getD i) hb
theorem validI_nil{x:kO}(h:x.gs.length=0):qZ x=!x.neg:=by unfold qZ;rw[if_pos (by omega)]
theorem validI_dig{x:kO}(hd:Dig x.gs)(h:x.gs.length≠0):qZ x=(((x.gs.getD (x.gs.length-1) 0:Nat):Int) != 0):=by
 unfold qZ
 rw[if_neg (by omega),fX hd]
 simp
theorem push_step{o:List Nat}{i s:Nat}(hl:o.length=i):val (o++[s % 1000000000])+pw (i+1)*(s / 1000000000)=val o+pw i*s:=by
 rw[mV,hl,mF,uJ]
 have h:=Nat.mod_add_div s 1000000000
 have h2:pw i*s=pw i*(s % 1000000000)+pw i*(1000000000*(s / 1000000000)):=by rw[<- Nat.mul_add,h]
 rw[h2,Nat.mul_comm 1000000000 (pw i),Nat.mul_assoc]
 omega
theorem dig_push{o:List Nat}(h:Dig o){d:Nat}(hd:d<1000000000):Dig (o++[d]):=aJ.2 ⟨h,zD.2 ⟨hd,yR⟩⟩
theorem rplus_step{a b o:List Nat}{i c s:Nat}(hl:o.length=i)(hv:val o+pw i*c=val (a.take i)+val (b.take i))(hs:s=a.getD i 0+b.getD i 0+c) :
  val (o++[s % 1000000000])+pw (i+1)*(s / 1000000000)=val (a.take (i+1))+val (b.take (i+1)):=by
 rw[push_step hl,val_take_succ,val_take_succ,hs,Nat.mul_add,Nat.mul_add]
 omega
theorem rminus_step{a b o:List Nat}{i c s:Nat}(hl:o.length=i)(hv:val o+val (b.take i)=val (a.take i)+pw i*c)(hs:s+b.getD i 0+c=1000000000+a.getD i 0)(h1:s / 1000000000<=1) :
  val (o++[s % 1000000000])+val (b.take (i+1))=val (a.take (i+1))+pw (i+1)*(1-s / 1000000000):=by
 have h:=push_step (o:=o) (i:=i) (s:=s) hl
 have h2:pw (i+1)*(1-s / 1000000000)+pw (i+1)*(s / 1000000000)=pw (i+1):=by
  rw[<- Nat.mul_add,Nat.sub_add_cancel h1,Nat.mul_one]
 have h3:=congrArg (pw i*·) hs
 simp only[Nat.mul_add] at h3
 rw[val_take_succ,val_take_succ]
 rw[uJ] at h h2 ⊢
 rw[Nat.mul_comm (pw i) 1000000000] at h3
 omega
theorem rscaled_step{a o:List Nat}{i c d s:Nat}(hl:o.length=i)(hv:val o+pw i*c=val (a.take i)*d)(hs:s=a.getD i 0*d+c) :
  val (o++[s % 1000000000])+pw (i+1)*(s / 1000000000)=val (a.take (i+1))*d:=by
 rw[push_step hl,val_take_succ,hs,Nat.mul_add,Nat.add_mul,Nat.mul_assoc]
 omega
theorem val_push{o:List Nat}{i c:Nat}(hl:o.length=i):val (o++[c])=val o+pw i*c:=by rw[mV,hl,mF]
theorem take_all{a:List Nat}{i:Nat}(h:a.length<=i):a.take i=a:=List.take_of_length_le h
theorem rminus_end{a b o:List Nat}{i c:Nat}(hda:Dig a)(hb:Dig b)(hd:Dig o)(hi:i=a.length)(hl:o.length=i)(hba:val b<=val a)(hv:val o+val (b.take i)=val (a.take i)+pw i*c):val o=val a-val b:=by
 have h1:val (b.take i)=val b:=val_take_of_lt (by rw[hi];exact Nat.lt_of_le_of_lt hba (uZ hda))
 rw[h1,hi,List.take_length] at hv
 have h2:=uZ hd
 rw[hl,hi] at h2
 rcases Nat.eq_zero_or_pos c with h3 | h3
 ·subst h3;omega
 ·have:=Nat.mul_le_mul_left (pw a.length) h3
  omega
theorem gZ(X:Int):mI (kD X).neg X.natAbs=X:=by
 rw[ofZ_neg];unfold mI
 by_cases h:X<0
 ·simp [h];omega
 ·simp [h];omega
theorem rneg_eq(X:Int):vL (!(kD X).neg) (val (ofNat X.natAbs))=kD (-X):=by
 rw[mJ,jY]
 congr 1
 have h:=gZ X
 unfold mI at h ⊢
 cases hn:(kD X).neg<;>simp [hn] at h ⊢<;>omega
theorem rsum_same{X Y:Int}(h:(kD X).neg=(kD Y).neg):vL (kD X).neg (val (ofNat (val (ofNat X.natAbs)+val (ofNat Y.natAbs))))=kD (X+Y):=by
 rw[sum_same h,jY,jY,gZ,gZ]
theorem rsum_first{X Y:Int}(h:(kD X).neg≠(kD Y).neg)(hn:val (ofNat Y.natAbs)<=val (ofNat X.natAbs)):vL (kD X).neg (val (ofNat (val (ofNat X.natAbs)-val (ofNat Y.natAbs))))=kD (X+Y):=by
 rw[sum_first h hn,jY,jY,gZ,gZ]
theorem rsum_second{X Y:Int}(h:(kD X).neg≠(kD Y).neg)(hn:val (ofNat X.natAbs)<=val (ofNat Y.natAbs)):vL (kD Y).neg (val (ofNat (val (ofNat Y.natAbs)-val (ofNat X.natAbs))))=kD (X+Y):=by
 rw[sum_second h hn,jY,jY,gZ,gZ]
theorem rmul_eq(X Y:Int):vL (!((kD X).neg == (kD Y).neg)) (val (ofNat X.natAbs)*val (ofNat Y.natAbs))=kD (X*Y):=by
 have h:=mul_eq (b:=(kD X).neg) (c:=(kD Y).neg) (val (ofNat X.natAbs)) (val (ofNat Y.natAbs))
 rw[jY (val (ofNat X.natAbs)*val (ofNat Y.natAbs))] at h
 rw[h,jY,jY,gZ,gZ]
theorem rsign_zero{X:Int}(h:(((ofNat X.natAbs).length:Nat):Int)=0):qO X=0:=by
 have h1:X.natAbs=0:=ofNat_nil.1 (List.eq_nil_of_length_eq_zero (by omega))
 have h2:X=0:=by omega
 subst h2;rfl
theorem rsign_ne{X:Int}(h:(((ofNat X.natAbs).length:Nat):Int)≠0):X≠0:=fun e=>h (by subst e;simp [qQ])
theorem rsign_neg{X:Int}(h:(((ofNat X.natAbs).length:Nat):Int)≠0)(hn:(kD X).neg=true):qO X=-1:=by
 have h1:=rsign_ne h
 rw[ofZ_neg,decide_eq_true_eq] at hn
 unfold qO;rw[if_neg h1,if_pos hn]
theorem rsign_pos{X:Int}(h:(((ofNat X.natAbs).length:Nat):Int)≠0)(hn:(kD X).neg=false):qO X=1:=by
 have h1:=rsign_ne h
 rw[ofZ_neg,decide_eq_false_iff_not] at hn
 unfold qO;rw[if_neg h1,if_neg hn]
theorem gs_val(x:kO):(kD (jR x)).gs.length<=x.gs.length:=cD x
theorem cG(x:kO):(ofNat (jR x).natAbs).length<=x.gs.length:=cD x
theorem gs_neg(x:kO):(kD (-jR x)).gs.length<=x.gs.length:=by rw[ofZ_len,lenZ_neg];exact cD x
theorem gs_sub(x y:kO):(kD (jR x-jR y)).gs.length<=max x.gs.length y.gs.length+1:=by
 rw[Int.sub_eq_add_neg,ofZ_len];exact lenZ_add (cD x) (by rw[lenZ_neg];exact cD y) (Nat.le_refl _)
theorem gs_mul(x y:kO):(kD (jR x*jR y)).gs.length<=x.gs.length+y.gs.length:=mL (cD x) (cD y) (Nat.le_refl _)
theorem val_pair{l:List Nat}(h:l.length<=2):val l=l.getD 1 0*1000000000+l.getD 0 0:=by
 rcases l with _ | ⟨d,_ | ⟨e,_ | ⟨f,l⟩⟩⟩
 ·rfl
 ·simp [val]
 ·simp [val];omega
 ·simp at h
theorem rshift_val{q:List Nat}(u:List Nat){i V r:Nat}(h:val (u.drop (i+1))=V*val (q.drop (i+1))+r):val (u.drop i)=V*(1000000000*val (q.drop (i+1)))+(u.getD i 0+1000000000*r):=by
 rw[vM u i,h,Nat.mul_left_comm]
 rw[Nat.mul_add];omega
theorem rguess{v:List Nat}{W n:Nat}(hv:Dig v)(hn:v.length=n)(h1:1<=n)(hW:W<1000000000*val v) :
  ((ofNat W).getD n 0*1000000000+(ofNat W).getD (n-1) 0) / (v.getD (n-1) 0+1)*val v<=W/\((ofNat W).getD n 0*1000000000+(ofNat W).getD (n-1) 0) / (v.getD (n-1) 0+1)<1000000000:=by
 have hw:=uZ hv
 have ht:=val_top hv (by omega)
 rw[hn] at hw ht
 have hp:=pw_pos (n-1)
 have e1:=yX (ofNat W) 0 (n-1)
 have e2:=vM (ofNat W) (n-1)
 have e3:=vM (ofNat W) n
 have e5:W<pw (n+1):=by rw[uJ];omega
 have e4:(ofNat W).drop (n+1)=[]:=List.drop_eq_nil_of_le (qR e5)
 rw[e4,val_nil] at e3
 rw[show n-1+1=n by omega] at e2
 rw[List.drop_zero,jY,Nat.zero_add] at e1
 generalize (ofNat W).getD n 0=t1 at *
 generalize (ofNat W).getD (n-1) 0=t0 at *
 generalize v.getD (n-1) 0=v1 at *
 have e6:pw (n-1)*(t1*1000000000+t0)<=W:=by
  have:t1*1000000000+t0=val ((ofNat W).drop (n-1)):=by omega
  rw[this];omega
 have e7:=Nat.div_mul_le_self (t1*1000000000+t0) (v1+1)
 generalize (t1*1000000000+t0) / (v1+1)=G at *
 have e8:G*val v<=W:=by
  refine Nat.le_trans (Nat.mul_le_mul_left G (Nat.le_of_lt ht.2)) (Nat.le_trans ?_ e6)
  rw[<- Nat.mul_assoc,Nat.mul_comm (pw (n-1))]
  exact Nat.mul_le_mul_right _ e7
 refine ⟨e8,?_⟩
 have e9:G*val v<1000000000*val v:=by omega
 exact Nat.lt_of_mul_lt_mul_right e9
theorem rquo_lt{G V r W:Nat}(h:V*G+r=W)(hW:W<1000000000*V):G<1000000000:=by
 have h1:G*V<1000000000*V:=by rw[Nat.mul_comm G V];omega
 exact Nat.lt_of_mul_lt_mul_right h1
theorem rround{u q:List Nat}{V G r i:Nat}(hi:i<q.length)(h:val (u.drop i)=V*(1000000000*val (q.drop (i+1)))+(V*G+r)):val (u.drop i)=V*val ((q.set i G).drop i)+r:=by
 rw[h,mG q i G hi,Nat.mul_add];omega
theorem split_dig{o:List Nat}{m n:Nat}(h:o++ofNat m=ofNat n)(hm:¬ (0:Int)<((m:Nat):Int)):Dig o:=by
 rw[<- split_end h hm];exact jZ n
theorem split_val{o:List Nat}{m n:Nat}(h:o++ofNat m=ofNat n)(hm:¬ (0:Int)<((m:Nat):Int)):val o=n:=by
 rw[<- split_end h hm];exact jY n
theorem ofZ_zero:kD 0=⟨false,[]⟩:=by unfold kD vL;simp [qQ]
theorem rshort_step{a q:List Nat}{d vK i n:Nat}(hi:i<q.length)(hv:val (a.drop (i+1))=val (q.drop (i+1))*d+vK)(hn:n=vK*1000000000+a.getD i 0) :
  val (a.drop i)=val ((q.set i (n / d)).drop i)*d+n % d:=by
 rw[vM a i,hv,mG q i _ hi]
 have h3:=Nat.div_add_mod n d
 rw[Nat.add_mul,Nat.mul_comm (n / d) d]
 have h4:1000000000*val (q.drop (i+1))*d=1000000000*(val (q.drop (i+1))*d):=Nat.mul_assoc _ _ _
 omega
theorem fdiv_unique{x y q r:Int}(h:r+y*q=x)(hr:(0<=r/\r<y)\/(y<r/\r<=0)):x.fdiv y=q/\x.fmod y=r:=by
 rcases hr with ⟨h1,h2⟩ | ⟨h1,h2⟩
 ·have hy:0<y:=by omega
  rw[Int.fdiv_eq_ediv_of_nonneg _ (by omega),Int.fmod_eq_emod_of_nonneg _ (by omega)]
  exact (Int.ediv_emod_unique hy).2 ⟨h,h1,h2⟩
 ·have hy:0 < -y:=by omega
  have h3:(-x).fdiv (-y)=q/\(-x).fmod (-y)=-r:=by
   rw[Int.fdiv_eq_ediv_of_nonneg _ (by omega),Int.fmod_eq_emod_of_nonneg _ (by omega)]
   refine (Int.ediv_emod_unique hy).2 ⟨?_,by omega,by omega⟩
   rw[<- h,Int.neg_mul];omega
  rw[Int.neg_fdiv_neg,Int.neg_fmod_neg] at h3
  exact ⟨h3.1,by omega⟩
theorem div_same{b c:Bool}{m n:Nat}(hn:0<n)(h:b=c\/m % n=0) :
  kD ((mI b m).fdiv (mI c n))=vL (!(b == c)) (m / n)/\kD ((mI b m).fmod (mI c n))=vL c (m % n):=by
 have h1:((m % n:Nat):Int)+(n:Int)*((m / n:Nat):Int)=(m:Int):=by
  have:=Nat.mod_add_div m n;exact_mod_cast this
 have h2:=Nat.mod_lt m hn
 rw[mJ,mJ]
 have key:(mI b m).fdiv (mI c n)=mI (!(b == c)) (m / n)/\(mI b m).fmod (mI c n)=mI c (m % n):=by
  have h3:((m % n:Nat):Int)=0\/b=c:=by rcases h with h | h;exact .inr h;exact .inl (by omega)
  generalize m / n=q at *
  generalize m % n=r at *
  refine fdiv_unique ?_ ?_
  ·cases b<;>cases c
   ·show (r:Int)+(n:Int)*(q:Int)=(m:Int);exact h1
   ·show -(r:Int)+(-(n:Int))*(-(q:Int))=(m:Int);rw[Int.neg_mul_neg];rcases h3 with h3 | h3;omega;cases h3
   ·show (r:Int)+(n:Int)*(-(q:Int))=-(m:Int);rw[Int.mul_neg];rcases h3 with h3 | h3;omega;cases h3
   ·show -(r:Int)+(-(n:Int))*(q:Int)=-(m:Int);rw[Int.neg_mul];omega
  ·cases c
   ·left;show 0<=(r:Int)/\(r:Int)<(n:Int);omega
   ·right;show -(n:Int) < -(r:Int)/\-(r:Int)<=0;omega
 rw[key.1,key.2]
 exact ⟨rfl,rfl⟩
theorem div_other{b c:Bool}{m n:Nat}(hn:0<n)(h:b≠c)(hr:0<m % n) :
  kD ((mI b m).fdiv (mI c n))=vL (!(b == c)) (m / n+1)/\kD ((mI b m).fmod (mI c n))=vL c (n-m % n):=by
 have h1:((m % n:Nat):Int)+(n:Int)*((m / n:Nat):Int)=(m:Int):=by
  have:=Nat.mod_add_div m n;exact_mod_cast this
 have h2:=Nat.mod_lt m hn
 rw[mJ,mJ]
 have key:(mI b m).fdiv (mI c n)=mI (!(b == c)) (m / n+1)/\(mI b m).fmod (mI c n)=mI c (n-m % n):=by
  have e1:(n:Int)*(((m / n+1:Nat)):Int)=(n:Int)*((m / n:Nat):Int)+n:=by
   rw[Int.natCast_add,Int.mul_add];simp
  generalize m / n=q at *
  generalize m % n=r at *
  refine fdiv_unique ?_ ?_
  ·cases b<;>cases c
   ·exact absurd rfl h
   ·show -((n-r:Nat):Int)+(-(n:Int))*(-((q+1:Nat):Int))=(m:Int);rw[Int.neg_mul_neg,e1];omega
   ·show ((n-r:Nat):Int)+(n:Int)*(-((q+1:Nat):Int))=-(m:Int);rw[Int.mul_neg,e1];omega
   ·exact absurd rfl h
  ·cases c
   ·left;show 0<=((n-r:Nat):Int)/\((n-r:Nat):Int)<(n:Int);omega
   ·right;show -(n:Int) < -((n-r:Nat):Int)/\-((n-r:Nat):Int)<=0;omega
 rw[key.1,key.2]
 exact ⟨rfl,rfl⟩
theorem r_div_same{X Y:Int}(hn:0<Y.natAbs)(h:(kD X).neg=(kD Y).neg\/¬ (0:Int)<(((ofNat (val (ofNat X.natAbs) % val (ofNat Y.natAbs))).length:Nat):Int)) :
  vL (!((kD X).neg == (kD Y).neg)) (val (ofNat (val (ofNat X.natAbs) / val (ofNat Y.natAbs))))=kD (X.fdiv Y):=by
 rw[jY,jY,jY]
 rw[jY,jY] at h
 have h1:=(div_same (b:=(kD X).neg) (c:=(kD Y).neg) (m:=X.natAbs) (n:=Y.natAbs) hn (by
  rcases h with h | h
  ·exact .inl h
  ·right
   rcases Nat.eq_zero_or_pos (X.natAbs % Y.natAbs) with h2 | h2
   ·exact h2
   ·have:=cB h2;omega)).1
 rw[gZ,gZ] at h1
 exact h1.symm
theorem r_div_other{X Y:Int}(hn:0<Y.natAbs)(h:(kD X).neg≠(kD Y).neg/\(0:Int)<(((ofNat (val (ofNat X.natAbs) % val (ofNat Y.natAbs))).length:Nat):Int)) :
  kD (jR (vL (!((kD X).neg == (kD Y).neg)) (val (ofNat (val (ofNat X.natAbs) / val (ofNat Y.natAbs)))))-jR (kD 1))=kD (X.fdiv Y):=by
 obtain ⟨h,h0⟩:=h
 rw[jY,jY] at h0
 have h2:0<X.natAbs % Y.natAbs:=by
  rcases Nat.eq_zero_or_pos (X.natAbs % Y.natAbs) with h3 | h3
  ·rw[h3,qQ] at h0;simp at h0
  ·exact h3
 have h1:=(div_other hn h h2).1
 rw[gZ,gZ] at h1
 rw[h1,jY,jY,jY,mJ,mJ,mE,mE]
 have hb:(!((kD X).neg == (kD Y).neg))=true:=by rw[Bool.not_eq_true',beq_eq_false_iff_ne];exact h
 rw[hb]
 congr 1
 unfold mI
 rw[if_pos rfl,if_pos rfl];omega
theorem r_rem_eq(X Y:Int):kD (jR (kD X)-jR (kD (jR (kD (X.fdiv Y))*jR (kD Y))))=kD (X.fmod Y):=by
 rw[mE,mE,mE,mE,Int.fmod_def,Int.mul_comm]
def jV(q:Rat):qJ:=⟨kD q.num,kD q.den⟩
def kN(x:qJ):Bool:=qZ x.num&&(qZ x.den&&(decide (0<jR x.den)&&(Int.gcd (jR x.num) (jR x.den) == 1)))
def xD(x:qJ):Rat:=if kN x=true then Rat.divInt (jR x.num) (jR x.den) else 0
theorem dM(q:Rat):kN (jV q)=true:=by
 unfold kN jV
 simp only[validI_ofZ,mE,Bool.true_and,Bool.and_eq_true,decide_eq_true_eq,beq_iff_eq]
 refine ⟨by have:=q.den_pos;omega,?_⟩
 have:=q.reduced
 unfold Int.gcd
 rw[Int.natAbs_natCast]
 exact this
theorem cY(q:Rat):xD (jV q)=q:=by
 unfold xD
 rw[if_pos (dM q)]
 unfold jV
 simp only[mE]
 exact Rat.num_divInt_den q
theorem ofQ_toQ{x:qJ}(h:kN x=true):jV (xD x)=x:=by
 unfold xD
 rw[if_pos h]
 unfold kN at h
 simp only[Bool.and_eq_true,decide_eq_true_eq,beq_iff_eq] at h
 obtain ⟨h1,h2,h3,h4⟩:=h
 have e1:(Rat.divInt (jR x.num) (jR x.den)).num=jR x.num:=by
  rw[Rat.num_divInt,Int.gcd_comm,h4,Int.sign_eq_one_of_pos h3];simp
 have e2:(((Rat.divInt (jR x.num) (jR x.den)).den:Nat):Int)=jR x.den:=by
  rw[Rat.den_divInt,if_neg (by omega),Int.gcd_comm,h4];simp;omega
 unfold jV
 rw[e1,e2,ofZ_toZ h1,ofZ_toZ h2]
theorem toQ_bad{x:qJ}(h:kN x=false):xD x=0:=by unfold xD;rw[if_neg (by rw[h];simp)]
def QL(q:Rat)(n:Nat):Prop:=mN q.num<=n/\mN q.den<=n
theorem vB{q:Rat}{m n:Nat}(h:QL q m)(hm:m<=n:=by decide):QL q n:=⟨Nat.le_trans h.1 hm,Nat.le_trans h.2 hm⟩
theorem ql_divInt{a b:Int}{n:Nat}(ha:mN a<=n)(hb:mN b<=n)(h1:1<=n):QL (Rat.divInt a b) n:=by
 constructor
 ·refine Nat.le_trans ?_ ha
  refine aP ?_
  rw[Rat.num_divInt]
  refine Nat.le_trans (Int.natAbs_ediv_le_natAbs _ _) ?_
  rw[Int.natAbs_mul]
  rcases Int.lt_trichotomy b 0 with h | h | h
  ·rw[Int.sign_eq_neg_one_of_neg h];simp
  ·rw[h];simp
  ·rw[Int.sign_eq_one_of_pos h];simp
 ·rw[Rat.den_divInt]
  split
  ·exact Nat.le_trans (by unfold mN;simp [gK,qQ]) h1
  ·refine Nat.le_trans ?_ hb
   refine aP ?_
   rw[Int.natAbs_natCast]
   exact Nat.div_le_self _ _
theorem add_divInt(a b:Rat):a+b=Rat.divInt (a.num*b.den+b.num*a.den) (a.den*b.den):=by
 rw[Rat.add_def',<- Rat.divInt_ofNat,Int.natCast_mul]
theorem mul_divInt(a b:Rat):a*b=Rat.divInt (a.num*b.num) (a.den*b.den):=by
 rw[Rat.mul_def',<- Rat.divInt_ofNat,Int.natCast_mul]
theorem div_divInt(a b:Rat):a / b=Rat.divInt (a.num*b.den) (a.den*b.num):=by
 rw[Rat.div_def,Rat.inv_def]
 conv=>lhs;rw[<- Rat.num_divInt_den a]
 rw[Rat.divInt_mul_divInt]
theorem ql_add{a b:Rat}{m n k:Nat}(ha:QL a m)(hb:QL b n)(h:m+n+1<=k):QL (a+b) k:=by
 rw[add_divInt]
 refine ql_divInt (lenZ_add (mL ha.1 hb.2 (Nat.le_refl _)) (mL hb.1 ha.2 (Nat.le_refl _)) (by omega)) (mL ha.2 hb.2 (by omega)) (by omega)
theorem ql_neg{a:Rat}{m:Nat}(ha:QL a m):QL (-a) m:=⟨by rw[Rat.neg_num,lenZ_neg];exact ha.1,by rw[Rat.neg_den];exact ha.2⟩
theorem ql_sub{a b:Rat}{m n k:Nat}(ha:QL a m)(hb:QL b n)(h:m+n+1<=k):QL (a-b) k:=by
 rw[Rat.sub_eq_add_neg];exact ql_add ha (ql_neg hb) h
theorem ql_pos{a:Rat}{m:Nat}(ha:QL a m):1<=m:=by
 have h1:=dD.1 ha.2
 rcases Nat.eq_zero_or_pos m with h | h
 ·subst h;rw[nO] at h1;have:=a.den_pos;omega
 ·exact h
theorem mM{a b:Rat}{m n k:Nat}(ha:QL a m)(hb:QL b n)(h:m+n<=k:=by decide):QL (a*b) k:=by
 have h1:=ql_pos ha
 rw[mul_divInt]
 exact ql_divInt (mL ha.1 hb.1 h) (mL ha.2 hb.2 h) (by omega)
theorem ql_div{a b:Rat}{m n k:Nat}(ha:QL a m)(hb:QL b n)(h:m+n<=k:=by decide):QL (a / b) k:=by
 have h1:=ql_pos ha
 rw[div_divInt]
 exact ql_divInt (mL ha.1 hb.2 h) (mL ha.2 hb.1 h) (by omega)
theorem xM{z:Int}(h:z.natAbs<1000000000:=by decide):mN z<=1:=dD.2 (by rw[show (1:Nat)=0+1 from rfl,uJ,nO];omega)
theorem zJ{z:Int}{n:Nat}(h:mN z<=n)(h1:1<=n:=by decide):QL (z:Rat) n:=⟨h,Nat.le_trans (xM (by simp)) h1⟩
theorem dF:QL 0 1:=⟨xM (by simp),xM (by simp)⟩
theorem ql_ite{p:Prop}[Decidable p]{a b:Rat}{n:Nat}(ha:QL a n)(hb:QL b n):QL (if p then a else b) n:=by split<;>assumption
theorem ql_min{a b:Rat}{n:Nat}(ha:QL a n)(hb:QL b n):QL (min a b) n:=by rw[Rat.min_def];exact ql_ite ha hb
theorem ql_max{a b:Rat}{n:Nat}(ha:QL a n)(hb:QL b n):QL (max a b) n:=by rw[Rat.max_def];exact ql_ite hb ha
structure nZ (x:qJ) (q:Rat) (n:Nat):Prop where
 v:xD x=q
 p:1<=n
 n1:x.num.gs.length<=n
 n2:x.den.gs.length<=n
theorem nZ.ql{x:qJ}{q:Rat}{n:Nat}(h:nZ x q n):QL q n:=by
 rw[<- h.v]
 by_cases hv:kN x=true
 ·unfold xD;rw[if_pos hv]
  exact ql_divInt (Nat.le_trans (cD _) h.n1) (Nat.le_trans (cD _) h.n2) h.p
 ·unfold xD;rw[if_neg hv]
  exact vB dF h.p
theorem kI{q:Rat}{n:Nat}(h:QL q n):nZ (jV q) q n:=⟨cY q,ql_pos h,h.1,h.2⟩
theorem uI{q:Rat}{n:Nat}(h:QL q n):cF (jV q).num q.num n:=iok_of h.1
theorem qY{q:Rat}{n:Nat}(h:QL q n):cF (jV q).den q.den n:=iok_of h.2
theorem kE{x:qJ}{a:Rat}{m n:Nat}(hx:nZ x a m)(h:m<=n:=by decide):nZ x a n:=⟨hx.v,Nat.le_trans hx.p h,Nat.le_trans hx.n1 h,Nat.le_trans hx.n2 h⟩
theorem divInt_parts{a b:Int}(hb:0<b):jV (Rat.divInt a b)=⟨kD (a.fdiv (Int.gcd a b)),kD (b.fdiv (Int.gcd a b))⟩:=by
 unfold jV
 have e1:(Rat.divInt a b).num=a.fdiv (Int.gcd a b):=by
  rw[Rat.num_divInt,Int.sign_eq_one_of_pos hb,Int.one_mul,Int.gcd_comm,Int.fdiv_eq_ediv_of_nonneg _ (by omega)]
 have e2:(((Rat.divInt a b).den:Nat):Int)=b.fdiv (Int.gcd a b):=by
  rw[Rat.den_divInt,if_neg (by omega),Int.gcd_comm,Int.fdiv_eq_ediv_of_nonneg _ (by omega),Int.natCast_ediv]
  congr 1;omega
 rw[e1,e2]
def gY(a b:Rat):Int:=if a<b then -1 else if b<a then 1 else 0
theorem cmpQ_cross(a b:Rat):uN (a.num*b.den) (b.num*a.den)=gY a b:=by
 unfold uN gY
 simp only[Rat.lt_iff]
def dX(a:Rat):Int:=qO a.num
theorem signQ_sub(a b:Rat):dX (a-b)=gY a b:=by
 unfold dX qO gY
 have h1:(a-b).num=0↔a-b=0:=Rat.num_eq_zero
 have h2:0<=(a-b).num↔0<=a-b:=Rat.num_nonneg
 have h3:b<=a↔0<=a-b:=Rat.le_iff_sub_nonneg b a
 by_cases hlt:a<b
 ·have h4:¬ 0<=(a-b).num:=fun h=>Rat.not_le.2 hlt (h3.2 (h2.1 h))
  rw[if_neg (by omega),if_pos (by omega),if_pos hlt]
 ·have h4:0<=(a-b).num:=h2.2 (h3.1 (Rat.not_lt.1 hlt))
  rw[if_neg hlt]
  by_cases hgt:b<a
  ·have h5:(a-b).num≠0:=fun h=>by
    have h6:=h1.1 h
    have h7:=(Rat.lt_iff_sub_pos b a).1 hgt
    rw[h6] at h7;exact Rat.lt_irrefl h7
   rw[if_neg h5,if_neg (by omega),if_pos hgt]
  ·have h5:a=b:=Rat.le_antisymm (Rat.not_lt.1 hgt) (Rat.not_lt.1 hlt)
   have h6:(a-b).num=0:=h1.2 (by rw[h5];exact Rat.sub_self)
   rw[if_pos h6,if_neg hgt]
theorem copied_eq{x:qJ}(h:kN x=true):(⟨kD (-(-jR x.num)),kD (-(-jR x.den))⟩:qJ)=jV (xD x):=by
 have h0:=h
 unfold kN at h
 simp only[Bool.and_eq_true] at h
 rw[ofQ_toQ h0,Int.neg_neg,Int.neg_neg,ofZ_toZ h.1,ofZ_toZ h.2.1]
theorem red_neg{a b:Int}(hb:b<0):(⟨kD ((-a).fdiv (Int.gcd (-a) (-b))),kD ((-b).fdiv (Int.gcd (-a) (-b)))⟩:qJ)=jV (Rat.divInt a b):=by
 rw[<- divInt_parts (by omega),Rat.neg_divInt_neg]
theorem red_pos{a b:Int}(hb:¬ b<0)(h0:b≠0):(⟨kD (a.fdiv (Int.gcd a b)),kD (b.fdiv (Int.gcd a b))⟩:qJ)=jV (Rat.divInt a b):=(divInt_parts (by omega)).symm
theorem gcd_ne{a b:Int}(hb:b≠0):((Int.gcd a b:Nat):Int)≠0:=by
 intro h
 have h1:Int.gcd a b=0:=by omega
 rw[Int.gcd_eq_zero_iff] at h1
 exact hb h1.2
theorem lenZ_gcd{a b:Int}{n:Nat}(hb:b≠0)(h:mN b<=n):mN ((Int.gcd a b:Nat):Int)<=n:=by
 refine Nat.le_trans (aP ?_) h
 rw[Int.natAbs_natCast]
 exact Nat.le_of_dvd (by omega) (Int.gcd_dvd_natAbs_right a b)
theorem signI_le{z:Int}:qO z<=0↔z<=0:=by
 rcases xY z with ⟨h1,h2⟩ | ⟨h1,h2⟩ | ⟨h1,h2⟩<;>omega
theorem signI_lt{z:Int}:qO z<0↔z<0:=by
 rcases xY z with ⟨h1,h2⟩ | ⟨h1,h2⟩ | ⟨h1,h2⟩<;>omega
theorem cmpI_zero{a b:Int}:uN a b=0↔a=b:=by
 unfold uN
 split
 ·constructor<;>intro h<;>omega
 ·split<;>constructor<;>intro h<;>omega
theorem validR_no{x:qJ}(h:((!qZ x.num||!qZ x.den)||decide (qO (jR x.den)<=0))=true):kN x=false:=by
 unfold kN
 rw[Bool.or_eq_true,Bool.or_eq_true,Bool.not_eq_true',Bool.not_eq_true',decide_eq_true_eq,signI_le] at h
 rcases h with (h | h) | h
 ·rw[h];rfl
 ·rw[h];simp
 ·rw[show decide (0<jR x.den)=false from decide_eq_false (by omega)];simp
theorem validR_yes{x:qJ}(h:((!qZ x.num||!qZ x.den)||decide (qO (jR x.den)<=0))=false):kN x=(uN ((Int.gcd (jR x.num) (jR x.den):Nat):Int) 1 == 0):=by
 unfold kN
 rw[Bool.or_eq_false_iff,Bool.or_eq_false_iff,Bool.not_eq_false',Bool.not_eq_false',decide_eq_false_iff_not,signI_le] at h
 obtain ⟨⟨h1,h2⟩,h3⟩:=h
 rw[h1,h2,show decide (0<jR x.den)=true from decide_eq_true (by omega)]
 simp only[Bool.true_and]
 rw[Bool.eq_iff_iff,beq_iff_eq,beq_iff_eq,cmpI_zero]
 omega
theorem signQ_zero{q:Rat}:qO q.num=0↔q=0:=by
 rw[<- Rat.num_eq_zero]
 rcases xY q.num with ⟨h1,h2⟩ | ⟨h1,h2⟩ | ⟨h1,h2⟩<;>omega
def divR(p q:Rat):qJ:=if q=0 then ⟨⟨false,[]⟩,⟨false,[]⟩⟩ else jV (p / q)
def divC(q:Rat):Int:=if q=0 then 14 else 0
theorem divR_zero{p q:Rat}(h:q=0):divR p q=⟨⟨false,[]⟩,⟨false,[]⟩⟩:=if_pos h
theorem divR_ne{p q:Rat}(h:q≠0):divR p q=jV (p / q):=if_neg h
theorem divC_zero{q:Rat}(h:q=0):divC q=14:=if_pos h
theorem divC_ne{q:Rat}(h:q≠0):divC q=0:=if_neg h
theorem mul_ne{a b:Int}(ha:a≠0)(hb:b≠0):a*b≠0:=Int.mul_ne_zero ha hb
theorem den_ne(q:Rat):(q.den:Int)≠0:=by have:=q.den_pos;omega
theorem num_ne{q:Rat}(h:q≠0):q.num≠0:=fun e=>h (Rat.num_eq_zero.1 e)
theorem mH{x y:kO}{a b:Int}{m n k:Nat}(hx:cF x a m)(hy:cF y b n)(h:max m n<=k:=by decide):cF (kD ((Int.gcd a b:Nat):Int)) ((Int.gcd a b:Nat):Int) k:=iok_of (by
 by_cases hb:b=0
 ·subst hb
  rw[Int.gcd_zero_right]
  refine Nat.le_trans (aP (z:=a) ?_) (Nat.le_trans hx.ln (by omega))
  simp
 ·exact Nat.le_trans (lenZ_gcd hb hy.ln) (by omega))
theorem nL{z:Int}(h1:-9223372036854775808<=z:=by decide)(h2:z<=9223372036854775807:=by decide):mN z<=3:=dN (by omega)
theorem red_neg2{a b:Int}(hb:b<0):jV (Rat.divInt a b)=⟨kD (a.fdiv (-((Int.gcd a b:Nat):Int))),kD (b.fdiv (-((Int.gcd a b:Nat):Int)))⟩:=by
 rw[<- red_neg hb]
 have e:Int.gcd (-a) (-b)=Int.gcd a b:=by simp
 rw[e]
 have h1:=Int.neg_fdiv_neg a (-((Int.gcd a b:Nat):Int))
 have h2:=Int.neg_fdiv_neg b (-((Int.gcd a b:Nat):Int))
 rw[Int.neg_neg] at h1 h2
 rw[h1,h2]
open Go.RowKit (Below)
theorem sim_put{C:Ctx}{a:Act}{w:World}{S:SL}{B:BS}{D:kP}{β:kR}{t:Tmp}{v:Value}{x:SV}(h:fS C a w ⟨S,B⟩ D β)(hd:yZ C.n (some t)=true)(hx:kY w D β v x):fS C (a.put (some t) v) w ⟨(t,x)::S,B⟩ D β :=
 ⟨h.base.put hd _,h.mem,h.high,fun u=>by
  show kY w D β ((a.put (some t) v).tmps.getD u undef) (jT ((t,x)::S) u)
  rw[uS h.base.size hd,qM]
  by_cases e:t=u
  ·rw[if_pos e,if_pos (by rw[e])];exact hx
  ·rw[if_neg e,if_neg (fun e'=>e (by injection e'))];exact h.slots u⟩
theorem pwp_nilq{P:Program}{n:Fr}{S:SL}{B:BS}{Q:Exit->PS->Prop}{id:Nat}{o1 o2:Oper}{t0 ta tb:Tmp}{T T' E t:TypeId}{s s':Nat}{es:List jP}
  (h1:o1.op=.move (.tmp t0)) (h1d:o1.dst=some ta) (h1g:o1.guard=none) (h2:o2.op=.binOp .eql T (.tmp ta) (.const (.slice none 0 0)) T') (h2d:o2.dst=some tb) (h2g:o2.guard=none)
  (hT:uG P T=some (E,s)) (hda:yZ n (some ta)=true) (hdb:yZ n (some tb)=true) (hx:jT S t0=.d (.sl t s' es))
  (hq:∀ b:Bool,(b=true->es=[])->Q .normal ⟨(tb,.d (.val (.bool b)))::(ta,.d (.sl t s' es))::S,B⟩):dG P n (.region id #[o1,o2] false) Q ⟨S,B⟩:=fun C a w N hn hs=>by
 subst hn
 obtain ⟨D,β,hs⟩:=hs
 have hv:=hs.slots t0
 have hv':kY w D β (a.tmps.getD t0 undef) (jT S t0):=hv
 rw[hx] at hv'
 have hev:a.eval (.tmp t0)=a.tmps.getD t0 undef:=rfl
 generalize a.tmps.getD t0 undef=v at hv' hev
 have hv'':uE w D v (.sl t s' es):=hv'
 obtain ⟨i,f1,f2,f3⟩:=nM hT
 cases hv'' with
 |sl g off u hnn hcc hmm hss ha hD hu mZ hrr=>
 rename_i ad len cap
 subst hnn
 have hp1:yB o1=true:=by simp [yB,h1]
 have hp2:yB o2=true:=by simp [yB,h2]
 have hs1:=sim_put hs hda hv'
 have hs2:=sim_put (v:=.bool ad.isNone) hs1 hdb (x:=.d (.val (.bool ad.isNone))) (uE.val _)
 refine wpIn_region_lit (wpListIn_plain h1g fun K1 hK1=>aS hp1 (nI (v:=.slice ad es.length cap) (w':=w) ?_ (hK1 _ _ (wpListIn_plain h2g fun K2 hK2=>aS hp2 (nI (v:=.bool ad.isNone) (w':=w) ?_ (hK2 _ _ (wpListIn_nil ?_)))))))
 ·simp only[execOp,h1,hev,Sem.run_pure]
 ·have hta:(a.put o1.dst (Value.slice ad es.length cap)).eval (.tmp ta)=.slice ad es.length cap:=by
   show (a.put o1.dst (Value.slice ad es.length cap)).tmps.getD ta undef=_
   rw[h1d,uS hs.base.size hda,if_pos rfl]
  have hce:(a.put o1.dst (Value.slice ad es.length cap)).eval (.const (.slice none 0 0))=.slice none 0 0:=rfl
  have heq:∀ d:Nat,(Op.equalIn (d+1) T (.slice ad es.length cap) (.slice none 0 0)).run P w=.ok ad.isNone w:=fun d=>by
   cases ad<;>simp [Op.equalIn,run_underlying f1]
  have heq':(Op.equal T (.slice ad es.length cap) (.slice none 0 0)).run P w=.ok ad.isNone w:=heq 9999
  simp only[execOp,h2,hta,hce]
  simp [eqGuard,binOp,heq']
 ·rw[h1d,h2d]
  refine ⟨_,⟨D,β,hs2⟩,hq _ fun hb=>?_⟩
  cases ad with
  |none=>
   refine List.eq_nil_of_length_eq_zero ?_
   rcases Nat.eq_zero_or_pos es.length with h | h
   ·exact h
   ·have:=ha h;cases this
  |some x=>cases hb
end Go.Fid
