/- Part 10 of a proof: rules, plain facts, and functions walked. -/
import Derived.Test.YtckccjhflbljgaaGreatDoorM9
import Derived.Test.YtckccjhflbljgaaGreatDoorM8
set_option linter.all false
namespace Go.Fid
def dE(z:Int):Nat:=(ofNat z.natAbs).length
theorem ofZ_len(z:Int):(kH z).gs.length=dE z:=rfl
theorem lH(x:kS):(jV x).natAbs=val (kJ x):=by
 unfold jV dA;split<;>simp
theorem grpI_eq(x:kS):kJ x=ofNat (jV x).natAbs:=by rw[lH];exact can_eq (qB x)
theorem eI(x:kS):dE (jV x)<=x.gs.length:=by unfold dE;rw[<- grpI_eq];exact gD x
theorem validI_of{b:Bool}{l:List Nat}(h:yY l)(hb:l=[]->b=false):uF ⟨b,l⟩=true:=by
 unfold uF
 by_cases h0:l=[]
 ·subst h0;simp [hb rfl]
 ·have h1:l.length≠0:=fun e=>h0 (List.eq_nil_of_length_eq_zero e)
  rw[if_neg (by show ((l.length:Nat):Int)≠0;omega)]
  obtain ⟨h2,_⟩:=iL h (by omega)
  have h3:xN l=-1:=lJ h.1
  simp only[Bool.and_eq_true,Bool.not_eq_true',decide_eq_false_iff_not,bne_iff_ne]
  rw[h3]
  exact ⟨by omega,by omega⟩
theorem validI_iff{x:kS}:uF x=true↔yY x.gs/\(x.gs=[]->x.neg=false):=by
 refine ⟨fun h=>?_,fun ⟨h1,h2⟩=>validI_of h1 h2⟩
 have h1:=qB x
 unfold kJ at h1
 rw[if_pos h] at h1
 refine ⟨h1,fun h0=>?_⟩
 unfold uF at h
 rw[if_pos (by rw[h0];rfl)] at h
 simpa using h
theorem validI_ofZ(z:Int):uF (kH z)=true:=validI_iff.2 ⟨kY _,fun h=>by
 have h1:z.natAbs=0:=iA.1 h
 have h2:z=0:=by omega
 subst h2;rfl⟩
theorem grpI_ofZ(z:Int):kJ (kH z)=ofNat z.natAbs:=by unfold kJ;rw[if_pos (validI_ofZ z)];rfl
theorem ofZ_neg(z:Int):(kH z).neg=decide (z<0):=by
 unfold kH xI
 by_cases h:z<0
 ·have:(z.natAbs != 0)=true:=bne_iff_ne.2 (by omega)
  simp [h,this]
 ·simp [h]
theorem cY(z:Int):jV (kH z)=z:=by
 unfold jV dA
 rw[grpI_ofZ,ofZ_neg,kD]
 by_cases h:z<0
 ·simp [h];omega
 ·simp [h];omega
theorem ofZ_toZ{x:kS}(h:uF x=true):kH (jV x)=x:=by
 obtain ⟨h1,h2⟩:=validI_iff.1 h
 obtain ⟨b,l⟩:=x
 have e:kJ ⟨b,l⟩=l:=by unfold kJ;rw[if_pos h]
 have e1:jV ⟨b,l⟩=dA b (val l):=by unfold jV;rw[e]
 rw[e1,<- cX]
 unfold xI
 rw[<- can_eq h1]
 congr 1
 cases b with
 |false=>rfl
 |true=>
  have:val l≠0:=fun e0=>by
   have h3:=h2 (iQ h1 e0)
   cases h3
  simp [this]
theorem toZ_bad{x:kS}(h:uF x=false):jV x=0:=by
 unfold jV kJ
 rw[if_neg (by rw[h];simp)]
 unfold dA;split<;>rfl
theorem fD{z:Int}{n:Nat}:dE z<=n↔z.natAbs<pw n:=by
 refine ⟨fun h=>Nat.lt_of_lt_of_le (ofNat_lt_pw _) (nH h),fun h=>uB h⟩
theorem lenZ_neg(z:Int):dE (-z)=dE z:=by unfold dE;rw[Int.natAbs_neg]
theorem lC{y z:Int}(h:y.natAbs<=z.natAbs):dE y<=dE z:=xM h
theorem lenZ_add{a b:Int}{m n k:Nat}(ha:dE a<=m)(hb:dE b<=n)(h:max m n+1<=k):dE (a+b)<=k:=by
 have h1:=fD.1 ha
 have h2:=fD.1 hb
 refine fD.2 ?_
 have h3:pw m<=pw (max m n):=nH (by omega)
 have h4:pw n<=pw (max m n):=nH (by omega)
 have h5:pw (max m n+1)<=pw k:=nH h
 rw[uV] at h5
 have h6:=Int.natAbs_add_le a b
 omega
theorem cP{a b:Int}{m n k:Nat}(ha:dE a<=m)(hb:dE b<=n)(h:m+n<=k):dE (a*b)<=k:=by
 refine fD.2 ?_
 rw[Int.natAbs_mul]
 refine Nat.lt_of_lt_of_le ?_ (nH h)
 rw[pw_add]
 exact Nat.mul_lt_mul_of_lt_of_le (fD.1 ha) (Nat.le_of_lt (fD.1 hb)) (pw_pos _)
structure dP (x:kS) (z:Int) (n:Nat):Prop where
 v:jV x=z
 l:x.gs.length<=n
theorem dP.ln{x:kS}{z:Int}{n:Nat}(h:dP x z n):dE z<=n:=by rw[<- h.v];exact Nat.le_trans (eI x) h.l
theorem iok_of{z:Int}{n:Nat}(h:dE z<=n):dP (kH z) z n:=⟨cY z,h⟩
theorem yS{x:kS}{n:Nat}(h:x.gs.length<=n):dP x (jV x) n:=⟨rfl,h⟩
theorem iok_add{x y:kS}{a b:Int}{m n k:Nat}(hx:dP x a m)(hy:dP y b n)(h:max m n+1<=k:=by decide):dP (kH (a+b)) (a+b) k:=iok_of (lenZ_add hx.ln hy.ln h)
theorem zY{x y:kS}{a b:Int}{m n k:Nat}(hx:dP x a m)(hy:dP y b n)(h:m+n<=k:=by decide):dP (kH (a*b)) (a*b) k:=iok_of (cP hx.ln hy.ln h)
theorem cA{x:kS}{a:Int}{m:Nat}(hx:dP x a m):dP (kH (-a)) (-a) m:=iok_of (by rw[lenZ_neg];exact hx.ln)
theorem cO{x:kS}{a:Int}{m n:Nat}(hx:dP x a m)(h:m<=n:=by decide):dP x a n:=⟨hx.v,Nat.le_trans hx.l h⟩
theorem iu{x:kS}{a:Int}{m n:Nat}(hx:dP x a m)(h:m<=n:=by decide):dP x a n:=cO hx h
theorem iE{z:Int}(h:z.natAbs<1000000000:=by decide):dP (kH z) z 1:=iok_of (fD.2 (by rw[show (1:Nat)=0+1 from rfl,uV,cD];omega))
theorem signI_sub(a b:Int):qS (a-b)=uT a b:=by
 unfold qS uT
 split
 ·rw[if_neg (by omega),if_neg (by omega)]
 ·split
  ·rw[if_pos (by omega)]
  ·rw[if_neg (by omega),if_pos (by omega)]
theorem cmpI_neg{a b:Nat}(h:uT (a:Int) (b:Int)<0):a<b:=by
 unfold uT at h
 split at h
 ·omega
 ·split at h<;>omega
theorem cmpI_nn{a b:Nat}(h:¬ uT (a:Int) (b:Int)<0):b<=a:=by
 unfold uT at h
 split at h
 ·omega
 ·omega
theorem word_both{a b:List Nat}(ha:Dig a)(h:(mO a&&mO b)=true):yJ a=val a/\yJ b=val b/\val a<1000000000000000000:=by
 unfold mO at h
 rw[Bool.and_eq_true,decide_eq_true_eq,decide_eq_true_eq] at h
 unfold yJ
 rw[if_pos h.1,if_pos h.2]
 exact ⟨rfl,rfl,val_len2 ha h.1⟩
theorem val_pos_len{b:List Nat}(h:0<val b):0<b.length:=by
 rcases b with _ | ⟨d,l⟩
 ·rw[val_nil] at h;omega
 ·simp
theorem cL{b:List Nat}(hb:yY b)(h:0<b.length):0<val b:=by
 have h1:=val_top hb.1 h
 have h2:=iL hb h
 have h3:=Nat.mul_le_mul_right (pw (b.length-1)) h2.1
 have h4:=pw_pos (b.length-1)
 rw[Nat.succ_mul] at h3
 omega
theorem val_len1{b:List Nat}(h:b.length=1):val b=b.getD 0 0:=by
 rcases b with _ | ⟨d,_ | ⟨e,l⟩⟩
 ·simp at h
 ·simp [val]
 ·simp at h
theorem len_quo(l:List Nat)(hl:yY l)(n:Nat):(ofNat (val l / n)).length<=l.length:=by
 have h1:=xM (Nat.div_le_self (val l) n)
 rwa [<- can_eq hl] at h1
theorem len_rem(l:List Nat)(hl:yY l)(n:Nat):(ofNat (val l % n)).length<=l.length:=by
 have h1:=xM (Nat.mod_le (val l) n)
 rwa [<- can_eq hl] at h1
theorem gcd_toZ(x y:kS):Nat.gcd (val (kJ x)) (val (kJ y))=Int.gcd (jV x) (jV y):=by
 unfold Int.gcd;rw[lH,lH]
theorem mkI_false(n:Nat):xI false n=kH (n:Int):=cX false n
theorem r_made_end{neg:Bool}{l:List Nat}{k:Nat}(hd:Dig l)(hk:k<=l.length)(hv:val (l.take k)=val l)(h:(decide ((0:Int)<((k:Nat):Int))&&(((l.getD (k-1) 0:Nat):Int) == 0))=false):xI neg (val l)=⟨neg&&decide ((0:Int)<((k:Nat):Int)),l.take k⟩:=by
 have hc:yY (l.take k):=by
  refine ⟨hd.take k,?_⟩
  unfold Top
  rw[List.length_take,Nat.min_eq_left hk]
  rcases Nat.eq_zero_or_pos k with h0 | h0
  ·subst h0;simp
  ·rw[Bool.and_eq_false_iff] at h
   rcases h with h | h
   ·rw[decide_eq_false_iff_not] at h;omega
   ·have h1:=ne_of_beq_false h
    have h6:k-1<l.length:=by omega
    simp [List.getD,List.getElem?_eq_getElem h6,List.getElem?_take_of_lt (show k-1<k by omega)] at h1 ⊢
    exact h1
 unfold xI
 rw[<- hv,<- can_eq hc]
 congr 1
 congr 1
 rcases Nat.eq_zero_or_pos k with h0 | h0
 ·subst h0;simp [val]
 ·have h1:0<val (l.take k):=cL hc (by rw[List.length_take];omega)
  have h2:(val (l.take k) != 0)=true:=bne_iff_ne.2 (by omega)
  rw[h2];symm;exact decide_eq_true (by omega)
theorem r_made_step{l:List Nat}{k:Nat}(hk:k<=l.length)(hv:val (l.take k)=val l)(h:(decide ((0:Int)<((k:Nat):Int))&&(((l.getD (k-1) 0:Nat):Int) == 0))=true):0<k/\val (l.take (k-1))=val l:=by
 rw[Bool.and_eq_true,decide_eq_true_eq,beq_iff_eq] at h
 have h0:0<k:=by omega
 refine ⟨h0,?_⟩
 have h1:=val_take_succ l (k-1)
 rw[show k-1+1=k by omega,show l.getD (k-1) 0=0 by omega] at h1
 omega
theorem validI_big{x:kS}{i:Nat}(h:i<x.gs.length)(hb:¬ x.gs.getD i 0<1000000000):uF x=false:=by
 rcases hv:uF x with _ | _
 ·rfl
 ·exact absurd ((validI_iff.1 hv).1.1.getD i) hb
theorem validI_nil{x:kS}(h:x.gs.length=0):uF x=!x.neg:=by unfold uF;rw[if_pos (by omega)]
theorem validI_dig{x:kS}(hd:Dig x.gs)(h:x.gs.length≠0):uF x=(((x.gs.getD (x.gs.length-1) 0:Nat):Int) != 0):=by
 unfold uF
 rw[if_neg (by omega),lJ hd]
 simp
theorem push_step{o:List Nat}{i s:Nat}(hl:o.length=i):val (o++[s % 1000000000])+pw (i+1)*(s / 1000000000)=val o+pw i*s:=by
 rw[eA,hl,cV,uV]
 have h:=Nat.mod_add_div s 1000000000
 have h2:pw i*s=pw i*(s % 1000000000)+pw i*(1000000000*(s / 1000000000)):=by rw[<- Nat.mul_add,h]
 rw[h2,Nat.mul_comm 1000000000 (pw i),Nat.mul_assoc]
 omega
theorem dig_push{o:List Nat}(h:Dig o){d:Nat}(hd:d<1000000000):Dig (o++[d]):=iP.2 ⟨h,yR.2 ⟨hd,gL⟩⟩
theorem rplus_step{a b o:List Nat}{i c s:Nat}(hl:o.length=i)(hv:val o+pw i*c=val (a.take i)+val (b.take i))(hs:s=a.getD i 0+b.getD i 0+c) :
  val (o++[s % 1000000000])+pw (i+1)*(s / 1000000000)=val (a.take (i+1))+val (b.take (i+1)):=by
 rw[push_step hl,val_take_succ,val_take_succ,hs,Nat.mul_add,Nat.mul_add]
 omega
theorem rminus_step{a b o:List Nat}{i c s:Nat}(hl:o.length=i)(hv:val o+val (b.take i)=val (a.take i)+pw i*c)(hs:s+b.getD i 0+c=1000000000+a.getD i 0)(h1:s / 1000000000<=1) :
  val (o++[s % 1000000000])+val (b.take (i+1))=val (a.take (i+1))+pw (i+1)*(1-s / 1000000000):=by
 have h:=push_step (o:=o) (i:=i) (s:=s) hl
 have h2:pw (i+1)*(1-s / 1000000000)+pw (i+1)*(s / 1000000000)=pw (i+1):=by
  rw[<- Nat.mul_add,Nat.sub_add_cancel h1,Nat.mul_one]
 have h3:=congrArg (pw i*·) hs
 simp only[Nat.mul_add] at h3
 rw[val_take_succ,val_take_succ]
 rw[uV] at h h2 ⊢
 rw[Nat.mul_comm (pw i) 1000000000] at h3
 omega
theorem rscaled_step{a o:List Nat}{i c d s:Nat}(hl:o.length=i)(hv:val o+pw i*c=val (a.take i)*d)(hs:s=a.getD i 0*d+c) :
  val (o++[s % 1000000000])+pw (i+1)*(s / 1000000000)=val (a.take (i+1))*d:=by
 rw[push_step hl,val_take_succ,hs,Nat.mul_add,Nat.add_mul,Nat.mul_assoc]
 omega
theorem val_push{o:List Nat}{i c:Nat}(hl:o.length=i):val (o++[c])=val o+pw i*c:=by rw[eA,hl,cV]
theorem take_all{a:List Nat}{i:Nat}(h:a.length<=i):a.take i=a:=List.take_of_length_le h
theorem rminus_end{a b o:List Nat}{i c:Nat}(hda:Dig a)(hb:Dig b)(hd:Dig o)(hi:i=a.length)(hl:o.length=i)(hba:val b<=val a)(hv:val o+val (b.take i)=val (a.take i)+pw i*c):val o=val a-val b:=by
 have h1:val (b.take i)=val b:=val_take_of_lt (by rw[hi];exact Nat.lt_of_le_of_lt hba (vR hda))
 rw[h1,hi,List.take_length] at hv
 have h2:=vR hd
 rw[hl,hi] at h2
 rcases Nat.eq_zero_or_pos c with h3 | h3
 ·subst h3;omega
 ·have:=Nat.mul_le_mul_left (pw a.length) h3
  omega
theorem mG(X:Int):dA (kH X).neg X.natAbs=X:=by
 rw[ofZ_neg];unfold dA
 by_cases h:X<0
 ·simp [h];omega
 ·simp [h];omega
theorem rneg_eq(X:Int):xI (!(kH X).neg) (val (ofNat X.natAbs))=kH (-X):=by
 rw[cX,kD]
 congr 1
 have h:=mG X
 unfold dA at h ⊢
 cases hn:(kH X).neg<;>simp [hn] at h ⊢<;>omega
theorem rsum_same{X Y:Int}(h:(kH X).neg=(kH Y).neg):xI (kH X).neg (val (ofNat (val (ofNat X.natAbs)+val (ofNat Y.natAbs))))=kH (X+Y):=by
 rw[sum_same h,kD,kD,mG,mG]
theorem rsum_first{X Y:Int}(h:(kH X).neg≠(kH Y).neg)(hn:val (ofNat Y.natAbs)<=val (ofNat X.natAbs)):xI (kH X).neg (val (ofNat (val (ofNat X.natAbs)-val (ofNat Y.natAbs))))=kH (X+Y):=by
 rw[sum_first h hn,kD,kD,mG,mG]
theorem rsum_second{X Y:Int}(h:(kH X).neg≠(kH Y).neg)(hn:val (ofNat X.natAbs)<=val (ofNat Y.natAbs)):xI (kH Y).neg (val (ofNat (val (ofNat Y.natAbs)-val (ofNat X.natAbs))))=kH (X+Y):=by
 rw[sum_second h hn,kD,kD,mG,mG]
theorem rmul_eq(X Y:Int):xI (!((kH X).neg == (kH Y).neg)) (val (ofNat X.natAbs)*val (ofNat Y.natAbs))=kH (X*Y):=by
 have h:=mul_eq (b:=(kH X).neg) (c:=(kH Y).neg) (val (ofNat X.natAbs)) (val (ofNat Y.natAbs))
 rw[kD (val (ofNat X.natAbs)*val (ofNat Y.natAbs))] at h
 rw[h,kD,kD,mG,mG]
theorem rsign_zero{X:Int}(h:(((ofNat X.natAbs).length:Nat):Int)=0):qS X=0:=by
 have h1:X.natAbs=0:=iA.1 (List.eq_nil_of_length_eq_zero (by omega))
 have h2:X=0:=by omega
 subst h2;rfl
theorem rsign_ne{X:Int}(h:(((ofNat X.natAbs).length:Nat):Int)≠0):X≠0:=fun e=>h (by subst e;simp [uA])
theorem rsign_neg{X:Int}(h:(((ofNat X.natAbs).length:Nat):Int)≠0)(hn:(kH X).neg=true):qS X=-1:=by
 have h1:=rsign_ne h
 rw[ofZ_neg,decide_eq_true_eq] at hn
 unfold qS;rw[if_neg h1,if_pos hn]
theorem rsign_pos{X:Int}(h:(((ofNat X.natAbs).length:Nat):Int)≠0)(hn:(kH X).neg=false):qS X=1:=by
 have h1:=rsign_ne h
 rw[ofZ_neg,decide_eq_false_iff_not] at hn
 unfold qS;rw[if_neg h1,if_neg hn]
theorem gs_val(x:kS):(kH (jV x)).gs.length<=x.gs.length:=eI x
theorem eG(x:kS):(ofNat (jV x).natAbs).length<=x.gs.length:=eI x
theorem gs_neg(x:kS):(kH (-jV x)).gs.length<=x.gs.length:=by rw[ofZ_len,lenZ_neg];exact eI x
theorem gs_sub(x y:kS):(kH (jV x-jV y)).gs.length<=max x.gs.length y.gs.length+1:=by
 rw[Int.sub_eq_add_neg,ofZ_len];exact lenZ_add (eI x) (by rw[lenZ_neg];exact eI y) (Nat.le_refl _)
theorem gs_mul(x y:kS):(kH (jV x*jV y)).gs.length<=x.gs.length+y.gs.length:=cP (eI x) (eI y) (Nat.le_refl _)
theorem val_pair{l:List Nat}(h:l.length<=2):val l=l.getD 1 0*1000000000+l.getD 0 0:=by
 rcases l with _ | ⟨d,_ | ⟨e,_ | ⟨f,l⟩⟩⟩
 ·rfl
 ·simp [val]
 ·simp [val];omega
 ·simp at h
theorem rshift_val{q:List Nat}(u:List Nat){i V r:Nat}(h:val (u.drop (i+1))=V*val (q.drop (i+1))+r):val (u.drop i)=V*(1000000000*val (q.drop (i+1)))+(u.getD i 0+1000000000*r):=by
 rw[xK u i,h,Nat.mul_left_comm]
 rw[Nat.mul_add];omega
theorem rguess{v:List Nat}{W n:Nat}(hv:Dig v)(hn:v.length=n)(h1:1<=n)(hW:W<1000000000*val v) :
  ((ofNat W).getD n 0*1000000000+(ofNat W).getD (n-1) 0) / (v.getD (n-1) 0+1)*val v<=W/\((ofNat W).getD n 0*1000000000+(ofNat W).getD (n-1) 0) / (v.getD (n-1) 0+1)<1000000000:=by
 have hw:=vR hv
 have ht:=val_top hv (by omega)
 rw[hn] at hw ht
 have hp:=pw_pos (n-1)
 have e1:=gV (ofNat W) 0 (n-1)
 have e2:=xK (ofNat W) (n-1)
 have e3:=xK (ofNat W) n
 have e5:W<pw (n+1):=by rw[uV];omega
 have e4:(ofNat W).drop (n+1)=[]:=List.drop_eq_nil_of_le (uB e5)
 rw[e4,val_nil] at e3
 rw[show n-1+1=n by omega] at e2
 rw[List.drop_zero,kD,Nat.zero_add] at e1
 generalize (ofNat W).getD n 0=t1 at *
 generalize (ofNat W).getD (n-1) 0=t0 at *
 generalize v.getD (n-1) 0=v1 at *
 have e6:pw (n-1)*(t1*1000000000+t0)<=W:=by
  have:t1*1000000000+t0=val ((ofNat W).drop (n-1)):=by omega
  rw[this];omega
 have e7:=Nat.div_mul_le_self (t1*1000000000+t0) (v1+1)
 generalize (t1*1000000000+t0) / (v1+1)=G at *
 have e8:G*val v<=W:=by
  refine Nat.le_trans (Nat.mul_le_mul_left G (Nat.le_of_lt ht.2)) (Nat.le_trans ?_ e6)
  rw[<- Nat.mul_assoc,Nat.mul_comm (pw (n-1))]
  exact Nat.mul_le_mul_right _ e7
 refine ⟨e8,?_⟩
 have e9:G*val v<1000000000*val v:=by omega
 exact Nat.lt_of_mul_lt_mul_right e9
theorem rquo_lt{G V r W:Nat}(h:V*G+r=W)(hW:W<1000000000*V):G<1000000000:=by
 have h1:G*V<1000000000*V:=by rw[Nat.mul_comm G V];omega
 exact Nat.lt_of_mul_lt_mul_right h1
theorem rround{u q:List Nat}{V G r i:Nat}(hi:i<q.length)(h:val (u.drop i)=V*(1000000000*val (q.drop (i+1)))+(V*G+r)):val (u.drop i)=V*val ((q.set i G).drop i)+r:=by
 rw[h,cS q i G hi,Nat.mul_add];omega
theorem split_dig{o:List Nat}{m n:Nat}(h:o++ofNat m=ofNat n)(hm:¬ (0:Int)<((m:Nat):Int)):Dig o:=by
 rw[<- split_end h hm];exact kE n
theorem split_val{o:List Nat}{m n:Nat}(h:o++ofNat m=ofNat n)(hm:¬ (0:Int)<((m:Nat):Int)):val o=n:=by
 rw[<- split_end h hm];exact kD n
theorem ofZ_zero:kH 0=⟨false,[]⟩:=by unfold kH xI;simp [uA]
theorem rshort_step{a q:List Nat}{d xH i n:Nat}(hi:i<q.length)(hv:val (a.drop (i+1))=val (q.drop (i+1))*d+xH)(hn:n=xH*1000000000+a.getD i 0) :
  val (a.drop i)=val ((q.set i (n / d)).drop i)*d+n % d:=by
 rw[xK a i,hv,cS q i _ hi]
 have h3:=Nat.div_add_mod n d
 rw[Nat.add_mul,Nat.mul_comm (n / d) d]
 have h4:1000000000*val (q.drop (i+1))*d=1000000000*(val (q.drop (i+1))*d):=Nat.mul_assoc _ _ _
 omega
theorem fdiv_unique{x y q r:Int}(h:r+y*q=x)(hr:(0<=r/\r<y)\/(y<r/\r<=0)):x.fdiv y=q/\x.fmod y=r:=by
 rcases hr with ⟨h1,h2⟩ | ⟨h1,h2⟩
 ·have hy:0<y:=by omega
  rw[Int.fdiv_eq_ediv_of_nonneg _ (by omega),Int.fmod_eq_emod_of_nonneg _ (by omega)]
  exact (Int.ediv_emod_unique hy).2 ⟨h,h1,h2⟩
 ·have hy:0 < -y:=by omega
  have h3:(-x).fdiv (-y)=q/\(-x).fmod (-y)=-r:=by
   rw[Int.fdiv_eq_ediv_of_nonneg _ (by omega),Int.fmod_eq_emod_of_nonneg _ (by omega)]
   refine (Int.ediv_emod_unique hy).2 ⟨?_,by omega,by omega⟩
   rw[<- h,Int.neg_mul];omega
  rw[Int.neg_fdiv_neg,Int.neg_fmod_neg] at h3
  exact ⟨h3.1,by omega⟩
theorem div_same{b c:Bool}{m n:Nat}(hn:0<n)(h:b=c\/m % n=0) :
  kH ((dA b m).fdiv (dA c n))=xI (!(b == c)) (m / n)/\kH ((dA b m).fmod (dA c n))=xI c (m % n):=by
 have h1:((m % n:Nat):Int)+(n:Int)*((m / n:Nat):Int)=(m:Int):=by
  have:=Nat.mod_add_div m n;exact_mod_cast this
 have h2:=Nat.mod_lt m hn
 rw[cX,cX]
 have key:(dA b m).fdiv (dA c n)=dA (!(b == c)) (m / n)/\(dA b m).fmod (dA c n)=dA c (m % n):=by
  have h3:((m % n:Nat):Int)=0\/b=c:=by rcases h with h | h;exact .inr h;exact .inl (by omega)
  generalize m / n=q at *
  generalize m % n=r at *
  refine fdiv_unique ?_ ?_
  ·cases b<;>cases c
   ·show (r:Int)+(n:Int)*(q:Int)=(m:Int);exact h1
   ·show -(r:Int)+(-(n:Int))*(-(q:Int))=(m:Int);rw[Int.neg_mul_neg];rcases h3 with h3 | h3;omega;cases h3
   ·show (r:Int)+(n:Int)*(-(q:Int))=-(m:Int);rw[Int.mul_neg];rcases h3 with h3 | h3;omega;cases h3
   ·show -(r:Int)+(-(n:Int))*(q:Int)=-(m:Int);rw[Int.neg_mul];omega
  ·cases c
   ·left;show 0<=(r:Int)/\(r:Int)<(n:Int);omega
   ·right;show -(n:Int) < -(r:Int)/\-(r:Int)<=0;omega
 rw[key.1,key.2]
 exact ⟨rfl,rfl⟩
theorem div_other{b c:Bool}{m n:Nat}(hn:0<n)(h:b≠c)(hr:0<m % n) :
  kH ((dA b m).fdiv (dA c n))=xI (!(b == c)) (m / n+1)/\kH ((dA b m).fmod (dA c n))=xI c (n-m % n):=by
 have h1:((m % n:Nat):Int)+(n:Int)*((m / n:Nat):Int)=(m:Int):=by
  have:=Nat.mod_add_div m n;exact_mod_cast this
 have h2:=Nat.mod_lt m hn
 rw[cX,cX]
 have key:(dA b m).fdiv (dA c n)=dA (!(b == c)) (m / n+1)/\(dA b m).fmod (dA c n)=dA c (n-m % n):=by
  have e1:(n:Int)*(((m / n+1:Nat)):Int)=(n:Int)*((m / n:Nat):Int)+n:=by
   rw[Int.natCast_add,Int.mul_add];simp
  generalize m / n=q at *
  generalize m % n=r at *
  refine fdiv_unique ?_ ?_
  ·cases b<;>cases c
   ·exact absurd rfl h
   ·show -((n-r:Nat):Int)+(-(n:Int))*(-((q+1:Nat):Int))=(m:Int);rw[Int.neg_mul_neg,e1];omega
   ·show ((n-r:Nat):Int)+(n:Int)*(-((q+1:Nat):Int))=-(m:Int);rw[Int.mul_neg,e1];omega
   ·exact absurd rfl h
  ·cases c
   ·left;show 0<=((n-r:Nat):Int)/\((n-r:Nat):Int)<(n:Int);omega
   ·right;show -(n:Int) < -((n-r:Nat):Int)/\-((n-r:Nat):Int)<=0;omega
 rw[key.1,key.2]
 exact ⟨rfl,rfl⟩
theorem r_div_same{X Y:Int}(hn:0<Y.natAbs)(h:(kH X).neg=(kH Y).neg\/¬ (0:Int)<(((ofNat (val (ofNat X.natAbs) % val (ofNat Y.natAbs))).length:Nat):Int)) :
  xI (!((kH X).neg == (kH Y).neg)) (val (ofNat (val (ofNat X.natAbs) / val (ofNat Y.natAbs))))=kH (X.fdiv Y):=by
 rw[kD,kD,kD]
 rw[kD,kD] at h
 have h1:=(div_same (b:=(kH X).neg) (c:=(kH Y).neg) (m:=X.natAbs) (n:=Y.natAbs) hn (by
  rcases h with h | h
  ·exact .inl h
  ·right
   rcases Nat.eq_zero_or_pos (X.natAbs % Y.natAbs) with h2 | h2
   ·exact h2
   ·have:=eE h2;omega)).1
 rw[mG,mG] at h1
 exact h1.symm
theorem r_div_other{X Y:Int}(hn:0<Y.natAbs)(h:(kH X).neg≠(kH Y).neg/\(0:Int)<(((ofNat (val (ofNat X.natAbs) % val (ofNat Y.natAbs))).length:Nat):Int)) :
  kH (jV (xI (!((kH X).neg == (kH Y).neg)) (val (ofNat (val (ofNat X.natAbs) / val (ofNat Y.natAbs)))))-jV (kH 1))=kH (X.fdiv Y):=by
 obtain ⟨h,h0⟩:=h
 rw[kD,kD] at h0
 have h2:0<X.natAbs % Y.natAbs:=by
  rcases Nat.eq_zero_or_pos (X.natAbs % Y.natAbs) with h3 | h3
  ·rw[h3,uA] at h0;simp at h0
  ·exact h3
 have h1:=(div_other hn h h2).1
 rw[mG,mG] at h1
 rw[h1,kD,kD,kD,cX,cX,cY,cY]
 have hb:(!((kH X).neg == (kH Y).neg))=true:=by rw[Bool.not_eq_true',beq_eq_false_iff_ne];exact h
 rw[hb]
 congr 1
 unfold dA
 rw[if_pos rfl,if_pos rfl];omega
theorem r_rem_eq(X Y:Int):kH (jV (kH X)-jV (kH (jV (kH (X.fdiv Y))*jV (kH Y))))=kH (X.fmod Y):=by
 rw[cY,cY,cY,cY,Int.fmod_def,Int.mul_comm]
def jM(q:Rat):kT:=⟨kH q.num,kH q.den⟩
def kM(x:kT):Bool:=uF x.num&&(uF x.den&&(decide (0<jV x.den)&&(Int.gcd (jV x.num) (jV x.den) == 1)))
def vC(x:kT):Rat:=if kM x=true then Rat.divInt (jV x.num) (jV x.den) else 0
theorem cH(q:Rat):kM (jM q)=true:=by
 unfold kM jM
 simp only[validI_ofZ,cY,Bool.true_and,Bool.and_eq_true,decide_eq_true_eq,beq_iff_eq]
 refine ⟨by have:=q.den_pos;omega,?_⟩
 have:=q.reduced
 unfold Int.gcd
 rw[Int.natAbs_natCast]
 exact this
theorem nI(q:Rat):vC (jM q)=q:=by
 unfold vC
 rw[if_pos (cH q)]
 unfold jM
 simp only[cY]
 exact Rat.num_divInt_den q
theorem ofQ_toQ{x:kT}(h:kM x=true):jM (vC x)=x:=by
 unfold vC
 rw[if_pos h]
 unfold kM at h
 simp only[Bool.and_eq_true,decide_eq_true_eq,beq_iff_eq] at h
 obtain ⟨h1,h2,h3,h4⟩:=h
 have e1:(Rat.divInt (jV x.num) (jV x.den)).num=jV x.num:=by
  rw[Rat.num_divInt,Int.gcd_comm,h4,Int.sign_eq_one_of_pos h3];simp
 have e2:(((Rat.divInt (jV x.num) (jV x.den)).den:Nat):Int)=jV x.den:=by
  rw[Rat.den_divInt,if_neg (by omega),Int.gcd_comm,h4];simp;omega
 unfold jM
 rw[e1,e2,ofZ_toZ h1,ofZ_toZ h2]
theorem toQ_bad{x:kT}(h:kM x=false):vC x=0:=by unfold vC;rw[if_neg (by rw[h];simp)]
def QL(q:Rat)(n:Nat):Prop:=dE q.num<=n/\dE q.den<=n
theorem uE{q:Rat}{m n:Nat}(h:QL q m)(hm:m<=n:=by decide):QL q n:=⟨Nat.le_trans h.1 hm,Nat.le_trans h.2 hm⟩
theorem ql_divInt{a b:Int}{n:Nat}(ha:dE a<=n)(hb:dE b<=n)(h1:1<=n):QL (Rat.divInt a b) n:=by
 constructor
 ·refine Nat.le_trans ?_ ha
  refine lC ?_
  rw[Rat.num_divInt]
  refine Nat.le_trans (Int.natAbs_ediv_le_natAbs _ _) ?_
  rw[Int.natAbs_mul]
  rcases Int.lt_trichotomy b 0 with h | h | h
  ·rw[Int.sign_eq_neg_one_of_neg h];simp
  ·rw[h];simp
  ·rw[Int.sign_eq_one_of_pos h];simp
 ·rw[Rat.den_divInt]
  split
  ·exact Nat.le_trans (by unfold dE;simp [nQ,uA]) h1
  ·refine Nat.le_trans ?_ hb
   refine lC ?_
   rw[Int.natAbs_natCast]
   exact Nat.div_le_self _ _
theorem add_divInt(a b:Rat):a+b=Rat.divInt (a.num*b.den+b.num*a.den) (a.den*b.den):=by
 rw[Rat.add_def',<- Rat.divInt_ofNat,Int.natCast_mul]
theorem mul_divInt(a b:Rat):a*b=Rat.divInt (a.num*b.num) (a.den*b.den):=by
 rw[Rat.mul_def',<- Rat.divInt_ofNat,Int.natCast_mul]
theorem div_divInt(a b:Rat):a / b=Rat.divInt (a.num*b.den) (a.den*b.num):=by
 rw[Rat.div_def,Rat.inv_def]
 conv=>lhs;rw[<- Rat.num_divInt_den a]
 rw[Rat.divInt_mul_divInt]
theorem ql_add{a b:Rat}{m n k:Nat}(ha:QL a m)(hb:QL b n)(h:m+n+1<=k:=by decide):QL (a+b) k:=by
 rw[add_divInt]
 refine ql_divInt (lenZ_add (cP ha.1 hb.2 (Nat.le_refl _)) (cP hb.1 ha.2 (Nat.le_refl _)) (by omega)) (cP ha.2 hb.2 (by omega)) (by omega)
theorem ql_neg{a:Rat}{m:Nat}(ha:QL a m):QL (-a) m:=⟨by rw[Rat.neg_num,lenZ_neg];exact ha.1,by rw[Rat.neg_den];exact ha.2⟩
theorem ql_sub{a b:Rat}{m n k:Nat}(ha:QL a m)(hb:QL b n)(h:m+n+1<=k):QL (a-b) k:=by
 rw[Rat.sub_eq_add_neg];exact ql_add ha (ql_neg hb) h
theorem ql_pos{a:Rat}{m:Nat}(ha:QL a m):1<=m:=by
 have h1:=fD.1 ha.2
 rcases Nat.eq_zero_or_pos m with h | h
 ·subst h;rw[cD] at h1;have:=a.den_pos;omega
 ·exact h
theorem gS{a b:Rat}{m n k:Nat}(ha:QL a m)(hb:QL b n)(h:m+n<=k:=by decide):QL (a*b) k:=by
 have h1:=ql_pos ha
 rw[mul_divInt]
 exact ql_divInt (cP ha.1 hb.1 h) (cP ha.2 hb.2 h) (by omega)
theorem lA{a b:Rat}{m n k:Nat}(ha:QL a m)(hb:QL b n)(h:m+n<=k:=by decide):QL (a / b) k:=by
 have h1:=ql_pos ha
 rw[div_divInt]
 exact ql_divInt (cP ha.1 hb.2 h) (cP ha.2 hb.1 h) (by omega)
theorem xB{z:Int}(h:z.natAbs<1000000000:=by decide):dE z<=1:=fD.2 (by rw[show (1:Nat)=0+1 from rfl,uV,cD];omega)
theorem zW{z:Int}{n:Nat}(h:dE z<=n)(h1:1<=n:=by decide):QL (z:Rat) n:=⟨h,Nat.le_trans (xB (by simp)) h1⟩
theorem fE:QL 0 1:=⟨xB (by simp),xB (by simp)⟩
theorem ql_ite{p:Prop}[Decidable p]{a b:Rat}{n:Nat}(ha:QL a n)(hb:QL b n):QL (if p then a else b) n:=by split<;>assumption
theorem ql_min{a b:Rat}{n:Nat}(ha:QL a n)(hb:QL b n):QL (min a b) n:=by rw[Rat.min_def];exact ql_ite ha hb
theorem ql_max{a b:Rat}{n:Nat}(ha:QL a n)(hb:QL b n):QL (max a b) n:=by rw[Rat.max_def];exact ql_ite hb ha
structure yX (x:kT) (q:Rat) (n:Nat):Prop where
 v:vC x=q
 p:1<=n
 n1:x.num.gs.length<=n
 n2:x.den.gs.length<=n
theorem yX.ql{x:kT}{q:Rat}{n:Nat}(h:yX x q n):QL q n:=by
 rw[<- h.v]
 by_cases hv:kM x=true
 ·unfold vC;rw[if_pos hv]
  exact ql_divInt (Nat.le_trans (eI _) h.n1) (Nat.le_trans (eI _) h.n2) h.p
 ·unfold vC;rw[if_neg hv]
  exact uE fE h.p
theorem kC{q:Rat}{n:Nat}(h:QL q n):yX (jM q) q n:=⟨nI q,ql_pos h,h.1,h.2⟩
theorem qR{q:Rat}{n:Nat}(h:QL q n):dP (jM q).num q.num n:=iok_of h.1
theorem qN{q:Rat}{n:Nat}(h:QL q n):dP (jM q).den q.den n:=iok_of h.2
theorem jW{x:kT}{a:Rat}{m n:Nat}(hx:yX x a m)(h:m<=n:=by decide):yX x a n:=⟨hx.v,Nat.le_trans hx.p h,Nat.le_trans hx.n1 h,Nat.le_trans hx.n2 h⟩
theorem divInt_parts{a b:Int}(hb:0<b):jM (Rat.divInt a b)=⟨kH (a.fdiv (Int.gcd a b)),kH (b.fdiv (Int.gcd a b))⟩:=by
 unfold jM
 have e1:(Rat.divInt a b).num=a.fdiv (Int.gcd a b):=by
  rw[Rat.num_divInt,Int.sign_eq_one_of_pos hb,Int.one_mul,Int.gcd_comm,Int.fdiv_eq_ediv_of_nonneg _ (by omega)]
 have e2:(((Rat.divInt a b).den:Nat):Int)=b.fdiv (Int.gcd a b):=by
  rw[Rat.den_divInt,if_neg (by omega),Int.gcd_comm,Int.fdiv_eq_ediv_of_nonneg _ (by omega),Int.natCast_ediv]
  congr 1;omega
 rw[e1,e2]
def mE(a b:Rat):Int:=if a<b then -1 else if b<a then 1 else 0
theorem cmpQ_cross(a b:Rat):uT (a.num*b.den) (b.num*a.den)=mE a b:=by
 unfold uT mE
 simp only[Rat.lt_iff]
def fU(a:Rat):Int:=qS a.num
theorem signQ_sub(a b:Rat):fU (a-b)=mE a b:=by
 unfold fU qS mE
 have h1:(a-b).num=0↔a-b=0:=Rat.num_eq_zero
 have h2:0<=(a-b).num↔0<=a-b:=Rat.num_nonneg
 have h3:b<=a↔0<=a-b:=Rat.le_iff_sub_nonneg b a
 by_cases hlt:a<b
 ·have h4:¬ 0<=(a-b).num:=fun h=>Rat.not_le.2 hlt (h3.2 (h2.1 h))
  rw[if_neg (by omega),if_pos (by omega),if_pos hlt]
 ·have h4:0<=(a-b).num:=h2.2 (h3.1 (Rat.not_lt.1 hlt))
  rw[if_neg hlt]
  by_cases hgt:b<a
  ·have h5:(a-b).num≠0:=fun h=>by
    have h6:=h1.1 h
    have h7:=(Rat.lt_iff_sub_pos b a).1 hgt
    rw[h6] at h7;exact Rat.lt_irrefl h7
   rw[if_neg h5,if_neg (by omega),if_pos hgt]
  ·have h5:a=b:=Rat.le_antisymm (Rat.not_lt.1 hgt) (Rat.not_lt.1 hlt)
   have h6:(a-b).num=0:=h1.2 (by rw[h5];exact Rat.sub_self)
   rw[if_pos h6,if_neg hgt]
theorem copied_eq{x:kT}(h:kM x=true):(⟨kH (-(-jV x.num)),kH (-(-jV x.den))⟩:kT)=jM (vC x):=by
 have h0:=h
 unfold kM at h
 simp only[Bool.and_eq_true] at h
 rw[ofQ_toQ h0,Int.neg_neg,Int.neg_neg,ofZ_toZ h.1,ofZ_toZ h.2.1]
theorem red_neg{a b:Int}(hb:b<0):(⟨kH ((-a).fdiv (Int.gcd (-a) (-b))),kH ((-b).fdiv (Int.gcd (-a) (-b)))⟩:kT)=jM (Rat.divInt a b):=by
 rw[<- divInt_parts (by omega),Rat.neg_divInt_neg]
theorem red_pos{a b:Int}(hb:¬ b<0)(h0:b≠0):(⟨kH (a.fdiv (Int.gcd a b)),kH (b.fdiv (Int.gcd a b))⟩:kT)=jM (Rat.divInt a b):=(divInt_parts (by omega)).symm
theorem gcd_ne{a b:Int}(hb:b≠0):((Int.gcd a b:Nat):Int)≠0:=by
 intro h
 have h1:Int.gcd a b=0:=by omega
 rw[Int.gcd_eq_zero_iff] at h1
 exact hb h1.2
theorem lenZ_gcd{a b:Int}{n:Nat}(hb:b≠0)(h:dE b<=n):dE ((Int.gcd a b:Nat):Int)<=n:=by
 refine Nat.le_trans (lC ?_) h
 rw[Int.natAbs_natCast]
 exact Nat.le_of_dvd (by omega) (Int.gcd_dvd_natAbs_right a b)
theorem signI_le{z:Int}:qS z<=0↔z<=0:=by
 rcases zV z with ⟨h1,h2⟩ | ⟨h1,h2⟩ | ⟨h1,h2⟩<;>omega
theorem signI_lt{z:Int}:qS z<0↔z<0:=by
 rcases zV z with ⟨h1,h2⟩ | ⟨h1,h2⟩ | ⟨h1,h2⟩<;>omega
theorem cmpI_zero{a b:Int}:uT a b=0↔a=b:=by
 unfold uT
 split
 ·constructor<;>intro h<;>omega
 ·split<;>constructor<;>intro h<;>omega
theorem validR_no{x:kT}(h:((!uF x.num||!uF x.den)||decide (qS (jV x.den)<=0))=true):kM x=false:=by
 unfold kM
 rw[Bool.or_eq_true,Bool.or_eq_true,Bool.not_eq_true',Bool.not_eq_true',decide_eq_true_eq,signI_le] at h
 rcases h with (h | h) | h
 ·rw[h];rfl
 ·rw[h];simp
 ·rw[show decide (0<jV x.den)=false from decide_eq_false (by omega)];simp
theorem validR_yes{x:kT}(h:((!uF x.num||!uF x.den)||decide (qS (jV x.den)<=0))=false):kM x=(uT ((Int.gcd (jV x.num) (jV x.den):Nat):Int) 1 == 0):=by
 unfold kM
 rw[Bool.or_eq_false_iff,Bool.or_eq_false_iff,Bool.not_eq_false',Bool.not_eq_false',decide_eq_false_iff_not,signI_le] at h
 obtain ⟨⟨h1,h2⟩,h3⟩:=h
 rw[h1,h2,show decide (0<jV x.den)=true from decide_eq_true (by omega)]
 simp only[Bool.true_and]
 rw[Bool.eq_iff_iff,beq_iff_eq,beq_iff_eq,cmpI_zero]
 omega
theorem signQ_zero{q:Rat}:qS q.num=0↔q=0:=by
 rw[<- Rat.num_eq_zero]
 rcases zV q.num with ⟨h1,h2⟩ | ⟨h1,h2⟩ | ⟨h1,h2⟩<;>omega
def divR(p q:Rat):kT:=if q=0 then ⟨⟨false,[]⟩,⟨false,[]⟩⟩ else jM (p / q)
def divC(q:Rat):Int:=if q=0 then 14 else 0
theorem divR_zero{p q:Rat}(h:q=0):divR p q=⟨⟨false,[]⟩,⟨false,[]⟩⟩:=if_pos h
theorem divR_ne{p q:Rat}(h:q≠0):divR p q=jM (p / q):=if_neg h
theorem divC_zero{q:Rat}(h:q=0):divC q=14:=if_pos h
theorem divC_ne{q:Rat}(h:q≠0):divC q=0:=if_neg h
theorem mul_ne{a b:Int}(ha:a≠0)(hb:b≠0):a*b≠0:=Int.mul_ne_zero ha hb
theorem aA(q:Rat):(q.den:Int)≠0:=by have:=q.den_pos;omega
theorem num_ne{q:Rat}(h:q≠0):q.num≠0:=fun e=>h (Rat.num_eq_zero.1 e)
theorem dC{x y:kS}{a b:Int}{m n k:Nat}(hx:dP x a m)(hy:dP y b n)(h:max m n<=k:=by decide):dP (kH ((Int.gcd a b:Nat):Int)) ((Int.gcd a b:Nat):Int) k:=iok_of (by
 by_cases hb:b=0
 ·subst hb
  rw[Int.gcd_zero_right]
  refine Nat.le_trans (lC (z:=a) ?_) (Nat.le_trans hx.ln (by omega))
  simp
 ·exact Nat.le_trans (lenZ_gcd hb hy.ln) (by omega))
theorem mU{z:Int}(h1:-9223372036854775808<=z:=by decide)(h2:z<=9223372036854775807:=by decide):dE z<=3:=fN (by omega)
theorem red_neg2{a b:Int}(hb:b<0):jM (Rat.divInt a b)=⟨kH (a.fdiv (-((Int.gcd a b:Nat):Int))),kH (b.fdiv (-((Int.gcd a b:Nat):Int)))⟩:=by
 rw[<- red_neg hb]
 have e:Int.gcd (-a) (-b)=Int.gcd a b:=by simp
 rw[e]
 have h1:=Int.neg_fdiv_neg a (-((Int.gcd a b:Nat):Int))
 have h2:=Int.neg_fdiv_neg b (-((Int.gcd a b:Nat):Int))
 rw[Int.neg_neg] at h1 h2
 rw[h1,h2]
def newR(a b:Int):kT:=if b=0 then ⟨⟨false,[]⟩,⟨false,[]⟩⟩ else jM (Rat.divInt a b)
def newC(b:Int):Int:=if b=0 then 14 else 0
theorem sign0{b:Int}(h:qS b=0):b=0:=by
 rcases zV b with ⟨h1,h2⟩ | ⟨h1,h2⟩ | ⟨h1,h2⟩<;>omega
theorem newR_div(p q:Rat):newR (p.num*q.den) (p.den*q.num)=divR p q:=by
 unfold newR divR
 by_cases h:q=0
 ·subst h;simp
 ·rw[if_neg h,if_neg (mul_ne (aA p) (num_ne h)),div_divInt]
theorem newC_div(p q:Rat):newC (p.den*q.num)=divC q:=by
 unfold newC divC
 by_cases h:q=0
 ·subst h;simp
 ·rw[if_neg h,if_neg (mul_ne (aA p) (num_ne h))]
open Go.RowKit (Below)
theorem sim_put{C:Ctx}{a:Act}{w:World}{S:SL}{B:BS}{D:kQ}{β:kU}{t:Tmp}{v:Value}{x:SV}(h:bU C a w ⟨S,B⟩ D β)(hd:gY C.n (some t)=true)(hx:kX w D β v x):bU C (a.put (some t) v) w ⟨(t,x)::S,B⟩ D β :=
 ⟨h.base.put hd _,h.mem,h.high,fun u=>by
  show kX w D β ((a.put (some t) v).tmps.getD u undef) (jZ ((t,x)::S) u)
  rw[vI h.base.size hd,qP]
  by_cases e:t=u
  ·rw[if_pos e,if_pos (by rw[e])];exact hx
  ·rw[if_neg e,if_neg (fun e'=>e (by injection e'))];exact h.slots u⟩
theorem pwp_nilq{P:Program}{n:Fr}{S:SL}{B:BS}{Q:Exit->PS->Prop}{id:Nat}{o1 o2:Oper}{t0 ta tb:Tmp}{T T' E t:TypeId}{s s':Nat}{es:List jS}
  (h1:o1.op=.move (.tmp t0)) (h1d:o1.dst=some ta) (h1g:o1.guard=none) (h2:o2.op=.binOp .eql T (.tmp ta) (.const (.slice none 0 0)) T') (h2d:o2.dst=some tb) (h2g:o2.guard=none)
  (hT:uM P T=some (E,s)) (hda:gY n (some ta)=true) (hdb:gY n (some tb)=true) (hx:jZ S t0=.d (.sl t s' es))
  (hq:∀ b:Bool,(b=true->es=[])->Q .normal ⟨(tb,.d (.val (.bool b)))::(ta,.d (.sl t s' es))::S,B⟩):eO P n (.region id #[o1,o2] false) Q ⟨S,B⟩:=fun C a w N hn hs=>by
 subst hn
 obtain ⟨D,β,hs⟩:=hs
 have hv:=hs.slots t0
 have hv':kX w D β (a.tmps.getD t0 undef) (jZ S t0):=hv
 rw[hx] at hv'
 have hev:a.eval (.tmp t0)=a.tmps.getD t0 undef:=rfl
 generalize a.tmps.getD t0 undef=v at hv' hev
 have hv'':uS w D v (.sl t s' es):=hv'
 obtain ⟨i,f1,f2,f3⟩:=mY hT
 cases hv'' with
 |sl g off u hnn hcc hmm hss ha hD hu eC hrr=>
 rename_i ad len cap
 subst hnn
 have hp1:yV o1=true:=by simp [yV,h1]
 have hp2:yV o2=true:=by simp [yV,h2]
 have hs1:=sim_put hs hda hv'
 have hs2:=sim_put (v:=.bool ad.isNone) hs1 hdb (x:=.d (.val (.bool ad.isNone))) (uS.val _)
 refine wpIn_region_lit (wpListIn_plain h1g fun K1 hK1=>iW hp1 (mV (v:=.slice ad es.length cap) (w':=w) ?_ (hK1 _ _ (wpListIn_plain h2g fun K2 hK2=>iW hp2 (mV (v:=.bool ad.isNone) (w':=w) ?_ (hK2 _ _ (wpListIn_nil ?_)))))))
 ·simp only[execOp,h1,hev,Sem.run_pure]
 ·have hta:(a.put o1.dst (Value.slice ad es.length cap)).eval (.tmp ta)=.slice ad es.length cap:=by
   show (a.put o1.dst (Value.slice ad es.length cap)).tmps.getD ta undef=_
   rw[h1d,vI hs.base.size hda,if_pos rfl]
  have hce:(a.put o1.dst (Value.slice ad es.length cap)).eval (.const (.slice none 0 0))=.slice none 0 0:=rfl
  have heq:∀ d:Nat,(Op.equalIn (d+1) T (.slice ad es.length cap) (.slice none 0 0)).run P w=.ok ad.isNone w:=fun d=>by
   cases ad<;>simp [Op.equalIn,run_underlying f1]
  have heq':(Op.equal T (.slice ad es.length cap) (.slice none 0 0)).run P w=.ok ad.isNone w:=heq 9999
  simp only[execOp,h2,hta,hce]
  simp [eqGuard,binOp,heq']
 ·rw[h1d,h2d]
  refine ⟨_,⟨D,β,hs2⟩,hq _ fun hb=>?_⟩
  cases ad with
  |none=>
   refine List.eq_nil_of_length_eq_zero ?_
   rcases Nat.eq_zero_or_pos es.length with h | h
   ·exact h
   ·have:=ha h;cases this
  |some x=>cases hb
end Go.Fid
