/- Part 10 of a proof: rules, plain facts, and functions walked. -/
import Derived.Test.YtciingpdmjepgaaGreatM9
import Derived.Test.YtciingpdmjepgaaGreatM8
set_option linter.all false
namespace Go.Fid
def xH(z:Int):Nat:=(ofNat z.natAbs).length
theorem ofZ_len(z:Int):(kG z).gs.length=xH z:=rfl
theorem bD(x:kR):(qB x).natAbs=val (jQ x):=by
 unfold qB mE;split<;>simp
theorem grpI_eq(x:kR):jQ x=ofNat (qB x).natAbs:=by rw[bD];exact can_eq (kX x)
theorem aU(x:kR):xH (qB x)<=x.gs.length:=by unfold xH;rw[<- grpI_eq];exact zV x
theorem validI_of{b:Bool}{l:List Nat}(h:yA l)(hb:l=[]->b=false):qS ⟨b,l⟩=true:=by
 unfold qS
 by_cases h0:l=[]
 ·subst h0;simp [hb rfl]
 ·have h1:l.length≠0:=fun e=>h0 (List.eq_nil_of_length_eq_zero e)
  rw[if_neg (by show ((l.length:Nat):Int)≠0;omega)]
  obtain ⟨h2,_⟩:=aT h (by omega)
  have h3:vH l=-1:=bF h.1
  simp only[Bool.and_eq_true,Bool.not_eq_true',decide_eq_false_iff_not,bne_iff_ne]
  rw[h3]
  exact ⟨by omega,by omega⟩
theorem validI_iff{x:kR}:qS x=true↔yA x.gs/\(x.gs=[]->x.neg=false):=by
 refine ⟨fun h=>?_,fun ⟨h1,h2⟩=>validI_of h1 h2⟩
 have h1:=kX x
 unfold jQ at h1
 rw[if_pos h] at h1
 refine ⟨h1,fun h0=>?_⟩
 unfold qS at h
 rw[if_pos (by rw[h0];rfl)] at h
 simpa using h
theorem validI_ofZ(z:Int):qS (kG z)=true:=validI_iff.2 ⟨kZ _,fun h=>by
 have h1:z.natAbs=0:=ofNat_nil.1 h
 have h2:z=0:=by omega
 subst h2;rfl⟩
theorem grpI_ofZ(z:Int):jQ (kG z)=ofNat z.natAbs:=by unfold jQ;rw[if_pos (validI_ofZ z)];rfl
theorem ofZ_neg(z:Int):(kG z).neg=decide (z<0):=by
 unfold kG xV
 by_cases h:z<0
 ·have:(z.natAbs != 0)=true:=bne_iff_ne.2 (by omega)
  simp [h,this]
 ·simp [h]
theorem toZ_ofZ(z:Int):qB (kG z)=z:=by
 unfold qB mE
 rw[grpI_ofZ,ofZ_neg,kI]
 by_cases h:z<0
 ·simp [h];omega
 ·simp [h];omega
theorem ofZ_toZ{x:kR}(h:qS x=true):kG (qB x)=x:=by
 obtain ⟨h1,h2⟩:=validI_iff.1 h
 obtain ⟨b,l⟩:=x
 have e:jQ ⟨b,l⟩=l:=by unfold jQ;rw[if_pos h]
 have e1:qB ⟨b,l⟩=mE b (val l):=by unfold qB;rw[e]
 rw[e1,<- cX]
 unfold xV
 rw[<- can_eq h1]
 congr 1
 cases b with
 |false=>rfl
 |true=>
  have:val l≠0:=fun e0=>by
   have h3:=h2 (bE h1 e0)
   cases h3
  simp [this]
theorem toZ_bad{x:kR}(h:qS x=false):qB x=0:=by
 unfold qB jQ
 rw[if_neg (by rw[h];simp)]
 unfold mE;split<;>rfl
theorem nJ{z:Int}{n:Nat}:xH z<=n↔z.natAbs<pw n:=by
 refine ⟨fun h=>Nat.lt_of_lt_of_le (ofNat_lt_pw _) (gD h),fun h=>qP h⟩
theorem lenZ_neg(z:Int):xH (-z)=xH z:=by unfold xH;rw[Int.natAbs_neg]
theorem dT{y z:Int}(h:y.natAbs<=z.natAbs):xH y<=xH z:=vI h
theorem lenZ_add{a b:Int}{m n k:Nat}(ha:xH a<=m)(hb:xH b<=n)(h:max m n+1<=k):xH (a+b)<=k:=by
 have h1:=nJ.1 ha
 have h2:=nJ.1 hb
 refine nJ.2 ?_
 have h3:pw m<=pw (max m n):=gD (by omega)
 have h4:pw n<=pw (max m n):=gD (by omega)
 have h5:pw (max m n+1)<=pw k:=gD h
 rw[qY] at h5
 have h6:=Int.natAbs_add_le a b
 omega
theorem lenZ_mul{a b:Int}{m n k:Nat}(ha:xH a<=m)(hb:xH b<=n)(h:m+n<=k):xH (a*b)<=k:=by
 refine nJ.2 ?_
 rw[Int.natAbs_mul]
 refine Nat.lt_of_lt_of_le ?_ (gD h)
 rw[pw_add]
 exact Nat.mul_lt_mul_of_lt_of_le (nJ.1 ha) (Nat.le_of_lt (nJ.1 hb)) (pw_pos _)
structure xI (x:kR) (z:Int) (n:Nat):Prop where
 v:qB x=z
 l:x.gs.length<=n
theorem xI.ln{x:kR}{z:Int}{n:Nat}(h:xI x z n):xH z<=n:=by rw[<- h.v];exact Nat.le_trans (aU x) h.l
theorem nO{z:Int}{n:Nat}(h:xH z<=n):xI (kG z) z n:=⟨toZ_ofZ z,h⟩
theorem xT{x:kR}{n:Nat}(h:x.gs.length<=n):xI x (qB x) n:=⟨rfl,h⟩
theorem hM{x y:kR}{a b:Int}{m n k:Nat}(hx:xI x a m)(hy:xI y b n)(h:max m n+1<=k:=by decide):xI (kG (a+b)) (a+b) k:=nO (lenZ_add hx.ln hy.ln h)
theorem xS{x y:kR}{a b:Int}{m n k:Nat}(hx:xI x a m)(hy:xI y b n)(h:m+n<=k:=by decide):xI (kG (a*b)) (a*b) k:=nO (lenZ_mul hx.ln hy.ln h)
theorem cE{x:kR}{a:Int}{m:Nat}(hx:xI x a m):xI (kG (-a)) (-a) m:=nO (by rw[lenZ_neg];exact hx.ln)
theorem mA{x:kR}{a:Int}{m n:Nat}(hx:xI x a m)(h:m<=n:=by decide):xI x a n:=⟨hx.v,Nat.le_trans hx.l h⟩
theorem iu{x:kR}{a:Int}{m n:Nat}(hx:xI x a m)(h:m<=n:=by decide):xI x a n:=mA hx h
theorem iok_small{z:Int}(h:z.natAbs<1000000000:=by decide):xI (kG z) z 1:=nO (nJ.2 (by rw[show (1:Nat)=0+1 from rfl,qY,nL];omega))
theorem signI_sub(a b:Int):kW (a-b)=uM a b:=by
 unfold kW uM
 split
 ·rw[if_neg (by omega),if_neg (by omega)]
 ·split
  ·rw[if_pos (by omega)]
  ·rw[if_neg (by omega),if_pos (by omega)]
theorem cmpI_neg{a b:Nat}(h:uM (a:Int) (b:Int)<0):a<b:=by
 unfold uM at h
 split at h
 ·omega
 ·split at h<;>omega
theorem cmpI_nn{a b:Nat}(h:¬ uM (a:Int) (b:Int)<0):b<=a:=by
 unfold uM at h
 split at h
 ·omega
 ·omega
theorem word_both{a b:List Nat}(ha:Dig a)(h:(nD a&&nD b)=true):xE a=val a/\xE b=val b/\val a<1000000000000000000:=by
 unfold nD at h
 rw[Bool.and_eq_true,decide_eq_true_eq,decide_eq_true_eq] at h
 unfold xE
 rw[if_pos h.1,if_pos h.2]
 exact ⟨rfl,rfl,val_len2 ha h.1⟩
theorem val_pos_len{b:List Nat}(h:0<val b):0<b.length:=by
 rcases b with _ | ⟨d,l⟩
 ·rw[val_nil] at h;omega
 ·simp
theorem nS{b:List Nat}(hb:yA b)(h:0<b.length):0<val b:=by
 have h1:=val_top hb.1 h
 have h2:=aT hb h
 have h3:=Nat.mul_le_mul_right (pw (b.length-1)) h2.1
 have h4:=pw_pos (b.length-1)
 rw[Nat.succ_mul] at h3
 omega
theorem val_len1{b:List Nat}(h:b.length=1):val b=b.getD 0 0:=by
 rcases b with _ | ⟨d,_ | ⟨e,l⟩⟩
 ·simp at h
 ·simp [val]
 ·simp at h
theorem len_quo(l:List Nat)(hl:yA l)(n:Nat):(ofNat (val l / n)).length<=l.length:=by
 have h1:=vI (Nat.div_le_self (val l) n)
 rwa [<- can_eq hl] at h1
theorem len_rem(l:List Nat)(hl:yA l)(n:Nat):(ofNat (val l % n)).length<=l.length:=by
 have h1:=vI (Nat.mod_le (val l) n)
 rwa [<- can_eq hl] at h1
theorem gcd_toZ(x y:kR):Nat.gcd (val (jQ x)) (val (jQ y))=Int.gcd (qB x) (qB y):=by
 unfold Int.gcd;rw[bD,bD]
theorem mkI_false(n:Nat):xV false n=kG (n:Int):=cX false n
theorem r_made_end{neg:Bool}{l:List Nat}{k:Nat}(hd:Dig l)(hk:k<=l.length)(hv:val (l.take k)=val l)(h:(decide ((0:Int)<((k:Nat):Int))&&(((l.getD (k-1) 0:Nat):Int) == 0))=false):xV neg (val l)=⟨neg&&decide ((0:Int)<((k:Nat):Int)),l.take k⟩:=by
 have hc:yA (l.take k):=by
  refine ⟨hd.take k,?_⟩
  unfold Top
  rw[List.length_take,Nat.min_eq_left hk]
  rcases Nat.eq_zero_or_pos k with h0 | h0
  ·subst h0;simp
  ·rw[Bool.and_eq_false_iff] at h
   rcases h with h | h
   ·rw[decide_eq_false_iff_not] at h;omega
   ·have h1:=ne_of_beq_false h
    have h6:k-1<l.length:=by omega
    simp [List.getD,List.getElem?_eq_getElem h6,List.getElem?_take_of_lt (show k-1<k by omega)] at h1 ⊢
    exact h1
 unfold xV
 rw[<- hv,<- can_eq hc]
 congr 1
 congr 1
 rcases Nat.eq_zero_or_pos k with h0 | h0
 ·subst h0;simp [val]
 ·have h1:0<val (l.take k):=nS hc (by rw[List.length_take];omega)
  have h2:(val (l.take k) != 0)=true:=bne_iff_ne.2 (by omega)
  rw[h2];symm;exact decide_eq_true (by omega)
theorem r_made_step{l:List Nat}{k:Nat}(hk:k<=l.length)(hv:val (l.take k)=val l)(h:(decide ((0:Int)<((k:Nat):Int))&&(((l.getD (k-1) 0:Nat):Int) == 0))=true):0<k/\val (l.take (k-1))=val l:=by
 rw[Bool.and_eq_true,decide_eq_true_eq,beq_iff_eq] at h
 have h0:0<k:=by omega
 refine ⟨h0,?_⟩
 have h1:=val_take_succ l (k-1)
 rw[show k-1+1=k by omega,show l.getD (k-1) 0=0 by omega] at h1
 omega
theorem validI_big{x:kR}{i:Nat}(h:i<x.gs.length)(hb:¬ x.gs.getD i 0<1000000000):qS x=false:=by
 rcases hv:qS x with _ | _
 ·rfl
 ·exact absurd ((validI_iff.1 hv).1.1.getD i) hb
theorem validI_nil{x:kR}(h:x.gs.length=0):qS x=!x.neg:=by unfold qS;rw[if_pos (by omega)]
theorem validI_dig{x:kR}(hd:Dig x.gs)(h:x.gs.length≠0):qS x=(((x.gs.getD (x.gs.length-1) 0:Nat):Int) != 0):=by
 unfold qS
 rw[if_neg (by omega),bF hd]
 simp
theorem push_step{o:List Nat}{i s:Nat}(hl:o.length=i):val (o++[s % 1000000000])+pw (i+1)*(s / 1000000000)=val o+pw i*s:=by
 rw[mP,hl,nW,qY]
 have h:=Nat.mod_add_div s 1000000000
 have h2:pw i*s=pw i*(s % 1000000000)+pw i*(1000000000*(s / 1000000000)):=by rw[<- Nat.mul_add,h]
 rw[h2,Nat.mul_comm 1000000000 (pw i),Nat.mul_assoc]
 omega
theorem dig_push{o:List Nat}(h:Dig o){d:Nat}(hd:d<1000000000):Dig (o++[d]):=aX.2 ⟨h,xL.2 ⟨hd,yF⟩⟩
theorem rplus_step{a b o:List Nat}{i c s:Nat}(hl:o.length=i)(hv:val o+pw i*c=val (a.take i)+val (b.take i))(hs:s=a.getD i 0+b.getD i 0+c) :
  val (o++[s % 1000000000])+pw (i+1)*(s / 1000000000)=val (a.take (i+1))+val (b.take (i+1)):=by
 rw[push_step hl,val_take_succ,val_take_succ,hs,Nat.mul_add,Nat.mul_add]
 omega
theorem rminus_step{a b o:List Nat}{i c s:Nat}(hl:o.length=i)(hv:val o+val (b.take i)=val (a.take i)+pw i*c)(hs:s+b.getD i 0+c=1000000000+a.getD i 0)(h1:s / 1000000000<=1) :
  val (o++[s % 1000000000])+val (b.take (i+1))=val (a.take (i+1))+pw (i+1)*(1-s / 1000000000):=by
 have h:=push_step (o:=o) (i:=i) (s:=s) hl
 have h2:pw (i+1)*(1-s / 1000000000)+pw (i+1)*(s / 1000000000)=pw (i+1):=by
  rw[<- Nat.mul_add,Nat.sub_add_cancel h1,Nat.mul_one]
 have h3:=congrArg (pw i*·) hs
 simp only[Nat.mul_add] at h3
 rw[val_take_succ,val_take_succ]
 rw[qY] at h h2 ⊢
 rw[Nat.mul_comm (pw i) 1000000000] at h3
 omega
theorem rscaled_step{a o:List Nat}{i c d s:Nat}(hl:o.length=i)(hv:val o+pw i*c=val (a.take i)*d)(hs:s=a.getD i 0*d+c) :
  val (o++[s % 1000000000])+pw (i+1)*(s / 1000000000)=val (a.take (i+1))*d:=by
 rw[push_step hl,val_take_succ,hs,Nat.mul_add,Nat.add_mul,Nat.mul_assoc]
 omega
theorem val_push{o:List Nat}{i c:Nat}(hl:o.length=i):val (o++[c])=val o+pw i*c:=by rw[mP,hl,nW]
theorem take_all{a:List Nat}{i:Nat}(h:a.length<=i):a.take i=a:=List.take_of_length_le h
theorem rminus_end{a b o:List Nat}{i c:Nat}(hda:Dig a)(hb:Dig b)(hd:Dig o)(hi:i=a.length)(hl:o.length=i)(hba:val b<=val a)(hv:val o+val (b.take i)=val (a.take i)+pw i*c):val o=val a-val b:=by
 have h1:val (b.take i)=val b:=val_take_of_lt (by rw[hi];exact Nat.lt_of_le_of_lt hba (uV hda))
 rw[h1,hi,List.take_length] at hv
 have h2:=uV hd
 rw[hl,hi] at h2
 rcases Nat.eq_zero_or_pos c with h3 | h3
 ·subst h3;omega
 ·have:=Nat.mul_le_mul_left (pw a.length) h3
  omega
theorem bH(X:Int):mE (kG X).neg X.natAbs=X:=by
 rw[ofZ_neg];unfold mE
 by_cases h:X<0
 ·simp [h];omega
 ·simp [h];omega
theorem rneg_eq(X:Int):xV (!(kG X).neg) (val (ofNat X.natAbs))=kG (-X):=by
 rw[cX,kI]
 congr 1
 have h:=bH X
 unfold mE at h ⊢
 cases hn:(kG X).neg<;>simp [hn] at h ⊢<;>omega
theorem rsum_same{X Y:Int}(h:(kG X).neg=(kG Y).neg):xV (kG X).neg (val (ofNat (val (ofNat X.natAbs)+val (ofNat Y.natAbs))))=kG (X+Y):=by
 rw[sum_same h,kI,kI,bH,bH]
theorem rsum_first{X Y:Int}(h:(kG X).neg≠(kG Y).neg)(hn:val (ofNat Y.natAbs)<=val (ofNat X.natAbs)):xV (kG X).neg (val (ofNat (val (ofNat X.natAbs)-val (ofNat Y.natAbs))))=kG (X+Y):=by
 rw[sum_first h hn,kI,kI,bH,bH]
theorem rsum_second{X Y:Int}(h:(kG X).neg≠(kG Y).neg)(hn:val (ofNat X.natAbs)<=val (ofNat Y.natAbs)):xV (kG Y).neg (val (ofNat (val (ofNat Y.natAbs)-val (ofNat X.natAbs))))=kG (X+Y):=by
 rw[sum_second h hn,kI,kI,bH,bH]
theorem rsign_zero{X:Int}(h:(((ofNat X.natAbs).length:Nat):Int)=0):kW X=0:=by
 have h1:X.natAbs=0:=ofNat_nil.1 (List.eq_nil_of_length_eq_zero (by omega))
 have h2:X=0:=by omega
 subst h2;rfl
theorem rsign_ne{X:Int}(h:(((ofNat X.natAbs).length:Nat):Int)≠0):X≠0:=fun e=>h (by subst e;simp [uG])
theorem rsign_neg{X:Int}(h:(((ofNat X.natAbs).length:Nat):Int)≠0)(hn:(kG X).neg=true):kW X=-1:=by
 have h1:=rsign_ne h
 rw[ofZ_neg,decide_eq_true_eq] at hn
 unfold kW;rw[if_neg h1,if_pos hn]
theorem rsign_pos{X:Int}(h:(((ofNat X.natAbs).length:Nat):Int)≠0)(hn:(kG X).neg=false):kW X=1:=by
 have h1:=rsign_ne h
 rw[ofZ_neg,decide_eq_false_iff_not] at hn
 unfold kW;rw[if_neg h1,if_neg hn]
theorem gs_val2(x:kR):(ofNat (qB x).natAbs).length<=x.gs.length:=aU x
theorem gs_neg(x:kR):(kG (-qB x)).gs.length<=x.gs.length:=by rw[ofZ_len,lenZ_neg];exact aU x
theorem gs_sub(x y:kR):(kG (qB x-qB y)).gs.length<=max x.gs.length y.gs.length+1:=by
 rw[Int.sub_eq_add_neg,ofZ_len];exact lenZ_add (aU x) (by rw[lenZ_neg];exact aU y) (Nat.le_refl _)
theorem val_pair{l:List Nat}(h:l.length<=2):val l=l.getD 1 0*1000000000+l.getD 0 0:=by
 rcases l with _ | ⟨d,_ | ⟨e,_ | ⟨f,l⟩⟩⟩
 ·rfl
 ·simp [val]
 ·simp [val];omega
 ·simp at h
theorem rshift_val{q:List Nat}(u:List Nat){i V r:Nat}(h:val (u.drop (i+1))=V*val (q.drop (i+1))+r):val (u.drop i)=V*(1000000000*val (q.drop (i+1)))+(u.getD i 0+1000000000*r):=by
 rw[vG u i,h,Nat.mul_left_comm]
 rw[Nat.mul_add];omega
theorem rguess{v:List Nat}{W n:Nat}(hv:Dig v)(hn:v.length=n)(h1:1<=n)(hW:W<1000000000*val v) :
  ((ofNat W).getD n 0*1000000000+(ofNat W).getD (n-1) 0) / (v.getD (n-1) 0+1)*val v<=W/\((ofNat W).getD n 0*1000000000+(ofNat W).getD (n-1) 0) / (v.getD (n-1) 0+1)<1000000000:=by
 have hw:=uV hv
 have ht:=val_top hv (by omega)
 rw[hn] at hw ht
 have hp:=pw_pos (n-1)
 have e1:=yO (ofNat W) 0 (n-1)
 have e2:=vG (ofNat W) (n-1)
 have e3:=vG (ofNat W) n
 have e5:W<pw (n+1):=by rw[qY];omega
 have e4:(ofNat W).drop (n+1)=[]:=List.drop_eq_nil_of_le (qP e5)
 rw[e4,val_nil] at e3
 rw[show n-1+1=n by omega] at e2
 rw[List.drop_zero,kI,Nat.zero_add] at e1
 generalize (ofNat W).getD n 0=t1 at *
 generalize (ofNat W).getD (n-1) 0=t0 at *
 generalize v.getD (n-1) 0=v1 at *
 have e6:pw (n-1)*(t1*1000000000+t0)<=W:=by
  have:t1*1000000000+t0=val ((ofNat W).drop (n-1)):=by omega
  rw[this];omega
 have e7:=Nat.div_mul_le_self (t1*1000000000+t0) (v1+1)
 generalize (t1*1000000000+t0) / (v1+1)=G at *
 have e8:G*val v<=W:=by
  refine Nat.le_trans (Nat.mul_le_mul_left G (Nat.le_of_lt ht.2)) (Nat.le_trans ?_ e6)
  rw[<- Nat.mul_assoc,Nat.mul_comm (pw (n-1))]
  exact Nat.mul_le_mul_right _ e7
 refine ⟨e8,?_⟩
 have e9:G*val v<1000000000*val v:=by omega
 exact Nat.lt_of_mul_lt_mul_right e9
theorem rquo_lt{G V r W:Nat}(h:V*G+r=W)(hW:W<1000000000*V):G<1000000000:=by
 have h1:G*V<1000000000*V:=by rw[Nat.mul_comm G V];omega
 exact Nat.lt_of_mul_lt_mul_right h1
theorem rround{u q:List Nat}{V G r i:Nat}(hi:i<q.length)(h:val (u.drop i)=V*(1000000000*val (q.drop (i+1)))+(V*G+r)):val (u.drop i)=V*val ((q.set i G).drop i)+r:=by
 rw[h,nX q i G hi,Nat.mul_add];omega
theorem split_dig{o:List Nat}{m n:Nat}(h:o++ofNat m=ofNat n)(hm:¬ (0:Int)<((m:Nat):Int)):Dig o:=by
 rw[<- split_end h hm];exact kB n
theorem split_val{o:List Nat}{m n:Nat}(h:o++ofNat m=ofNat n)(hm:¬ (0:Int)<((m:Nat):Int)):val o=n:=by
 rw[<- split_end h hm];exact kI n
theorem ofZ_zero:kG 0=⟨false,[]⟩:=by unfold kG xV;simp [uG]
theorem rshort_step{a q:List Nat}{d vE i n:Nat}(hi:i<q.length)(hv:val (a.drop (i+1))=val (q.drop (i+1))*d+vE)(hn:n=vE*1000000000+a.getD i 0) :
  val (a.drop i)=val ((q.set i (n / d)).drop i)*d+n % d:=by
 rw[vG a i,hv,nX q i _ hi]
 have h3:=Nat.div_add_mod n d
 rw[Nat.add_mul,Nat.mul_comm (n / d) d]
 have h4:1000000000*val (q.drop (i+1))*d=1000000000*(val (q.drop (i+1))*d):=Nat.mul_assoc _ _ _
 omega
theorem fdiv_unique{x y q r:Int}(h:r+y*q=x)(hr:(0<=r/\r<y)\/(y<r/\r<=0)):x.fdiv y=q/\x.fmod y=r:=by
 rcases hr with ⟨h1,h2⟩ | ⟨h1,h2⟩
 ·have hy:0<y:=by omega
  rw[Int.fdiv_eq_ediv_of_nonneg _ (by omega),Int.fmod_eq_emod_of_nonneg _ (by omega)]
  exact (Int.ediv_emod_unique hy).2 ⟨h,h1,h2⟩
 ·have hy:0 < -y:=by omega
  have h3:(-x).fdiv (-y)=q/\(-x).fmod (-y)=-r:=by
   rw[Int.fdiv_eq_ediv_of_nonneg _ (by omega),Int.fmod_eq_emod_of_nonneg _ (by omega)]
   refine (Int.ediv_emod_unique hy).2 ⟨?_,by omega,by omega⟩
   rw[<- h,Int.neg_mul];omega
  rw[Int.neg_fdiv_neg,Int.neg_fmod_neg] at h3
  exact ⟨h3.1,by omega⟩
theorem div_same{b c:Bool}{m n:Nat}(hn:0<n)(h:b=c\/m % n=0) :
  kG ((mE b m).fdiv (mE c n))=xV (!(b == c)) (m / n)/\kG ((mE b m).fmod (mE c n))=xV c (m % n):=by
 have h1:((m % n:Nat):Int)+(n:Int)*((m / n:Nat):Int)=(m:Int):=by
  have:=Nat.mod_add_div m n;exact_mod_cast this
 have h2:=Nat.mod_lt m hn
 rw[cX,cX]
 have key:(mE b m).fdiv (mE c n)=mE (!(b == c)) (m / n)/\(mE b m).fmod (mE c n)=mE c (m % n):=by
  have h3:((m % n:Nat):Int)=0\/b=c:=by rcases h with h | h;exact .inr h;exact .inl (by omega)
  generalize m / n=q at *
  generalize m % n=r at *
  refine fdiv_unique ?_ ?_
  ·cases b<;>cases c
   ·show (r:Int)+(n:Int)*(q:Int)=(m:Int);exact h1
   ·show -(r:Int)+(-(n:Int))*(-(q:Int))=(m:Int);rw[Int.neg_mul_neg];rcases h3 with h3 | h3;omega;cases h3
   ·show (r:Int)+(n:Int)*(-(q:Int))=-(m:Int);rw[Int.mul_neg];rcases h3 with h3 | h3;omega;cases h3
   ·show -(r:Int)+(-(n:Int))*(q:Int)=-(m:Int);rw[Int.neg_mul];omega
  ·cases c
   ·left;show 0<=(r:Int)/\(r:Int)<(n:Int);omega
   ·right;show -(n:Int) < -(r:Int)/\-(r:Int)<=0;omega
 rw[key.1,key.2]
 exact ⟨rfl,rfl⟩
theorem div_other{b c:Bool}{m n:Nat}(hn:0<n)(h:b≠c)(hr:0<m % n) :
  kG ((mE b m).fdiv (mE c n))=xV (!(b == c)) (m / n+1)/\kG ((mE b m).fmod (mE c n))=xV c (n-m % n):=by
 have h1:((m % n:Nat):Int)+(n:Int)*((m / n:Nat):Int)=(m:Int):=by
  have:=Nat.mod_add_div m n;exact_mod_cast this
 have h2:=Nat.mod_lt m hn
 rw[cX,cX]
 have key:(mE b m).fdiv (mE c n)=mE (!(b == c)) (m / n+1)/\(mE b m).fmod (mE c n)=mE c (n-m % n):=by
  have e1:(n:Int)*(((m / n+1:Nat)):Int)=(n:Int)*((m / n:Nat):Int)+n:=by
   rw[Int.natCast_add,Int.mul_add];simp
  generalize m / n=q at *
  generalize m % n=r at *
  refine fdiv_unique ?_ ?_
  ·cases b<;>cases c
   ·exact absurd rfl h
   ·show -((n-r:Nat):Int)+(-(n:Int))*(-((q+1:Nat):Int))=(m:Int);rw[Int.neg_mul_neg,e1];omega
   ·show ((n-r:Nat):Int)+(n:Int)*(-((q+1:Nat):Int))=-(m:Int);rw[Int.mul_neg,e1];omega
   ·exact absurd rfl h
  ·cases c
   ·left;show 0<=((n-r:Nat):Int)/\((n-r:Nat):Int)<(n:Int);omega
   ·right;show -(n:Int) < -((n-r:Nat):Int)/\-((n-r:Nat):Int)<=0;omega
 rw[key.1,key.2]
 exact ⟨rfl,rfl⟩
theorem lenZ_fdiv(a b:Int):xH (a.fdiv b)<=xH a+1:=by
 refine nJ.2 ?_
 have h1:=nJ.1 (Nat.le_refl (xH a))
 rw[qY]
 have h2:(a.fdiv b).natAbs<=a.natAbs+1:=by
  rw[Int.fdiv_eq_ediv]
  have:=Int.natAbs_ediv_le_natAbs a b
  split<;>omega
 have:=pw_pos (xH a)
 omega
def gQ(q:Rat):vO:=⟨kG q.num,kG q.den⟩
def yX(x:vO):Bool:=qS x.num&&(qS x.den&&(decide (0<qB x.den)&&(Int.gcd (qB x.num) (qB x.den) == 1)))
def toQ(x:vO):Rat:=if yX x=true then Rat.divInt (qB x.num) (qB x.den) else 0
theorem validR_ofQ(q:Rat):yX (gQ q)=true:=by
 unfold yX gQ
 simp only[validI_ofZ,toZ_ofZ,Bool.true_and,Bool.and_eq_true,decide_eq_true_eq,beq_iff_eq]
 refine ⟨by have:=q.den_pos;omega,?_⟩
 have:=q.reduced
 unfold Int.gcd
 rw[Int.natAbs_natCast]
 exact this
theorem toQ_ofQ(q:Rat):toQ (gQ q)=q:=by
 unfold toQ
 rw[if_pos (validR_ofQ q)]
 unfold gQ
 simp only[toZ_ofZ]
 exact Rat.num_divInt_den q
theorem ofQ_toQ{x:vO}(h:yX x=true):gQ (toQ x)=x:=by
 unfold toQ
 rw[if_pos h]
 unfold yX at h
 simp only[Bool.and_eq_true,decide_eq_true_eq,beq_iff_eq] at h
 obtain ⟨h1,h2,h3,h4⟩:=h
 have e1:(Rat.divInt (qB x.num) (qB x.den)).num=qB x.num:=by
  rw[Rat.num_divInt,Int.gcd_comm,h4,Int.sign_eq_one_of_pos h3];simp
 have e2:(((Rat.divInt (qB x.num) (qB x.den)).den:Nat):Int)=qB x.den:=by
  rw[Rat.den_divInt,if_neg (by omega),Int.gcd_comm,h4];simp;omega
 unfold gQ
 rw[e1,e2,ofZ_toZ h1,ofZ_toZ h2]
theorem toQ_bad{x:vO}(h:yX x=false):toQ x=0:=by unfold toQ;rw[if_neg (by rw[h];simp)]
def QL(q:Rat)(n:Nat):Prop:=xH q.num<=n/\xH q.den<=n
theorem ql_up{q:Rat}{m n:Nat}(h:QL q m)(hm:m<=n):QL q n:=⟨Nat.le_trans h.1 hm,Nat.le_trans h.2 hm⟩
theorem ql_divInt{a b:Int}{n:Nat}(ha:xH a<=n)(hb:xH b<=n)(h1:1<=n):QL (Rat.divInt a b) n:=by
 constructor
 ·refine Nat.le_trans ?_ ha
  refine dT ?_
  rw[Rat.num_divInt]
  refine Nat.le_trans (Int.natAbs_ediv_le_natAbs _ _) ?_
  rw[Int.natAbs_mul]
  rcases Int.lt_trichotomy b 0 with h | h | h
  ·rw[Int.sign_eq_neg_one_of_neg h];simp
  ·rw[h];simp
  ·rw[Int.sign_eq_one_of_pos h];simp
 ·rw[Rat.den_divInt]
  split
  ·exact Nat.le_trans (by unfold xH;simp [nQ,uG]) h1
  ·refine Nat.le_trans ?_ hb
   refine dT ?_
   rw[Int.natAbs_natCast]
   exact Nat.div_le_self _ _
theorem add_divInt(a b:Rat):a+b=Rat.divInt (a.num*b.den+b.num*a.den) (a.den*b.den):=by
 rw[Rat.add_def',<- Rat.divInt_ofNat,Int.natCast_mul]
theorem ql_neg{a:Rat}{m:Nat}(ha:QL a m):QL (-a) m:=⟨by rw[Rat.neg_num,lenZ_neg];exact ha.1,by rw[Rat.neg_den];exact ha.2⟩
theorem ql_pos{a:Rat}{m:Nat}(ha:QL a m):1<=m:=by
 have h1:=nJ.1 ha.2
 rcases Nat.eq_zero_or_pos m with h | h
 ·subst h;rw[nL] at h1;have:=a.den_pos;omega
 ·exact h
theorem lenZ_one{z:Int}(h:z.natAbs<1000000000):xH z<=1:=nJ.2 (by rw[show (1:Nat)=0+1 from rfl,qY,nL];omega)
theorem ql_int{z:Int}{n:Nat}(h:xH z<=n)(h1:1<=n):QL (z:Rat) n:=⟨h,Nat.le_trans (lenZ_one (by simp)) h1⟩
theorem ql_zero:QL 0 1:=⟨lenZ_one (by simp),lenZ_one (by simp)⟩
structure QOk (x:vO) (q:Rat) (n:Nat):Prop where
 v:toQ x=q
 p:1<=n
 n1:x.num.gs.length<=n
 n2:x.den.gs.length<=n
theorem QOk.ql{x:vO}{q:Rat}{n:Nat}(h:QOk x q n):QL q n:=by
 rw[<- h.v]
 by_cases hv:yX x=true
 ·unfold toQ;rw[if_pos hv]
  exact ql_divInt (Nat.le_trans (aU _) h.n1) (Nat.le_trans (aU _) h.n2) h.p
 ·unfold toQ;rw[if_neg hv]
  exact ql_up ql_zero h.p
theorem qok_of{q:Rat}{n:Nat}(h:QL q n):QOk (gQ q) q n:=⟨toQ_ofQ q,ql_pos h,h.1,h.2⟩
theorem eO{q:Rat}{n:Nat}(h:QL q n):xI (gQ q).num q.num n:=nO h.1
theorem cA{q:Rat}{n:Nat}(h:QL q n):xI (gQ q).den q.den n:=nO h.2
theorem qok_up{x:vO}{a:Rat}{m n:Nat}(hx:QOk x a m)(h:m<=n:=by decide):QOk x a n:=⟨hx.v,Nat.le_trans hx.p h,Nat.le_trans hx.n1 h,Nat.le_trans hx.n2 h⟩
theorem divInt_parts{a b:Int}(hb:0<b):gQ (Rat.divInt a b)=⟨kG (a.fdiv (Int.gcd a b)),kG (b.fdiv (Int.gcd a b))⟩:=by
 unfold gQ
 have e1:(Rat.divInt a b).num=a.fdiv (Int.gcd a b):=by
  rw[Rat.num_divInt,Int.sign_eq_one_of_pos hb,Int.one_mul,Int.gcd_comm,Int.fdiv_eq_ediv_of_nonneg _ (by omega)]
 have e2:(((Rat.divInt a b).den:Nat):Int)=b.fdiv (Int.gcd a b):=by
  rw[Rat.den_divInt,if_neg (by omega),Int.gcd_comm,Int.fdiv_eq_ediv_of_nonneg _ (by omega),Int.natCast_ediv]
  congr 1;omega
 rw[e1,e2]
def signQ(a:Rat):Int:=kW a.num
theorem copied_eq{x:vO}(h:yX x=true):(⟨kG (-(-qB x.num)),kG (-(-qB x.den))⟩:vO)=gQ (toQ x):=by
 have h0:=h
 unfold yX at h
 simp only[Bool.and_eq_true] at h
 rw[ofQ_toQ h0,Int.neg_neg,Int.neg_neg,ofZ_toZ h.1,ofZ_toZ h.2.1]
theorem red_neg{a b:Int}(hb:b<0):(⟨kG ((-a).fdiv (Int.gcd (-a) (-b))),kG ((-b).fdiv (Int.gcd (-a) (-b)))⟩:vO)=gQ (Rat.divInt a b):=by
 rw[<- divInt_parts (by omega),Rat.neg_divInt_neg]
theorem red_pos{a b:Int}(hb:¬ b<0)(h0:b≠0):(⟨kG (a.fdiv (Int.gcd a b)),kG (b.fdiv (Int.gcd a b))⟩:vO)=gQ (Rat.divInt a b):=(divInt_parts (by omega)).symm
theorem gcd_ne{a b:Int}(hb:b≠0):((Int.gcd a b:Nat):Int)≠0:=by
 intro h
 have h1:Int.gcd a b=0:=by omega
 rw[Int.gcd_eq_zero_iff] at h1
 exact hb h1.2
theorem lenZ_gcd{a b:Int}{n:Nat}(hb:b≠0)(h:xH b<=n):xH ((Int.gcd a b:Nat):Int)<=n:=by
 refine Nat.le_trans (dT ?_) h
 rw[Int.natAbs_natCast]
 exact Nat.le_of_dvd (by omega) (Int.gcd_dvd_natAbs_right a b)
theorem signI_le{z:Int}:kW z<=0↔z<=0:=by
 rcases yU z with ⟨h1,h2⟩ | ⟨h1,h2⟩ | ⟨h1,h2⟩<;>omega
theorem signI_lt{z:Int}:kW z<0↔z<0:=by
 rcases yU z with ⟨h1,h2⟩ | ⟨h1,h2⟩ | ⟨h1,h2⟩<;>omega
theorem cmpI_zero{a b:Int}:uM a b=0↔a=b:=by
 unfold uM
 split
 ·constructor<;>intro h<;>omega
 ·split<;>constructor<;>intro h<;>omega
theorem validR_no{x:vO}(h:((!qS x.num||!qS x.den)||decide (kW (qB x.den)<=0))=true):yX x=false:=by
 unfold yX
 rw[Bool.or_eq_true,Bool.or_eq_true,Bool.not_eq_true',Bool.not_eq_true',decide_eq_true_eq,signI_le] at h
 rcases h with (h | h) | h
 ·rw[h];rfl
 ·rw[h];simp
 ·rw[show decide (0<qB x.den)=false from decide_eq_false (by omega)];simp
theorem validR_yes{x:vO}(h:((!qS x.num||!qS x.den)||decide (kW (qB x.den)<=0))=false):yX x=(uM ((Int.gcd (qB x.num) (qB x.den):Nat):Int) 1 == 0):=by
 unfold yX
 rw[Bool.or_eq_false_iff,Bool.or_eq_false_iff,Bool.not_eq_false',Bool.not_eq_false',decide_eq_false_iff_not,signI_le] at h
 obtain ⟨⟨h1,h2⟩,h3⟩:=h
 rw[h1,h2,show decide (0<qB x.den)=true from decide_eq_true (by omega)]
 simp only[Bool.true_and]
 rw[Bool.eq_iff_iff,beq_iff_eq,beq_iff_eq,cmpI_zero]
 omega
theorem mul_ne{a b:Int}(ha:a≠0)(hb:b≠0):a*b≠0:=Int.mul_ne_zero ha hb
theorem den_ne(q:Rat):(q.den:Int)≠0:=by have:=q.den_pos;omega
theorem vX{x y:kR}{a b:Int}{m n k:Nat}(hx:xI x a m)(hy:xI y b n)(h:max m n<=k:=by decide):xI (kG ((Int.gcd a b:Nat):Int)) ((Int.gcd a b:Nat):Int) k:=nO (by
 by_cases hb:b=0
 ·subst hb
  rw[Int.gcd_zero_right]
  refine Nat.le_trans (dT (z:=a) ?_) (Nat.le_trans hx.ln (by omega))
  simp
 ·exact Nat.le_trans (lenZ_gcd hb hy.ln) (by omega))
theorem iok_fdiv{x y:kR}{a b:Int}{m n k:Nat}(hx:xI x a m)(_:xI y b n)(h:m+1<=k:=by decide):xI (kG (a.fdiv b)) (a.fdiv b) k:=nO (Nat.le_trans (lenZ_fdiv a b) (by have:=hx.ln;omega))
theorem lenZ_int{z:Int}(h1:-9223372036854775808<=z)(h2:z<=9223372036854775807):xH z<=3:=dX (by omega)
theorem qI{z:Int}(h1:-9223372036854775808<=z)(h2:z<=9223372036854775807):xI (kG z) z 3:=nO (lenZ_int h1 h2)
inductive LOk (n:Nat):List kR->List Int->Prop
 |nil:LOk n [] []
 |cons {x:kR} {z:Int} {l:List kR} {zs:List Int} (h:xI x z n) (t:LOk n l zs):LOk n (x::l) (z::zs)
theorem cN:xI ⟨false,[]⟩ 0 1:=⟨by decide,Nat.zero_le _⟩
theorem iok_nilN(n:Nat):xI ⟨false,[]⟩ 0 n:=⟨by decide,Nat.zero_le _⟩
theorem LOk.len{n:Nat}{l:List kR}{zs:List Int}(h:LOk n l zs):l.length=zs.length:=by
 induction h with
 |nil=>rfl
 |cons h t ih=>simp [ih]
theorem LOk.get{n:Nat}{l:List kR}{zs:List Int}(h:LOk n l zs)(i:Nat):xI (l.getD i ⟨false,[]⟩) (zs.getD i 0) n:=by
 induction h generalizing i with
 |nil=>exact iok_nilN n
 |cons h t ih=>
  rcases i with _ | i
  ·exact h
  ·exact ih i
theorem LOk.all{n:Nat}{l:List kR}{zs:List Int}(h:LOk n l zs):∀ z∈zs,xH z<=n:=by
 induction h with
 |nil=>simp
 |cons h t ih=>
  intro z hz
  rcases List.mem_cons.1 hz with rfl | hz
  ·exact h.ln
  ·exact ih z hz
theorem LOk.up{m n:Nat}{l:List kR}{zs:List Int}(h:LOk m l zs)(hm:m<=n):LOk n l zs:=by
 induction h with
 |nil=>exact .nil
 |cons h t ih=>exact .cons (mA h hm) ih
def gcdL(zs:List Int):Nat:=zs.foldl (fun d z=>Int.gcd d z) 0
def mF:List Int->Int
 |[]=>0
 |z::r=>if z=0 then mF r else kW z
def dvL(zs:List Int):Int:=if mF zs<0 then -((gcdL zs:Nat):Int) else ((gcdL zs:Nat):Int)
def redL(zs:List Int):List Int:=zs.map fun z=>z.fdiv (dvL zs)
theorem signI_ne{z:Int}(h:z≠0):kW z≠0:=by
 unfold kW;split<;>(try split)<;>omega
theorem lenZ_gcd2{a b:Int}{n:Nat}(ha:xH a<=n)(hb:xH b<=n):xH ((Int.gcd a b:Nat):Int)<=n:=by
 by_cases h:b=0
 ·subst h;rw[Int.gcd_zero_right]
  exact Nat.le_trans (dT (by simp)) ha
 ·exact lenZ_gcd h hb
theorem gcdL_len{n:Nat}(zs:List Int)(h:∀ z∈zs,xH z<=n):xH ((gcdL zs:Nat):Int)<=n:=by
 have key:∀ (zs:List Int) (d:Nat),xH (d:Int)<=n->(∀ z∈zs,xH z<=n)->xH ((zs.foldl (fun d z=>Int.gcd d z) d:Nat):Int)<=n:=by
  intro zs
  induction zs with
  |nil=>intro d hd _;exact hd
  |cons z zs ih=>intro d hd hz;exact ih _ (lenZ_gcd2 hd (hz z (by simp))) (fun y hy=>hz y (by simp [hy]))
 exact key zs 0 (nJ.2 (by rw[show ((0:Nat):Int).natAbs=0 from rfl];exact pw_pos n)) h
theorem dvL_len{n:Nat}{zs:List Int}(h:∀ z∈zs,xH z<=n):xH (dvL zs)<=n:=by
 unfold dvL;split
 ·rw[lenZ_neg];exact gcdL_len zs h
 ·exact gcdL_len zs h
theorem gcdL_dvd(zs:List Int):∀ z∈zs,((gcdL zs:Nat):Int)∣z:=by
 have key:∀ (zs:List Int) (d:Nat),((zs.foldl (fun d z=>Int.gcd d z) d:Nat):Int)∣(d:Int)/\∀ z∈zs,((zs.foldl (fun d z=>Int.gcd d z) d:Nat):Int)∣z:=by
  intro zs
  induction zs with
  |nil=>intro d;exact ⟨Int.dvd_refl _,by simp⟩
  |cons z zs ih=>
   intro d
   obtain ⟨h1,h2⟩:=ih (Int.gcd d z)
   refine ⟨Int.dvd_trans h1 (Int.gcd_dvd_left ..),fun y hy=>?_⟩
   rcases List.mem_cons.1 hy with rfl | hy
   ·exact Int.dvd_trans h1 (Int.gcd_dvd_right ..)
   ·exact h2 y hy
 exact (key zs 0).2
theorem sgnL_ne{zs:List Int}(h:mF zs≠0):∃ z∈zs,z≠0:=by
 induction zs with
 |nil=>exact absurd rfl h
 |cons z zs ih=>
  by_cases hz:z=0
  ·simp only[mF,if_pos hz] at h
   obtain ⟨y,hy,h2⟩:=ih h
   exact ⟨y,by simp [hy],h2⟩
  ·exact ⟨z,by simp,hz⟩
theorem sgnL_of{zs:List Int}{z:Int}(hz:z∈zs)(h:z≠0):mF zs≠0:=by
 induction zs with
 |nil=>cases hz
 |cons y zs ih=>
  by_cases hy:y=0
  ·simp only[mF,if_pos hy]
   rcases List.mem_cons.1 hz with e | hz
   ·subst e;exact absurd hy h
   ·exact ih hz
  ·simp only[mF,if_neg hy];exact signI_ne hy
theorem gcdL_ne{zs:List Int}(h:mF zs≠0):gcdL zs≠0:=fun e=>by
 obtain ⟨z,hz,h0⟩:=sgnL_ne h
 have:=gcdL_dvd zs z hz
 rw[e] at this
 exact h0 (Int.zero_dvd.1 this)
theorem dvL_ne{zs:List Int}(h:mF zs≠0):dvL zs≠0:=by
 have:=gcdL_ne h
 unfold dvL;split<;>omega
theorem dvL_dvd{zs:List Int}:∀ z∈zs,dvL zs∣z:=fun z hz=>by
 unfold dvL;split
 ·exact Int.neg_dvd.2 (gcdL_dvd zs z hz)
 ·exact gcdL_dvd zs z hz
theorem fdiv_mulZ{d z:Int}(hd:d≠0)(h:d∣z):z.fdiv d*d=z:=by
 obtain ⟨c,rfl⟩:=h
 rw[Int.mul_fdiv_cancel_left _ hd];exact Int.mul_comm _ _
theorem red_dv{zs:List Int}(h:mF zs≠0){z:Int}(hz:z∈zs):z.fdiv (dvL zs)*dvL zs=z:=fdiv_mulZ (dvL_ne h) (dvL_dvd z hz)
theorem gcdL_scale(k:Int)(zs:List Int):gcdL (zs.map (k*·))=k.natAbs*gcdL zs:=by
 have key:∀ (zs:List Int) (d:Nat),(zs.map (k*·)).foldl (fun d z=>Int.gcd d z) (k.natAbs*d)=k.natAbs*zs.foldl (fun d z=>Int.gcd d z) d:=by
  intro zs
  induction zs with
  |nil=>intro d;rfl
  |cons z zs ih=>
   intro d
   rw[List.map_cons,List.foldl_cons,List.foldl_cons,<- ih (Int.gcd d z)]
   congr 1
   simp only[Int.gcd,Int.natAbs_mul,Int.natAbs_natCast]
   exact Nat.gcd_mul_left ..
 exact key zs 0
theorem signI_mul{k z:Int}(hk:k≠0):(kW (k*z)<0↔(k<0/\0<z)\/(0<k/\z<0)):=by
 have h1:∀ y:Int,kW y<0↔y<0:=fun y=>by unfold kW;split<;>(try split)<;>omega
 rw[h1]
 constructor
 ·intro h
  rcases Int.lt_or_gt_of_ne hk with hk' | hk'
  ·exact .inl ⟨hk',by
    rcases Int.lt_trichotomy z 0 with h' | h' | h';· have:=Int.mul_pos_of_neg_of_neg hk' h';omega
    ·subst h';simp at h
    ·exact h'⟩
  ·exact .inr ⟨hk',by
    rcases Int.lt_trichotomy z 0 with h' | h' | h';· exact h'
    ·subst h';simp at h
    ·have:=Int.mul_pos hk' h';omega⟩
 ·rintro (⟨a,b⟩ | ⟨a,b⟩)
  ·exact Int.mul_neg_of_neg_of_pos a b
  ·exact Int.mul_neg_of_pos_of_neg a b
theorem sgnL_scale{k:Int}(hk:k≠0)(zs:List Int):(mF (zs.map (k*·))=0↔mF zs=0)/\(mF zs≠0->(mF (zs.map (k*·))<0↔(k<0/\¬ mF zs<0)\/(0<k/\mF zs<0))):=by
 induction zs with
 |nil=>exact ⟨Iff.rfl,fun h=>absurd rfl h⟩
 |cons z zs ih=>
  by_cases hz:z=0
  ·subst hz
   simpa [mF] using ih
  ·have hkz:k*z≠0:=Int.mul_ne_zero hk hz
   simp only[List.map_cons,mF,if_neg hz,if_neg hkz]
   refine ⟨⟨fun h=>absurd h (signI_ne hkz),fun h=>absurd h (signI_ne hz)⟩,fun _=>?_⟩
   rw[signI_mul hk]
   have h1:kW z<0↔z<0:=by unfold kW;split<;>(try split)<;>omega
   rw[h1];omega
theorem dvL_scale{k:Int}(hk:k≠0){zs:List Int}(h:mF zs≠0):dvL (zs.map (k*·))=k*dvL zs:=by
 have h2:=(sgnL_scale hk zs).2 h
 unfold dvL
 rw[gcdL_scale,Int.natCast_mul]
 rcases Int.lt_or_gt_of_ne hk with hk' | hk'
 ·have e:((k.natAbs:Nat):Int)=-k:=by omega
  rw[e]
  by_cases hs:mF zs<0
  ·rw[if_neg (by rw[h2];omega),if_pos hs,Int.neg_mul,Int.mul_neg]
  ·rw[if_pos (by rw[h2];omega),if_neg hs,Int.neg_mul,Int.neg_neg]
 ·have e:((k.natAbs:Nat):Int)=k:=by omega
  rw[e]
  by_cases hs:mF zs<0
  ·rw[if_pos (by rw[h2];omega),if_pos hs,Int.mul_neg]
  ·rw[if_neg (by rw[h2];omega),if_neg hs]
theorem fdiv_scale{k z d:Int}(hk:k≠0)(hd:d≠0)(h:d∣z):(k*z).fdiv (k*d)=z.fdiv d:=by
 obtain ⟨c,rfl⟩:=h
 rw[Int.mul_fdiv_cancel_left _ hd,<- Int.mul_assoc,Int.mul_fdiv_cancel_left _ (Int.mul_ne_zero hk hd)]
theorem redL_scale{k:Int}(hk:k≠0){zs:List Int}(h:mF zs≠0):redL (zs.map (k*·))=redL zs:=by
 unfold redL
 rw[dvL_scale hk h,List.map_map]
 apply List.map_congr_left
 intro z hz
 exact fdiv_scale hk (dvL_ne h) (dvL_dvd z hz)
theorem redL_back{zs:List Int}(h:mF zs≠0):(redL zs).map (dvL zs*·)=zs:=by
 unfold redL
 rw[List.map_map]
 conv=>rhs;rw[<- List.map_id zs]
 apply List.map_congr_left
 intro z hz
 show dvL zs*z.fdiv (dvL zs)=z
 rw[Int.mul_comm];exact red_dv h hz
theorem LOk.map{n:Nat}{l:List kR}{zs:List Int}(h:LOk n l zs):l.map qB=zs:=by
 induction h with
 |nil=>rfl
 |cons h t ih=>rw[List.map_cons,ih,h.v]
theorem all_nil{l:List kR}(h:∀ x∈l,x=kR.mk false [])(i:Nat):l.getD i (kR.mk false [])=kR.mk false []:=by
 rw[List.getD]
 cases hj:l[i]? with
 |none=>rfl
 |some q=>exact h q (List.mem_of_getElem? hj)
theorem sgnL_zero{zs:List Int}:mF zs=0↔∀ z∈zs,z=0:=by
 constructor
 ·intro h z hz
  rcases Int.decEq z 0 with h0 | h0
  ·exact absurd h (sgnL_of hz h0)
  ·exact h0
 ·intro h
  rcases Int.decEq (mF zs) 0 with h0 | h0
  ·obtain ⟨z,hz,h1⟩:=sgnL_ne h0
   exact absurd (h z hz) h1
  ·exact h0
open Go.RowKit (Below)
theorem sim_put{C:Ctx}{a:Act}{w:World}{S:SL}{B:BS}{D:kN}{β:kT}{t:Tmp}{v:Value}{x:SV}(h:dP C a w ⟨S,B⟩ D β)(hd:yP C.n (some t)=true)(hx:qF w D β v x):dP C (a.put (some t) v) w ⟨(t,x)::S,B⟩ D β :=
 ⟨h.base.put hd _,h.mem,h.high,fun u=>by
  show qF w D β ((a.put (some t) v).tmps.getD u undef) (jR ((t,x)::S) u)
  rw[qX h.base.size hd,qJ]
  by_cases e:t=u
  ·rw[if_pos e,if_pos (by rw[e])];exact hx
  ·rw[if_neg e,if_neg (fun e'=>e (by injection e'))];exact h.slots u⟩
theorem pwp_nilq{P:Program}{n:Fr}{S:SL}{B:BS}{Q:Exit->PS->Prop}{id:Nat}{o1 o2:Oper}{t0 ta tb:Tmp}{T T' E t:TypeId}{s s':Nat}{es:List jW}
  (h1:o1.op=.move (.tmp t0)) (h1d:o1.dst=some ta) (h1g:o1.guard=none) (h2:o2.op=.binOp .eql T (.tmp ta) (.const (.slice none 0 0)) T') (h2d:o2.dst=some tb) (h2g:o2.guard=none)
  (hT:uJ P T=some (E,s)) (hda:yP n (some ta)=true) (hdb:yP n (some tb)=true) (hx:jR S t0=.d (.sl t s' es))
  (hq:∀ b:Bool,(b=true->es=[])->Q .normal ⟨(tb,.d (.val (.bool b)))::(ta,.d (.sl t s' es))::S,B⟩):cR P n (.region id #[o1,o2] false) Q ⟨S,B⟩:=fun C a w N hn hs=>by
 subst hn
 obtain ⟨D,β,hs⟩:=hs
 have hv:=hs.slots t0
 have hv':qF w D β (a.tmps.getD t0 undef) (jR S t0):=hv
 rw[hx] at hv'
 have hev:a.eval (.tmp t0)=a.tmps.getD t0 undef:=rfl
 generalize a.tmps.getD t0 undef=v at hv' hev
 have hv'':uC w D v (.sl t s' es):=hv'
 obtain ⟨i,f1,f2,f3⟩:=nV hT
 cases hv'' with
 |sl g off u hnn hcc hmm hss ha hD hu bI hrr=>
 rename_i ad len cap
 subst hnn
 have hp1:yC o1=true:=by simp [yC,h1]
 have hp2:yC o2=true:=by simp [yC,h2]
 have hs1:=sim_put hs hda hv'
 have hs2:=sim_put (v:=.bool ad.isNone) hs1 hdb (x:=.d (.val (.bool ad.isNone))) (uC.val _)
 refine wpIn_region_lit (wpListIn_plain h1g fun K1 hK1=>bG hp1 (zL (v:=.slice ad es.length cap) (w':=w) ?_ (hK1 _ _ (wpListIn_plain h2g fun K2 hK2=>bG hp2 (zL (v:=.bool ad.isNone) (w':=w) ?_ (hK2 _ _ (wpListIn_nil ?_)))))))
 ·simp only[execOp,h1,hev,Sem.run_pure]
 ·have hta:(a.put o1.dst (Value.slice ad es.length cap)).eval (.tmp ta)=.slice ad es.length cap:=by
   show (a.put o1.dst (Value.slice ad es.length cap)).tmps.getD ta undef=_
   rw[h1d,qX hs.base.size hda,if_pos rfl]
  have hce:(a.put o1.dst (Value.slice ad es.length cap)).eval (.const (.slice none 0 0))=.slice none 0 0:=rfl
  have heq:∀ d:Nat,(Op.equalIn (d+1) T (.slice ad es.length cap) (.slice none 0 0)).run P w=.ok ad.isNone w:=fun d=>by
   cases ad<;>simp [Op.equalIn,run_underlying f1]
  have heq':(Op.equal T (.slice ad es.length cap) (.slice none 0 0)).run P w=.ok ad.isNone w:=heq 9999
  simp only[execOp,h2,hta,hce]
  simp [eqGuard,binOp,heq']
 ·rw[h1d,h2d]
  refine ⟨_,⟨D,β,hs2⟩,hq _ fun hb=>?_⟩
  cases ad with
  |none=>
   refine List.eq_nil_of_length_eq_zero ?_
   rcases Nat.eq_zero_or_pos es.length with h | h
   ·exact h
   ·have:=ha h;cases this
  |some x=>cases hb
end Go.Fid
