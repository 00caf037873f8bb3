/- Part 7 of a proof: rules, plain facts, and functions walked. -/
import Derived.Test.YteimogfidbkpnaaGreatM6
set_option linter.all false
namespace Go.Fid
def hZ(z:Int):Nat:=(ofNat z.natAbs).length
theorem ofZ_len(z:Int):(jZ z).gs.length=hZ z:=rfl
theorem cR(x:kM):(jO x).natAbs=val (kF x):=by
 unfold jO nK;split<;>simp
theorem grpI_eq(x:kM):kF x=ofNat (jO x).natAbs:=by rw[cR];exact can_eq (kW x)
theorem mF(x:kM):hZ (jO x)≤x.gs.length:=by unfold hZ;rw[← grpI_eq];exact xM x
theorem validI_of{b:Bool}{l:List Nat}(h:yB l)(hb:l=[]→b=false):qY ⟨b,l⟩=true:=by
 unfold qY
 by_cases h0:l=[]
 ·subst h0;simp [hb rfl]
 ·have h1:l.length≠0:=fun e=>h0 (List.eq_nil_of_length_eq_zero e)
  rw[if_neg (by show ((l.length:Nat):Int)≠0;omega)]
  obtain ⟨h2,_⟩:=eS h (by omega)
  have h3:vZ l=-1:=eX h.1
  simp only[Bool.and_eq_true,Bool.not_eq_true',decide_eq_false_iff_not,bne_iff_ne]
  rw[h3]
  exact ⟨by omega,by omega⟩
theorem validI_iff{x:kM}:qY x=true↔yB x.gs∧(x.gs=[]→x.neg=false):=by
 refine ⟨fun h=>?_,fun ⟨h1,h2⟩=>validI_of h1 h2⟩
 have h1:=kW x
 unfold kF at h1
 rw[if_pos h] at h1
 refine ⟨h1,fun h0=>?_⟩
 unfold qY at h
 rw[if_pos (by rw[h0];rfl)] at h
 simpa using h
theorem validI_ofZ(z:Int):qY (jZ z)=true:=validI_iff.2 ⟨kU _,fun h=>by
 have h1:z.natAbs=0:=ofNat_nil.1 h
 have h2:z=0:=by omega
 subst h2;rfl⟩
theorem grpI_ofZ(z:Int):kF (jZ z)=ofNat z.natAbs:=by unfold kF;rw[if_pos (validI_ofZ z)];rfl
theorem ofZ_neg(z:Int):(jZ z).neg=decide (z<0):=by
 unfold jZ vO
 by_cases h:z<0
 ·have:(z.natAbs != 0)=true:=bne_iff_ne.2 (by omega)
  simp [h,this]
 ·simp [h]
theorem nP(z:Int):jO (jZ z)=z:=by
 unfold jO nK
 rw[grpI_ofZ,ofZ_neg,jU]
 by_cases h:z<0
 ·simp [h];omega
 ·simp [h];omega
theorem ofZ_toZ{x:kM}(h:qY x=true):jZ (jO x)=x:=by
 obtain ⟨h1,h2⟩:=validI_iff.1 h
 obtain ⟨b,l⟩:=x
 have e:kF ⟨b,l⟩=l:=by unfold kF;rw[if_pos h]
 have e1:jO ⟨b,l⟩=nK b (val l):=by unfold jO;rw[e]
 rw[e1,← nN]
 unfold vO
 rw[← can_eq h1]
 congr 1
 cases b with
 |false=>rfl
 |true=>
  have:val l≠0:=fun e0=>by
   have h3:=h2 (eT h1 e0)
   cases h3
  simp [this]
theorem toZ_bad{x:kM}(h:qY x=false):jO x=0:=by
 unfold jO kF
 rw[if_neg (by rw[h];simp)]
 unfold nK;split<;>rfl
theorem mX{z:Int}{n:Nat}:hZ z≤n↔z.natAbs<pw n:=by
 refine ⟨fun h=>Nat.lt_of_lt_of_le (ofNat_lt_pw _) (yS h),fun h=>qU h⟩
theorem lenZ_neg(z:Int):hZ (-z)=hZ z:=by unfold hZ;rw[Int.natAbs_neg]
theorem cL{y z:Int}(h:y.natAbs≤z.natAbs):hZ y≤hZ z:=vW h
theorem lenZ_add{a b:Int}{m n k:Nat}(ha:hZ a≤m)(hb:hZ b≤n)(h:max m n+1≤k):hZ (a+b)≤k:=by
 have h1:=mX.1 ha
 have h2:=mX.1 hb
 refine mX.2 ?_
 have h3:pw m≤pw (max m n):=yS (by omega)
 have h4:pw n≤pw (max m n):=yS (by omega)
 have h5:pw (max m n+1)≤pw k:=yS h
 rw[uO] at h5
 have h6:=Int.natAbs_add_le a b
 omega
theorem nL{a b:Int}{m n k:Nat}(ha:hZ a≤m)(hb:hZ b≤n)(h:m+n≤k):hZ (a*b)≤k:=by
 refine mX.2 ?_
 rw[Int.natAbs_mul]
 refine Nat.lt_of_lt_of_le ?_ (yS h)
 rw[pw_add]
 exact Nat.mul_lt_mul_of_lt_of_le (mX.1 ha) (Nat.le_of_lt (mX.1 hb)) (pw_pos _)
structure gU (x:kM) (z:Int) (n:Nat):Prop where
 v:jO x=z
 l:x.gs.length≤n
theorem gU.ln{x:kM}{z:Int}{n:Nat}(h:gU x z n):hZ z≤n:=by rw[← h.v];exact Nat.le_trans (mF x) h.l
theorem cI{z:Int}{n:Nat}(h:hZ z≤n):gU (jZ z) z n:=⟨nP z,h⟩
theorem xY{x:kM}{n:Nat}(h:x.gs.length≤n):gU x (jO x) n:=⟨rfl,h⟩
theorem iok_add{x y:kM}{a b:Int}{m n k:Nat}(hx:gU x a m)(hy:gU y b n)(h:max m n+1≤k):gU (jZ (a+b)) (a+b) k:=cI (lenZ_add hx.ln hy.ln h)
theorem yH{x y:kM}{a b:Int}{m n k:Nat}(hx:gU x a m)(hy:gU y b n)(h:m+n≤k):gU (jZ (a*b)) (a*b) k:=cI (nL hx.ln hy.ln h)
theorem hP{x:kM}{a:Int}{m:Nat}(hx:gU x a m):gU (jZ (-a)) (-a) m:=cI (by rw[lenZ_neg];exact hx.ln)
theorem nD{x:kM}{a:Int}{m n:Nat}(hx:gU x a m)(h:m≤n):gU x a n:=⟨hx.v,Nat.le_trans hx.l h⟩
theorem iu{x:kM}{a:Int}{m n:Nat}(hx:gU x a m)(h:m≤n:=by decide):gU x a n:=nD hx h
theorem eK{z:Int}(h:z.natAbs<1000000000):gU (jZ z) z 1:=cI (mX.2 (by rw[show (1:Nat)=0+1 from rfl,uO,hN];omega))
theorem signI_sub(a b:Int):qQ (a-b)=uP a b:=by
 unfold qQ uP
 split
 ·rw[if_neg (by omega),if_neg (by omega)]
 ·split
  ·rw[if_pos (by omega)]
  ·rw[if_neg (by omega),if_pos (by omega)]
theorem cmpI_neg{a b:Nat}(h:uP (a:Int) (b:Int)<0):a<b:=by
 unfold uP at h
 split at h
 ·omega
 ·split at h<;>omega
theorem cmpI_nn{a b:Nat}(h:¬ uP (a:Int) (b:Int)<0):b≤a:=by
 unfold uP at h
 split at h
 ·omega
 ·omega
theorem word_both{a b:List Nat}(ha:Dig a)(h:(gR a&&gR b)=true):xS a=val a∧xS b=val b∧val a<1000000000000000000:=by
 unfold gR at h
 rw[Bool.and_eq_true,decide_eq_true_eq,decide_eq_true_eq] at h
 unfold xS
 rw[if_pos h.1,if_pos h.2]
 exact ⟨rfl,rfl,val_len2 ha h.1⟩
theorem val_pos_len{b:List Nat}(h:0<val b):0<b.length:=by
 rcases b with _ | ⟨d,l⟩
 ·rw[val_nil] at h;omega
 ·simp
theorem nF{b:List Nat}(hb:yB b)(h:0<b.length):0<val b:=by
 have h1:=val_top hb.1 h
 have h2:=eS hb h
 have h3:=Nat.mul_le_mul_right (pw (b.length-1)) h2.1
 have h4:=pw_pos (b.length-1)
 rw[Nat.succ_mul] at h3
 omega
theorem val_len1{b:List Nat}(h:b.length=1):val b=b.getD 0 0:=by
 rcases b with _ | ⟨d,_ | ⟨e,l⟩⟩
 ·simp at h
 ·simp [val]
 ·simp at h
theorem len_quo(l:List Nat)(hl:yB l)(n:Nat):(ofNat (val l / n)).length≤l.length:=by
 have h1:=vW (Nat.div_le_self (val l) n)
 rwa [← can_eq hl] at h1
theorem len_rem(l:List Nat)(hl:yB l)(n:Nat):(ofNat (val l % n)).length≤l.length:=by
 have h1:=vW (Nat.mod_le (val l) n)
 rwa [← can_eq hl] at h1
theorem gcd_toZ(x y:kM):Nat.gcd (val (kF x)) (val (kF y))=Int.gcd (jO x) (jO y):=by
 unfold Int.gcd;rw[cR,cR]
theorem eC(n:Nat):vO false n=jZ (n:Int):=nN false n
theorem r_made_end{neg:Bool}{l:List Nat}{k:Nat}(hd:Dig l)(hk:k≤l.length)(hv:val (l.take k)=val l)(h:(decide ((0:Int)<((k:Nat):Int))&&(((l.getD (k-1) 0:Nat):Int) == 0))=false):vO neg (val l)=⟨neg&&decide ((0:Int)<((k:Nat):Int)),l.take k⟩:=by
 have hc:yB (l.take k):=by
  refine ⟨hd.take k,?_⟩
  unfold Top
  rw[List.length_take,Nat.min_eq_left hk]
  rcases Nat.eq_zero_or_pos k with h0 | h0
  ·subst h0;simp
  ·rw[Bool.and_eq_false_iff] at h
   rcases h with h | h
   ·rw[decide_eq_false_iff_not] at h;omega
   ·have h1:=ne_of_beq_false h
    have h6:k-1<l.length:=by omega
    simp [List.getD,List.getElem?_eq_getElem h6,List.getElem?_take_of_lt (show k-1<k by omega)] at h1 ⊢
    exact h1
 unfold vO
 rw[← hv,← can_eq hc]
 congr 1
 congr 1
 rcases Nat.eq_zero_or_pos k with h0 | h0
 ·subst h0;simp [val]
 ·have h1:0<val (l.take k):=nF hc (by rw[List.length_take];omega)
  have h2:(val (l.take k) != 0)=true:=bne_iff_ne.2 (by omega)
  rw[h2];symm;exact decide_eq_true (by omega)
theorem r_made_step{l:List Nat}{k:Nat}(hk:k≤l.length)(hv:val (l.take k)=val l)(h:(decide ((0:Int)<((k:Nat):Int))&&(((l.getD (k-1) 0:Nat):Int) == 0))=true):0<k∧val (l.take (k-1))=val l:=by
 rw[Bool.and_eq_true,decide_eq_true_eq,beq_iff_eq] at h
 have h0:0<k:=by omega
 refine ⟨h0,?_⟩
 have h1:=val_take_succ l (k-1)
 rw[show k-1+1=k by omega,show l.getD (k-1) 0=0 by omega] at h1
 omega
theorem validI_big{x:kM}{i:Nat}(h:i<x.gs.length)(hb:¬ x.gs.getD i 0<1000000000):qY x=false:=by
 rcases hv:qY x with _ | _
 ·rfl
 ·exact absurd ((validI_iff.1 hv).1.1.getD i) hb
theorem validI_nil{x:kM}(h:x.gs.length=0):qY x=!x.neg:=by unfold qY;rw[if_pos (by omega)]
theorem validI_dig{x:kM}(hd:Dig x.gs)(h:x.gs.length≠0):qY x=(((x.gs.getD (x.gs.length-1) 0:Nat):Int) != 0):=by
 unfold qY
 rw[if_neg (by omega),eX hd]
 simp
theorem push_step{o:List Nat}{i s:Nat}(hl:o.length=i):val (o++[s % 1000000000])+pw (i+1)*(s / 1000000000)=val o+pw i*s:=by
 rw[mA,hl,nO,uO]
 have h:=Nat.mod_add_div s 1000000000
 have h2:pw i*s=pw i*(s % 1000000000)+pw i*(1000000000*(s / 1000000000)):=by rw[← Nat.mul_add,h]
 rw[h2,Nat.mul_comm 1000000000 (pw i),Nat.mul_assoc]
 omega
theorem dig_push{o:List Nat}(h:Dig o){d:Nat}(hd:d<1000000000):Dig (o++[d]):=eV.2 ⟨h,xW.2 ⟨hd,yG⟩⟩
theorem rplus_step{a b o:List Nat}{i c s:Nat}(hl:o.length=i)(hv:val o+pw i*c=val (a.take i)+val (b.take i))(hs:s=a.getD i 0+b.getD i 0+c) :
  val (o++[s % 1000000000])+pw (i+1)*(s / 1000000000)=val (a.take (i+1))+val (b.take (i+1)):=by
 rw[push_step hl,val_take_succ,val_take_succ,hs,Nat.mul_add,Nat.mul_add]
 omega
theorem rminus_step{a b o:List Nat}{i c s:Nat}(hl:o.length=i)(hv:val o+val (b.take i)=val (a.take i)+pw i*c)(hs:s+b.getD i 0+c=1000000000+a.getD i 0)(h1:s / 1000000000≤1) :
  val (o++[s % 1000000000])+val (b.take (i+1))=val (a.take (i+1))+pw (i+1)*(1-s / 1000000000):=by
 have h:=push_step (o:=o) (i:=i) (s:=s) hl
 have h2:pw (i+1)*(1-s / 1000000000)+pw (i+1)*(s / 1000000000)=pw (i+1):=by
  rw[← Nat.mul_add,Nat.sub_add_cancel h1,Nat.mul_one]
 have h3:=congrArg (pw i*·) hs
 simp only[Nat.mul_add] at h3
 rw[val_take_succ,val_take_succ]
 rw[uO] at h h2 ⊢
 rw[Nat.mul_comm (pw i) 1000000000] at h3
 omega
theorem rscaled_step{a o:List Nat}{i c d s:Nat}(hl:o.length=i)(hv:val o+pw i*c=val (a.take i)*d)(hs:s=a.getD i 0*d+c) :
  val (o++[s % 1000000000])+pw (i+1)*(s / 1000000000)=val (a.take (i+1))*d:=by
 rw[push_step hl,val_take_succ,hs,Nat.mul_add,Nat.add_mul,Nat.mul_assoc]
 omega
theorem val_push{o:List Nat}{i c:Nat}(hl:o.length=i):val (o++[c])=val o+pw i*c:=by rw[mA,hl,nO]
theorem take_all{a:List Nat}{i:Nat}(h:a.length≤i):a.take i=a:=List.take_of_length_le h
theorem rminus_end{a b o:List Nat}{i c:Nat}(hda:Dig a)(hb:Dig b)(hd:Dig o)(hi:i=a.length)(hl:o.length=i)(hba:val b≤val a)(hv:val o+val (b.take i)=val (a.take i)+pw i*c):val o=val a-val b:=by
 have h1:val (b.take i)=val b:=val_take_of_lt (by rw[hi];exact Nat.lt_of_le_of_lt hba (vF hda))
 rw[h1,hi,List.take_length] at hv
 have h2:=vF hd
 rw[hl,hi] at h2
 rcases Nat.eq_zero_or_pos c with h3 | h3
 ·subst h3;omega
 ·have:=Nat.mul_le_mul_left (pw a.length) h3
  omega
theorem gK(X:Int):nK (jZ X).neg X.natAbs=X:=by
 rw[ofZ_neg];unfold nK
 by_cases h:X<0
 ·simp [h];omega
 ·simp [h];omega
theorem rneg_eq(X:Int):vO (!(jZ X).neg) (val (ofNat X.natAbs))=jZ (-X):=by
 rw[nN,jU]
 congr 1
 have h:=gK X
 unfold nK at h ⊢
 cases hn:(jZ X).neg<;>simp [hn] at h ⊢<;>omega
theorem rsum_same{X Y:Int}(h:(jZ X).neg=(jZ Y).neg):vO (jZ X).neg (val (ofNat (val (ofNat X.natAbs)+val (ofNat Y.natAbs))))=jZ (X+Y):=by
 rw[sum_same h,jU,jU,gK,gK]
theorem rsum_first{X Y:Int}(h:(jZ X).neg≠(jZ Y).neg)(hn:val (ofNat Y.natAbs)≤val (ofNat X.natAbs)):vO (jZ X).neg (val (ofNat (val (ofNat X.natAbs)-val (ofNat Y.natAbs))))=jZ (X+Y):=by
 rw[sum_first h hn,jU,jU,gK,gK]
theorem rsum_second{X Y:Int}(h:(jZ X).neg≠(jZ Y).neg)(hn:val (ofNat X.natAbs)≤val (ofNat Y.natAbs)):vO (jZ Y).neg (val (ofNat (val (ofNat Y.natAbs)-val (ofNat X.natAbs))))=jZ (X+Y):=by
 rw[sum_second h hn,jU,jU,gK,gK]
theorem rmul_eq(X Y:Int):vO (!((jZ X).neg == (jZ Y).neg)) (val (ofNat X.natAbs)*val (ofNat Y.natAbs))=jZ (X*Y):=by
 have h:=mul_eq (b:=(jZ X).neg) (c:=(jZ Y).neg) (val (ofNat X.natAbs)) (val (ofNat Y.natAbs))
 rw[jU (val (ofNat X.natAbs)*val (ofNat Y.natAbs))] at h
 rw[h,jU,jU,gK,gK]
theorem rsign_zero{X:Int}(h:(((ofNat X.natAbs).length:Nat):Int)=0):qQ X=0:=by
 have h1:X.natAbs=0:=ofNat_nil.1 (List.eq_nil_of_length_eq_zero (by omega))
 have h2:X=0:=by omega
 subst h2;rfl
theorem rsign_ne{X:Int}(h:(((ofNat X.natAbs).length:Nat):Int)≠0):X≠0:=fun e=>h (by subst e;simp [uJ])
theorem rsign_neg{X:Int}(h:(((ofNat X.natAbs).length:Nat):Int)≠0)(hn:(jZ X).neg=true):qQ X=-1:=by
 have h1:=rsign_ne h
 rw[ofZ_neg,decide_eq_true_eq] at hn
 unfold qQ;rw[if_neg h1,if_pos hn]
theorem rsign_pos{X:Int}(h:(((ofNat X.natAbs).length:Nat):Int)≠0)(hn:(jZ X).neg=false):qQ X=1:=by
 have h1:=rsign_ne h
 rw[ofZ_neg,decide_eq_false_iff_not] at hn
 unfold qQ;rw[if_neg h1,if_neg hn]
theorem gs_val(x:kM):(jZ (jO x)).gs.length≤x.gs.length:=mF x
theorem mE(x:kM):(ofNat (jO x).natAbs).length≤x.gs.length:=mF x
theorem gs_neg(x:kM):(jZ (-jO x)).gs.length≤x.gs.length:=by rw[ofZ_len,lenZ_neg];exact mF x
theorem gs_sub(x y:kM):(jZ (jO x-jO y)).gs.length≤max x.gs.length y.gs.length+1:=by
 rw[Int.sub_eq_add_neg,ofZ_len];exact lenZ_add (mF x) (by rw[lenZ_neg];exact mF y) (Nat.le_refl _)
theorem gs_mul(x y:kM):(jZ (jO x*jO y)).gs.length≤x.gs.length+y.gs.length:=nL (mF x) (mF y) (Nat.le_refl _)
theorem val_pair{l:List Nat}(h:l.length≤2):val l=l.getD 1 0*1000000000+l.getD 0 0:=by
 rcases l with _ | ⟨d,_ | ⟨e,_ | ⟨f,l⟩⟩⟩
 ·rfl
 ·simp [val]
 ·simp [val];omega
 ·simp at h
theorem rshift_val{q:List Nat}(u:List Nat){i V r:Nat}(h:val (u.drop (i+1))=V*val (q.drop (i+1))+r):val (u.drop i)=V*(1000000000*val (q.drop (i+1)))+(u.getD i 0+1000000000*r):=by
 rw[vV u i,h,Nat.mul_left_comm]
 rw[Nat.mul_add];omega
theorem rguess{v:List Nat}{W n:Nat}(hv:Dig v)(hn:v.length=n)(h1:1≤n)(hW:W<1000000000*val v) :
  ((ofNat W).getD n 0*1000000000+(ofNat W).getD (n-1) 0) / (v.getD (n-1) 0+1)*val v≤W∧((ofNat W).getD n 0*1000000000+(ofNat W).getD (n-1) 0) / (v.getD (n-1) 0+1)<1000000000:=by
 have hw:=vF hv
 have ht:=val_top hv (by omega)
 rw[hn] at hw ht
 have hp:=pw_pos (n-1)
 have e1:=yM (ofNat W) 0 (n-1)
 have e2:=vV (ofNat W) (n-1)
 have e3:=vV (ofNat W) n
 have e5:W<pw (n+1):=by rw[uO];omega
 have e4:(ofNat W).drop (n+1)=[]:=List.drop_eq_nil_of_le (qU e5)
 rw[e4,val_nil] at e3
 rw[show n-1+1=n by omega] at e2
 rw[List.drop_zero,jU,Nat.zero_add] at e1
 generalize (ofNat W).getD n 0=t1 at *
 generalize (ofNat W).getD (n-1) 0=t0 at *
 generalize v.getD (n-1) 0=v1 at *
 have e6:pw (n-1)*(t1*1000000000+t0)≤W:=by
  have:t1*1000000000+t0=val ((ofNat W).drop (n-1)):=by omega
  rw[this];omega
 have e7:=Nat.div_mul_le_self (t1*1000000000+t0) (v1+1)
 generalize (t1*1000000000+t0) / (v1+1)=G at *
 have e8:G*val v≤W:=by
  refine Nat.le_trans (Nat.mul_le_mul_left G (Nat.le_of_lt ht.2)) (Nat.le_trans ?_ e6)
  rw[← Nat.mul_assoc,Nat.mul_comm (pw (n-1))]
  exact Nat.mul_le_mul_right _ e7
 refine ⟨e8,?_⟩
 have e9:G*val v<1000000000*val v:=by omega
 exact Nat.lt_of_mul_lt_mul_right e9
theorem rquo_lt{G V r W:Nat}(h:V*G+r=W)(hW:W<1000000000*V):G<1000000000:=by
 have h1:G*V<1000000000*V:=by rw[Nat.mul_comm G V];omega
 exact Nat.lt_of_mul_lt_mul_right h1
theorem rround{u q:List Nat}{V G r i:Nat}(hi:i<q.length)(h:val (u.drop i)=V*(1000000000*val (q.drop (i+1)))+(V*G+r)):val (u.drop i)=V*val ((q.set i G).drop i)+r:=by
 rw[h,nM q i G hi,Nat.mul_add];omega
theorem split_dig{o:List Nat}{m n:Nat}(h:o++ofNat m=ofNat n)(hm:¬ (0:Int)<((m:Nat):Int)):Dig o:=by
 rw[← split_end h hm];exact jY n
theorem split_val{o:List Nat}{m n:Nat}(h:o++ofNat m=ofNat n)(hm:¬ (0:Int)<((m:Nat):Int)):val o=n:=by
 rw[← split_end h hm];exact jU n
theorem ofZ_zero:jZ 0=⟨false,[]⟩:=by unfold jZ vO;simp [uJ]
theorem rshort_step{a q:List Nat}{d vT i n:Nat}(hi:i<q.length)(hv:val (a.drop (i+1))=val (q.drop (i+1))*d+vT)(hn:n=vT*1000000000+a.getD i 0) :
  val (a.drop i)=val ((q.set i (n / d)).drop i)*d+n % d:=by
 rw[vV a i,hv,nM q i _ hi]
 have h3:=Nat.div_add_mod n d
 rw[Nat.add_mul,Nat.mul_comm (n / d) d]
 have h4:1000000000*val (q.drop (i+1))*d=1000000000*(val (q.drop (i+1))*d):=Nat.mul_assoc _ _ _
 omega
theorem fdiv_unique{x y q r:Int}(h:r+y*q=x)(hr:(0≤r∧r<y)∨(y<r∧r≤0)):x.fdiv y=q∧x.fmod y=r:=by
 rcases hr with ⟨h1,h2⟩ | ⟨h1,h2⟩
 ·have hy:0<y:=by omega
  rw[Int.fdiv_eq_ediv_of_nonneg _ (by omega),Int.fmod_eq_emod_of_nonneg _ (by omega)]
  exact (Int.ediv_emod_unique hy).2 ⟨h,h1,h2⟩
 ·have hy:0 < -y:=by omega
  have h3:(-x).fdiv (-y)=q∧(-x).fmod (-y)=-r:=by
   rw[Int.fdiv_eq_ediv_of_nonneg _ (by omega),Int.fmod_eq_emod_of_nonneg _ (by omega)]
   refine (Int.ediv_emod_unique hy).2 ⟨?_,by omega,by omega⟩
   rw[← h,Int.neg_mul];omega
  rw[Int.neg_fdiv_neg,Int.neg_fmod_neg] at h3
  exact ⟨h3.1,by omega⟩
theorem div_same{b c:Bool}{m n:Nat}(hn:0<n)(h:b=c∨m % n=0) :
  jZ ((nK b m).fdiv (nK c n))=vO (!(b == c)) (m / n)∧jZ ((nK b m).fmod (nK c n))=vO c (m % n):=by
 have h1:((m % n:Nat):Int)+(n:Int)*((m / n:Nat):Int)=(m:Int):=by
  have:=Nat.mod_add_div m n;exact_mod_cast this
 have h2:=Nat.mod_lt m hn
 rw[nN,nN]
 have key:(nK b m).fdiv (nK c n)=nK (!(b == c)) (m / n)∧(nK b m).fmod (nK c n)=nK c (m % n):=by
  have h3:((m % n:Nat):Int)=0∨b=c:=by rcases h with h | h;exact .inr h;exact .inl (by omega)
  generalize m / n=q at *
  generalize m % n=r at *
  refine fdiv_unique ?_ ?_
  ·cases b<;>cases c
   ·show (r:Int)+(n:Int)*(q:Int)=(m:Int);exact h1
   ·show -(r:Int)+(-(n:Int))*(-(q:Int))=(m:Int);rw[Int.neg_mul_neg];rcases h3 with h3 | h3;omega;cases h3
   ·show (r:Int)+(n:Int)*(-(q:Int))=-(m:Int);rw[Int.mul_neg];rcases h3 with h3 | h3;omega;cases h3
   ·show -(r:Int)+(-(n:Int))*(q:Int)=-(m:Int);rw[Int.neg_mul];omega
  ·cases c
   ·left;show 0≤(r:Int)∧(r:Int)<(n:Int);omega
   ·right;show -(n:Int) < -(r:Int)∧-(r:Int)≤0;omega
 rw[key.1,key.2]
 exact ⟨rfl,rfl⟩
theorem div_other{b c:Bool}{m n:Nat}(hn:0<n)(h:b≠c)(hr:0<m % n) :
  jZ ((nK b m).fdiv (nK c n))=vO (!(b == c)) (m / n+1)∧jZ ((nK b m).fmod (nK c n))=vO c (n-m % n):=by
 have h1:((m % n:Nat):Int)+(n:Int)*((m / n:Nat):Int)=(m:Int):=by
  have:=Nat.mod_add_div m n;exact_mod_cast this
 have h2:=Nat.mod_lt m hn
 rw[nN,nN]
 have key:(nK b m).fdiv (nK c n)=nK (!(b == c)) (m / n+1)∧(nK b m).fmod (nK c n)=nK c (n-m % n):=by
  have e1:(n:Int)*(((m / n+1:Nat)):Int)=(n:Int)*((m / n:Nat):Int)+n:=by
   rw[Int.natCast_add,Int.mul_add];simp
  generalize m / n=q at *
  generalize m % n=r at *
  refine fdiv_unique ?_ ?_
  ·cases b<;>cases c
   ·exact absurd rfl h
   ·show -((n-r:Nat):Int)+(-(n:Int))*(-((q+1:Nat):Int))=(m:Int);rw[Int.neg_mul_neg,e1];omega
   ·show ((n-r:Nat):Int)+(n:Int)*(-((q+1:Nat):Int))=-(m:Int);rw[Int.mul_neg,e1];omega
   ·exact absurd rfl h
  ·cases c
   ·left;show 0≤((n-r:Nat):Int)∧((n-r:Nat):Int)<(n:Int);omega
   ·right;show -(n:Int) < -((n-r:Nat):Int)∧-((n-r:Nat):Int)≤0;omega
 rw[key.1,key.2]
 exact ⟨rfl,rfl⟩
theorem r_div_same{X Y:Int}(hn:0<Y.natAbs)(h:(jZ X).neg=(jZ Y).neg∨¬ (0:Int)<(((ofNat (val (ofNat X.natAbs) % val (ofNat Y.natAbs))).length:Nat):Int)) :
  vO (!((jZ X).neg == (jZ Y).neg)) (val (ofNat (val (ofNat X.natAbs) / val (ofNat Y.natAbs))))=jZ (X.fdiv Y):=by
 rw[jU,jU,jU]
 rw[jU,jU] at h
 have h1:=(div_same (b:=(jZ X).neg) (c:=(jZ Y).neg) (m:=X.natAbs) (n:=Y.natAbs) hn (by
  rcases h with h | h
  ·exact .inl h
  ·right
   rcases Nat.eq_zero_or_pos (X.natAbs % Y.natAbs) with h2 | h2
   ·exact h2
   ·have:=mD h2;omega)).1
 rw[gK,gK] at h1
 exact h1.symm
theorem r_div_other{X Y:Int}(hn:0<Y.natAbs)(h:(jZ X).neg≠(jZ Y).neg∧(0:Int)<(((ofNat (val (ofNat X.natAbs) % val (ofNat Y.natAbs))).length:Nat):Int)) :
  jZ (jO (vO (!((jZ X).neg == (jZ Y).neg)) (val (ofNat (val (ofNat X.natAbs) / val (ofNat Y.natAbs)))))-jO (jZ 1))=jZ (X.fdiv Y):=by
 obtain ⟨h,h0⟩:=h
 rw[jU,jU] at h0
 have h2:0<X.natAbs % Y.natAbs:=by
  rcases Nat.eq_zero_or_pos (X.natAbs % Y.natAbs) with h3 | h3
  ·rw[h3,uJ] at h0;simp at h0
  ·exact h3
 have h1:=(div_other hn h h2).1
 rw[gK,gK] at h1
 rw[h1,jU,jU,jU,nN,nN,nP,nP]
 have hb:(!((jZ X).neg == (jZ Y).neg))=true:=by rw[Bool.not_eq_true',beq_eq_false_iff_ne];exact h
 rw[hb]
 congr 1
 unfold nK
 rw[if_pos rfl,if_pos rfl];omega
theorem r_rem_eq(X Y:Int):jZ (jO (jZ X)-jO (jZ (jO (jZ (X.fdiv Y))*jO (jZ Y))))=jZ (X.fmod Y):=by
 rw[nP,nP,nP,nP,Int.fmod_def,Int.mul_comm]
def jF(q:Rat):qK:=⟨jZ q.num,jZ q.den⟩
def vD(x:qK):Bool:=qY x.num&&(qY x.den&&(decide (0<jO x.den)&&(Int.gcd (jO x.num) (jO x.den) == 1)))
def toQ(x:qK):Rat:=if vD x=true then Rat.divInt (jO x.num) (jO x.den) else 0
theorem fJ(q:Rat):vD (jF q)=true:=by
 unfold vD jF
 simp only[validI_ofZ,nP,Bool.true_and,Bool.and_eq_true,decide_eq_true_eq,beq_iff_eq]
 refine ⟨by have:=q.den_pos;omega,?_⟩
 have:=q.reduced
 unfold Int.gcd
 rw[Int.natAbs_natCast]
 exact this
theorem toQ_ofQ(q:Rat):toQ (jF q)=q:=by
 unfold toQ
 rw[if_pos (fJ q)]
 unfold jF
 simp only[nP]
 exact Rat.num_divInt_den q
theorem ofQ_toQ{x:qK}(h:vD x=true):jF (toQ x)=x:=by
 unfold toQ
 rw[if_pos h]
 unfold vD at h
 simp only[Bool.and_eq_true,decide_eq_true_eq,beq_iff_eq] at h
 obtain ⟨h1,h2,h3,h4⟩:=h
 have e1:(Rat.divInt (jO x.num) (jO x.den)).num=jO x.num:=by
  rw[Rat.num_divInt,Int.gcd_comm,h4,Int.sign_eq_one_of_pos h3];simp
 have e2:(((Rat.divInt (jO x.num) (jO x.den)).den:Nat):Int)=jO x.den:=by
  rw[Rat.den_divInt,if_neg (by omega),Int.gcd_comm,h4];simp;omega
 unfold jF
 rw[e1,e2,ofZ_toZ h1,ofZ_toZ h2]
theorem toQ_bad{x:qK}(h:vD x=false):toQ x=0:=by unfold toQ;rw[if_neg (by rw[h];simp)]
def QL(q:Rat)(n:Nat):Prop:=hZ q.num≤n∧hZ q.den≤n
theorem xO{q:Rat}{m n:Nat}(h:QL q m)(hm:m≤n):QL q n:=⟨Nat.le_trans h.1 hm,Nat.le_trans h.2 hm⟩
theorem qN{a b:Int}{n:Nat}(ha:hZ a≤n)(hb:hZ b≤n)(h1:1≤n):QL (Rat.divInt a b) n:=by
 constructor
 ·refine Nat.le_trans ?_ ha
  refine cL ?_
  rw[Rat.num_divInt]
  refine Nat.le_trans (Int.natAbs_ediv_le_natAbs _ _) ?_
  rw[Int.natAbs_mul]
  rcases Int.lt_trichotomy b 0 with h | h | h
  ·rw[Int.sign_eq_neg_one_of_neg h];simp
  ·rw[h];simp
  ·rw[Int.sign_eq_one_of_pos h];simp
 ·rw[Rat.den_divInt]
  split
  ·exact Nat.le_trans (by unfold hZ;simp [nE,uJ]) h1
  ·refine Nat.le_trans ?_ hb
   refine cL ?_
   rw[Int.natAbs_natCast]
   exact Nat.div_le_self _ _
theorem add_divInt(a b:Rat):a+b=Rat.divInt (a.num*b.den+b.num*a.den) (a.den*b.den):=by
 rw[Rat.add_def',← Rat.divInt_ofNat,Int.natCast_mul]
theorem mul_divInt(a b:Rat):a*b=Rat.divInt (a.num*b.num) (a.den*b.den):=by
 rw[Rat.mul_def',← Rat.divInt_ofNat,Int.natCast_mul]
theorem div_divInt(a b:Rat):a / b=Rat.divInt (a.num*b.den) (a.den*b.num):=by
 rw[Rat.div_def,Rat.inv_def]
 conv=>lhs;rw[← Rat.num_divInt_den a]
 rw[Rat.divInt_mul_divInt]
theorem fA{a b:Rat}{m n k:Nat}(ha:QL a m)(hb:QL b n)(h:m+n+1≤k):QL (a+b) k:=by
 rw[add_divInt]
 refine qN (lenZ_add (nL ha.1 hb.2 (Nat.le_refl _)) (nL hb.1 ha.2 (Nat.le_refl _)) (by omega)) (nL ha.2 hb.2 (by omega)) (by omega)
theorem ql_neg{a:Rat}{m:Nat}(ha:QL a m):QL (-a) m:=⟨by rw[Rat.neg_num,lenZ_neg];exact ha.1,by rw[Rat.neg_den];exact ha.2⟩
theorem dQ{a b:Rat}{m n k:Nat}(ha:QL a m)(hb:QL b n)(h:m+n+1≤k):QL (a-b) k:=by
 rw[Rat.sub_eq_add_neg];exact fA ha (ql_neg hb) h
theorem ql_pos{a:Rat}{m:Nat}(ha:QL a m):1≤m:=by
 have h1:=mX.1 ha.2
 rcases Nat.eq_zero_or_pos m with h | h
 ·subst h;rw[hN] at h1;have:=a.den_pos;omega
 ·exact h
theorem kR{a b:Rat}{m n k:Nat}(ha:QL a m)(hb:QL b n)(h:m+n≤k):QL (a*b) k:=by
 have h1:=ql_pos ha
 rw[mul_divInt]
 exact qN (nL ha.1 hb.1 h) (nL ha.2 hb.2 h) (by omega)
theorem ql_div{a b:Rat}{m n k:Nat}(ha:QL a m)(hb:QL b n)(h:m+n≤k):QL (a / b) k:=by
 have h1:=ql_pos ha
 rw[div_divInt]
 exact qN (nL ha.1 hb.2 h) (nL ha.2 hb.1 h) (by omega)
theorem uM{z:Int}(h:z.natAbs<1000000000):hZ z≤1:=mX.2 (by rw[show (1:Nat)=0+1 from rfl,uO,hN];omega)
theorem kN{z:Int}{n:Nat}(h:hZ z≤n)(h1:1≤n):QL (z:Rat) n:=⟨h,Nat.le_trans (uM (by simp)) h1⟩
theorem ql_zero:QL 0 1:=⟨uM (by simp),uM (by simp)⟩
theorem ql_ite{p:Prop}[Decidable p]{a b:Rat}{n:Nat}(ha:QL a n)(hb:QL b n):QL (if p then a else b) n:=by split<;>assumption
structure QOk (x:qK) (q:Rat) (n:Nat):Prop where
 v:toQ x=q
 p:1≤n
 n1:x.num.gs.length≤n
 n2:x.den.gs.length≤n
theorem QOk.ql{x:qK}{q:Rat}{n:Nat}(h:QOk x q n):QL q n:=by
 rw[← h.v]
 by_cases hv:vD x=true
 ·unfold toQ;rw[if_pos hv]
  exact qN (Nat.le_trans (mF _) h.n1) (Nat.le_trans (mF _) h.n2) h.p
 ·unfold toQ;rw[if_neg hv]
  exact xO ql_zero h.p
theorem kQ{q:Rat}{n:Nat}(h:QL q n):QOk (jF q) q n:=⟨toQ_ofQ q,ql_pos h,h.1,h.2⟩
theorem qR{q:Rat}{n:Nat}(h:QL q n):gU (jF q).num q.num n:=cI h.1
theorem uH{q:Rat}{n:Nat}(h:QL q n):gU (jF q).den q.den n:=cI h.2
theorem kO{x:qK}{a:Rat}{m n:Nat}(hx:QOk x a m)(h:m≤n):QOk x a n:=⟨hx.v,Nat.le_trans hx.p h,Nat.le_trans hx.n1 h,Nat.le_trans hx.n2 h⟩
theorem divInt_parts{a b:Int}(hb:0<b):jF (Rat.divInt a b)=⟨jZ (a.fdiv (Int.gcd a b)),jZ (b.fdiv (Int.gcd a b))⟩:=by
 unfold jF
 have e1:(Rat.divInt a b).num=a.fdiv (Int.gcd a b):=by
  rw[Rat.num_divInt,Int.sign_eq_one_of_pos hb,Int.one_mul,Int.gcd_comm,Int.fdiv_eq_ediv_of_nonneg _ (by omega)]
 have e2:(((Rat.divInt a b).den:Nat):Int)=b.fdiv (Int.gcd a b):=by
  rw[Rat.den_divInt,if_neg (by omega),Int.gcd_comm,Int.fdiv_eq_ediv_of_nonneg _ (by omega),Int.natCast_ediv]
  congr 1;omega
 rw[e1,e2]
def dN(a b:Rat):Int:=if a<b then -1 else if b<a then 1 else 0
theorem cmpQ_cross(a b:Rat):uP (a.num*b.den) (b.num*a.den)=dN a b:=by
 unfold uP dN
 simp only[Rat.lt_iff]
def eN(a:Rat):Int:=qQ a.num
theorem signQ_sub(a b:Rat):eN (a-b)=dN a b:=by
 unfold eN qQ dN
 have h1:(a-b).num=0↔a-b=0:=Rat.num_eq_zero
 have h2:0≤(a-b).num↔0≤a-b:=Rat.num_nonneg
 have h3:b≤a↔0≤a-b:=Rat.le_iff_sub_nonneg b a
 by_cases hlt:a<b
 ·have h4:¬ 0≤(a-b).num:=fun h=>Rat.not_le.2 hlt (h3.2 (h2.1 h))
  rw[if_neg (by omega),if_pos (by omega),if_pos hlt]
 ·have h4:0≤(a-b).num:=h2.2 (h3.1 (Rat.not_lt.1 hlt))
  rw[if_neg hlt]
  by_cases hgt:b<a
  ·have h5:(a-b).num≠0:=fun h=>by
    have h6:=h1.1 h
    have h7:=(Rat.lt_iff_sub_pos b a).1 hgt
    rw[h6] at h7;exact Rat.lt_irrefl h7
   rw[if_neg h5,if_neg (by omega),if_pos hgt]
  ·have h5:a=b:=Rat.le_antisymm (Rat.not_lt.1 hgt) (Rat.not_lt.1 hlt)
   have h6:(a-b).num=0:=h1.2 (by rw[h5];exact Rat.sub_self)
   rw[if_pos h6,if_neg hgt]
theorem copied_eq{x:qK}(h:vD x=true):(⟨jZ (-(-jO x.num)),jZ (-(-jO x.den))⟩:qK)=jF (toQ x):=by
 have h0:=h
 unfold vD at h
 simp only[Bool.and_eq_true] at h
 rw[ofQ_toQ h0,Int.neg_neg,Int.neg_neg,ofZ_toZ h.1,ofZ_toZ h.2.1]
theorem red_neg{a b:Int}(hb:b<0):(⟨jZ ((-a).fdiv (Int.gcd (-a) (-b))),jZ ((-b).fdiv (Int.gcd (-a) (-b)))⟩:qK)=jF (Rat.divInt a b):=by
 rw[← divInt_parts (by omega),Rat.neg_divInt_neg]
theorem red_pos{a b:Int}(hb:¬ b<0)(h0:b≠0):(⟨jZ (a.fdiv (Int.gcd a b)),jZ (b.fdiv (Int.gcd a b))⟩:qK)=jF (Rat.divInt a b):=(divInt_parts (by omega)).symm
theorem gcd_ne{a b:Int}(hb:b≠0):((Int.gcd a b:Nat):Int)≠0:=by
 intro h
 have h1:Int.gcd a b=0:=by omega
 rw[Int.gcd_eq_zero_iff] at h1
 exact hb h1.2
theorem lenZ_gcd{a b:Int}{n:Nat}(hb:b≠0)(h:hZ b≤n):hZ ((Int.gcd a b:Nat):Int)≤n:=by
 refine Nat.le_trans (cL ?_) h
 rw[Int.natAbs_natCast]
 exact Nat.le_of_dvd (by omega) (Int.gcd_dvd_natAbs_right a b)
theorem signI_le{z:Int}:qQ z≤0↔z≤0:=by
 rcases yA z with ⟨h1,h2⟩ | ⟨h1,h2⟩ | ⟨h1,h2⟩<;>omega
theorem signI_lt{z:Int}:qQ z<0↔z<0:=by
 rcases yA z with ⟨h1,h2⟩ | ⟨h1,h2⟩ | ⟨h1,h2⟩<;>omega
theorem cmpI_zero{a b:Int}:uP a b=0↔a=b:=by
 unfold uP
 split
 ·constructor<;>intro h<;>omega
 ·split<;>constructor<;>intro h<;>omega
theorem validR_no{x:qK}(h:((!qY x.num||!qY x.den)||decide (qQ (jO x.den)≤0))=true):vD x=false:=by
 unfold vD
 rw[Bool.or_eq_true,Bool.or_eq_true,Bool.not_eq_true',Bool.not_eq_true',decide_eq_true_eq,signI_le] at h
 rcases h with (h | h) | h
 ·rw[h];rfl
 ·rw[h];simp
 ·rw[show decide (0<jO x.den)=false from decide_eq_false (by omega)];simp
theorem validR_yes{x:qK}(h:((!qY x.num||!qY x.den)||decide (qQ (jO x.den)≤0))=false):vD x=(uP ((Int.gcd (jO x.num) (jO x.den):Nat):Int) 1 == 0):=by
 unfold vD
 rw[Bool.or_eq_false_iff,Bool.or_eq_false_iff,Bool.not_eq_false',Bool.not_eq_false',decide_eq_false_iff_not,signI_le] at h
 obtain ⟨⟨h1,h2⟩,h3⟩:=h
 rw[h1,h2,show decide (0<jO x.den)=true from decide_eq_true (by omega)]
 simp only[Bool.true_and]
 rw[Bool.eq_iff_iff,beq_iff_eq,beq_iff_eq,cmpI_zero]
 omega
theorem cP{q:Rat}:qQ q.num=0↔q=0:=by
 rw[← Rat.num_eq_zero]
 rcases yA q.num with ⟨h1,h2⟩ | ⟨h1,h2⟩ | ⟨h1,h2⟩<;>omega
def absQ(q:Rat):Rat:=if q<0 then -q else q
theorem abs_eq(q:Rat):(⟨jZ (q.num.natAbs:Int),jZ q.den⟩:qK)=jF (absQ q):=by
 unfold absQ
 have h:q<0↔q.num<0:=by
  rw[← Rat.not_le,← Rat.num_nonneg];omega
 split
 ·rename_i h1
  have h2:=h.1 h1
  show _=(⟨jZ (-q).num,jZ ((-q).den:Int)⟩:qK)
  rw[Rat.neg_num,Rat.neg_den]
  congr 2;omega
 ·rename_i h1
  have h2:¬ q.num<0:=fun h3=>h1 (h.2 h3)
  show _=(⟨jZ q.num,jZ (q.den:Int)⟩:qK)
  congr 2;omega
theorem ql_abs{q:Rat}{n:Nat}(h:QL q n):QL (absQ q) n:=by unfold absQ;exact ql_ite (ql_neg h) h
def divR(p q:Rat):qK:=if q=0 then ⟨⟨false,[]⟩,⟨false,[]⟩⟩ else jF (p / q)
def divC(q:Rat):Int:=if q=0 then 14 else 0
theorem divR_zero{p q:Rat}(h:q=0):divR p q=⟨⟨false,[]⟩,⟨false,[]⟩⟩:=if_pos h
theorem divR_ne{p q:Rat}(h:q≠0):divR p q=jF (p / q):=if_neg h
theorem divC_zero{q:Rat}(h:q=0):divC q=14:=if_pos h
theorem divC_ne{q:Rat}(h:q≠0):divC q=0:=if_neg h
theorem mul_ne{a b:Int}(ha:a≠0)(hb:b≠0):a*b≠0:=Int.mul_ne_zero ha hb
theorem den_ne(q:Rat):(q.den:Int)≠0:=by have:=q.den_pos;omega
theorem num_ne{q:Rat}(h:q≠0):q.num≠0:=fun e=>h (Rat.num_eq_zero.1 e)
theorem gL{x y:kM}{a b:Int}{m n k:Nat}(hx:gU x a m)(hy:gU y b n)(h:max m n≤k):gU (jZ ((Int.gcd a b:Nat):Int)) ((Int.gcd a b:Nat):Int) k:=cI (by
 by_cases hb:b=0
 ·subst hb
  rw[Int.gcd_zero_right]
  refine Nat.le_trans (cL (z:=a) ?_) (Nat.le_trans hx.ln (by omega))
  simp
 ·exact Nat.le_trans (lenZ_gcd hb hy.ln) (by omega))
theorem jM{z:Int}(h1:-9223372036854775808≤z)(h2:z≤9223372036854775807):hZ z≤3:=cQ (by omega)
theorem iok_int{z:Int}(h1:-9223372036854775808≤z)(h2:z≤9223372036854775807):gU (jZ z) z 3:=cI (jM h1 h2)
theorem red_neg2{a b:Int}(hb:b<0):jF (Rat.divInt a b)=⟨jZ (a.fdiv (-((Int.gcd a b:Nat):Int))),jZ (b.fdiv (-((Int.gcd a b:Nat):Int)))⟩:=by
 rw[← red_neg hb]
 have e:Int.gcd (-a) (-b)=Int.gcd a b:=by simp
 rw[e]
 have h1:=Int.neg_fdiv_neg a (-((Int.gcd a b:Nat):Int))
 have h2:=Int.neg_fdiv_neg b (-((Int.gcd a b:Nat):Int))
 rw[Int.neg_neg] at h1 h2
 rw[h1,h2]
theorem qu{q:Rat}{m n:Nat}(h:QL q m)(hm:m≤n:=by decide):QL q n:=xO h hm
theorem qi(z:Int)(h1:-9223372036854775808≤z:=by omega)(h2:z≤9223372036854775807:=by omega):QL ((z:Int):Rat) 3:=kN (z:=z) (n:=3) (jM h1 h2) (by decide)
end Go.Fid
