/- Part 10 of a proof: rules, plain facts, and functions walked. -/
import Derived.Test.YtciingpdmjepgabGreatDoorM9
import Derived.Test.YtciingpdmjepgabGreatDoorM8
set_option linter.all false
namespace Go.Fid
def nA(z:Int):Nat:=(ofNat z.natAbs).length
theorem ofZ_len(z:Int):(kD z).gs.length=nA z:=rfl
theorem aV(x:kO):(jQ x).natAbs=val (kJ x):=by
 unfold jQ mO;split<;>simp
theorem grpI_eq(x:kO):kJ x=ofNat (jQ x).natAbs:=by rw[aV];exact can_eq (qA x)
theorem cO(x:kO):nA (jQ x)<=x.gs.length:=by unfold nA;rw[<- grpI_eq];exact xR x
theorem validI_of{b:Bool}{l:List Nat}(h:zJ l)(hb:l=[]->b=false):qW ⟨b,l⟩=true:=by
 unfold qW
 by_cases h0:l=[]
 ·subst h0;simp [hb rfl]
 ·have h1:l.length≠0:=fun e=>h0 (List.eq_nil_of_length_eq_zero e)
  rw[if_neg (by show ((l.length:Nat):Int)≠0;omega)]
  obtain ⟨h2,_⟩:=bN h (by omega)
  have h3:vN l=-1:=aZ h.1
  simp only[Bool.and_eq_true,Bool.not_eq_true',decide_eq_false_iff_not,bne_iff_ne]
  rw[h3]
  exact ⟨by omega,by omega⟩
theorem validI_iff{x:kO}:qW x=true↔zJ x.gs/\(x.gs=[]->x.neg=false):=by
 refine ⟨fun h=>?_,fun ⟨h1,h2⟩=>validI_of h1 h2⟩
 have h1:=qA x
 unfold kJ at h1
 rw[if_pos h] at h1
 refine ⟨h1,fun h0=>?_⟩
 unfold qW at h
 rw[if_pos (by rw[h0];rfl)] at h
 simpa using h
theorem validI_ofZ(z:Int):qW (kD z)=true:=validI_iff.2 ⟨kX _,fun h=>by
 have h1:z.natAbs=0:=ofNat_nil.1 h
 have h2:z=0:=by omega
 subst h2;rfl⟩
theorem grpI_ofZ(z:Int):kJ (kD z)=ofNat z.natAbs:=by unfold kJ;rw[if_pos (validI_ofZ z)];rfl
theorem ofZ_neg(z:Int):(kD z).neg=decide (z<0):=by
 unfold kD vC
 by_cases h:z<0
 ·have:(z.natAbs != 0)=true:=bne_iff_ne.2 (by omega)
  simp [h,this]
 ·simp [h]
theorem mH(z:Int):jQ (kD z)=z:=by
 unfold jQ mO
 rw[grpI_ofZ,ofZ_neg,jZ]
 by_cases h:z<0
 ·simp [h];omega
 ·simp [h];omega
theorem ofZ_toZ{x:kO}(h:qW x=true):kD (jQ x)=x:=by
 obtain ⟨h1,h2⟩:=validI_iff.1 h
 obtain ⟨b,l⟩:=x
 have e:kJ ⟨b,l⟩=l:=by unfold kJ;rw[if_pos h]
 have e1:jQ ⟨b,l⟩=mO b (val l):=by unfold jQ;rw[e]
 rw[e1,<- mZ]
 unfold vC
 rw[<- can_eq h1]
 congr 1
 cases b with
 |false=>rfl
 |true=>
  have:val l≠0:=fun e0=>by
   have h3:=h2 (bJ h1 e0)
   cases h3
  simp [this]
theorem toZ_bad{x:kO}(h:qW x=false):jQ x=0:=by
 unfold jQ kJ
 rw[if_neg (by rw[h];simp)]
 unfold mO;split<;>rfl
theorem nI{z:Int}{n:Nat}:nA z<=n↔z.natAbs<pw n:=by
 refine ⟨fun h=>Nat.lt_of_lt_of_le (ofNat_lt_pw _) (yK h),fun h=>qJ h⟩
theorem lenZ_neg(z:Int):nA (-z)=nA z:=by unfold nA;rw[Int.natAbs_neg]
theorem bO{y z:Int}(h:y.natAbs<=z.natAbs):nA y<=nA z:=vK h
theorem lenZ_add{a b:Int}{m n k:Nat}(ha:nA a<=m)(hb:nA b<=n)(h:max m n+1<=k):nA (a+b)<=k:=by
 have h1:=nI.1 ha
 have h2:=nI.1 hb
 refine nI.2 ?_
 have h3:pw m<=pw (max m n):=yK (by omega)
 have h4:pw n<=pw (max m n):=yK (by omega)
 have h5:pw (max m n+1)<=pw k:=yK h
 rw[qZ] at h5
 have h6:=Int.natAbs_add_le a b
 omega
theorem mT{a b:Int}{m n k:Nat}(ha:nA a<=m)(hb:nA b<=n)(h:m+n<=k):nA (a*b)<=k:=by
 refine nI.2 ?_
 rw[Int.natAbs_mul]
 refine Nat.lt_of_lt_of_le ?_ (yK h)
 rw[pw_add]
 exact Nat.mul_lt_mul_of_lt_of_le (nI.1 ha) (Nat.le_of_lt (nI.1 hb)) (pw_pos _)
structure yZ (x:kO) (z:Int) (n:Nat):Prop where
 v:jQ x=z
 l:x.gs.length<=n
theorem yZ.ln{x:kO}{z:Int}{n:Nat}(h:yZ x z n):nA z<=n:=by rw[<- h.v];exact Nat.le_trans (cO x) h.l
theorem fH{z:Int}{n:Nat}(h:nA z<=n):yZ (kD z) z n:=⟨mH z,h⟩
theorem xU{x:kO}{n:Nat}(h:x.gs.length<=n):yZ x (jQ x) n:=⟨rfl,h⟩
theorem iok_add{x y:kO}{a b:Int}{m n k:Nat}(hx:yZ x a m)(hy:yZ y b n)(h:max m n+1<=k:=by decide):yZ (kD (a+b)) (a+b) k:=fH (lenZ_add hx.ln hy.ln h)
theorem zY{x y:kO}{a b:Int}{m n k:Nat}(hx:yZ x a m)(hy:yZ y b n)(h:m+n<=k:=by decide):yZ (kD (a*b)) (a*b) k:=fH (mT hx.ln hy.ln h)
theorem zL{x:kO}{a:Int}{m:Nat}(hx:yZ x a m):yZ (kD (-a)) (-a) m:=fH (by rw[lenZ_neg];exact hx.ln)
theorem cM{x:kO}{a:Int}{m n:Nat}(hx:yZ x a m)(h:m<=n:=by decide):yZ x a n:=⟨hx.v,Nat.le_trans hx.l h⟩
theorem iu{x:kO}{a:Int}{m n:Nat}(hx:yZ x a m)(h:m<=n:=by decide):yZ x a n:=cM hx h
theorem iok_small{z:Int}(h:z.natAbs<1000000000:=by decide):yZ (kD z) z 1:=fH (nI.2 (by rw[show (1:Nat)=0+1 from rfl,qZ,nE];omega))
theorem signI_sub(a b:Int):qO (a-b)=uI a b:=by
 unfold qO uI
 split
 ·rw[if_neg (by omega),if_neg (by omega)]
 ·split
  ·rw[if_pos (by omega)]
  ·rw[if_neg (by omega),if_pos (by omega)]
theorem cmpI_neg{a b:Nat}(h:uI (a:Int) (b:Int)<0):a<b:=by
 unfold uI at h
 split at h
 ·omega
 ·split at h<;>omega
theorem cmpI_nn{a b:Nat}(h:¬ uI (a:Int) (b:Int)<0):b<=a:=by
 unfold uI at h
 split at h
 ·omega
 ·omega
theorem word_both{a b:List Nat}(ha:Dig a)(h:(gS a&&gS b)=true):xG a=val a/\xG b=val b/\val a<1000000000000000000:=by
 unfold gS at h
 rw[Bool.and_eq_true,decide_eq_true_eq,decide_eq_true_eq] at h
 unfold xG
 rw[if_pos h.1,if_pos h.2]
 exact ⟨rfl,rfl,val_len2 ha h.1⟩
theorem val_pos_len{b:List Nat}(h:0<val b):0<b.length:=by
 rcases b with _ | ⟨d,l⟩
 ·rw[val_nil] at h;omega
 ·simp
theorem nS{b:List Nat}(hb:zJ b)(h:0<b.length):0<val b:=by
 have h1:=val_top hb.1 h
 have h2:=bN hb h
 have h3:=Nat.mul_le_mul_right (pw (b.length-1)) h2.1
 have h4:=pw_pos (b.length-1)
 rw[Nat.succ_mul] at h3
 omega
theorem val_len1{b:List Nat}(h:b.length=1):val b=b.getD 0 0:=by
 rcases b with _ | ⟨d,_ | ⟨e,l⟩⟩
 ·simp at h
 ·simp [val]
 ·simp at h
theorem len_quo(l:List Nat)(hl:zJ l)(n:Nat):(ofNat (val l / n)).length<=l.length:=by
 have h1:=vK (Nat.div_le_self (val l) n)
 rwa [<- can_eq hl] at h1
theorem len_rem(l:List Nat)(hl:zJ l)(n:Nat):(ofNat (val l % n)).length<=l.length:=by
 have h1:=vK (Nat.mod_le (val l) n)
 rwa [<- can_eq hl] at h1
theorem gcd_toZ(x y:kO):Nat.gcd (val (kJ x)) (val (kJ y))=Int.gcd (jQ x) (jQ y):=by
 unfold Int.gcd;rw[aV,aV]
theorem mkI_false(n:Nat):vC false n=kD (n:Int):=mZ false n
theorem r_made_end{neg:Bool}{l:List Nat}{k:Nat}(hd:Dig l)(hk:k<=l.length)(hv:val (l.take k)=val l)(h:(decide ((0:Int)<((k:Nat):Int))&&(((l.getD (k-1) 0:Nat):Int) == 0))=false):vC neg (val l)=⟨neg&&decide ((0:Int)<((k:Nat):Int)),l.take k⟩:=by
 have hc:zJ (l.take k):=by
  refine ⟨hd.take k,?_⟩
  unfold Top
  rw[List.length_take,Nat.min_eq_left hk]
  rcases Nat.eq_zero_or_pos k with h0 | h0
  ·subst h0;simp
  ·rw[Bool.and_eq_false_iff] at h
   rcases h with h | h
   ·rw[decide_eq_false_iff_not] at h;omega
   ·have h1:=ne_of_beq_false h
    have h6:k-1<l.length:=by omega
    simp [List.getD,List.getElem?_eq_getElem h6,List.getElem?_take_of_lt (show k-1<k by omega)] at h1 ⊢
    exact h1
 unfold vC
 rw[<- hv,<- can_eq hc]
 congr 1
 congr 1
 rcases Nat.eq_zero_or_pos k with h0 | h0
 ·subst h0;simp [val]
 ·have h1:0<val (l.take k):=nS hc (by rw[List.length_take];omega)
  have h2:(val (l.take k) != 0)=true:=bne_iff_ne.2 (by omega)
  rw[h2];symm;exact decide_eq_true (by omega)
theorem r_made_step{l:List Nat}{k:Nat}(hk:k<=l.length)(hv:val (l.take k)=val l)(h:(decide ((0:Int)<((k:Nat):Int))&&(((l.getD (k-1) 0:Nat):Int) == 0))=true):0<k/\val (l.take (k-1))=val l:=by
 rw[Bool.and_eq_true,decide_eq_true_eq,beq_iff_eq] at h
 have h0:0<k:=by omega
 refine ⟨h0,?_⟩
 have h1:=val_take_succ l (k-1)
 rw[show k-1+1=k by omega,show l.getD (k-1) 0=0 by omega] at h1
 omega
theorem validI_big{x:kO}{i:Nat}(h:i<x.gs.length)(hb:¬ x.gs.getD i 0<1000000000):qW x=false:=by
 rcases hv:qW x with _ | _
 ·rfl
 ·exact absurd ((validI_iff.1 hv).1.1.getD i) hb
theorem validI_nil{x:kO}(h:x.gs.length=0):qW x=!x.neg:=by unfold qW;rw[if_pos (by omega)]
theorem validI_dig{x:kO}(hd:Dig x.gs)(h:x.gs.length≠0):qW x=(((x.gs.getD (x.gs.length-1) 0:Nat):Int) != 0):=by
 unfold qW
 rw[if_neg (by omega),aZ hd]
 simp
theorem push_step{o:List Nat}{i s:Nat}(hl:o.length=i):val (o++[s % 1000000000])+pw (i+1)*(s / 1000000000)=val o+pw i*s:=by
 rw[cK,hl,mX,qZ]
 have h:=Nat.mod_add_div s 1000000000
 have h2:pw i*s=pw i*(s % 1000000000)+pw i*(1000000000*(s / 1000000000)):=by rw[<- Nat.mul_add,h]
 rw[h2,Nat.mul_comm 1000000000 (pw i),Nat.mul_assoc]
 omega
theorem dig_push{o:List Nat}(h:Dig o){d:Nat}(hd:d<1000000000):Dig (o++[d]):=bB.2 ⟨h,xS.2 ⟨hd,yA⟩⟩
theorem rplus_step{a b o:List Nat}{i c s:Nat}(hl:o.length=i)(hv:val o+pw i*c=val (a.take i)+val (b.take i))(hs:s=a.getD i 0+b.getD i 0+c) :
  val (o++[s % 1000000000])+pw (i+1)*(s / 1000000000)=val (a.take (i+1))+val (b.take (i+1)):=by
 rw[push_step hl,val_take_succ,val_take_succ,hs,Nat.mul_add,Nat.mul_add]
 omega
theorem rminus_step{a b o:List Nat}{i c s:Nat}(hl:o.length=i)(hv:val o+val (b.take i)=val (a.take i)+pw i*c)(hs:s+b.getD i 0+c=1000000000+a.getD i 0)(h1:s / 1000000000<=1) :
  val (o++[s % 1000000000])+val (b.take (i+1))=val (a.take (i+1))+pw (i+1)*(1-s / 1000000000):=by
 have h:=push_step (o:=o) (i:=i) (s:=s) hl
 have h2:pw (i+1)*(1-s / 1000000000)+pw (i+1)*(s / 1000000000)=pw (i+1):=by
  rw[<- Nat.mul_add,Nat.sub_add_cancel h1,Nat.mul_one]
 have h3:=congrArg (pw i*·) hs
 simp only[Nat.mul_add] at h3
 rw[val_take_succ,val_take_succ]
 rw[qZ] at h h2 ⊢
 rw[Nat.mul_comm (pw i) 1000000000] at h3
 omega
theorem rscaled_step{a o:List Nat}{i c d s:Nat}(hl:o.length=i)(hv:val o+pw i*c=val (a.take i)*d)(hs:s=a.getD i 0*d+c) :
  val (o++[s % 1000000000])+pw (i+1)*(s / 1000000000)=val (a.take (i+1))*d:=by
 rw[push_step hl,val_take_succ,hs,Nat.mul_add,Nat.add_mul,Nat.mul_assoc]
 omega
theorem val_push{o:List Nat}{i c:Nat}(hl:o.length=i):val (o++[c])=val o+pw i*c:=by rw[cK,hl,mX]
theorem take_all{a:List Nat}{i:Nat}(h:a.length<=i):a.take i=a:=List.take_of_length_le h
theorem rminus_end{a b o:List Nat}{i c:Nat}(hda:Dig a)(hb:Dig b)(hd:Dig o)(hi:i=a.length)(hl:o.length=i)(hba:val b<=val a)(hv:val o+val (b.take i)=val (a.take i)+pw i*c):val o=val a-val b:=by
 have h1:val (b.take i)=val b:=val_take_of_lt (by rw[hi];exact Nat.lt_of_le_of_lt hba (uV hda))
 rw[h1,hi,List.take_length] at hv
 have h2:=uV hd
 rw[hl,hi] at h2
 rcases Nat.eq_zero_or_pos c with h3 | h3
 ·subst h3;omega
 ·have:=Nat.mul_le_mul_left (pw a.length) h3
  omega
theorem gM(X:Int):mO (kD X).neg X.natAbs=X:=by
 rw[ofZ_neg];unfold mO
 by_cases h:X<0
 ·simp [h];omega
 ·simp [h];omega
theorem rneg_eq(X:Int):vC (!(kD X).neg) (val (ofNat X.natAbs))=kD (-X):=by
 rw[mZ,jZ]
 congr 1
 have h:=gM X
 unfold mO at h ⊢
 cases hn:(kD X).neg<;>simp [hn] at h ⊢<;>omega
theorem rsum_same{X Y:Int}(h:(kD X).neg=(kD Y).neg):vC (kD X).neg (val (ofNat (val (ofNat X.natAbs)+val (ofNat Y.natAbs))))=kD (X+Y):=by
 rw[sum_same h,jZ,jZ,gM,gM]
theorem rsum_first{X Y:Int}(h:(kD X).neg≠(kD Y).neg)(hn:val (ofNat Y.natAbs)<=val (ofNat X.natAbs)):vC (kD X).neg (val (ofNat (val (ofNat X.natAbs)-val (ofNat Y.natAbs))))=kD (X+Y):=by
 rw[sum_first h hn,jZ,jZ,gM,gM]
theorem rsum_second{X Y:Int}(h:(kD X).neg≠(kD Y).neg)(hn:val (ofNat X.natAbs)<=val (ofNat Y.natAbs)):vC (kD Y).neg (val (ofNat (val (ofNat Y.natAbs)-val (ofNat X.natAbs))))=kD (X+Y):=by
 rw[sum_second h hn,jZ,jZ,gM,gM]
theorem rmul_eq(X Y:Int):vC (!((kD X).neg == (kD Y).neg)) (val (ofNat X.natAbs)*val (ofNat Y.natAbs))=kD (X*Y):=by
 have h:=mul_eq (b:=(kD X).neg) (c:=(kD Y).neg) (val (ofNat X.natAbs)) (val (ofNat Y.natAbs))
 rw[jZ (val (ofNat X.natAbs)*val (ofNat Y.natAbs))] at h
 rw[h,jZ,jZ,gM,gM]
theorem rsign_zero{X:Int}(h:(((ofNat X.natAbs).length:Nat):Int)=0):qO X=0:=by
 have h1:X.natAbs=0:=ofNat_nil.1 (List.eq_nil_of_length_eq_zero (by omega))
 have h2:X=0:=by omega
 subst h2;rfl
theorem rsign_ne{X:Int}(h:(((ofNat X.natAbs).length:Nat):Int)≠0):X≠0:=fun e=>h (by subst e;simp [qS])
theorem rsign_neg{X:Int}(h:(((ofNat X.natAbs).length:Nat):Int)≠0)(hn:(kD X).neg=true):qO X=-1:=by
 have h1:=rsign_ne h
 rw[ofZ_neg,decide_eq_true_eq] at hn
 unfold qO;rw[if_neg h1,if_pos hn]
theorem rsign_pos{X:Int}(h:(((ofNat X.natAbs).length:Nat):Int)≠0)(hn:(kD X).neg=false):qO X=1:=by
 have h1:=rsign_ne h
 rw[ofZ_neg,decide_eq_false_iff_not] at hn
 unfold qO;rw[if_neg h1,if_neg hn]
theorem gs_val(x:kO):(kD (jQ x)).gs.length<=x.gs.length:=cO x
theorem cU(x:kO):(ofNat (jQ x).natAbs).length<=x.gs.length:=cO x
theorem gs_neg(x:kO):(kD (-jQ x)).gs.length<=x.gs.length:=by rw[ofZ_len,lenZ_neg];exact cO x
theorem gs_sub(x y:kO):(kD (jQ x-jQ y)).gs.length<=max x.gs.length y.gs.length+1:=by
 rw[Int.sub_eq_add_neg,ofZ_len];exact lenZ_add (cO x) (by rw[lenZ_neg];exact cO y) (Nat.le_refl _)
theorem gs_mul(x y:kO):(kD (jQ x*jQ y)).gs.length<=x.gs.length+y.gs.length:=mT (cO x) (cO y) (Nat.le_refl _)
theorem val_pair{l:List Nat}(h:l.length<=2):val l=l.getD 1 0*1000000000+l.getD 0 0:=by
 rcases l with _ | ⟨d,_ | ⟨e,_ | ⟨f,l⟩⟩⟩
 ·rfl
 ·simp [val]
 ·simp [val];omega
 ·simp at h
theorem rshift_val{q:List Nat}(u:List Nat){i V r:Nat}(h:val (u.drop (i+1))=V*val (q.drop (i+1))+r):val (u.drop i)=V*(1000000000*val (q.drop (i+1)))+(u.getD i 0+1000000000*r):=by
 rw[vM u i,h,Nat.mul_left_comm]
 rw[Nat.mul_add];omega
theorem rguess{v:List Nat}{W n:Nat}(hv:Dig v)(hn:v.length=n)(h1:1<=n)(hW:W<1000000000*val v) :
  ((ofNat W).getD n 0*1000000000+(ofNat W).getD (n-1) 0) / (v.getD (n-1) 0+1)*val v<=W/\((ofNat W).getD n 0*1000000000+(ofNat W).getD (n-1) 0) / (v.getD (n-1) 0+1)<1000000000:=by
 have hw:=uV hv
 have ht:=val_top hv (by omega)
 rw[hn] at hw ht
 have hp:=pw_pos (n-1)
 have e1:=yG (ofNat W) 0 (n-1)
 have e2:=vM (ofNat W) (n-1)
 have e3:=vM (ofNat W) n
 have e5:W<pw (n+1):=by rw[qZ];omega
 have e4:(ofNat W).drop (n+1)=[]:=List.drop_eq_nil_of_le (qJ e5)
 rw[e4,val_nil] at e3
 rw[show n-1+1=n by omega] at e2
 rw[List.drop_zero,jZ,Nat.zero_add] at e1
 generalize (ofNat W).getD n 0=t1 at *
 generalize (ofNat W).getD (n-1) 0=t0 at *
 generalize v.getD (n-1) 0=v1 at *
 have e6:pw (n-1)*(t1*1000000000+t0)<=W:=by
  have:t1*1000000000+t0=val ((ofNat W).drop (n-1)):=by omega
  rw[this];omega
 have e7:=Nat.div_mul_le_self (t1*1000000000+t0) (v1+1)
 generalize (t1*1000000000+t0) / (v1+1)=G at *
 have e8:G*val v<=W:=by
  refine Nat.le_trans (Nat.mul_le_mul_left G (Nat.le_of_lt ht.2)) (Nat.le_trans ?_ e6)
  rw[<- Nat.mul_assoc,Nat.mul_comm (pw (n-1))]
  exact Nat.mul_le_mul_right _ e7
 refine ⟨e8,?_⟩
 have e9:G*val v<1000000000*val v:=by omega
 exact Nat.lt_of_mul_lt_mul_right e9
theorem rquo_lt{G V r W:Nat}(h:V*G+r=W)(hW:W<1000000000*V):G<1000000000:=by
 have h1:G*V<1000000000*V:=by rw[Nat.mul_comm G V];omega
 exact Nat.lt_of_mul_lt_mul_right h1
theorem rround{u q:List Nat}{V G r i:Nat}(hi:i<q.length)(h:val (u.drop i)=V*(1000000000*val (q.drop (i+1)))+(V*G+r)):val (u.drop i)=V*val ((q.set i G).drop i)+r:=by
 rw[h,mG q i G hi,Nat.mul_add];omega
theorem split_dig{o:List Nat}{m n:Nat}(h:o++ofNat m=ofNat n)(hm:¬ (0:Int)<((m:Nat):Int)):Dig o:=by
 rw[<- split_end h hm];exact kB n
theorem split_val{o:List Nat}{m n:Nat}(h:o++ofNat m=ofNat n)(hm:¬ (0:Int)<((m:Nat):Int)):val o=n:=by
 rw[<- split_end h hm];exact jZ n
theorem ofZ_zero:kD 0=⟨false,[]⟩:=by unfold kD vC;simp [qS]
theorem rshort_step{a q:List Nat}{d vH i n:Nat}(hi:i<q.length)(hv:val (a.drop (i+1))=val (q.drop (i+1))*d+vH)(hn:n=vH*1000000000+a.getD i 0) :
  val (a.drop i)=val ((q.set i (n / d)).drop i)*d+n % d:=by
 rw[vM a i,hv,mG q i _ hi]
 have h3:=Nat.div_add_mod n d
 rw[Nat.add_mul,Nat.mul_comm (n / d) d]
 have h4:1000000000*val (q.drop (i+1))*d=1000000000*(val (q.drop (i+1))*d):=Nat.mul_assoc _ _ _
 omega
theorem fdiv_unique{x y q r:Int}(h:r+y*q=x)(hr:(0<=r/\r<y)\/(y<r/\r<=0)):x.fdiv y=q/\x.fmod y=r:=by
 rcases hr with ⟨h1,h2⟩ | ⟨h1,h2⟩
 ·have hy:0<y:=by omega
  rw[Int.fdiv_eq_ediv_of_nonneg _ (by omega),Int.fmod_eq_emod_of_nonneg _ (by omega)]
  exact (Int.ediv_emod_unique hy).2 ⟨h,h1,h2⟩
 ·have hy:0 < -y:=by omega
  have h3:(-x).fdiv (-y)=q/\(-x).fmod (-y)=-r:=by
   rw[Int.fdiv_eq_ediv_of_nonneg _ (by omega),Int.fmod_eq_emod_of_nonneg _ (by omega)]
   refine (Int.ediv_emod_unique hy).2 ⟨?_,by omega,by omega⟩
   rw[<- h,Int.neg_mul];omega
  rw[Int.neg_fdiv_neg,Int.neg_fmod_neg] at h3
  exact ⟨h3.1,by omega⟩
theorem div_same{b c:Bool}{m n:Nat}(hn:0<n)(h:b=c\/m % n=0) :
  kD ((mO b m).fdiv (mO c n))=vC (!(b == c)) (m / n)/\kD ((mO b m).fmod (mO c n))=vC c (m % n):=by
 have h1:((m % n:Nat):Int)+(n:Int)*((m / n:Nat):Int)=(m:Int):=by
  have:=Nat.mod_add_div m n;exact_mod_cast this
 have h2:=Nat.mod_lt m hn
 rw[mZ,mZ]
 have key:(mO b m).fdiv (mO c n)=mO (!(b == c)) (m / n)/\(mO b m).fmod (mO c n)=mO c (m % n):=by
  have h3:((m % n:Nat):Int)=0\/b=c:=by rcases h with h | h;exact .inr h;exact .inl (by omega)
  generalize m / n=q at *
  generalize m % n=r at *
  refine fdiv_unique ?_ ?_
  ·cases b<;>cases c
   ·show (r:Int)+(n:Int)*(q:Int)=(m:Int);exact h1
   ·show -(r:Int)+(-(n:Int))*(-(q:Int))=(m:Int);rw[Int.neg_mul_neg];rcases h3 with h3 | h3;omega;cases h3
   ·show (r:Int)+(n:Int)*(-(q:Int))=-(m:Int);rw[Int.mul_neg];rcases h3 with h3 | h3;omega;cases h3
   ·show -(r:Int)+(-(n:Int))*(q:Int)=-(m:Int);rw[Int.neg_mul];omega
  ·cases c
   ·left;show 0<=(r:Int)/\(r:Int)<(n:Int);omega
   ·right;show -(n:Int) < -(r:Int)/\-(r:Int)<=0;omega
 rw[key.1,key.2]
 exact ⟨rfl,rfl⟩
theorem div_other{b c:Bool}{m n:Nat}(hn:0<n)(h:b≠c)(hr:0<m % n) :
  kD ((mO b m).fdiv (mO c n))=vC (!(b == c)) (m / n+1)/\kD ((mO b m).fmod (mO c n))=vC c (n-m % n):=by
 have h1:((m % n:Nat):Int)+(n:Int)*((m / n:Nat):Int)=(m:Int):=by
  have:=Nat.mod_add_div m n;exact_mod_cast this
 have h2:=Nat.mod_lt m hn
 rw[mZ,mZ]
 have key:(mO b m).fdiv (mO c n)=mO (!(b == c)) (m / n+1)/\(mO b m).fmod (mO c n)=mO c (n-m % n):=by
  have e1:(n:Int)*(((m / n+1:Nat)):Int)=(n:Int)*((m / n:Nat):Int)+n:=by
   rw[Int.natCast_add,Int.mul_add];simp
  generalize m / n=q at *
  generalize m % n=r at *
  refine fdiv_unique ?_ ?_
  ·cases b<;>cases c
   ·exact absurd rfl h
   ·show -((n-r:Nat):Int)+(-(n:Int))*(-((q+1:Nat):Int))=(m:Int);rw[Int.neg_mul_neg,e1];omega
   ·show ((n-r:Nat):Int)+(n:Int)*(-((q+1:Nat):Int))=-(m:Int);rw[Int.mul_neg,e1];omega
   ·exact absurd rfl h
  ·cases c
   ·left;show 0<=((n-r:Nat):Int)/\((n-r:Nat):Int)<(n:Int);omega
   ·right;show -(n:Int) < -((n-r:Nat):Int)/\-((n-r:Nat):Int)<=0;omega
 rw[key.1,key.2]
 exact ⟨rfl,rfl⟩
theorem r_div_same{X Y:Int}(hn:0<Y.natAbs)(h:(kD X).neg=(kD Y).neg\/¬ (0:Int)<(((ofNat (val (ofNat X.natAbs) % val (ofNat Y.natAbs))).length:Nat):Int)) :
  vC (!((kD X).neg == (kD Y).neg)) (val (ofNat (val (ofNat X.natAbs) / val (ofNat Y.natAbs))))=kD (X.fdiv Y):=by
 rw[jZ,jZ,jZ]
 rw[jZ,jZ] at h
 have h1:=(div_same (b:=(kD X).neg) (c:=(kD Y).neg) (m:=X.natAbs) (n:=Y.natAbs) hn (by
  rcases h with h | h
  ·exact .inl h
  ·right
   rcases Nat.eq_zero_or_pos (X.natAbs % Y.natAbs) with h2 | h2
   ·exact h2
   ·have:=cP h2;omega)).1
 rw[gM,gM] at h1
 exact h1.symm
theorem r_div_other{X Y:Int}(hn:0<Y.natAbs)(h:(kD X).neg≠(kD Y).neg/\(0:Int)<(((ofNat (val (ofNat X.natAbs) % val (ofNat Y.natAbs))).length:Nat):Int)) :
  kD (jQ (vC (!((kD X).neg == (kD Y).neg)) (val (ofNat (val (ofNat X.natAbs) / val (ofNat Y.natAbs)))))-jQ (kD 1))=kD (X.fdiv Y):=by
 obtain ⟨h,h0⟩:=h
 rw[jZ,jZ] at h0
 have h2:0<X.natAbs % Y.natAbs:=by
  rcases Nat.eq_zero_or_pos (X.natAbs % Y.natAbs) with h3 | h3
  ·rw[h3,qS] at h0;simp at h0
  ·exact h3
 have h1:=(div_other hn h h2).1
 rw[gM,gM] at h1
 rw[h1,jZ,jZ,jZ,mZ,mZ,mH,mH]
 have hb:(!((kD X).neg == (kD Y).neg))=true:=by rw[Bool.not_eq_true',beq_eq_false_iff_ne];exact h
 rw[hb]
 congr 1
 unfold mO
 rw[if_pos rfl,if_pos rfl];omega
theorem r_rem_eq(X Y:Int):kD (jQ (kD X)-jQ (kD (jQ (kD (X.fdiv Y))*jQ (kD Y))))=kD (X.fmod Y):=by
 rw[mH,mH,mH,mH,Int.fmod_def,Int.mul_comm]
theorem lenZ_fdiv(a b:Int):nA (a.fdiv b)<=nA a+1:=by
 refine nI.2 ?_
 have h1:=nI.1 (Nat.le_refl (nA a))
 rw[qZ]
 have h2:(a.fdiv b).natAbs<=a.natAbs+1:=by
  rw[Int.fdiv_eq_ediv]
  have:=Int.natAbs_ediv_le_natAbs a b
  split<;>omega
 have:=pw_pos (nA a)
 omega
def jP(q:Rat):kP:=⟨kD q.num,kD q.den⟩
def kL(x:kP):Bool:=qW x.num&&(qW x.den&&(decide (0<jQ x.den)&&(Int.gcd (jQ x.num) (jQ x.den) == 1)))
def xZ(x:kP):Rat:=if kL x=true then Rat.divInt (jQ x.num) (jQ x.den) else 0
theorem eH(q:Rat):kL (jP q)=true:=by
 unfold kL jP
 simp only[validI_ofZ,mH,Bool.true_and,Bool.and_eq_true,decide_eq_true_eq,beq_iff_eq]
 refine ⟨by have:=q.den_pos;omega,?_⟩
 have:=q.reduced
 unfold Int.gcd
 rw[Int.natAbs_natCast]
 exact this
theorem mV(q:Rat):xZ (jP q)=q:=by
 unfold xZ
 rw[if_pos (eH q)]
 unfold jP
 simp only[mH]
 exact Rat.num_divInt_den q
theorem ofQ_toQ{x:kP}(h:kL x=true):jP (xZ x)=x:=by
 unfold xZ
 rw[if_pos h]
 unfold kL at h
 simp only[Bool.and_eq_true,decide_eq_true_eq,beq_iff_eq] at h
 obtain ⟨h1,h2,h3,h4⟩:=h
 have e1:(Rat.divInt (jQ x.num) (jQ x.den)).num=jQ x.num:=by
  rw[Rat.num_divInt,Int.gcd_comm,h4,Int.sign_eq_one_of_pos h3];simp
 have e2:(((Rat.divInt (jQ x.num) (jQ x.den)).den:Nat):Int)=jQ x.den:=by
  rw[Rat.den_divInt,if_neg (by omega),Int.gcd_comm,h4];simp;omega
 unfold jP
 rw[e1,e2,ofZ_toZ h1,ofZ_toZ h2]
theorem toQ_bad{x:kP}(h:kL x=false):xZ x=0:=by unfold xZ;rw[if_neg (by rw[h];simp)]
def QL(q:Rat)(n:Nat):Prop:=nA q.num<=n/\nA q.den<=n
theorem kS{q:Rat}{m n:Nat}(h:QL q m)(hm:m<=n:=by decide):QL q n:=⟨Nat.le_trans h.1 hm,Nat.le_trans h.2 hm⟩
theorem xY{a b:Int}{n:Nat}(ha:nA a<=n)(hb:nA b<=n)(h1:1<=n:=by decide):QL (Rat.divInt a b) n:=by
 constructor
 ·refine Nat.le_trans ?_ ha
  refine bO ?_
  rw[Rat.num_divInt]
  refine Nat.le_trans (Int.natAbs_ediv_le_natAbs _ _) ?_
  rw[Int.natAbs_mul]
  rcases Int.lt_trichotomy b 0 with h | h | h
  ·rw[Int.sign_eq_neg_one_of_neg h];simp
  ·rw[h];simp
  ·rw[Int.sign_eq_one_of_pos h];simp
 ·rw[Rat.den_divInt]
  split
  ·exact Nat.le_trans (by unfold nA;simp [yR,qS]) h1
  ·refine Nat.le_trans ?_ hb
   refine bO ?_
   rw[Int.natAbs_natCast]
   exact Nat.div_le_self _ _
theorem add_divInt(a b:Rat):a+b=Rat.divInt (a.num*b.den+b.num*a.den) (a.den*b.den):=by
 rw[Rat.add_def',<- Rat.divInt_ofNat,Int.natCast_mul]
theorem mul_divInt(a b:Rat):a*b=Rat.divInt (a.num*b.num) (a.den*b.den):=by
 rw[Rat.mul_def',<- Rat.divInt_ofNat,Int.natCast_mul]
theorem div_divInt(a b:Rat):a / b=Rat.divInt (a.num*b.den) (a.den*b.num):=by
 rw[Rat.div_def,Rat.inv_def]
 conv=>lhs;rw[<- Rat.num_divInt_den a]
 rw[Rat.divInt_mul_divInt]
theorem ql_add{a b:Rat}{m n k:Nat}(ha:QL a m)(hb:QL b n)(h:m+n+1<=k):QL (a+b) k:=by
 rw[add_divInt]
 refine xY (lenZ_add (mT ha.1 hb.2 (Nat.le_refl _)) (mT hb.1 ha.2 (Nat.le_refl _)) (by omega)) (mT ha.2 hb.2 (by omega)) (by omega)
theorem nM{a:Rat}{m:Nat}(ha:QL a m):QL (-a) m:=⟨by rw[Rat.neg_num,lenZ_neg];exact ha.1,by rw[Rat.neg_den];exact ha.2⟩
theorem ql_sub{a b:Rat}{m n k:Nat}(ha:QL a m)(hb:QL b n)(h:m+n+1<=k):QL (a-b) k:=by
 rw[Rat.sub_eq_add_neg];exact ql_add ha (nM hb) h
theorem ql_pos{a:Rat}{m:Nat}(ha:QL a m):1<=m:=by
 have h1:=nI.1 ha.2
 rcases Nat.eq_zero_or_pos m with h | h
 ·subst h;rw[nE] at h1;have:=a.den_pos;omega
 ·exact h
theorem vW{a b:Rat}{m n k:Nat}(ha:QL a m)(hb:QL b n)(h:m+n<=k:=by decide):QL (a*b) k:=by
 have h1:=ql_pos ha
 rw[mul_divInt]
 exact xY (mT ha.1 hb.1 h) (mT ha.2 hb.2 h) (by omega)
theorem ql_div{a b:Rat}{m n k:Nat}(ha:QL a m)(hb:QL b n)(h:m+n<=k):QL (a / b) k:=by
 have h1:=ql_pos ha
 rw[div_divInt]
 exact xY (mT ha.1 hb.2 h) (mT ha.2 hb.1 h) (by omega)
theorem mM{z:Int}(h:z.natAbs<1000000000:=by decide):nA z<=1:=nI.2 (by rw[show (1:Nat)=0+1 from rfl,qZ,nE];omega)
theorem mI{z:Int}{n:Nat}(h:nA z<=n)(h1:1<=n:=by decide):QL (z:Rat) n:=⟨h,Nat.le_trans (mM (by simp)) h1⟩
theorem mW:QL 0 1:=⟨mM (by simp),mM (by simp)⟩
theorem ql_ite{p:Prop}[Decidable p]{a b:Rat}{n:Nat}(ha:QL a n)(hb:QL b n):QL (if p then a else b) n:=by split<;>assumption
theorem ql_min{a b:Rat}{n:Nat}(ha:QL a n)(hb:QL b n):QL (min a b) n:=by rw[Rat.min_def];exact ql_ite ha hb
theorem ql_max{a b:Rat}{n:Nat}(ha:QL a n)(hb:QL b n):QL (max a b) n:=by rw[Rat.max_def];exact ql_ite hb ha
structure gD (x:kP) (q:Rat) (n:Nat):Prop where
 v:xZ x=q
 p:1<=n
 n1:x.num.gs.length<=n
 n2:x.den.gs.length<=n
theorem gD.ql{x:kP}{q:Rat}{n:Nat}(h:gD x q n):QL q n:=by
 rw[<- h.v]
 by_cases hv:kL x=true
 ·unfold xZ;rw[if_pos hv]
  exact xY (Nat.le_trans (cO _) h.n1) (Nat.le_trans (cO _) h.n2) h.p
 ·unfold xZ;rw[if_neg hv]
  exact kS mW h.p
theorem kN{q:Rat}{n:Nat}(h:QL q n):gD (jP q) q n:=⟨mV q,ql_pos h,h.1,h.2⟩
theorem uE{q:Rat}{n:Nat}(h:QL q n):yZ (jP q).num q.num n:=fH h.1
theorem qU{q:Rat}{n:Nat}(h:QL q n):yZ (jP q).den q.den n:=fH h.2
theorem kE{x:kP}{a:Rat}{m n:Nat}(hx:gD x a m)(h:m<=n:=by decide):gD x a n:=⟨hx.v,Nat.le_trans hx.p h,Nat.le_trans hx.n1 h,Nat.le_trans hx.n2 h⟩
theorem divInt_parts{a b:Int}(hb:0<b):jP (Rat.divInt a b)=⟨kD (a.fdiv (Int.gcd a b)),kD (b.fdiv (Int.gcd a b))⟩:=by
 unfold jP
 have e1:(Rat.divInt a b).num=a.fdiv (Int.gcd a b):=by
  rw[Rat.num_divInt,Int.sign_eq_one_of_pos hb,Int.one_mul,Int.gcd_comm,Int.fdiv_eq_ediv_of_nonneg _ (by omega)]
 have e2:(((Rat.divInt a b).den:Nat):Int)=b.fdiv (Int.gcd a b):=by
  rw[Rat.den_divInt,if_neg (by omega),Int.gcd_comm,Int.fdiv_eq_ediv_of_nonneg _ (by omega),Int.natCast_ediv]
  congr 1;omega
 rw[e1,e2]
def gW(a b:Rat):Int:=if a<b then -1 else if b<a then 1 else 0
theorem cmpQ_cross(a b:Rat):uI (a.num*b.den) (b.num*a.den)=gW a b:=by
 unfold uI gW
 simp only[Rat.lt_iff]
def mY(a:Rat):Int:=qO a.num
theorem signQ_sub(a b:Rat):mY (a-b)=gW a b:=by
 unfold mY qO gW
 have h1:(a-b).num=0↔a-b=0:=Rat.num_eq_zero
 have h2:0<=(a-b).num↔0<=a-b:=Rat.num_nonneg
 have h3:b<=a↔0<=a-b:=Rat.le_iff_sub_nonneg b a
 by_cases hlt:a<b
 ·have h4:¬ 0<=(a-b).num:=fun h=>Rat.not_le.2 hlt (h3.2 (h2.1 h))
  rw[if_neg (by omega),if_pos (by omega),if_pos hlt]
 ·have h4:0<=(a-b).num:=h2.2 (h3.1 (Rat.not_lt.1 hlt))
  rw[if_neg hlt]
  by_cases hgt:b<a
  ·have h5:(a-b).num≠0:=fun h=>by
    have h6:=h1.1 h
    have h7:=(Rat.lt_iff_sub_pos b a).1 hgt
    rw[h6] at h7;exact Rat.lt_irrefl h7
   rw[if_neg h5,if_neg (by omega),if_pos hgt]
  ·have h5:a=b:=Rat.le_antisymm (Rat.not_lt.1 hgt) (Rat.not_lt.1 hlt)
   have h6:(a-b).num=0:=h1.2 (by rw[h5];exact Rat.sub_self)
   rw[if_pos h6,if_neg hgt]
theorem copied_eq{x:kP}(h:kL x=true):(⟨kD (-(-jQ x.num)),kD (-(-jQ x.den))⟩:kP)=jP (xZ x):=by
 have h0:=h
 unfold kL at h
 simp only[Bool.and_eq_true] at h
 rw[ofQ_toQ h0,Int.neg_neg,Int.neg_neg,ofZ_toZ h.1,ofZ_toZ h.2.1]
theorem red_neg{a b:Int}(hb:b<0):(⟨kD ((-a).fdiv (Int.gcd (-a) (-b))),kD ((-b).fdiv (Int.gcd (-a) (-b)))⟩:kP)=jP (Rat.divInt a b):=by
 rw[<- divInt_parts (by omega),Rat.neg_divInt_neg]
theorem red_pos{a b:Int}(hb:¬ b<0)(h0:b≠0):(⟨kD (a.fdiv (Int.gcd a b)),kD (b.fdiv (Int.gcd a b))⟩:kP)=jP (Rat.divInt a b):=(divInt_parts (by omega)).symm
theorem gcd_ne{a b:Int}(hb:b≠0):((Int.gcd a b:Nat):Int)≠0:=by
 intro h
 have h1:Int.gcd a b=0:=by omega
 rw[Int.gcd_eq_zero_iff] at h1
 exact hb h1.2
theorem lenZ_gcd{a b:Int}{n:Nat}(hb:b≠0)(h:nA b<=n):nA ((Int.gcd a b:Nat):Int)<=n:=by
 refine Nat.le_trans (bO ?_) h
 rw[Int.natAbs_natCast]
 exact Nat.le_of_dvd (by omega) (Int.gcd_dvd_natAbs_right a b)
theorem signI_le{z:Int}:qO z<=0↔z<=0:=by
 rcases zG z with ⟨h1,h2⟩ | ⟨h1,h2⟩ | ⟨h1,h2⟩<;>omega
theorem fY{z:Int}:qO z<0↔z<0:=by
 rcases zG z with ⟨h1,h2⟩ | ⟨h1,h2⟩ | ⟨h1,h2⟩<;>omega
theorem cmpI_zero{a b:Int}:uI a b=0↔a=b:=by
 unfold uI
 split
 ·constructor<;>intro h<;>omega
 ·split<;>constructor<;>intro h<;>omega
theorem validR_no{x:kP}(h:((!qW x.num||!qW x.den)||decide (qO (jQ x.den)<=0))=true):kL x=false:=by
 unfold kL
 rw[Bool.or_eq_true,Bool.or_eq_true,Bool.not_eq_true',Bool.not_eq_true',decide_eq_true_eq,signI_le] at h
 rcases h with (h | h) | h
 ·rw[h];rfl
 ·rw[h];simp
 ·rw[show decide (0<jQ x.den)=false from decide_eq_false (by omega)];simp
theorem validR_yes{x:kP}(h:((!qW x.num||!qW x.den)||decide (qO (jQ x.den)<=0))=false):kL x=(uI ((Int.gcd (jQ x.num) (jQ x.den):Nat):Int) 1 == 0):=by
 unfold kL
 rw[Bool.or_eq_false_iff,Bool.or_eq_false_iff,Bool.not_eq_false',Bool.not_eq_false',decide_eq_false_iff_not,signI_le] at h
 obtain ⟨⟨h1,h2⟩,h3⟩:=h
 rw[h1,h2,show decide (0<jQ x.den)=true from decide_eq_true (by omega)]
 simp only[Bool.true_and]
 rw[Bool.eq_iff_iff,beq_iff_eq,beq_iff_eq,cmpI_zero]
 omega
theorem signQ_zero{q:Rat}:qO q.num=0↔q=0:=by
 rw[<- Rat.num_eq_zero]
 rcases zG q.num with ⟨h1,h2⟩ | ⟨h1,h2⟩ | ⟨h1,h2⟩<;>omega
def zW(q:Rat):Rat:=if q<0 then -q else q
theorem ql_abs{q:Rat}{n:Nat}(h:QL q n):QL (zW q) n:=by unfold zW;exact ql_ite (nM h) h
def divR(p q:Rat):kP:=if q=0 then ⟨⟨false,[]⟩,⟨false,[]⟩⟩ else jP (p / q)
def divC(q:Rat):Int:=if q=0 then 14 else 0
theorem divR_zero{p q:Rat}(h:q=0):divR p q=⟨⟨false,[]⟩,⟨false,[]⟩⟩:=if_pos h
theorem divR_ne{p q:Rat}(h:q≠0):divR p q=jP (p / q):=if_neg h
theorem divC_zero{q:Rat}(h:q=0):divC q=14:=if_pos h
theorem divC_ne{q:Rat}(h:q≠0):divC q=0:=if_neg h
theorem mul_ne{a b:Int}(ha:a≠0)(hb:b≠0):a*b≠0:=Int.mul_ne_zero ha hb
theorem den_ne(q:Rat):(q.den:Int)≠0:=by have:=q.den_pos;omega
theorem num_ne{q:Rat}(h:q≠0):q.num≠0:=fun e=>h (Rat.num_eq_zero.1 e)
theorem mJ{x y:kO}{a b:Int}{m n k:Nat}(hx:yZ x a m)(hy:yZ y b n)(h:max m n<=k:=by decide):yZ (kD ((Int.gcd a b:Nat):Int)) ((Int.gcd a b:Nat):Int) k:=fH (by
 by_cases hb:b=0
 ·subst hb
  rw[Int.gcd_zero_right]
  refine Nat.le_trans (bO (z:=a) ?_) (Nat.le_trans hx.ln (by omega))
  simp
 ·exact Nat.le_trans (lenZ_gcd hb hy.ln) (by omega))
theorem iok_fdiv{x y:kO}{a b:Int}{m n k:Nat}(hx:yZ x a m)(_:yZ y b n)(h:m+1<=k):yZ (kD (a.fdiv b)) (a.fdiv b) k:=fH (Nat.le_trans (lenZ_fdiv a b) (by have:=hx.ln;omega))
theorem mR{z:Int}(h1:-9223372036854775808<=z:=by decide)(h2:z<=9223372036854775807:=by decide):nA z<=3:=eB (by omega)
theorem red_neg2{a b:Int}(hb:b<0):jP (Rat.divInt a b)=⟨kD (a.fdiv (-((Int.gcd a b:Nat):Int))),kD (b.fdiv (-((Int.gcd a b:Nat):Int)))⟩:=by
 rw[<- red_neg hb]
 have e:Int.gcd (-a) (-b)=Int.gcd a b:=by simp
 rw[e]
 have h1:=Int.neg_fdiv_neg a (-((Int.gcd a b:Nat):Int))
 have h2:=Int.neg_fdiv_neg b (-((Int.gcd a b:Nat):Int))
 rw[Int.neg_neg] at h1 h2
 rw[h1,h2]
theorem absQ_neg{q:Rat}(h:mY q<0):zW q=-q:=by
 unfold zW mY at *
 rw[fY] at h
 rw[if_pos]
 rw[<- Rat.not_le,<- Rat.num_nonneg];omega
theorem absQ_pos{q:Rat}(h:¬ mY q<0):zW q=q:=by
 unfold zW mY at *
 rw[fY] at h
 rw[if_neg]
 rw[Rat.not_lt,<- Rat.num_nonneg];omega
open Go.RowKit (Below)
theorem sim_put{C:Ctx}{a:Act}{w:World}{S:SL}{B:BS}{D:kV}{β:kY}{t:Tmp}{v:Value}{x:SV}(h:fQ C a w ⟨S,B⟩ D β)(hd:yH C.n (some t)=true)(hx:qC w D β v x):fQ C (a.put (some t) v) w ⟨(t,x)::S,B⟩ D β :=
 ⟨h.base.put hd _,h.mem,h.high,fun u=>by
  show qC w D β ((a.put (some t) v).tmps.getD u undef) (kA ((t,x)::S) u)
  rw[uP h.base.size hd,qM]
  by_cases e:t=u
  ·rw[if_pos e,if_pos (by rw[e])];exact hx
  ·rw[if_neg e,if_neg (fun e'=>e (by injection e'))];exact h.slots u⟩
theorem pwp_nilq{P:Program}{n:Fr}{S:SL}{B:BS}{Q:Exit->PS->Prop}{id:Nat}{o1 o2:Oper}{t0 ta tb:Tmp}{T T' E t:TypeId}{s s':Nat}{es:List jT}
  (h1:o1.op=.move (.tmp t0)) (h1d:o1.dst=some ta) (h1g:o1.guard=none) (h2:o2.op=.binOp .eql T (.tmp ta) (.const (.slice none 0 0)) T') (h2d:o2.dst=some tb) (h2g:o2.guard=none)
  (hT:uB P T=some (E,s)) (hda:yH n (some ta)=true) (hdb:yH n (some tb)=true) (hx:kA S t0=.d (.sl t s' es))
  (hq:∀ b:Bool,(b=true->es=[])->Q .normal ⟨(tb,.d (.val (.bool b)))::(ta,.d (.sl t s' es))::S,B⟩):dR P n (.region id #[o1,o2] false) Q ⟨S,B⟩:=fun C a w N hn hs=>by
 subst hn
 obtain ⟨D,β,hs⟩:=hs
 have hv:=hs.slots t0
 have hv':qC w D β (a.tmps.getD t0 undef) (kA S t0):=hv
 rw[hx] at hv'
 have hev:a.eval (.tmp t0)=a.tmps.getD t0 undef:=rfl
 generalize a.tmps.getD t0 undef=v at hv' hev
 have hv'':uN w D v (.sl t s' es):=hv'
 obtain ⟨i,f1,f2,f3⟩:=gQ hT
 cases hv'' with
 |sl g off u hnn hcc hmm hss ha hD hu eO hrr=>
 rename_i ad len cap
 subst hnn
 have hp1:yU o1=true:=by simp [yU,h1]
 have hp2:yU o2=true:=by simp [yU,h2]
 have hs1:=sim_put hs hda hv'
 have hs2:=sim_put (v:=.bool ad.isNone) hs1 hdb (x:=.d (.val (.bool ad.isNone))) (uN.val _)
 refine wpIn_region_lit (wpListIn_plain h1g fun K1 hK1=>op_lift hp1 (mF (v:=.slice ad es.length cap) (w':=w) ?_ (hK1 _ _ (wpListIn_plain h2g fun K2 hK2=>op_lift hp2 (mF (v:=.bool ad.isNone) (w':=w) ?_ (hK2 _ _ (wpListIn_nil ?_)))))))
 ·simp only[execOp,h1,hev,Sem.run_pure]
 ·have hta:(a.put o1.dst (Value.slice ad es.length cap)).eval (.tmp ta)=.slice ad es.length cap:=by
   show (a.put o1.dst (Value.slice ad es.length cap)).tmps.getD ta undef=_
   rw[h1d,uP hs.base.size hda,if_pos rfl]
  have hce:(a.put o1.dst (Value.slice ad es.length cap)).eval (.const (.slice none 0 0))=.slice none 0 0:=rfl
  have heq:∀ d:Nat,(Op.equalIn (d+1) T (.slice ad es.length cap) (.slice none 0 0)).run P w=.ok ad.isNone w:=fun d=>by
   cases ad<;>simp [Op.equalIn,run_underlying f1]
  have heq':(Op.equal T (.slice ad es.length cap) (.slice none 0 0)).run P w=.ok ad.isNone w:=heq 9999
  simp only[execOp,h2,hta,hce]
  simp [eqGuard,binOp,heq']
 ·rw[h1d,h2d]
  refine ⟨_,⟨D,β,hs2⟩,hq _ fun hb=>?_⟩
  cases ad with
  |none=>
   refine List.eq_nil_of_length_eq_zero ?_
   rcases Nat.eq_zero_or_pos es.length with h | h
   ·exact h
   ·have:=ha h;cases this
  |some x=>cases hb
end Go.Fid
