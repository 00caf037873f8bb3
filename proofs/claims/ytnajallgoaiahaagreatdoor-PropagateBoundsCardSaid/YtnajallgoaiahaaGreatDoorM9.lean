/- Part 9 of a proof: rules, plain facts, and functions walked. -/
import Derived.Test.YtnajallgoaiahaaGreatDoorM8
import Derived.Test.YtnajallgoaiahaaGreatDoorM7
set_option linter.all false
namespace Go.Fid
def cO(z:Int):Nat:=(ofNat z.natAbs).length
theorem ofZ_len(z:Int):(kN z).gs.length=cO z:=rfl
theorem lV(x:qF):(kG x).natAbs=val (kY x):=by
 unfold kG dZ;split<;>simp
theorem grpI_eq(x:qF):kY x=ofNat (kG x).natAbs:=by rw[lV];exact can_eq (qV x)
theorem eY(x:qF):cO (kG x)<=x.gs.length:=by unfold cO;rw[<- grpI_eq];exact nI x
theorem validI_of{b:Bool}{l:List Nat}(h:yW l)(hb:l=[]->b=false):vC ⟨b,l⟩=true:=by
 unfold vC
 by_cases h0:l=[]
 ·subst h0;simp [hb rfl]
 ·have h1:l.length≠0:=fun e=>h0 (List.eq_nil_of_length_eq_zero e)
  rw[if_neg (by show ((l.length:Nat):Int)≠0;omega)]
  obtain ⟨h2,_⟩:=lQ h (by omega)
  have h3:zG l=-1:=lG h.1
  simp only[Bool.and_eq_true,Bool.not_eq_true',decide_eq_false_iff_not,bne_iff_ne]
  rw[h3]
  exact ⟨by omega,by omega⟩
theorem validI_iff{x:qF}:vC x=true↔yW x.gs/\(x.gs=[]->x.neg=false):=by
 refine ⟨fun h=>?_,fun ⟨h1,h2⟩=>validI_of h1 h2⟩
 have h1:=qV x
 unfold kY at h1
 rw[if_pos h] at h1
 refine ⟨h1,fun h0=>?_⟩
 unfold vC at h
 rw[if_pos (by rw[h0];rfl)] at h
 simpa using h
theorem validI_ofZ(z:Int):vC (kN z)=true:=validI_iff.2 ⟨qO _,fun h=>by
 have h1:z.natAbs=0:=iI.1 h
 have h2:z=0:=by omega
 subst h2;rfl⟩
theorem grpI_ofZ(z:Int):kY (kN z)=ofNat z.natAbs:=by unfold kY;rw[if_pos (validI_ofZ z)];rfl
theorem ofZ_neg(z:Int):(kN z).neg=decide (z<0):=by
 unfold kN xT
 by_cases h:z<0
 ·have:(z.natAbs != 0)=true:=bne_iff_ne.2 (by omega)
  simp [h,this]
 ·simp [h]
theorem dT(z:Int):kG (kN z)=z:=by
 unfold kG dZ
 rw[grpI_ofZ,ofZ_neg,kL]
 by_cases h:z<0
 ·simp [h];omega
 ·simp [h];omega
theorem ofZ_toZ{x:qF}(h:vC x=true):kN (kG x)=x:=by
 obtain ⟨h1,h2⟩:=validI_iff.1 h
 obtain ⟨b,l⟩:=x
 have e:kY ⟨b,l⟩=l:=by unfold kY;rw[if_pos h]
 have e1:kG ⟨b,l⟩=dZ b (val l):=by unfold kG;rw[e]
 rw[e1,<- dX]
 unfold xT
 rw[<- can_eq h1]
 congr 1
 cases b with
 |false=>rfl
 |true=>
  have:val l≠0:=fun e0=>by
   have h3:=h2 (lO h1 e0)
   cases h3
  simp [this]
theorem toZ_bad{x:qF}(h:vC x=false):kG x=0:=by
 unfold kG kY
 rw[if_neg (by rw[h];simp)]
 unfold dZ;split<;>rfl
theorem cS{z:Int}{n:Nat}:cO z<=n↔z.natAbs<pw n:=by
 refine ⟨fun h=>Nat.lt_of_lt_of_le (bD _) (nH h),fun h=>uL h⟩
theorem lenZ_neg(z:Int):cO (-z)=cO z:=by unfold cO;rw[Int.natAbs_neg]
theorem aL{y z:Int}(h:y.natAbs<=z.natAbs):cO y<=cO z:=vQ h
theorem lenZ_add{a b:Int}{m n k:Nat}(ha:cO a<=m)(hb:cO b<=n)(h:max m n+1<=k):cO (a+b)<=k:=by
 have h1:=cS.1 ha
 have h2:=cS.1 hb
 refine cS.2 ?_
 have h3:pw m<=pw (max m n):=nH (by omega)
 have h4:pw n<=pw (max m n):=nH (by omega)
 have h5:pw (max m n+1)<=pw k:=nH h
 rw[vE] at h5
 have h6:=Int.natAbs_add_le a b
 omega
theorem dV{a b:Int}{m n k:Nat}(ha:cO a<=m)(hb:cO b<=n)(h:m+n<=k):cO (a*b)<=k:=by
 refine cS.2 ?_
 rw[Int.natAbs_mul]
 refine Nat.lt_of_lt_of_le ?_ (nH h)
 rw[pw_add]
 exact Nat.mul_lt_mul_of_lt_of_le (cS.1 ha) (Nat.le_of_lt (cS.1 hb)) (pw_pos _)
structure gQ (x:qF) (z:Int) (n:Nat):Prop where
 v:kG x=z
 l:x.gs.length<=n
theorem gQ.ln{x:qF}{z:Int}{n:Nat}(h:gQ x z n):cO z<=n:=by rw[<- h.v];exact Nat.le_trans (eY x) h.l
theorem cI{z:Int}{n:Nat}(h:cO z<=n):gQ (kN z) z n:=⟨dT z,h⟩
theorem gZ{x:qF}{n:Nat}(h:x.gs.length<=n):gQ x (kG x) n:=⟨rfl,h⟩
theorem iok_add{x y:qF}{a b:Int}{m n k:Nat}(hx:gQ x a m)(hy:gQ y b n)(h:max m n+1<=k:=by decide):gQ (kN (a+b)) (a+b) k:=cI (lenZ_add hx.ln hy.ln h)
theorem yN{x y:qF}{a b:Int}{m n k:Nat}(hx:gQ x a m)(hy:gQ y b n)(h:m+n<=k:=by decide):gQ (kN (a*b)) (a*b) k:=cI (dV hx.ln hy.ln h)
theorem cR{x:qF}{a:Int}{m:Nat}(hx:gQ x a m):gQ (kN (-a)) (-a) m:=cI (by rw[lenZ_neg];exact hx.ln)
theorem gW{x:qF}{a:Int}{m n:Nat}(hx:gQ x a m)(h:m<=n:=by decide):gQ x a n:=⟨hx.v,Nat.le_trans hx.l h⟩
theorem iu{x:qF}{a:Int}{m n:Nat}(hx:gQ x a m)(h:m<=n:=by decide):gQ x a n:=gW hx h
theorem lA{z:Int}(h:z.natAbs<1000000000:=by decide):gQ (kN z) z 1:=cI (cS.2 (by rw[show (1:Nat)=0+1 from rfl,vE,cV];omega))
theorem signI_sub(a b:Int):uK (a-b)=vK a b:=by
 unfold uK vK
 split
 ·rw[if_neg (by omega),if_neg (by omega)]
 ·split
  ·rw[if_pos (by omega)]
  ·rw[if_neg (by omega),if_pos (by omega)]
theorem cmpI_neg{a b:Nat}(h:vK (a:Int) (b:Int)<0):a<b:=by
 unfold vK at h
 split at h
 ·omega
 ·split at h<;>omega
theorem cmpI_nn{a b:Nat}(h:¬ vK (a:Int) (b:Int)<0):b<=a:=by
 unfold vK at h
 split at h
 ·omega
 ·omega
theorem word_both{a b:List Nat}(ha:Dig a)(h:(cC a&&cC b)=true):gM a=val a/\gM b=val b/\val a<1000000000000000000:=by
 unfold cC at h
 rw[Bool.and_eq_true,decide_eq_true_eq,decide_eq_true_eq] at h
 unfold gM
 rw[if_pos h.1,if_pos h.2]
 exact ⟨rfl,rfl,val_len2 ha h.1⟩
theorem val_pos_len{b:List Nat}(h:0<val b):0<b.length:=by
 rcases b with _ | ⟨d,l⟩
 ·rw[val_nil] at h;omega
 ·simp
theorem dB{b:List Nat}(hb:yW b)(h:0<b.length):0<val b:=by
 have h1:=val_top hb.1 h
 have h2:=lQ hb h
 have h3:=Nat.mul_le_mul_right (pw (b.length-1)) h2.1
 have h4:=pw_pos (b.length-1)
 rw[Nat.succ_mul] at h3
 omega
theorem val_len1{b:List Nat}(h:b.length=1):val b=b.getD 0 0:=by
 rcases b with _ | ⟨d,_ | ⟨e,l⟩⟩
 ·simp at h
 ·simp [val]
 ·simp at h
theorem len_quo(l:List Nat)(hl:yW l)(n:Nat):(ofNat (val l / n)).length<=l.length:=by
 have h1:=vQ (Nat.div_le_self (val l) n)
 rwa [<- can_eq hl] at h1
theorem len_rem(l:List Nat)(hl:yW l)(n:Nat):(ofNat (val l % n)).length<=l.length:=by
 have h1:=vQ (Nat.mod_le (val l) n)
 rwa [<- can_eq hl] at h1
theorem gcd_toZ(x y:qF):Nat.gcd (val (kY x)) (val (kY y))=Int.gcd (kG x) (kG y):=by
 unfold Int.gcd;rw[lV,lV]
theorem mkI_false(n:Nat):xT false n=kN (n:Int):=dX false n
theorem r_made_end{neg:Bool}{l:List Nat}{k:Nat}(hd:Dig l)(hk:k<=l.length)(hv:val (l.take k)=val l)(h:(decide ((0:Int)<((k:Nat):Int))&&(((l.getD (k-1) 0:Nat):Int) == 0))=false):xT neg (val l)=⟨neg&&decide ((0:Int)<((k:Nat):Int)),l.take k⟩:=by
 have hc:yW (l.take k):=by
  refine ⟨hd.take k,?_⟩
  unfold Top
  rw[List.length_take,Nat.min_eq_left hk]
  rcases Nat.eq_zero_or_pos k with h0 | h0
  ·subst h0;simp
  ·rw[Bool.and_eq_false_iff] at h
   rcases h with h | h
   ·rw[decide_eq_false_iff_not] at h;omega
   ·have h1:=ne_of_beq_false h
    have h6:k-1<l.length:=by omega
    simp [List.getD,List.getElem?_eq_getElem h6,List.getElem?_take_of_lt (show k-1<k by omega)] at h1 ⊢
    exact h1
 unfold xT
 rw[<- hv,<- can_eq hc]
 congr 1
 congr 1
 rcases Nat.eq_zero_or_pos k with h0 | h0
 ·subst h0;simp [val]
 ·have h1:0<val (l.take k):=dB hc (by rw[List.length_take];omega)
  have h2:(val (l.take k) != 0)=true:=bne_iff_ne.2 (by omega)
  rw[h2];symm;exact decide_eq_true (by omega)
theorem r_made_step{l:List Nat}{k:Nat}(hk:k<=l.length)(hv:val (l.take k)=val l)(h:(decide ((0:Int)<((k:Nat):Int))&&(((l.getD (k-1) 0:Nat):Int) == 0))=true):0<k/\val (l.take (k-1))=val l:=by
 rw[Bool.and_eq_true,decide_eq_true_eq,beq_iff_eq] at h
 have h0:0<k:=by omega
 refine ⟨h0,?_⟩
 have h1:=val_take_succ l (k-1)
 rw[show k-1+1=k by omega,show l.getD (k-1) 0=0 by omega] at h1
 omega
theorem validI_big{x:qF}{i:Nat}(h:i<x.gs.length)(hb:¬ x.gs.getD i 0<1000000000):vC x=false:=by
 rcases hv:vC x with _ | _
 ·rfl
 ·exact absurd ((validI_iff.1 hv).1.1.getD i) hb
theorem validI_nil{x:qF}(h:x.gs.length=0):vC x=!x.neg:=by unfold vC;rw[if_pos (by omega)]
theorem validI_dig{x:qF}(hd:Dig x.gs)(h:x.gs.length≠0):vC x=(((x.gs.getD (x.gs.length-1) 0:Nat):Int) != 0):=by
 unfold vC
 rw[if_neg (by omega),lG hd]
 simp
theorem push_step{o:List Nat}{i s:Nat}(hl:o.length=i):val (o++[s % 1000000000])+pw (i+1)*(s / 1000000000)=val o+pw i*s:=by
 rw[eM,hl,dW,vE]
 have h:=Nat.mod_add_div s 1000000000
 have h2:pw i*s=pw i*(s % 1000000000)+pw i*(1000000000*(s / 1000000000)):=by rw[<- Nat.mul_add,h]
 rw[h2,Nat.mul_comm 1000000000 (pw i),Nat.mul_assoc]
 omega
theorem dig_push{o:List Nat}(h:Dig o){d:Nat}(hd:d<1000000000):Dig (o++[d]):=lJ.2 ⟨h,gX.2 ⟨hd,nQ⟩⟩
theorem rplus_step{a b o:List Nat}{i c s:Nat}(hl:o.length=i)(hv:val o+pw i*c=val (a.take i)+val (b.take i))(hs:s=a.getD i 0+b.getD i 0+c) :
  val (o++[s % 1000000000])+pw (i+1)*(s / 1000000000)=val (a.take (i+1))+val (b.take (i+1)):=by
 rw[push_step hl,val_take_succ,val_take_succ,hs,Nat.mul_add,Nat.mul_add]
 omega
theorem rminus_step{a b o:List Nat}{i c s:Nat}(hl:o.length=i)(hv:val o+val (b.take i)=val (a.take i)+pw i*c)(hs:s+b.getD i 0+c=1000000000+a.getD i 0)(h1:s / 1000000000<=1) :
  val (o++[s % 1000000000])+val (b.take (i+1))=val (a.take (i+1))+pw (i+1)*(1-s / 1000000000):=by
 have h:=push_step (o:=o) (i:=i) (s:=s) hl
 have h2:pw (i+1)*(1-s / 1000000000)+pw (i+1)*(s / 1000000000)=pw (i+1):=by
  rw[<- Nat.mul_add,Nat.sub_add_cancel h1,Nat.mul_one]
 have h3:=congrArg (pw i*·) hs
 simp only[Nat.mul_add] at h3
 rw[val_take_succ,val_take_succ]
 rw[vE] at h h2 ⊢
 rw[Nat.mul_comm (pw i) 1000000000] at h3
 omega
theorem rscaled_step{a o:List Nat}{i c d s:Nat}(hl:o.length=i)(hv:val o+pw i*c=val (a.take i)*d)(hs:s=a.getD i 0*d+c) :
  val (o++[s % 1000000000])+pw (i+1)*(s / 1000000000)=val (a.take (i+1))*d:=by
 rw[push_step hl,val_take_succ,hs,Nat.mul_add,Nat.add_mul,Nat.mul_assoc]
 omega
theorem val_push{o:List Nat}{i c:Nat}(hl:o.length=i):val (o++[c])=val o+pw i*c:=by rw[eM,hl,dW]
theorem take_all{a:List Nat}{i:Nat}(h:a.length<=i):a.take i=a:=List.take_of_length_le h
theorem rminus_end{a b o:List Nat}{i c:Nat}(hda:Dig a)(hb:Dig b)(hd:Dig o)(hi:i=a.length)(hl:o.length=i)(hba:val b<=val a)(hv:val o+val (b.take i)=val (a.take i)+pw i*c):val o=val a-val b:=by
 have h1:val (b.take i)=val b:=val_take_of_lt (by rw[hi];exact Nat.lt_of_le_of_lt hba (xM hda))
 rw[h1,hi,List.take_length] at hv
 have h2:=xM hd
 rw[hl,hi] at h2
 rcases Nat.eq_zero_or_pos c with h3 | h3
 ·subst h3;omega
 ·have:=Nat.mul_le_mul_left (pw a.length) h3
  omega
theorem mW(X:Int):dZ (kN X).neg X.natAbs=X:=by
 rw[ofZ_neg];unfold dZ
 by_cases h:X<0
 ·simp [h];omega
 ·simp [h];omega
theorem rneg_eq(X:Int):xT (!(kN X).neg) (val (ofNat X.natAbs))=kN (-X):=by
 rw[dX,kL]
 congr 1
 have h:=mW X
 unfold dZ at h ⊢
 cases hn:(kN X).neg<;>simp [hn] at h ⊢<;>omega
theorem rsum_same{X Y:Int}(h:(kN X).neg=(kN Y).neg):xT (kN X).neg (val (ofNat (val (ofNat X.natAbs)+val (ofNat Y.natAbs))))=kN (X+Y):=by
 rw[sum_same h,kL,kL,mW,mW]
theorem rsum_first{X Y:Int}(h:(kN X).neg≠(kN Y).neg)(hn:val (ofNat Y.natAbs)<=val (ofNat X.natAbs)):xT (kN X).neg (val (ofNat (val (ofNat X.natAbs)-val (ofNat Y.natAbs))))=kN (X+Y):=by
 rw[sum_first h hn,kL,kL,mW,mW]
theorem rsum_second{X Y:Int}(h:(kN X).neg≠(kN Y).neg)(hn:val (ofNat X.natAbs)<=val (ofNat Y.natAbs)):xT (kN Y).neg (val (ofNat (val (ofNat Y.natAbs)-val (ofNat X.natAbs))))=kN (X+Y):=by
 rw[sum_second h hn,kL,kL,mW,mW]
theorem rmul_eq(X Y:Int):xT (!((kN X).neg == (kN Y).neg)) (val (ofNat X.natAbs)*val (ofNat Y.natAbs))=kN (X*Y):=by
 have h:=mul_eq (b:=(kN X).neg) (c:=(kN Y).neg) (val (ofNat X.natAbs)) (val (ofNat Y.natAbs))
 rw[kL (val (ofNat X.natAbs)*val (ofNat Y.natAbs))] at h
 rw[h,kL,kL,mW,mW]
theorem rsign_zero{X:Int}(h:(((ofNat X.natAbs).length:Nat):Int)=0):uK X=0:=by
 have h1:X.natAbs=0:=iI.1 (List.eq_nil_of_length_eq_zero (by omega))
 have h2:X=0:=by omega
 subst h2;rfl
theorem rsign_ne{X:Int}(h:(((ofNat X.natAbs).length:Nat):Int)≠0):X≠0:=fun e=>h (by subst e;simp [uS])
theorem rsign_neg{X:Int}(h:(((ofNat X.natAbs).length:Nat):Int)≠0)(hn:(kN X).neg=true):uK X=-1:=by
 have h1:=rsign_ne h
 rw[ofZ_neg,decide_eq_true_eq] at hn
 unfold uK;rw[if_neg h1,if_pos hn]
theorem rsign_pos{X:Int}(h:(((ofNat X.natAbs).length:Nat):Int)≠0)(hn:(kN X).neg=false):uK X=1:=by
 have h1:=rsign_ne h
 rw[ofZ_neg,decide_eq_false_iff_not] at hn
 unfold uK;rw[if_neg h1,if_neg hn]
theorem gs_val(x:qF):(kN (kG x)).gs.length<=x.gs.length:=eY x
theorem eV(x:qF):(ofNat (kG x).natAbs).length<=x.gs.length:=eY x
theorem gs_neg(x:qF):(kN (-kG x)).gs.length<=x.gs.length:=by rw[ofZ_len,lenZ_neg];exact eY x
theorem gs_sub(x y:qF):(kN (kG x-kG y)).gs.length<=max x.gs.length y.gs.length+1:=by
 rw[Int.sub_eq_add_neg,ofZ_len];exact lenZ_add (eY x) (by rw[lenZ_neg];exact eY y) (Nat.le_refl _)
theorem gs_mul(x y:qF):(kN (kG x*kG y)).gs.length<=x.gs.length+y.gs.length:=dV (eY x) (eY y) (Nat.le_refl _)
theorem val_pair{l:List Nat}(h:l.length<=2):val l=l.getD 1 0*1000000000+l.getD 0 0:=by
 rcases l with _ | ⟨d,_ | ⟨e,_ | ⟨f,l⟩⟩⟩
 ·rfl
 ·simp [val]
 ·simp [val];omega
 ·simp at h
theorem rshift_val{q:List Nat}(u:List Nat){i V r:Nat}(h:val (u.drop (i+1))=V*val (q.drop (i+1))+r):val (u.drop i)=V*(1000000000*val (q.drop (i+1)))+(u.getD i 0+1000000000*r):=by
 rw[zP u i,h,Nat.mul_left_comm]
 rw[Nat.mul_add];omega
theorem rguess{v:List Nat}{W n:Nat}(hv:Dig v)(hn:v.length=n)(h1:1<=n)(hW:W<1000000000*val v) :
  ((ofNat W).getD n 0*1000000000+(ofNat W).getD (n-1) 0) / (v.getD (n-1) 0+1)*val v<=W/\((ofNat W).getD n 0*1000000000+(ofNat W).getD (n-1) 0) / (v.getD (n-1) 0+1)<1000000000:=by
 have hw:=xM hv
 have ht:=val_top hv (by omega)
 rw[hn] at hw ht
 have hp:=pw_pos (n-1)
 have e1:=nU (ofNat W) 0 (n-1)
 have e2:=zP (ofNat W) (n-1)
 have e3:=zP (ofNat W) n
 have e5:W<pw (n+1):=by rw[vE];omega
 have e4:(ofNat W).drop (n+1)=[]:=List.drop_eq_nil_of_le (uL e5)
 rw[e4,val_nil] at e3
 rw[show n-1+1=n by omega] at e2
 rw[List.drop_zero,kL,Nat.zero_add] at e1
 generalize (ofNat W).getD n 0=t1 at *
 generalize (ofNat W).getD (n-1) 0=t0 at *
 generalize v.getD (n-1) 0=v1 at *
 have e6:pw (n-1)*(t1*1000000000+t0)<=W:=by
  have:t1*1000000000+t0=val ((ofNat W).drop (n-1)):=by omega
  rw[this];omega
 have e7:=Nat.div_mul_le_self (t1*1000000000+t0) (v1+1)
 generalize (t1*1000000000+t0) / (v1+1)=G at *
 have e8:G*val v<=W:=by
  refine Nat.le_trans (Nat.mul_le_mul_left G (Nat.le_of_lt ht.2)) (Nat.le_trans ?_ e6)
  rw[<- Nat.mul_assoc,Nat.mul_comm (pw (n-1))]
  exact Nat.mul_le_mul_right _ e7
 refine ⟨e8,?_⟩
 have e9:G*val v<1000000000*val v:=by omega
 exact Nat.lt_of_mul_lt_mul_right e9
theorem rquo_lt{G V r W:Nat}(h:V*G+r=W)(hW:W<1000000000*V):G<1000000000:=by
 have h1:G*V<1000000000*V:=by rw[Nat.mul_comm G V];omega
 exact Nat.lt_of_mul_lt_mul_right h1
theorem rround{u q:List Nat}{V G r i:Nat}(hi:i<q.length)(h:val (u.drop i)=V*(1000000000*val (q.drop (i+1)))+(V*G+r)):val (u.drop i)=V*val ((q.set i G).drop i)+r:=by
 rw[h,dU q i G hi,Nat.mul_add];omega
theorem split_dig{o:List Nat}{m n:Nat}(h:o++ofNat m=ofNat n)(hm:¬ (0:Int)<((m:Nat):Int)):Dig o:=by
 rw[<- split_end h hm];exact kP n
theorem split_val{o:List Nat}{m n:Nat}(h:o++ofNat m=ofNat n)(hm:¬ (0:Int)<((m:Nat):Int)):val o=n:=by
 rw[<- split_end h hm];exact kL n
theorem ofZ_zero:kN 0=⟨false,[]⟩:=by unfold kN xT;simp [uS]
theorem rshort_step{a q:List Nat}{d zD i n:Nat}(hi:i<q.length)(hv:val (a.drop (i+1))=val (q.drop (i+1))*d+zD)(hn:n=zD*1000000000+a.getD i 0) :
  val (a.drop i)=val ((q.set i (n / d)).drop i)*d+n % d:=by
 rw[zP a i,hv,dU q i _ hi]
 have h3:=Nat.div_add_mod n d
 rw[Nat.add_mul,Nat.mul_comm (n / d) d]
 have h4:1000000000*val (q.drop (i+1))*d=1000000000*(val (q.drop (i+1))*d):=Nat.mul_assoc _ _ _
 omega
theorem fdiv_unique{x y q r:Int}(h:r+y*q=x)(hr:(0<=r/\r<y)\/(y<r/\r<=0)):x.fdiv y=q/\x.fmod y=r:=by
 rcases hr with ⟨h1,h2⟩ | ⟨h1,h2⟩
 ·have hy:0<y:=by omega
  rw[Int.fdiv_eq_ediv_of_nonneg _ (by omega),Int.fmod_eq_emod_of_nonneg _ (by omega)]
  exact (Int.ediv_emod_unique hy).2 ⟨h,h1,h2⟩
 ·have hy:0 < -y:=by omega
  have h3:(-x).fdiv (-y)=q/\(-x).fmod (-y)=-r:=by
   rw[Int.fdiv_eq_ediv_of_nonneg _ (by omega),Int.fmod_eq_emod_of_nonneg _ (by omega)]
   refine (Int.ediv_emod_unique hy).2 ⟨?_,by omega,by omega⟩
   rw[<- h,Int.neg_mul];omega
  rw[Int.neg_fdiv_neg,Int.neg_fmod_neg] at h3
  exact ⟨h3.1,by omega⟩
theorem div_same{b c:Bool}{m n:Nat}(hn:0<n)(h:b=c\/m % n=0) :
  kN ((dZ b m).fdiv (dZ c n))=xT (!(b == c)) (m / n)/\kN ((dZ b m).fmod (dZ c n))=xT c (m % n):=by
 have h1:((m % n:Nat):Int)+(n:Int)*((m / n:Nat):Int)=(m:Int):=by
  have:=Nat.mod_add_div m n;exact_mod_cast this
 have h2:=Nat.mod_lt m hn
 rw[dX,dX]
 have key:(dZ b m).fdiv (dZ c n)=dZ (!(b == c)) (m / n)/\(dZ b m).fmod (dZ c n)=dZ c (m % n):=by
  have h3:((m % n:Nat):Int)=0\/b=c:=by rcases h with h | h;exact .inr h;exact .inl (by omega)
  generalize m / n=q at *
  generalize m % n=r at *
  refine fdiv_unique ?_ ?_
  ·cases b<;>cases c
   ·show (r:Int)+(n:Int)*(q:Int)=(m:Int);exact h1
   ·show -(r:Int)+(-(n:Int))*(-(q:Int))=(m:Int);rw[Int.neg_mul_neg];rcases h3 with h3 | h3;omega;cases h3
   ·show (r:Int)+(n:Int)*(-(q:Int))=-(m:Int);rw[Int.mul_neg];rcases h3 with h3 | h3;omega;cases h3
   ·show -(r:Int)+(-(n:Int))*(q:Int)=-(m:Int);rw[Int.neg_mul];omega
  ·cases c
   ·left;show 0<=(r:Int)/\(r:Int)<(n:Int);omega
   ·right;show -(n:Int) < -(r:Int)/\-(r:Int)<=0;omega
 rw[key.1,key.2]
 exact ⟨rfl,rfl⟩
theorem div_other{b c:Bool}{m n:Nat}(hn:0<n)(h:b≠c)(hr:0<m % n) :
  kN ((dZ b m).fdiv (dZ c n))=xT (!(b == c)) (m / n+1)/\kN ((dZ b m).fmod (dZ c n))=xT c (n-m % n):=by
 have h1:((m % n:Nat):Int)+(n:Int)*((m / n:Nat):Int)=(m:Int):=by
  have:=Nat.mod_add_div m n;exact_mod_cast this
 have h2:=Nat.mod_lt m hn
 rw[dX,dX]
 have key:(dZ b m).fdiv (dZ c n)=dZ (!(b == c)) (m / n+1)/\(dZ b m).fmod (dZ c n)=dZ c (n-m % n):=by
  have e1:(n:Int)*(((m / n+1:Nat)):Int)=(n:Int)*((m / n:Nat):Int)+n:=by
   rw[Int.natCast_add,Int.mul_add];simp
  generalize m / n=q at *
  generalize m % n=r at *
  refine fdiv_unique ?_ ?_
  ·cases b<;>cases c
   ·exact absurd rfl h
   ·show -((n-r:Nat):Int)+(-(n:Int))*(-((q+1:Nat):Int))=(m:Int);rw[Int.neg_mul_neg,e1];omega
   ·show ((n-r:Nat):Int)+(n:Int)*(-((q+1:Nat):Int))=-(m:Int);rw[Int.mul_neg,e1];omega
   ·exact absurd rfl h
  ·cases c
   ·left;show 0<=((n-r:Nat):Int)/\((n-r:Nat):Int)<(n:Int);omega
   ·right;show -(n:Int) < -((n-r:Nat):Int)/\-((n-r:Nat):Int)<=0;omega
 rw[key.1,key.2]
 exact ⟨rfl,rfl⟩
theorem r_div_same{X Y:Int}(hn:0<Y.natAbs)(h:(kN X).neg=(kN Y).neg\/¬ (0:Int)<(((ofNat (val (ofNat X.natAbs) % val (ofNat Y.natAbs))).length:Nat):Int)) :
  xT (!((kN X).neg == (kN Y).neg)) (val (ofNat (val (ofNat X.natAbs) / val (ofNat Y.natAbs))))=kN (X.fdiv Y):=by
 rw[kL,kL,kL]
 rw[kL,kL] at h
 have h1:=(div_same (b:=(kN X).neg) (c:=(kN Y).neg) (m:=X.natAbs) (n:=Y.natAbs) hn (by
  rcases h with h | h
  ·exact .inl h
  ·right
   rcases Nat.eq_zero_or_pos (X.natAbs % Y.natAbs) with h2 | h2
   ·exact h2
   ·have:=fD h2;omega)).1
 rw[mW,mW] at h1
 exact h1.symm
theorem r_div_other{X Y:Int}(hn:0<Y.natAbs)(h:(kN X).neg≠(kN Y).neg/\(0:Int)<(((ofNat (val (ofNat X.natAbs) % val (ofNat Y.natAbs))).length:Nat):Int)) :
  kN (kG (xT (!((kN X).neg == (kN Y).neg)) (val (ofNat (val (ofNat X.natAbs) / val (ofNat Y.natAbs)))))-kG (kN 1))=kN (X.fdiv Y):=by
 obtain ⟨h,h0⟩:=h
 rw[kL,kL] at h0
 have h2:0<X.natAbs % Y.natAbs:=by
  rcases Nat.eq_zero_or_pos (X.natAbs % Y.natAbs) with h3 | h3
  ·rw[h3,uS] at h0;simp at h0
  ·exact h3
 have h1:=(div_other hn h h2).1
 rw[mW,mW] at h1
 rw[h1,kL,kL,kL,dX,dX,dT,dT]
 have hb:(!((kN X).neg == (kN Y).neg))=true:=by rw[Bool.not_eq_true',beq_eq_false_iff_ne];exact h
 rw[hb]
 congr 1
 unfold dZ
 rw[if_pos rfl,if_pos rfl];omega
theorem r_rem_eq(X Y:Int):kN (kG (kN X)-kG (kN (kG (kN (X.fdiv Y))*kG (kN Y))))=kN (X.fmod Y):=by
 rw[dT,dT,dT,dT,Int.fmod_def,Int.mul_comm]
theorem lenZ_fdiv(a b:Int):cO (a.fdiv b)<=cO a+1:=by
 refine cS.2 ?_
 have h1:=cS.1 (Nat.le_refl (cO a))
 rw[vE]
 have h2:(a.fdiv b).natAbs<=a.natAbs+1:=by
  rw[Int.fdiv_eq_ediv]
  have:=Int.natAbs_ediv_le_natAbs a b
  split<;>omega
 have:=pw_pos (cO a)
 omega
def jN(q:Rat):jR:=⟨kN q.num,kN q.den⟩
def kR(x:jR):Bool:=vC x.num&&(vC x.den&&(decide (0<kG x.den)&&(Int.gcd (kG x.num) (kG x.den) == 1)))
def qS(x:jR):Rat:=if kR x=true then Rat.divInt (kG x.num) (kG x.den) else 0
theorem mP(q:Rat):kR (jN q)=true:=by
 unfold kR jN
 simp only[validI_ofZ,dT,Bool.true_and,Bool.and_eq_true,decide_eq_true_eq,beq_iff_eq]
 refine ⟨by have:=q.den_pos;omega,?_⟩
 have:=q.reduced
 unfold Int.gcd
 rw[Int.natAbs_natCast]
 exact this
theorem yY(q:Rat):qS (jN q)=q:=by
 unfold qS
 rw[if_pos (mP q)]
 unfold jN
 simp only[dT]
 exact Rat.num_divInt_den q
theorem bK{x:jR}(h:kR x=true):jN (qS x)=x:=by
 unfold qS
 rw[if_pos h]
 unfold kR at h
 simp only[Bool.and_eq_true,decide_eq_true_eq,beq_iff_eq] at h
 obtain ⟨h1,h2,h3,h4⟩:=h
 have e1:(Rat.divInt (kG x.num) (kG x.den)).num=kG x.num:=by
  rw[Rat.num_divInt,Int.gcd_comm,h4,Int.sign_eq_one_of_pos h3];simp
 have e2:(((Rat.divInt (kG x.num) (kG x.den)).den:Nat):Int)=kG x.den:=by
  rw[Rat.den_divInt,if_neg (by omega),Int.gcd_comm,h4];simp;omega
 unfold jN
 rw[e1,e2,ofZ_toZ h1,ofZ_toZ h2]
theorem toQ_bad{x:jR}(h:kR x=false):qS x=0:=by unfold qS;rw[if_neg (by rw[h];simp)]
def QL(q:Rat)(n:Nat):Prop:=cO q.num<=n/\cO q.den<=n
theorem qG{q:Rat}{m n:Nat}(h:QL q m)(hm:m<=n:=by decide):QL q n:=⟨Nat.le_trans h.1 hm,Nat.le_trans h.2 hm⟩
theorem xX{a b:Int}{n:Nat}(ha:cO a<=n)(hb:cO b<=n)(h1:1<=n:=by decide):QL (Rat.divInt a b) n:=by
 constructor
 ·refine Nat.le_trans ?_ ha
  refine aL ?_
  rw[Rat.num_divInt]
  refine Nat.le_trans (Int.natAbs_ediv_le_natAbs _ _) ?_
  rw[Int.natAbs_mul]
  rcases Int.lt_trichotomy b 0 with h | h | h
  ·rw[Int.sign_eq_neg_one_of_neg h];simp
  ·rw[h];simp
  ·rw[Int.sign_eq_one_of_pos h];simp
 ·rw[Rat.den_divInt]
  split
  ·exact Nat.le_trans (by unfold cO;simp [mK,uS]) h1
  ·refine Nat.le_trans ?_ hb
   refine aL ?_
   rw[Int.natAbs_natCast]
   exact Nat.div_le_self _ _
theorem add_divInt(a b:Rat):a+b=Rat.divInt (a.num*b.den+b.num*a.den) (a.den*b.den):=by
 rw[Rat.add_def',<- Rat.divInt_ofNat,Int.natCast_mul]
theorem mul_divInt(a b:Rat):a*b=Rat.divInt (a.num*b.num) (a.den*b.den):=by
 rw[Rat.mul_def',<- Rat.divInt_ofNat,Int.natCast_mul]
theorem div_divInt(a b:Rat):a / b=Rat.divInt (a.num*b.den) (a.den*b.num):=by
 rw[Rat.div_def,Rat.inv_def]
 conv=>lhs;rw[<- Rat.num_divInt_den a]
 rw[Rat.divInt_mul_divInt]
theorem mS{a b:Rat}{m n k:Nat}(ha:QL a m)(hb:QL b n)(h:m+n+1<=k:=by decide):QL (a+b) k:=by
 rw[add_divInt]
 refine xX (lenZ_add (dV ha.1 hb.2 (Nat.le_refl _)) (dV hb.1 ha.2 (Nat.le_refl _)) (by omega)) (dV ha.2 hb.2 (by omega)) (by omega)
theorem ql_neg{a:Rat}{m:Nat}(ha:QL a m):QL (-a) m:=⟨by rw[Rat.neg_num,lenZ_neg];exact ha.1,by rw[Rat.neg_den];exact ha.2⟩
theorem eL{a b:Rat}{m n k:Nat}(ha:QL a m)(hb:QL b n)(h:m+n+1<=k:=by decide):QL (a-b) k:=by
 rw[Rat.sub_eq_add_neg];exact mS ha (ql_neg hb) h
theorem ql_pos{a:Rat}{m:Nat}(ha:QL a m):1<=m:=by
 have h1:=cS.1 ha.2
 rcases Nat.eq_zero_or_pos m with h | h
 ·subst h;rw[cV] at h1;have:=a.den_pos;omega
 ·exact h
theorem qD{a b:Rat}{m n k:Nat}(ha:QL a m)(hb:QL b n)(h:m+n<=k:=by decide):QL (a*b) k:=by
 have h1:=ql_pos ha
 rw[mul_divInt]
 exact xX (dV ha.1 hb.1 h) (dV ha.2 hb.2 h) (by omega)
theorem iC{a b:Rat}{m n k:Nat}(ha:QL a m)(hb:QL b n)(h:m+n<=k:=by decide):QL (a / b) k:=by
 have h1:=ql_pos ha
 rw[div_divInt]
 exact xX (dV ha.1 hb.2 h) (dV ha.2 hb.1 h) (by omega)
theorem vF{z:Int}(h:z.natAbs<1000000000:=by decide):cO z<=1:=cS.2 (by rw[show (1:Nat)=0+1 from rfl,vE,cV];omega)
theorem vS{z:Int}{n:Nat}(h:cO z<=n)(h1:1<=n:=by decide):QL (z:Rat) n:=⟨h,Nat.le_trans (vF (by simp)) h1⟩
theorem mX:QL 0 1:=⟨vF (by simp),vF (by simp)⟩
theorem ql_ite{p:Prop}[Decidable p]{a b:Rat}{n:Nat}(ha:QL a n)(hb:QL b n):QL (if p then a else b) n:=by split<;>assumption
theorem ql_min{a b:Rat}{n:Nat}(ha:QL a n)(hb:QL b n):QL (min a b) n:=by rw[Rat.min_def];exact ql_ite ha hb
theorem ql_max{a b:Rat}{n:Nat}(ha:QL a n)(hb:QL b n):QL (max a b) n:=by rw[Rat.max_def];exact ql_ite hb ha
structure hP (x:jR) (q:Rat) (n:Nat):Prop where
 v:qS x=q
 p:1<=n
 n1:x.num.gs.length<=n
 n2:x.den.gs.length<=n
theorem hP.ql{x:jR}{q:Rat}{n:Nat}(h:hP x q n):QL q n:=by
 rw[<- h.v]
 by_cases hv:kR x=true
 ·unfold qS;rw[if_pos hv]
  exact xX (Nat.le_trans (eY _) h.n1) (Nat.le_trans (eY _) h.n2) h.p
 ·unfold qS;rw[if_neg hv]
  exact qG mX h.p
theorem jW{q:Rat}{n:Nat}(h:QL q n):hP (jN q) q n:=⟨yY q,ql_pos h,h.1,h.2⟩
theorem uM{q:Rat}{n:Nat}(h:QL q n):gQ (jN q).num q.num n:=cI h.1
theorem uH{q:Rat}{n:Nat}(h:QL q n):gQ (jN q).den q.den n:=cI h.2
theorem jM{x:jR}{a:Rat}{m n:Nat}(hx:hP x a m)(h:m<=n:=by decide):hP x a n:=⟨hx.v,Nat.le_trans hx.p h,Nat.le_trans hx.n1 h,Nat.le_trans hx.n2 h⟩
theorem divInt_parts{a b:Int}(hb:0<b):jN (Rat.divInt a b)=⟨kN (a.fdiv (Int.gcd a b)),kN (b.fdiv (Int.gcd a b))⟩:=by
 unfold jN
 have e1:(Rat.divInt a b).num=a.fdiv (Int.gcd a b):=by
  rw[Rat.num_divInt,Int.sign_eq_one_of_pos hb,Int.one_mul,Int.gcd_comm,Int.fdiv_eq_ediv_of_nonneg _ (by omega)]
 have e2:(((Rat.divInt a b).den:Nat):Int)=b.fdiv (Int.gcd a b):=by
  rw[Rat.den_divInt,if_neg (by omega),Int.gcd_comm,Int.fdiv_eq_ediv_of_nonneg _ (by omega),Int.natCast_ediv]
  congr 1;omega
 rw[e1,e2]
def yB(a b:Rat):Int:=if a<b then -1 else if b<a then 1 else 0
theorem cmpQ_cross(a b:Rat):vK (a.num*b.den) (b.num*a.den)=yB a b:=by
 unfold vK yB
 simp only[Rat.lt_iff]
def mJ(a:Rat):Int:=uK a.num
theorem signQ_sub(a b:Rat):mJ (a-b)=yB a b:=by
 unfold mJ uK yB
 have h1:(a-b).num=0↔a-b=0:=Rat.num_eq_zero
 have h2:0<=(a-b).num↔0<=a-b:=Rat.num_nonneg
 have h3:b<=a↔0<=a-b:=Rat.le_iff_sub_nonneg b a
 by_cases hlt:a<b
 ·have h4:¬ 0<=(a-b).num:=fun h=>Rat.not_le.2 hlt (h3.2 (h2.1 h))
  rw[if_neg (by omega),if_pos (by omega),if_pos hlt]
 ·have h4:0<=(a-b).num:=h2.2 (h3.1 (Rat.not_lt.1 hlt))
  rw[if_neg hlt]
  by_cases hgt:b<a
  ·have h5:(a-b).num≠0:=fun h=>by
    have h6:=h1.1 h
    have h7:=(Rat.lt_iff_sub_pos b a).1 hgt
    rw[h6] at h7;exact Rat.lt_irrefl h7
   rw[if_neg h5,if_neg (by omega),if_pos hgt]
  ·have h5:a=b:=Rat.le_antisymm (Rat.not_lt.1 hgt) (Rat.not_lt.1 hlt)
   have h6:(a-b).num=0:=h1.2 (by rw[h5];exact Rat.sub_self)
   rw[if_pos h6,if_neg hgt]
theorem copied_eq{x:jR}(h:kR x=true):(⟨kN (-(-kG x.num)),kN (-(-kG x.den))⟩:jR)=jN (qS x):=by
 have h0:=h
 unfold kR at h
 simp only[Bool.and_eq_true] at h
 rw[bK h0,Int.neg_neg,Int.neg_neg,ofZ_toZ h.1,ofZ_toZ h.2.1]
theorem red_neg{a b:Int}(hb:b<0):(⟨kN ((-a).fdiv (Int.gcd (-a) (-b))),kN ((-b).fdiv (Int.gcd (-a) (-b)))⟩:jR)=jN (Rat.divInt a b):=by
 rw[<- divInt_parts (by omega),Rat.neg_divInt_neg]
theorem red_pos{a b:Int}(hb:¬ b<0)(h0:b≠0):(⟨kN (a.fdiv (Int.gcd a b)),kN (b.fdiv (Int.gcd a b))⟩:jR)=jN (Rat.divInt a b):=(divInt_parts (by omega)).symm
theorem gcd_ne{a b:Int}(hb:b≠0):((Int.gcd a b:Nat):Int)≠0:=by
 intro h
 have h1:Int.gcd a b=0:=by omega
 rw[Int.gcd_eq_zero_iff] at h1
 exact hb h1.2
theorem lenZ_gcd{a b:Int}{n:Nat}(hb:b≠0)(h:cO b<=n):cO ((Int.gcd a b:Nat):Int)<=n:=by
 refine Nat.le_trans (aL ?_) h
 rw[Int.natAbs_natCast]
 exact Nat.le_of_dvd (by omega) (Int.gcd_dvd_natAbs_right a b)
theorem signI_le{z:Int}:uK z<=0↔z<=0:=by
 rcases yT z with ⟨h1,h2⟩ | ⟨h1,h2⟩ | ⟨h1,h2⟩<;>omega
theorem signI_lt{z:Int}:uK z<0↔z<0:=by
 rcases yT z with ⟨h1,h2⟩ | ⟨h1,h2⟩ | ⟨h1,h2⟩<;>omega
theorem cmpI_zero{a b:Int}:vK a b=0↔a=b:=by
 unfold vK
 split
 ·constructor<;>intro h<;>omega
 ·split<;>constructor<;>intro h<;>omega
theorem validR_no{x:jR}(h:((!vC x.num||!vC x.den)||decide (uK (kG x.den)<=0))=true):kR x=false:=by
 unfold kR
 rw[Bool.or_eq_true,Bool.or_eq_true,Bool.not_eq_true',Bool.not_eq_true',decide_eq_true_eq,signI_le] at h
 rcases h with (h | h) | h
 ·rw[h];rfl
 ·rw[h];simp
 ·rw[show decide (0<kG x.den)=false from decide_eq_false (by omega)];simp
theorem validR_yes{x:jR}(h:((!vC x.num||!vC x.den)||decide (uK (kG x.den)<=0))=false):kR x=(vK ((Int.gcd (kG x.num) (kG x.den):Nat):Int) 1 == 0):=by
 unfold kR
 rw[Bool.or_eq_false_iff,Bool.or_eq_false_iff,Bool.not_eq_false',Bool.not_eq_false',decide_eq_false_iff_not,signI_le] at h
 obtain ⟨⟨h1,h2⟩,h3⟩:=h
 rw[h1,h2,show decide (0<kG x.den)=true from decide_eq_true (by omega)]
 simp only[Bool.true_and]
 rw[Bool.eq_iff_iff,beq_iff_eq,beq_iff_eq,cmpI_zero]
 omega
theorem aW{q:Rat}:uK q.num=0↔q=0:=by
 rw[<- Rat.num_eq_zero]
 rcases yT q.num with ⟨h1,h2⟩ | ⟨h1,h2⟩ | ⟨h1,h2⟩<;>omega
def divR(p q:Rat):jR:=if q=0 then ⟨⟨false,[]⟩,⟨false,[]⟩⟩ else jN (p / q)
def divC(q:Rat):Int:=if q=0 then 14 else 0
theorem divR_zero{p q:Rat}(h:q=0):divR p q=⟨⟨false,[]⟩,⟨false,[]⟩⟩:=if_pos h
theorem divR_ne{p q:Rat}(h:q≠0):divR p q=jN (p / q):=if_neg h
theorem divC_zero{q:Rat}(h:q=0):divC q=14:=if_pos h
theorem divC_ne{q:Rat}(h:q≠0):divC q=0:=if_neg h
theorem mul_ne{a b:Int}(ha:a≠0)(hb:b≠0):a*b≠0:=Int.mul_ne_zero ha hb
theorem aP(q:Rat):(q.den:Int)≠0:=by have:=q.den_pos;omega
theorem num_ne{q:Rat}(h:q≠0):q.num≠0:=fun e=>h (Rat.num_eq_zero.1 e)
theorem eB{x y:qF}{a b:Int}{m n k:Nat}(hx:gQ x a m)(hy:gQ y b n)(h:max m n<=k:=by decide):gQ (kN ((Int.gcd a b:Nat):Int)) ((Int.gcd a b:Nat):Int) k:=cI (by
 by_cases hb:b=0
 ·subst hb
  rw[Int.gcd_zero_right]
  refine Nat.le_trans (aL (z:=a) ?_) (Nat.le_trans hx.ln (by omega))
  simp
 ·exact Nat.le_trans (lenZ_gcd hb hy.ln) (by omega))
theorem iok_fdiv{x y:qF}{a b:Int}{m n k:Nat}(hx:gQ x a m)(_:gQ y b n)(h:m+1<=k):gQ (kN (a.fdiv b)) (a.fdiv b) k:=cI (Nat.le_trans (lenZ_fdiv a b) (by have:=hx.ln;omega))
theorem xS{z:Int}(h1:-9223372036854775808<=z:=by decide)(h2:z<=9223372036854775807:=by decide):cO z<=3:=aV (by omega)
theorem iok_int{z:Int}(h1:-9223372036854775808<=z)(h2:z<=9223372036854775807):gQ (kN z) z 3:=cI (xS h1 h2)
theorem red_neg2{a b:Int}(hb:b<0):jN (Rat.divInt a b)=⟨kN (a.fdiv (-((Int.gcd a b:Nat):Int))),kN (b.fdiv (-((Int.gcd a b:Nat):Int)))⟩:=by
 rw[<- red_neg hb]
 have e:Int.gcd (-a) (-b)=Int.gcd a b:=by simp
 rw[e]
 have h1:=Int.neg_fdiv_neg a (-((Int.gcd a b:Nat):Int))
 have h2:=Int.neg_fdiv_neg b (-((Int.gcd a b:Nat):Int))
 rw[Int.neg_neg] at h1 h2
 rw[h1,h2]
def newR(a b:Int):jR:=if b=0 then ⟨⟨false,[]⟩,⟨false,[]⟩⟩ else jN (Rat.divInt a b)
def newC(b:Int):Int:=if b=0 then 14 else 0
theorem sign0{b:Int}(h:uK b=0):b=0:=by
 rcases yT b with ⟨h1,h2⟩ | ⟨h1,h2⟩ | ⟨h1,h2⟩<;>omega
theorem newR_div(p q:Rat):newR (p.num*q.den) (p.den*q.num)=divR p q:=by
 unfold newR divR
 by_cases h:q=0
 ·subst h;simp
 ·rw[if_neg h,if_neg (mul_ne (aP p) (num_ne h)),div_divInt]
theorem newC_div(p q:Rat):newC (p.den*q.num)=divC q:=by
 unfold newC divC
 by_cases h:q=0
 ·subst h;simp
 ·rw[if_neg h,if_neg (mul_ne (aP p) (num_ne h))]
open Go.RowKit (Below)
theorem sim_put{C:iL}{a:Act}{w:World}{S:SL}{B:BS}{D:qU}{β:qM}{t:Tmp}{v:Value}{x:SV}(h:iO C a w ⟨S,B⟩ D β)(hd:nM C.n (some t)=true)(hx:qH w D β v x):iO C (a.put (some t) v) w ⟨(t,x)::S,B⟩ D β :=
 ⟨h.base.put hd _,h.mem,h.high,fun u=>by
  show qH w D β ((a.put (some t) v).tmps.getD u undef) (kK ((t,x)::S) u)
  rw[xD h.base.size hd,uC]
  by_cases e:t=u
  ·rw[if_pos e,if_pos (by rw[e])];exact hx
  ·rw[if_neg e,if_neg (fun e'=>e (by injection e'))];exact h.slots u⟩
theorem pwp_nilq{P:Program}{n:Fr}{S:SL}{B:BS}{Q:Exit->PS->Prop}{id:Nat}{o1 o2:Oper}{t0 ta tb:Tmp}{T T' E t:TypeId}{s s':Nat}{es:List jZ}
  (h1:o1.op=.move (.tmp t0)) (h1d:o1.dst=some ta) (h1g:o1.guard=none) (h2:o2.op=.binOp .eql T (.tmp ta) (.const (.slice none 0 0)) T') (h2d:o2.dst=some tb) (h2g:o2.guard=none)
  (hT:vN P T=some (E,s)) (hda:nM n (some ta)=true) (hdb:nM n (some tb)=true) (hx:kK S t0=.d (.sl t s' es))
  (hq:∀ b:Bool,(b=true->es=[])->Q .normal ⟨(tb,.d (.val (.bool b)))::(ta,.d (.sl t s' es))::S,B⟩):eI P n (.region id #[o1,o2] false) Q ⟨S,B⟩:=fun C a w N hn hs=>by
 subst hn
 obtain ⟨D,β,hs⟩:=hs
 have hv:=hs.slots t0
 have hv':qH w D β (a.tmps.getD t0 undef) (kK S t0):=hv
 rw[hx] at hv'
 have hev:a.eval (.tmp t0)=a.tmps.getD t0 undef:=rfl
 generalize a.tmps.getD t0 undef=v at hv' hev
 have hv'':vL w D v (.sl t s' es):=hv'
 obtain ⟨i,f1,f2,f3⟩:=cA hT
 cases hv'' with
 |sl g off u hnn hcc hmm hss ha hD hu eR hrr=>
 rename_i ad len cap
 subst hnn
 have hp1:nT o1=true:=by simp [nT,h1]
 have hp2:nT o2=true:=by simp [nT,h2]
 have hs1:=sim_put hs hda hv'
 have hs2:=sim_put (v:=.bool ad.isNone) hs1 hdb (x:=.d (.val (.bool ad.isNone))) (vL.val _)
 refine wpIn_region_lit (wpListIn_plain h1g fun K1 hK1=>op_lift hp1 (dR (v:=.slice ad es.length cap) (w':=w) ?_ (hK1 _ _ (wpListIn_plain h2g fun K2 hK2=>op_lift hp2 (dR (v:=.bool ad.isNone) (w':=w) ?_ (hK2 _ _ (wpListIn_nil ?_)))))))
 ·simp only[execOp,h1,hev,Sem.run_pure]
 ·have hta:(a.put o1.dst (Value.slice ad es.length cap)).eval (.tmp ta)=.slice ad es.length cap:=by
   show (a.put o1.dst (Value.slice ad es.length cap)).tmps.getD ta undef=_
   rw[h1d,xD hs.base.size hda,if_pos rfl]
  have hce:(a.put o1.dst (Value.slice ad es.length cap)).eval (.const (.slice none 0 0))=.slice none 0 0:=rfl
  have heq:∀ d:Nat,(Op.equalIn (d+1) T (.slice ad es.length cap) (.slice none 0 0)).run P w=.ok ad.isNone w:=fun d=>by
   cases ad<;>simp [Op.equalIn,run_underlying f1]
  have heq':(Op.equal T (.slice ad es.length cap) (.slice none 0 0)).run P w=.ok ad.isNone w:=heq 9999
  simp only[execOp,h2,hta,hce]
  simp [eqGuard,binOp,heq']
 ·rw[h1d,h2d]
  refine ⟨_,⟨D,β,hs2⟩,hq _ fun hb=>?_⟩
  cases ad with
  |none=>
   refine List.eq_nil_of_length_eq_zero ?_
   rcases Nat.eq_zero_or_pos es.length with h | h
   ·exact h
   ·have:=ha h;cases this
  |some x=>cases hb
end Go.Fid
