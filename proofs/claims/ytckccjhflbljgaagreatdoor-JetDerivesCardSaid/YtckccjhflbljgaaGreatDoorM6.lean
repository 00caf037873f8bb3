/- Part 6 of a proof: rules, plain facts, and functions walked. -/
import Derived.Test.YtckccjhflbljgaaGreatDoorM5
set_option linter.all false
namespace Go.Fid
open List
theorem drop_set_self(q:List Nat)(i e:Nat)(h:i<q.length):(q.set i e).drop i=e::q.drop (i+1):=by
 rw[drop_eq_getElem_cons (by simpa using h),getElem_set_self,drop_set_of_lt (by omega)]
theorem dB(q:List Nat)(i e:Nat)(h:i<q.length):val ((q.set i e).drop i)=e+1000000000*val (q.drop (i+1)):=by
 rw[drop_set_self q i e h,nX]
theorem short_step{a q:List Nat}{d xT j n:Nat}(hj:j<a.length)(hq:q.length=a.length)
  (hv:val (a.drop (a.length-j))=val (q.drop (a.length-j))*d+xT) (hn:n=xT*1000000000+a.getD (a.length-1-j) 0) :
  val (a.drop (a.length-(j+1)))=val ((q.set (a.length-1-j) (n / d)).drop (a.length-(j+1)))*d+n % d:=by
 have h1:a.length-(j+1)=a.length-1-j:=by omega
 have h2:a.length-1-j+1=a.length-j:=by omega
 rw[bU a j hj,hv,h1,dB q _ _ (by omega),h2]
 have h3:=Nat.div_add_mod n d
 rw[Nat.add_mul,Nat.mul_comm (n / d) d]
 generalize val (q.drop (a.length-j))=Q at *
 have h4:1000000000*Q*d=1000000000*(Q*d):=Nat.mul_assoc _ _ _
 omega
theorem short_bound{d xT g:Nat}(hr:xT<d)(hd:d<=1000000000)(hg:g<1000000000):xT*1000000000+g<1000000000000000000/\(xT*1000000000+g) / d<1000000000:=by
 have h1:xT*1000000000+g<d*1000000000:=by omega
 refine ⟨by omega,?_⟩
 rw[Nat.div_lt_iff_lt_mul (by omega)]
 omega
theorem short_end{a q:List Nat}{d xT:Nat}(hv:val (a.drop (a.length-a.length))=val (q.drop (a.length-a.length))*d+xT)(hr:xT<d):val q=val a / d/\xT=val a % d:=by
 rw[Nat.sub_self,drop_zero,drop_zero] at hv
 rw[hv]
 have h0:0<d:=by omega
 constructor
 ·rw[Nat.mul_comm,Nat.mul_add_div h0,Nat.div_eq_of_lt hr,Nat.add_zero]
 ·rw[Nat.mul_comm,Nat.mul_add_mod,Nat.mod_eq_of_lt hr]
def dL(b:List Nat):Nat:=1000000000 / (b.getD (b.length-1) 0+1)
theorem lZ{b:List Nat}(hb:gG b)(h:0<b.length):0<b.getD (b.length-1) 0/\b.getD (b.length-1) 0<1000000000:=by
 refine ⟨?_,hb.1.getD _⟩
 have h1:=hb.2
 unfold Top at h1
 have h2:b.length-1<b.length:=by omega
 simp [List.getD,getElem?_eq_getElem h2] at h1 ⊢
 omega
theorem iA{b:List Nat}(hb:gG b)(h:0<b.length):1<=dL b/\dL b<=500000000/\dL b*(b.getD (b.length-1) 0+1)<=1000000000:=by
 obtain ⟨h1,h2⟩:=lZ hb h
 unfold dL
 generalize b.getD (b.length-1) 0=t at *
 refine ⟨?_,?_,Nat.div_mul_le_self _ _⟩
 ·rw[Nat.le_div_iff_mul_le (by omega)];omega
 ·have:1000000000 / (t+1)<=1000000000 / 2:=Nat.div_le_div_left (by omega) (by decide)
  omega
theorem pw_pred{n:Nat}(h:0<n):pw n=1000000000*pw (n-1):=by
 obtain ⟨m,rfl⟩:∃ m,n=m+1:=⟨n-1,by omega⟩
 rw[uZ];rfl
theorem val_top{b:List Nat}(h:Dig b)(hl:0<b.length):b.getD (b.length-1) 0*pw (b.length-1)<=val b/\val b<(b.getD (b.length-1) 0+1)*pw (b.length-1):=by
 have h1:=val_take_succ b (b.length-1)
 rw[show b.length-1+1=b.length by omega,take_length] at h1
 have h2:=xB (h.take (b.length-1))
 rw[length_take,Nat.min_eq_left (by omega)] at h2
 rw[Nat.mul_comm] at h1
 rw[Nat.add_mul,Nat.one_mul]
 omega
theorem scl_len{b:List Nat}(hb:gG b)(h:0<b.length):(ofNat (val b*dL b)).length=b.length:=by
 obtain ⟨h1,h2,h3⟩:=iA hb h
 obtain ⟨h4,h5⟩:=val_top hb.1 h
 have h6:val b*dL b<pw b.length:=by
  rw[pw_pred h]
  have h7:val b*dL b<(b.getD (b.length-1) 0+1)*pw (b.length-1)*dL b:=Nat.mul_lt_mul_of_pos_right h5 (by omega)
  have h8:(b.getD (b.length-1) 0+1)*pw (b.length-1)*dL b=dL b*(b.getD (b.length-1) 0+1)*pw (b.length-1):=by
   rw[Nat.mul_comm,<- Nat.mul_assoc]
  have h9:=Nat.mul_le_mul_right (pw (b.length-1)) h3
  omega
 have h7:=uF h6
 have h8:¬ (ofNat (val b*dL b)).length<b.length:=λhlt=>by
  have h9:b.length=(ofNat (val b)).length:=congrArg List.length (can_eq hb)
  rw[h9] at hlt
  have:=fO hlt
  have h10:val b*1<=val b*dL b:=Nat.mul_le_mul_left _ h1
  omega
 omega
theorem zB{m n:Nat}(h:m<=n):(ofNat m).length<=(ofNat n).length:=by
 by_cases hlt:(ofNat n).length<(ofNat m).length
 ·have:=fO hlt;omega
 ·omega
theorem ofNat_lt_pw(n:Nat):n<pw (ofNat n).length:=by
 have:=xB (kI n)
 rwa [kH] at this
theorem eH{n:Nat}(h:0<n):0<(ofNat n).length:=by
 rw[mC (by omega)];simp
theorem scl_lenA{a b:List Nat}(ha:gG a)(hb:gG b)(h:0<b.length):a.length<=(ofNat (val a*dL b)).length/\(ofNat (val a*dL b)).length<=a.length+1:=by
 obtain ⟨h1,h2,h3⟩:=iA hb h
 constructor
 ·have h4:=zB (m:=val a) (n:=val a*dL b) (by
   have:=Nat.mul_le_mul_left (val a) h1;omega)
  rwa [<- can_eq ha] at h4
 ·refine uF ?_
  have h4:=xB ha.1
  rw[uZ]
  have h5:val a*dL b<=val a*1000000000:=Nat.mul_le_mul_left _ (by omega)
  have h6:val a*1000000000<pw a.length*1000000000:=Nat.mul_lt_mul_of_pos_right h4 (by decide)
  omega
theorem len_of_le{a b:List Nat}(ha:gG a)(hb:gG b)(h:val b<=val a):b.length<=a.length:=by
 have h1:=zB h
 rwa [<- can_eq ha,<- can_eq hb] at h1
theorem guess_first{W V v1 r1 p top:Nat}(hV:v1*p<=V)(hW:W<(top+1)*p)(hv:0<v1)(hr:r1=top / v1):W / V<=r1:=by
 by_cases hV0:V=0
 ·subst hV0;rw[Nat.div_zero];exact Nat.zero_le _
 refine Nat.le_of_lt_succ ((Nat.div_lt_iff_lt_mul (by omega)).2 ?_)
 have h1:top+1<=(r1+1)*v1:=by
  subst hr
  have:=Nat.lt_div_mul_add (a:=top) hv
  rw[Nat.add_mul,Nat.one_mul];omega
 have h2:=Nat.mul_le_mul_right p h1
 have h3:=Nat.mul_le_mul_left (r1+1) hV
 have h4:(r1+1)*v1*p=(r1+1)*(v1*p):=Nat.mul_assoc _ _ _
 show W<(r1+1)*V
 omega
theorem guess_less{W V v1 v2 u2 G R p top:Nat}(hp:0<p)(hV:(v1*1000000000+v2)*p<=V)(hW:W<(top*1000000000+u2+1)*p)(htop:G*v1+R=top)(hG:W / V<=G)(hv:0<v1)(hlt:W<1000000000*V)
  (ht:1000000000<=G\/R*1000000000+u2<G*v2):W / V<=G-1/\0<G:=by
 have hVp:0<V:=Nat.lt_of_lt_of_le (Nat.mul_pos (by omega) hp) hV
 have hq:W / V<1000000000:=(Nat.div_lt_iff_lt_mul hVp).2 hlt
 rcases ht with h | h
 ·omega
 ·have hG0:0<G:=by
   rcases Nat.eq_zero_or_pos G with h0 | h0
   ·subst h0;rw[Nat.zero_mul] at h;omega
   ·exact h0
  refine ⟨?_,hG0⟩
  have hne:W / V≠G:=λe=>by
   have h1:G*V<=W:=by rw[<- e];exact Nat.div_mul_le_self _ _
   have h2:=Nat.mul_le_mul_left G hV
   have h3:G*((v1*1000000000+v2)*p)=G*(v1*1000000000+v2)*p:=(Nat.mul_assoc _ _ _).symm
   have h4:G*(v1*1000000000+v2)*p<(top*1000000000+u2+1)*p:=by omega
   have h5:=Nat.lt_of_mul_lt_mul_right h4
   rw[Nat.mul_add,<- Nat.mul_assoc] at h5
   rw[<- htop,Nat.add_mul] at h5
   omega
  omega
theorem guess_near{W V v1 v2 u2 G R p top:Nat}(hV:V<(v1*1000000000+v2+1)*p)(hW:(top*1000000000+u2)*p<=W)(htop:G*v1+R=top)(hv:0<v1)(hz:0<V)(hG:G<1000000000)(ht:G*v2<=R*1000000000+u2):G<=W / V+1:=by
 rcases Nat.eq_zero_or_pos G with h0 | h0
 ·rw[h0];exact Nat.zero_le _
 have h1:(G-1)*V<=W:=by
  have h2:=Nat.mul_le_mul_left (G-1) (Nat.le_of_lt hV)
  refine Nat.le_trans h2 (Nat.le_trans ?_ hW)
  rw[<- Nat.mul_assoc]
  refine Nat.mul_le_mul_right p ?_
  obtain ⟨g,rfl⟩:∃ g,G=g+1:=⟨G-1,by omega⟩
  rw[Nat.add_sub_cancel]
  rw[<- htop]
  have e1:g*(v1*1000000000+v2+1)=g*v1*1000000000+g*v2+g:=by
   rw[Nat.mul_add,Nat.mul_add,Nat.mul_one,<- Nat.mul_assoc]
  have e2:((g+1)*v1+R)*1000000000=g*v1*1000000000+v1*1000000000+R*1000000000:=by
   rw[Nat.add_mul,Nat.add_mul,Nat.add_mul,Nat.one_mul]
  have e3:(g+1)*v2=g*v2+v2:=by rw[Nat.add_mul,Nat.one_mul]
  rw[e1,e2]
  omega
 have h3:G-1<=W / V:=(Nat.le_div_iff_mul_le hz).2 h1
 exact Nat.le_add_of_sub_le h3
theorem msub_step{u u' v:List Nat}{i j n L G carry borrow p e borrow':Nat}(hj:j+n<L)(hi:i<n)(hl:u'.length=L)(hlu:u.length=L)(hd:Dig u')(h1:u'.take j=u.take j)(h2:u'.drop (j+i)=u.drop (j+i))
  (hv:val ((u'.drop j).take i)+G*val (v.take i)=val ((u.drop j).take i)+pw i*(carry+borrow)) (hp:p=G*v.getD i 0+carry) (he:e<1000000000) (hs:e+borrow+p % 1000000000=u'.getD (i+j) 0+1000000000*borrow') :
  (u'.set (i+j) e).length=L/\Dig (u'.set (i+j) e)/\(u'.set (i+j) e).take j=u.take j/\(u'.set (i+j) e).drop (j+(i+1))=u.drop (j+(i+1)) /\
  val (((u'.set (i+j) e).drop j).take (i+1))+G*val (v.take (i+1))=val ((u.drop j).take (i+1))+pw (i+1)*(p / 1000000000+borrow'):=by
 have e0:u'.getD (i+j) 0=(u.drop j).getD i 0:=by
  have h3:(u'.drop (j+i)).getD 0 0=(u.drop (j+i)).getD 0 0:=by rw[h2]
  simp only[List.getD,getElem?_drop,Nat.add_zero] at h3 ⊢
  rw[Nat.add_comm i j];exact h3
 refine ⟨by simpa using hl,hd.set _ he,by rw[take_set_of_le (by omega)];exact h1,?_,?_⟩
 ·rw[drop_set_of_lt (by omega)]
  have h3:(u'.drop (j+i)).drop 1=(u.drop (j+i)).drop 1:=by rw[h2]
  rw[drop_drop,drop_drop] at h3
  exact h3
 ·have e1:(u'.set (i+j) e).drop j=(u'.drop j).set i e:=by
   rw[drop_set,if_neg (by omega)];congr 1;omega
  rw[e1,fN _ _ _ (by rw[length_drop];omega),val_take_succ,val_take_succ,<- e0,uZ]
  have e2:=Nat.mod_add_div p 1000000000
  generalize val ((u'.drop j).take i)=A at *
  generalize val ((u.drop j).take i)=Y at *
  generalize val (v.take i)=X at *
  generalize v.getD i 0=vi at *
  generalize u'.getD (i+j) 0=d0 at *
  generalize pw i=P at *
  generalize p / 1000000000=c' at *
  generalize p % 1000000000=x at *
  have e3:G*(X+P*vi)=G*X+P*(G*vi):=by rw[Nat.mul_add,Nat.mul_left_comm]
  have e4:P*e+P*(G*vi)+P*(carry+borrow)=P*d0+1000000000*P*(c'+borrow'):=by
   have e5:e+G*vi+(carry+borrow)=d0+1000000000*(c'+borrow'):=by omega
   have e6:=congrArg (P*·) e5
   simp only[Nat.mul_add] at e6
   have e7:1000000000*P*(c'+borrow')=P*(1000000000*c')+P*(1000000000*borrow'):=by
    rw[Nat.mul_comm 1000000000 P,Nat.mul_assoc,Nat.mul_add,Nat.mul_add]
   rw[e7,Nat.mul_add]
   omega
  rw[e3]
  omega
theorem addb_step{u u' v:List Nat}{i j n L c s e c':Nat}(hj:j+n<L)(hi:i<n)(hl:u'.length=L)(hlu:u.length=L)(hd:Dig u')(h1:u'.take j=u.take j)(h2:u'.drop (j+i)=u.drop (j+i))
  (hv:val ((u'.drop j).take i)+pw i*c=val ((u.drop j).take i)+val (v.take i)) (hs:s=u'.getD (i+j) 0+v.getD i 0+c) (he:e<1000000000) (hc:e+1000000000*c'=s) :
  (u'.set (i+j) e).length=L/\Dig (u'.set (i+j) e)/\(u'.set (i+j) e).take j=u.take j/\(u'.set (i+j) e).drop (j+(i+1))=u.drop (j+(i+1)) /\
  val (((u'.set (i+j) e).drop j).take (i+1))+pw (i+1)*c'=val ((u.drop j).take (i+1))+val (v.take (i+1)):=by
 have e0:u'.getD (i+j) 0=(u.drop j).getD i 0:=by
  have h3:(u'.drop (j+i)).getD 0 0=(u.drop (j+i)).getD 0 0:=by rw[h2]
  simp only[List.getD,getElem?_drop,Nat.add_zero] at h3 ⊢
  rw[Nat.add_comm i j];exact h3
 refine ⟨by simpa using hl,hd.set _ he,by rw[take_set_of_le (by omega)];exact h1,?_,?_⟩
 ·rw[drop_set_of_lt (by omega)]
  have h3:(u'.drop (j+i)).drop 1=(u.drop (j+i)).drop 1:=by rw[h2]
  rw[drop_drop,drop_drop] at h3
  exact h3
 ·have e1:(u'.set (i+j) e).drop j=(u'.drop j).set i e:=by
   rw[drop_set,if_neg (by omega)];congr 1;omega
  rw[e1,fN _ _ _ (by rw[length_drop];omega),val_take_succ,val_take_succ,<- e0,uZ]
  generalize val ((u'.drop j).take i)=A at *
  generalize val ((u.drop j).take i)=Y at *
  generalize val (v.take i)=X at *
  generalize v.getD i 0=vi at *
  generalize u'.getD (i+j) 0=d0 at *
  generalize pw i=P at *
  have e4:P*e+1000000000*P*c'=P*d0+P*vi+P*c:=by
   have e5:e+1000000000*c'=d0+vi+c:=by omega
   have e6:=congrArg (P*·) e5
   simp only[Nat.mul_add] at e6
   rw[Nat.mul_comm 1000000000 P,Nat.mul_assoc]
   omega
  omega
theorem nB(u:List Nat)(j n:Nat):val (u.drop j)=val ((u.drop j).take n)+pw n*val (u.drop (j+n)):=by
 by_cases h:n<=(u.drop j).length
 ·rw[eB (u.drop j) n h,drop_drop]
 ·rw[take_of_length_le (by omega),drop_eq_nil_of_le (i:=j+n) (by rw[length_drop] at h;omega),val_nil,Nat.mul_zero,Nat.add_zero]
theorem xZ(u:List Nat)(j:Nat):val (u.drop j)=u.getD j 0+1000000000*val (u.drop (j+1)):=by
 by_cases h:j<u.length
 ·rw[drop_eq_getElem_cons h,nX];simp [List.getD,getElem?_eq_getElem h]
 ·rw[drop_eq_nil_of_le (by omega),drop_eq_nil_of_le (by omega),val_nil];simp [List.getD,getElem?_eq_none (by omega:u.length<=j)]
theorem window{u v:List Nat}{j n:Nat}(hv:Dig v)(hn:v.length=n)(h:val (u.drop (j+1))<val v):val (u.drop (j+n+1))=0/\val (u.drop j)=val ((u.drop j).take n)+pw n*u.getD (j+n) 0:=by
 have h1:=xB hv
 rw[hn] at h1
 have h2:=nB u (j+1) n
 have h3:val (u.drop (j+1+n))=0:=by
  rcases Nat.eq_zero_or_pos (val (u.drop (j+1+n))) with h4 | h4
  ·exact h4
  ·have:=Nat.mul_le_mul_left (pw n) h4
   omega
 rw[show j+1+n=j+n+1 by omega] at h3
 refine ⟨h3,?_⟩
 rw[nB u j n,xZ u (j+n),h3,Nat.mul_zero,Nat.add_zero]
theorem window_tops{u v:List Nat}{j n:Nat}(hu:Dig u)(hv:Dig v)(hn:v.length=n)(h2:2<=n)(h:val (u.drop (j+1))<val v) :
  u.getD (j+n) 0<=v.getD (n-1) 0/\val (u.drop j)<1000000000*val v /\
  ((u.getD (j+n) 0*1000000000+u.getD (j+n-1) 0)*1000000000+u.getD (j+n-2) 0)*pw (n-2)<=val (u.drop j) /\
  val (u.drop j)<((u.getD (j+n) 0*1000000000+u.getD (j+n-1) 0)*1000000000+u.getD (j+n-2) 0+1)*pw (n-2) /\
  (v.getD (n-1) 0*1000000000+v.getD (n-2) 0)*pw (n-2)<=val v/\val v<(v.getD (n-1) 0*1000000000+v.getD (n-2) 0+1)*pw (n-2):=by
 obtain ⟨m,rfl⟩:∃ m,n=m+2:=⟨n-2,by omega⟩
 obtain ⟨w1,w2⟩:=window hv hn h
 have p1:pw (m+1)=1000000000*pw m:=uZ m
 have p2:pw (m+2)=1000000000*(1000000000*pw m):=by rw[uZ,uZ]
 have a1:=val_take_succ v (m+1)
 have a2:=val_take_succ v m
 rw[show m+1+1=v.length by omega,take_length] at a1
 have a3:=xB (hv.take m)
 rw[length_take,Nat.min_eq_left (by omega)] at a3
 have b1:=nB u j m
 have b2:=xZ u (j+m)
 have b3:=xZ u (j+m+1)
 have b4:=xZ u (j+m+2)
 rw[show j+m+2+1=j+(m+2)+1 by omega,w1] at b4
 have b5:val ((u.drop j).take m)<pw m:=by
  have:=xB ((hu.drop j).take m)
  exact Nat.lt_of_lt_of_le this (nQ (by rw[length_take];exact Nat.min_le_left _ _))
 have c1:=nB u (j+1) (m+1)
 rw[show j+1+(m+1)=j+m+2 by omega,b4] at c1
 have g1:=hu.getD j
 have g2:=hv.getD m
 have e1:j+(m+2)-1=j+m+1:=by omega
 have e2:j+(m+2)-2=j+m:=by omega
 have e3:j+(m+2)=j+m+2:=by omega
 have e4:m+2-1=m+1:=by omega
 have e5:m+2-2=m:=by omega
 have e6:=xZ u j
 rw[e1,e2,e3,e4,e5]
 rw[e3] at w1 w2
 generalize u.getD (j+m+2) 0=t2 at *
 generalize u.getD (j+m+1) 0=t1 at *
 generalize u.getD (j+m) 0=t0 at *
 generalize v.getD (m+1) 0=v1 at *
 generalize v.getD m 0=v0 at *
 generalize val ((u.drop j).take m)=low at *
 generalize val (v.take m)=vl at *
 generalize pw m=P at *
 rw[p1] at a1 c1
 have hW:val (u.drop j)=low+P*(t0+1000000000*(t1+1000000000*t2)):=by rw[b1,b2,b3,b4];simp
 have hV:val v=vl+P*(v0+1000000000*v1):=by
  rw[a1,a2,Nat.mul_add,Nat.add_assoc]
  congr 2
  rw[Nat.mul_comm 1000000000 P,Nat.mul_assoc]
 refine ⟨?_,by omega,?_,?_,?_,?_⟩
 ·rcases Nat.lt_or_ge v1 t2 with hlt | hge
  ·exfalso
   have h5:1000000000*P*(v1+1)<=1000000000*P*t2:=Nat.mul_le_mul_left _ hlt
   have h6:P*v0+P<=1000000000*P:=by
    have h7:v0+1<=1000000000:=by
     omega
    have:=Nat.mul_le_mul_left P h7
    rw[Nat.mul_add,Nat.mul_one] at this
    omega
   rw[Nat.mul_add,Nat.mul_one] at h5
   rw[hV] at h
   rw[Nat.mul_add,show P*(1000000000*v1)=1000000000*P*v1 by rw[Nat.mul_comm 1000000000 P,Nat.mul_assoc]] at h
   simp at c1
   omega
  ·exact hge
 ·have:(t2*1000000000+t1)*1000000000+t0=t0+1000000000*(t1+1000000000*t2):=by omega
  rw[hW,this,Nat.mul_comm _ P];omega
 ·have:(t2*1000000000+t1)*1000000000+t0+1=t0+1000000000*(t1+1000000000*t2)+1:=by omega
  rw[hW,this,Nat.mul_comm _ P,Nat.mul_add _ _ 1,Nat.mul_one];omega
 ·have:v1*1000000000+v0=v0+1000000000*v1:=by omega
  rw[hV,this,Nat.mul_comm _ P];omega
 ·have:v1*1000000000+v0+1=v0+1000000000*v1+1:=by omega
  rw[hV,this,Nat.mul_comm _ P,Nat.mul_add _ _ 1,Nat.mul_one];omega
theorem getD_of_drop{u u2:List Nat}{m:Nat}(h:u2.drop m=u.drop m):u2.getD m 0=u.getD m 0:=by
 have h3:(u2.drop m).getD 0 0=(u.drop m).getD 0 0:=by rw[h]
 simpa only [List.getD,getElem?_drop,Nat.add_zero] using h3
theorem take_window_lt{u:List Nat}(h:Dig u)(j n:Nat):val ((u.drop j).take n)<pw n :=
 Nat.lt_of_lt_of_le (xB ((h.drop j).take n)) (nQ (by rw[length_take];exact Nat.min_le_left _ _))
theorem msub_end{u u2 v:List Nat}{j n G C:Nat}(hu:Dig u)(hu2:Dig u2)(hv:Dig v)(hn:v.length=n)(hW:val (u.drop (j+1))<val v)(hG1:val (u.drop j) / val v<=G)(hG2:G<=val (u.drop j) / val v+1)
  (h2:u2.drop (j+n)=u.drop (j+n)) (hval:val ((u2.drop j).take n)+G*val (v.take n)=val ((u.drop j).take n)+pw n*C) :
  u2.getD (j+n) 0=u.getD (j+n) 0 /\
  (u.getD (j+n) 0<C->u.getD (j+n) 0+1=C/\0<G/\∃ r,r<val v/\val (u.drop j)=r+(G-1)*val v/\val ((u2.drop j).take n)+val v=pw n+r) /\
  (C<=u.getD (j+n) 0->u.getD (j+n) 0=C/\val ((u2.drop j).take n)<val v/\val (u.drop j)=val ((u2.drop j).take n)+G*val v):=by
 obtain ⟨w1,w2⟩:=window hv hn hW
 have hV:=xB hv
 rw[hn] at hV
 have hX:=take_window_lt hu2 j n
 rw[<- hn,take_length,hn] at hval
 have hVp:0<val v:=by omega
 have d1:=Nat.div_mul_le_self (val (u.drop j)) (val v)
 have d2:=Nat.lt_div_mul_add (a:=val (u.drop j)) hVp
 refine ⟨getD_of_drop h2,?_,?_⟩
 all_goals generalize hQ:val (u.drop j) / val v=Q at *
 all_goals generalize u.getD (j+n) 0=t at *
 all_goals generalize val ((u.drop j).take n)=Y at *
 all_goals generalize val ((u2.drop j).take n)=X at *
 all_goals generalize val (u.drop j)=W at *
 all_goals generalize val v=V at *
 all_goals generalize pw n=P at *
 ·intro hlt
  have m1:P*(t+1)<=P*C:=Nat.mul_le_mul_left _ hlt
  rw[Nat.mul_add,Nat.mul_one] at m1
  rcases Nat.lt_or_ge Q G with hq | hq
  ·have e:G=Q+1:=by omega
   subst e
   rw[Nat.add_mul,Nat.one_mul] at hval
   have m2:C=t+1:=by
    rcases Nat.lt_or_ge (t+1) C with h5 | h5
    ·exfalso
     have m3:P*(t+2)<=P*C:=Nat.mul_le_mul_left _ h5
     rw[Nat.mul_add] at m3
     omega
    ·omega
   subst m2
   rw[Nat.mul_add,Nat.mul_one] at hval
   refine ⟨rfl,by omega,W-Q*V,by omega,?_,by omega⟩
   rw[Nat.add_sub_cancel];omega
  ·exfalso
   have e:G=Q:=by omega
   subst e
   omega
 ·intro hge
  rcases Nat.lt_or_ge Q G with hq | hq
  ·exfalso
   have e:G=Q+1:=by omega
   subst e
   rw[Nat.add_mul,Nat.one_mul] at hval
   have m1:P*C<=P*t:=Nat.mul_le_mul_left _ hge
   omega
  ·have e:G=Q:=by omega
   subst e
   have m2:C=t:=by
    rcases Nat.lt_or_ge C t with h5 | h5
    ·exfalso
     have m3:P*(C+1)<=P*t:=Nat.mul_le_mul_left _ h5
     rw[Nat.mul_add,Nat.mul_one] at m3
     omega
    ·omega
   subst m2
   exact ⟨rfl,by omega,by omega⟩
theorem val_window_set{u v:List Nat}{u2:List Nat}{j n d:Nat}(hj:j+n<u2.length)(h2:u2.drop (j+n+1)=u.drop (j+n+1))(hz:val (u.drop (j+n+1))=0):(u2.set (j+n) d).take j=u2.take j/\val ((u2.set (j+n) d).drop j)=val ((u2.drop j).take n)+pw n*d:=by
 refine ⟨take_set_of_le (by omega),?_⟩
 rw[nB _ j n,dB _ _ _ hj,h2,hz,Nat.mul_zero,Nat.add_zero]
 congr 2
 have e1:(u2.set (j+n) d).drop j=(u2.drop j).set n d:=by
  rw[drop_set,if_neg (by omega)];congr 1;omega
 rw[e1,take_set_of_le (Nat.le_refl _)]
theorem iV{u u2:List Nat}{m:Nat}(h:u2.drop m=u.drop m):u2.drop (m+1)=u.drop (m+1):=by
 have h3:(u2.drop m).drop 1=(u.drop m).drop 1:=by rw[h]
 rwa [drop_drop,drop_drop] at h3
theorem round_end{u un q:List Nat}{V U j g r:Nat}(hj:j<q.length)(hju:j<=u.length)(hln:un.length=u.length)(ht:un.take j=u.take j)(hr:val (un.drop j)=r)(hW:val (u.drop j)=r+g*V)(hU:val u+V*(pw (j+1)*val (q.drop (j+1)))=U) :
  val un+V*(pw j*val ((q.set j g).drop j))=U:=by
 rw[eB un j (by omega),ht,hr,dB q j g hj]
 rw[eB u j hju,hW,uZ] at hU
 rw[<- hU]
 generalize val (u.take j)=T
 generalize val (q.drop (j+1))=Q
 generalize pw j=P
 have e1:P*(g+1000000000*Q)=P*g+P*(1000000000*Q):=Nat.mul_add _ _ _
 have e2:V*(P*g)=P*(g*V):=by rw[<- Nat.mul_assoc,Nat.mul_comm V P,Nat.mul_assoc,Nat.mul_comm V g]
 have e3:V*(P*(1000000000*Q))=V*(1000000000*P*Q):=by rw[<- Nat.mul_assoc P,Nat.mul_comm P 1000000000]
 rw[e1,Nat.mul_add V,e2,e3,Nat.mul_add P r]
 omega
theorem pos_end{u u2 v q:List Nat}{j n G U:Nat}(hu:Dig u)(hv:Dig v)(hn:v.length=n)(hj:j+n<u.length)(hjq:j<q.length)(hl:u2.length=u.length)(h1:u2.take j=u.take j)(h2:u2.drop (j+n)=u.drop (j+n))(hW:val (u.drop (j+1))<val v)
  (hx:val ((u2.drop j).take n)<val v) (he:val (u.drop j)=val ((u2.drop j).take n)+G*val v) (hU:val u+val v*(pw (j+1)*val (q.drop (j+1)))=U) :
  val (u2.set (j+n) 0)+val v*(pw j*val ((q.set j G).drop j))=U/\val ((u2.set (j+n) 0).drop j)<val v:=by
 obtain ⟨w1,_⟩:=window hv hn hW
 obtain ⟨a1,a2⟩:=val_window_set (v:=v) (d:=0) (by omega) (iV h2) w1
 rw[Nat.mul_zero,Nat.add_zero] at a2
 exact ⟨round_end hjq (by omega) (by simpa using hl) (a1.trans h1) a2 he hU,by rw[a2];exact hx⟩
theorem neg_end{u u2 u3 v q:List Nat}{j n G c r U:Nat}(hu3:Dig u3)(hv:Dig v)(hn:v.length=n)(hj:j+n<u.length)(hjq:j<q.length)(hl:u2.length=u.length)(hl3:u3.length=u.length)(h1:u2.take j=u.take j)(h2:u2.drop (j+n)=u.drop (j+n))(hW:val (u.drop (j+1))<val v)(hc:c<=1)
  (h31:u3.take j=(u2.set (j+n) 999999999).take j) (h32:u3.drop (j+n)=(u2.set (j+n) 999999999).drop (j+n)) (h3:val ((u3.drop j).take n)+pw n*c=val (((u2.set (j+n) 999999999).drop j).take n)+val (v.take n))
  (hr:r<val v) (he:val (u.drop j)=r+(G-1)*val v) (hx:val ((u2.drop j).take n)+val v=pw n+r) (hU:val u+val v*(pw (j+1)*val (q.drop (j+1)))=U) :
  val (u3.set (j+n) ((u3.getD (j+n) 0+c) % 1000000000))+val v*(pw j*val ((q.set j (G-1)).drop j))=U/\val ((u3.set (j+n) ((u3.getD (j+n) 0+c) % 1000000000)).drop j)<val v:=by
 obtain ⟨w1,_⟩:=window hv hn hW
 have hV:=xB hv
 rw[hn] at hV
 have e1:(u2.set (j+n) 999999999).drop j=(u2.drop j).set n 999999999:=by
  rw[drop_set,if_neg (by omega)];congr 1;omega
 have e2:((u2.set (j+n) 999999999).drop j).take n=(u2.drop j).take n:=by rw[e1,take_set_of_le (Nat.le_refl _)]
 rw[e2,<- hn,take_length,hn] at h3
 have h4:=take_window_lt hu3 j n
 have e3:u3.getD (j+n) 0=999999999:=by
  rw[getD_of_drop h32,getD_set _ _ _ _ (by omega),if_pos rfl]
 have e4:u3.drop (j+n+1)=u.drop (j+n+1):=by
  rw[iV h32,drop_set_of_lt (by omega),iV h2]
 have hc1:c=1:=by
  rcases Nat.lt_or_ge c 1 with h5 | h5
  ·have:c=0:=by omega
   subst this
   rw[Nat.mul_zero] at h3
   omega
  ·omega
 subst hc1
 rw[Nat.mul_one] at h3
 have e5:(u3.getD (j+n) 0+1) % 1000000000=0:=by rw[e3]
 rw[e5]
 obtain ⟨a1,a2⟩:=val_window_set (u:=u) (v:=v) (u2:=u3) (j:=j) (n:=n) (d:=0) (by omega) e4 w1
 rw[Nat.mul_zero,Nat.add_zero] at a2
 have e6:val ((u3.drop j).take n)=r:=by omega
 rw[e6] at a2
 have e7:u3.take j=u.take j:=by rw[h31,take_set_of_le (by omega)];exact h1
 exact ⟨round_end hjq (by omega) (by simpa using hl3) (a1.trans e7) a2 he hU,by rw[a2];exact hr⟩
theorem long_start{u0 v:List Nat}{n:Nat}(hu:Dig u0)(hn:v.length=n)(h2:2<=n)(hl:n<=u0.length)(hv:pw (n-1)<=val v):val ((u0++[0]).drop (u0.length+1-n))<val v:=by
 rw[drop_append_of_le_length (by omega),dX]
 have h3:=xB (hu.drop (u0.length+1-n))
 rw[length_drop] at h3
 have h4:pw (u0.length-(u0.length+1-n))=pw (n-1):=by congr 1;omega
 rw[h4] at h3
 simp only[val,Nat.mul_zero,Nat.add_zero]
 omega
theorem scl_div{a b q u:List Nat}(hb:gG b)(h0:0<b.length)(hU:val u+val b*dL b*(pw 0*val (q.drop 0))=val a*dL b)(hr:val (u.drop 0)<val b*dL b):val q=val a / val b/\val u / dL b=val a % val b:=by
 rw[cK,Nat.one_mul,drop_zero] at hU
 rw[drop_zero] at hr
 have hs:=(iA hb h0).1
 generalize dL b=s at *
 have h1:s*(val b*val q)<=s*val a:=by
  have e:val b*s*val q=s*(val b*val q):=by rw[Nat.mul_comm (val b) s,Nat.mul_assoc]
  rw[e,Nat.mul_comm (val a) s] at hU;omega
 have h2:val b*val q<=val a:=Nat.le_of_mul_le_mul_left h1 hs
 have h3:val u=s*(val a-val b*val q):=by
  rw[Nat.mul_sub]
  have e:val b*s*val q=s*(val b*val q):=by rw[Nat.mul_comm (val b) s,Nat.mul_assoc]
  rw[e,Nat.mul_comm (val a) s] at hU;omega
 have h4:val a-val b*val q<val b:=by
  rw[h3,Nat.mul_comm (val b) s] at hr
  exact Nat.lt_of_mul_lt_mul_left hr
 have hb0:0<val b:=by omega
 have h5:val a=val b*val q+(val a-val b*val q):=by omega
 constructor
 ·rw[h5,Nat.mul_add_div hb0,Nat.div_eq_of_lt h4,Nat.add_zero]
 ·rw[h3,Nat.mul_div_cancel_left _ hs]
  conv=>rhs;rw[h5]
  rw[Nat.mul_add_mod,Nat.mod_eq_of_lt h4]
theorem guess_first0{W V v1 v2 u2 p top:Nat}(hV:(v1*1000000000+v2)*p<=V)(hW:W<(top*1000000000+u2+1)*p)(hv:0<v1)(hu:u2<1000000000):W / V<=top / v1:=by
 refine guess_first (p:=1000000000*p) (top:=top) ?_ ?_ hv rfl
 ·refine Nat.le_trans ?_ hV
  rw[<- Nat.mul_assoc]
  exact Nat.mul_le_mul_right p (by omega)
 ·refine Nat.lt_of_lt_of_le hW ?_
  rw[<- Nat.mul_assoc]
  exact Nat.mul_le_mul_right p (by omega)
theorem guess_top{v1 t2 t1:Nat}(hv:0<v1)(h:t2<=v1)(h1:t1<1000000000):(t2*1000000000+t1) / v1<=1999999999:=by
 refine Nat.div_le_of_le_mul ?_
 omega
theorem guess_dec{G v1 R top:Nat}(h0:0<G)(h:G*v1+R=top):(G-1)*v1+(R+v1)=top:=by
 obtain ⟨g,rfl⟩:∃ g,G=g+1:=⟨G-1,by omega⟩
 rw[Nat.add_mul,Nat.one_mul] at h
 rw[Nat.add_sub_cancel];omega
theorem guess_break{g v1 R t2 t1:Nat}(h:g*v1+R=t2*1000000000+t1)(h2:t2<=v1)(h1:t1<1000000000)(hR:1000000000<=R):g<1000000000:=by
 rcases Nat.lt_or_ge g 1000000000 with h3 | h3
 ·exact h3
 ·exfalso
  have:=Nat.mul_le_mul_right v1 h3
  omega
theorem val_take_of_lt{u:List Nat}{n:Nat}(h:val u<pw n):val (u.take n)=val u:=by
 by_cases hn:n<=u.length
 ·have h1:=eB u n hn
  rcases Nat.eq_zero_or_pos (val (u.drop n)) with h2 | h2
  ·rw[h2,Nat.mul_zero,Nat.add_zero] at h1;exact h1.symm
  ·have:=Nat.mul_le_mul_left (pw n) h2
   omega
 ·rw[take_of_length_le (by omega)]
theorem ofNat_val_len{l:List Nat}(hd:Dig l):(ofNat (val l)).length<=l.length:=uF (xB hd)
def dE(z:Int):Nat:=(ofNat z.natAbs).length
theorem ofZ_len(z:Int):(kN z).gs.length=dE z:=rfl
theorem lF(x:kW):(jV x).natAbs=val (kQ x):=by
 unfold jV dD;split<;>simp
theorem grpI_eq(x:kW):kQ x=ofNat (jV x).natAbs:=by rw[lF];exact can_eq (qJ x)
theorem eF(x:kW):dE (jV x)<=x.gs.length:=by unfold dE;rw[<- grpI_eq];exact gH x
theorem validI_of{b:Bool}{l:List Nat}(h:gG l)(hb:l=[]->b=false):uL ⟨b,l⟩=true:=by
 unfold uL
 by_cases h0:l=[]
 ·subst h0;simp [hb rfl]
 ·have h1:l.length≠0:=λe=>h0 (eq_nil_of_length_eq_zero e)
  rw[if_neg (by show ((l.length:Nat):Int)≠0;omega)]
  obtain ⟨h2,_⟩:=lZ h (by omega)
  have h3:zD l=-1:=lH h.1
  simp only[Bool.and_eq_true,Bool.not_eq_true',decide_eq_false_iff_not,bne_iff_ne]
  rw[h3]
  exact ⟨by omega,by omega⟩
theorem validI_iff{x:kW}:uL x=true↔gG x.gs/\(x.gs=[]->x.neg=false):=by
 refine ⟨λh=>?_,λ⟨h1,h2⟩=>validI_of h1 h2⟩
 have h1:=qJ x
 unfold kQ at h1
 rw[if_pos h] at h1
 refine ⟨h1,λh0=>?_⟩
 unfold uL at h
 rw[if_pos (by rw[h0];rfl)] at h
 simpa using h
theorem validI_ofZ(z:Int):uL (kN z)=true:=validI_iff.2 ⟨qF _,λh=>by
 have h1:z.natAbs=0:=iD.1 h
 have h2:z=0:=by omega
 subst h2;rfl⟩
theorem grpI_ofZ(z:Int):kQ (kN z)=ofNat z.natAbs:=by unfold kQ;rw[if_pos (validI_ofZ z)];rfl
theorem ofZ_neg(z:Int):(kN z).neg=decide (z<0):=by
 unfold kN xU
 by_cases h:z<0
 ·have:(z.natAbs != 0)=true:=bne_iff_ne.2 (by omega)
  simp [h,this]
 ·simp [h]
theorem dJ(z:Int):jV (kN z)=z:=by
 unfold jV dD
 rw[grpI_ofZ,ofZ_neg,kH]
 by_cases h:z<0
 ·simp [h];omega
 ·simp [h];omega
theorem ofZ_toZ{x:kW}(h:uL x=true):kN (jV x)=x:=by
 obtain ⟨h1,h2⟩:=validI_iff.1 h
 obtain ⟨b,l⟩:=x
 have e:kQ ⟨b,l⟩=l:=by unfold kQ;rw[if_pos h]
 have e1:jV ⟨b,l⟩=dD b (val l):=by unfold jV;rw[e]
 rw[e1,<- dH]
 unfold xU
 rw[<- can_eq h1]
 congr 1
 cases b with
 |false=>rfl
 |true=>
  have:val l≠0:=λe0=>by
   have h3:=h2 (lY h1 e0)
   cases h3
  simp [this]
theorem toZ_bad{x:kW}(h:uL x=false):jV x=0:=by
 unfold jV kQ
 rw[if_neg (by rw[h];simp)]
 unfold dD;split<;>rfl
theorem fP{z:Int}{n:Nat}:dE z<=n↔z.natAbs<pw n:=by
 refine ⟨λh=>Nat.lt_of_lt_of_le (ofNat_lt_pw _) (nQ h),λh=>uF h⟩
theorem lenZ_neg(z:Int):dE (-z)=dE z:=by unfold dE;rw[Int.natAbs_neg]
theorem lI{y z:Int}(h:y.natAbs<=z.natAbs):dE y<=dE z:=zB h
theorem lenZ_add{a b:Int}{m n k:Nat}(ha:dE a<=m)(hb:dE b<=n)(h:max m n+1<=k):dE (a+b)<=k:=by
 have h1:=fP.1 ha
 have h2:=fP.1 hb
 refine fP.2 ?_
 have h3:pw m<=pw (max m n):=nQ (by omega)
 have h4:pw n<=pw (max m n):=nQ (by omega)
 have h5:pw (max m n+1)<=pw k:=nQ h
 rw[uZ] at h5
 have h6:=Int.natAbs_add_le a b
 omega
theorem cX{a b:Int}{m n k:Nat}(ha:dE a<=m)(hb:dE b<=n)(h:m+n<=k):dE (a*b)<=k:=by
 refine fP.2 ?_
 rw[Int.natAbs_mul]
 refine Nat.lt_of_lt_of_le ?_ (nQ h)
 rw[pw_add]
 exact Nat.mul_lt_mul_of_lt_of_le (fP.1 ha) (Nat.le_of_lt (fP.1 hb)) (pw_pos _)
structure dP (x:kW) (z:Int) (n:Nat):Prop where
 v:jV x=z
 l:x.gs.length<=n
theorem dP.ln{x:kW}{z:Int}{n:Nat}(h:dP x z n):dE z<=n:=by rw[<- h.v];exact Nat.le_trans (eF x) h.l
theorem iok_of{z:Int}{n:Nat}(h:dE z<=n):dP (kN z) z n:=⟨dJ z,h⟩
theorem yX{x:kW}{n:Nat}(h:x.gs.length<=n):dP x (jV x) n:=⟨rfl,h⟩
theorem iok_add{x y:kW}{a b:Int}{m n k:Nat}(hx:dP x a m)(hy:dP y b n)(h:max m n+1<=k:=by decide):dP (kN (a+b)) (a+b) k:=iok_of (lenZ_add hx.ln hy.ln h)
theorem yW{x y:kW}{a b:Int}{m n k:Nat}(hx:dP x a m)(hy:dP y b n)(h:m+n<=k:=by decide):dP (kN (a*b)) (a*b) k:=iok_of (cX hx.ln hy.ln h)
theorem cI{x:kW}{a:Int}{m:Nat}(hx:dP x a m):dP (kN (-a)) (-a) m:=iok_of (by rw[lenZ_neg];exact hx.ln)
theorem eZ{x:kW}{a:Int}{m n:Nat}(hx:dP x a m)(h:m<=n:=by decide):dP x a n:=⟨hx.v,Nat.le_trans hx.l h⟩
theorem iu{x:kW}{a:Int}{m n:Nat}(hx:dP x a m)(h:m<=n:=by decide):dP x a n:=eZ hx h
theorem iL{z:Int}(h:z.natAbs<1000000000:=by decide):dP (kN z) z 1:=iok_of (fP.2 (by rw[show (1:Nat)=0+1 from rfl,uZ,cK];omega))
theorem signI_sub(a b:Int):qZ (a-b)=uY a b:=by
 unfold qZ uY
 split
 ·rw[if_neg (by omega),if_neg (by omega)]
 ·split
  ·rw[if_pos (by omega)]
  ·rw[if_neg (by omega),if_pos (by omega)]
theorem cmpI_neg{a b:Nat}(h:uY (a:Int) (b:Int)<0):a<b:=by
 unfold uY at h
 split at h
 ·omega
 ·split at h<;>omega
theorem cmpI_nn{a b:Nat}(h:¬ uY (a:Int) (b:Int)<0):b<=a:=by
 unfold uY at h
 split at h
 ·omega
 ·omega
theorem word_both{a b:List Nat}(ha:Dig a)(h:(mZ a&&mZ b)=true):yK a=val a/\yK b=val b/\val a<1000000000000000000:=by
 unfold mZ at h
 rw[Bool.and_eq_true,decide_eq_true_eq,decide_eq_true_eq] at h
 unfold yK
 rw[if_pos h.1,if_pos h.2]
 exact ⟨rfl,rfl,val_len2 ha h.1⟩
theorem val_pos_len{b:List Nat}(h:0<val b):0<b.length:=by
 rcases b with _ | ⟨d,l⟩
 ·rw[val_nil] at h;omega
 ·simp
theorem cR{b:List Nat}(hb:gG b)(h:0<b.length):0<val b:=by
 have h1:=val_top hb.1 h
 have h2:=lZ hb h
 have h3:=Nat.mul_le_mul_right (pw (b.length-1)) h2.1
 have h4:=pw_pos (b.length-1)
 rw[Nat.succ_mul] at h3
 omega
theorem val_len1{b:List Nat}(h:b.length=1):val b=b.getD 0 0:=by
 rcases b with _ | ⟨d,_ | ⟨e,l⟩⟩
 ·simp at h
 ·simp [val]
 ·simp at h
theorem len_quo(l:List Nat)(hl:gG l)(n:Nat):(ofNat (val l / n)).length<=l.length:=by
 have h1:=zB (Nat.div_le_self (val l) n)
 rwa [<- can_eq hl] at h1
theorem len_rem(l:List Nat)(hl:gG l)(n:Nat):(ofNat (val l % n)).length<=l.length:=by
 have h1:=zB (Nat.mod_le (val l) n)
 rwa [<- can_eq hl] at h1
theorem gcd_toZ(x y:kW):Nat.gcd (val (kQ x)) (val (kQ y))=Int.gcd (jV x) (jV y):=by
 unfold Int.gcd;rw[lF,lF]
theorem mkI_false(n:Nat):xU false n=kN (n:Int):=dH false n
theorem r_made_end{neg:Bool}{l:List Nat}{k:Nat}(hd:Dig l)(hk:k<=l.length)(hv:val (l.take k)=val l)(h:(decide ((0:Int)<((k:Nat):Int))&&(((l.getD (k-1) 0:Nat):Int) == 0))=false):xU neg (val l)=⟨neg&&decide ((0:Int)<((k:Nat):Int)),l.take k⟩:=by
 have hc:gG (l.take k):=by
  refine ⟨hd.take k,?_⟩
  unfold Top
  rw[length_take,Nat.min_eq_left hk]
  rcases Nat.eq_zero_or_pos k with h0 | h0
  ·subst h0;simp
  ·rw[Bool.and_eq_false_iff] at h
   rcases h with h | h
   ·rw[decide_eq_false_iff_not] at h;omega
   ·have h1:=ne_of_beq_false h
    have h6:k-1<l.length:=by omega
    simp [List.getD,getElem?_eq_getElem h6,getElem?_take_of_lt (show k-1<k by omega)] at h1 ⊢
    exact h1
 unfold xU
 rw[<- hv,<- can_eq hc]
 congr 1
 congr 1
 rcases Nat.eq_zero_or_pos k with h0 | h0
 ·subst h0;simp [val]
 ·have h1:0<val (l.take k):=cR hc (by rw[length_take];omega)
  have h2:(val (l.take k) != 0)=true:=bne_iff_ne.2 (by omega)
  rw[h2];symm;exact decide_eq_true (by omega)
theorem r_made_step{l:List Nat}{k:Nat}(hk:k<=l.length)(hv:val (l.take k)=val l)(h:(decide ((0:Int)<((k:Nat):Int))&&(((l.getD (k-1) 0:Nat):Int) == 0))=true):0<k/\val (l.take (k-1))=val l:=by
 rw[Bool.and_eq_true,decide_eq_true_eq,beq_iff_eq] at h
 have h0:0<k:=by omega
 refine ⟨h0,?_⟩
 have h1:=val_take_succ l (k-1)
 rw[show k-1+1=k by omega,show l.getD (k-1) 0=0 by omega] at h1
 omega
theorem validI_big{x:kW}{i:Nat}(h:i<x.gs.length)(hb:¬ x.gs.getD i 0<1000000000):uL x=false:=by
 rcases hv:uL x with _ | _
 ·rfl
 ·exact absurd ((validI_iff.1 hv).1.1.getD i) hb
theorem validI_nil{x:kW}(h:x.gs.length=0):uL x=!x.neg:=by unfold uL;rw[if_pos (by omega)]
theorem validI_dig{x:kW}(hd:Dig x.gs)(h:x.gs.length≠0):uL x=(((x.gs.getD (x.gs.length-1) 0:Nat):Int) != 0):=by
 unfold uL
 rw[if_neg (by omega),lH hd]
 simp
theorem push_step{o:List Nat}{i s:Nat}(hl:o.length=i):val (o++[s % 1000000000])+pw (i+1)*(s / 1000000000)=val o+pw i*s:=by
 rw[dX,hl,cZ,uZ]
 have h:=Nat.mod_add_div s 1000000000
 have h2:pw i*s=pw i*(s % 1000000000)+pw i*(1000000000*(s / 1000000000)):=by rw[<- Nat.mul_add,h]
 rw[h2,Nat.mul_comm 1000000000 (pw i),Nat.mul_assoc]
 omega
theorem dig_push{o:List Nat}(h:Dig o){d:Nat}(hd:d<1000000000):Dig (o++[d]):=lD.2 ⟨h,yO.2 ⟨hd,gU⟩⟩
theorem rplus_step{a b o:List Nat}{i c s:Nat}(hl:o.length=i)(hv:val o+pw i*c=val (a.take i)+val (b.take i))(hs:s=a.getD i 0+b.getD i 0+c) :
  val (o++[s % 1000000000])+pw (i+1)*(s / 1000000000)=val (a.take (i+1))+val (b.take (i+1)):=by
 rw[push_step hl,val_take_succ,val_take_succ,hs,Nat.mul_add,Nat.mul_add]
 omega
theorem rminus_step{a b o:List Nat}{i c s:Nat}(hl:o.length=i)(hv:val o+val (b.take i)=val (a.take i)+pw i*c)(hs:s+b.getD i 0+c=1000000000+a.getD i 0)(h1:s / 1000000000<=1) :
  val (o++[s % 1000000000])+val (b.take (i+1))=val (a.take (i+1))+pw (i+1)*(1-s / 1000000000):=by
 have h:=push_step (o:=o) (i:=i) (s:=s) hl
 have h2:pw (i+1)*(1-s / 1000000000)+pw (i+1)*(s / 1000000000)=pw (i+1):=by
  rw[<- Nat.mul_add,Nat.sub_add_cancel h1,Nat.mul_one]
 have h3:=congrArg (pw i*·) hs
 simp only[Nat.mul_add] at h3
 rw[val_take_succ,val_take_succ]
 rw[uZ] at h h2 ⊢
 rw[Nat.mul_comm (pw i) 1000000000] at h3
 omega
theorem rscaled_step{a o:List Nat}{i c d s:Nat}(hl:o.length=i)(hv:val o+pw i*c=val (a.take i)*d)(hs:s=a.getD i 0*d+c) :
  val (o++[s % 1000000000])+pw (i+1)*(s / 1000000000)=val (a.take (i+1))*d:=by
 rw[push_step hl,val_take_succ,hs,Nat.mul_add,Nat.add_mul,Nat.mul_assoc]
 omega
theorem val_push{o:List Nat}{i c:Nat}(hl:o.length=i):val (o++[c])=val o+pw i*c:=by rw[dX,hl,cZ]
theorem take_all{a:List Nat}{i:Nat}(h:a.length<=i):a.take i=a:=take_of_length_le h
theorem rminus_end{a b o:List Nat}{i c:Nat}(hda:Dig a)(hb:Dig b)(hd:Dig o)(hi:i=a.length)(hl:o.length=i)(hba:val b<=val a)(hv:val o+val (b.take i)=val (a.take i)+pw i*c):val o=val a-val b:=by
 have h1:val (b.take i)=val b:=val_take_of_lt (by rw[hi];exact Nat.lt_of_le_of_lt hba (xB hda))
 rw[h1,hi,take_length] at hv
 have h2:=xB hd
 rw[hl,hi] at h2
 rcases Nat.eq_zero_or_pos c with h3 | h3
 ·subst h3;omega
 ·have:=Nat.mul_le_mul_left (pw a.length) h3
  omega
theorem mN(X:Int):dD (kN X).neg X.natAbs=X:=by
 rw[ofZ_neg];unfold dD
 by_cases h:X<0
 ·simp [h];omega
 ·simp [h];omega
theorem rneg_eq(X:Int):xU (!(kN X).neg) (val (ofNat X.natAbs))=kN (-X):=by
 rw[dH,kH]
 congr 1
 have h:=mN X
 unfold dD at h ⊢
 cases hn:(kN X).neg<;>simp [hn] at h ⊢<;>omega
theorem rsum_same{X Y:Int}(h:(kN X).neg=(kN Y).neg):xU (kN X).neg (val (ofNat (val (ofNat X.natAbs)+val (ofNat Y.natAbs))))=kN (X+Y):=by
 rw[sum_same h,kH,kH,mN,mN]
theorem rsum_first{X Y:Int}(h:(kN X).neg≠(kN Y).neg)(hn:val (ofNat Y.natAbs)<=val (ofNat X.natAbs)):xU (kN X).neg (val (ofNat (val (ofNat X.natAbs)-val (ofNat Y.natAbs))))=kN (X+Y):=by
 rw[sum_first h hn,kH,kH,mN,mN]
theorem rsum_second{X Y:Int}(h:(kN X).neg≠(kN Y).neg)(hn:val (ofNat X.natAbs)<=val (ofNat Y.natAbs)):xU (kN Y).neg (val (ofNat (val (ofNat Y.natAbs)-val (ofNat X.natAbs))))=kN (X+Y):=by
 rw[sum_second h hn,kH,kH,mN,mN]
theorem rmul_eq(X Y:Int):xU (!((kN X).neg == (kN Y).neg)) (val (ofNat X.natAbs)*val (ofNat Y.natAbs))=kN (X*Y):=by
 have h:=mul_eq (b:=(kN X).neg) (c:=(kN Y).neg) (val (ofNat X.natAbs)) (val (ofNat Y.natAbs))
 rw[kH (val (ofNat X.natAbs)*val (ofNat Y.natAbs))] at h
 rw[h,kH,kH,mN,mN]
theorem rsign_zero{X:Int}(h:(((ofNat X.natAbs).length:Nat):Int)=0):qZ X=0:=by
 have h1:X.natAbs=0:=iD.1 (eq_nil_of_length_eq_zero (by omega))
 have h2:X=0:=by omega
 subst h2;rfl
theorem rsign_ne{X:Int}(h:(((ofNat X.natAbs).length:Nat):Int)≠0):X≠0:=λe=>h (by subst e;simp [uC])
theorem rsign_neg{X:Int}(h:(((ofNat X.natAbs).length:Nat):Int)≠0)(hn:(kN X).neg=true):qZ X=-1:=by
 have h1:=rsign_ne h
 rw[ofZ_neg,decide_eq_true_eq] at hn
 unfold qZ;rw[if_neg h1,if_pos hn]
theorem rsign_pos{X:Int}(h:(((ofNat X.natAbs).length:Nat):Int)≠0)(hn:(kN X).neg=false):qZ X=1:=by
 have h1:=rsign_ne h
 rw[ofZ_neg,decide_eq_false_iff_not] at hn
 unfold qZ;rw[if_neg h1,if_neg hn]
theorem gs_val(x:kW):(kN (jV x)).gs.length<=x.gs.length:=eF x
theorem eI(x:kW):(ofNat (jV x).natAbs).length<=x.gs.length:=eF x
theorem gs_neg(x:kW):(kN (-jV x)).gs.length<=x.gs.length:=by rw[ofZ_len,lenZ_neg];exact eF x
theorem gs_sub(x y:kW):(kN (jV x-jV y)).gs.length<=max x.gs.length y.gs.length+1:=by
 rw[Int.sub_eq_add_neg,ofZ_len];exact lenZ_add (eF x) (by rw[lenZ_neg];exact eF y) (Nat.le_refl _)
theorem gs_mul(x y:kW):(kN (jV x*jV y)).gs.length<=x.gs.length+y.gs.length:=cX (eF x) (eF y) (Nat.le_refl _)
theorem val_pair{l:List Nat}(h:l.length<=2):val l=l.getD 1 0*1000000000+l.getD 0 0:=by
 rcases l with _ | ⟨d,_ | ⟨e,_ | ⟨f,l⟩⟩⟩
 ·rfl
 ·simp [val]
 ·simp [val];omega
 ·simp at h
theorem rshift_val{q:List Nat}(u:List Nat){i V r:Nat}(h:val (u.drop (i+1))=V*val (q.drop (i+1))+r):val (u.drop i)=V*(1000000000*val (q.drop (i+1)))+(u.getD i 0+1000000000*r):=by
 rw[xZ u i,h,Nat.mul_left_comm]
 rw[Nat.mul_add];omega
theorem rguess{v:List Nat}{W n:Nat}(hv:Dig v)(hn:v.length=n)(h1:1<=n)(hW:W<1000000000*val v) :
  ((ofNat W).getD n 0*1000000000+(ofNat W).getD (n-1) 0) / (v.getD (n-1) 0+1)*val v<=W/\((ofNat W).getD n 0*1000000000+(ofNat W).getD (n-1) 0) / (v.getD (n-1) 0+1)<1000000000:=by
 have hw:=xB hv
 have ht:=val_top hv (by omega)
 rw[hn] at hw ht
 have hp:=pw_pos (n-1)
 have e1:=nB (ofNat W) 0 (n-1)
 have e2:=xZ (ofNat W) (n-1)
 have e3:=xZ (ofNat W) n
 have e5:W<pw (n+1):=by rw[uZ];omega
 have e4:(ofNat W).drop (n+1)=[]:=drop_eq_nil_of_le (uF e5)
 rw[e4,val_nil] at e3
 rw[show n-1+1=n by omega] at e2
 rw[drop_zero,kH,Nat.zero_add] at e1
 generalize (ofNat W).getD n 0=t1 at *
 generalize (ofNat W).getD (n-1) 0=t0 at *
 generalize v.getD (n-1) 0=v1 at *
 have e6:pw (n-1)*(t1*1000000000+t0)<=W:=by
  have:t1*1000000000+t0=val ((ofNat W).drop (n-1)):=by omega
  rw[this];omega
 have e7:=Nat.div_mul_le_self (t1*1000000000+t0) (v1+1)
 generalize (t1*1000000000+t0) / (v1+1)=G at *
 have e8:G*val v<=W:=by
  refine Nat.le_trans (Nat.mul_le_mul_left G (Nat.le_of_lt ht.2)) (Nat.le_trans ?_ e6)
  rw[<- Nat.mul_assoc,Nat.mul_comm (pw (n-1))]
  exact Nat.mul_le_mul_right _ e7
 refine ⟨e8,?_⟩
 have e9:G*val v<1000000000*val v:=by omega
 exact Nat.lt_of_mul_lt_mul_right e9
theorem rquo_lt{G V r W:Nat}(h:V*G+r=W)(hW:W<1000000000*V):G<1000000000:=by
 have h1:G*V<1000000000*V:=by rw[Nat.mul_comm G V];omega
 exact Nat.lt_of_mul_lt_mul_right h1
theorem rround{u q:List Nat}{V G r i:Nat}(hi:i<q.length)(h:val (u.drop i)=V*(1000000000*val (q.drop (i+1)))+(V*G+r)):val (u.drop i)=V*val ((q.set i G).drop i)+r:=by
 rw[h,dB q i G hi,Nat.mul_add];omega
theorem split_dig{o:List Nat}{m n:Nat}(h:o++ofNat m=ofNat n)(hm:¬ (0:Int)<((m:Nat):Int)):Dig o:=by
 rw[<- split_end h hm];exact kI n
theorem split_val{o:List Nat}{m n:Nat}(h:o++ofNat m=ofNat n)(hm:¬ (0:Int)<((m:Nat):Int)):val o=n:=by
 rw[<- split_end h hm];exact kH n
theorem ofZ_zero:kN 0=⟨false,[]⟩:=by unfold kN xU;simp [uC]
theorem rshort_step{a q:List Nat}{d xT i n:Nat}(hi:i<q.length)(hv:val (a.drop (i+1))=val (q.drop (i+1))*d+xT)(hn:n=xT*1000000000+a.getD i 0) :
  val (a.drop i)=val ((q.set i (n / d)).drop i)*d+n % d:=by
 rw[xZ a i,hv,dB q i _ hi]
 have h3:=Nat.div_add_mod n d
 rw[Nat.add_mul,Nat.mul_comm (n / d) d]
 have h4:1000000000*val (q.drop (i+1))*d=1000000000*(val (q.drop (i+1))*d):=Nat.mul_assoc _ _ _
 omega
theorem fdiv_unique{x y q r:Int}(h:r+y*q=x)(hr:(0<=r/\r<y)\/(y<r/\r<=0)):x.fdiv y=q/\x.fmod y=r:=by
 rcases hr with ⟨h1,h2⟩ | ⟨h1,h2⟩
 ·have hy:0<y:=by omega
  rw[Int.fdiv_eq_ediv_of_nonneg _ (by omega),Int.fmod_eq_emod_of_nonneg _ (by omega)]
  exact (Int.ediv_emod_unique hy).2 ⟨h,h1,h2⟩
 ·have hy:0 < -y:=by omega
  have h3:(-x).fdiv (-y)=q/\(-x).fmod (-y)=-r:=by
   rw[Int.fdiv_eq_ediv_of_nonneg _ (by omega),Int.fmod_eq_emod_of_nonneg _ (by omega)]
   refine (Int.ediv_emod_unique hy).2 ⟨?_,by omega,by omega⟩
   rw[<- h,Int.neg_mul];omega
  rw[Int.neg_fdiv_neg,Int.neg_fmod_neg] at h3
  exact ⟨h3.1,by omega⟩
theorem div_same{b c:Bool}{m n:Nat}(hn:0<n)(h:b=c\/m % n=0) :
  kN ((dD b m).fdiv (dD c n))=xU (!(b == c)) (m / n)/\kN ((dD b m).fmod (dD c n))=xU c (m % n):=by
 have h1:((m % n:Nat):Int)+(n:Int)*((m / n:Nat):Int)=(m:Int):=by
  have:=Nat.mod_add_div m n;exact_mod_cast this
 have h2:=Nat.mod_lt m hn
 rw[dH,dH]
 have key:(dD b m).fdiv (dD c n)=dD (!(b == c)) (m / n)/\(dD b m).fmod (dD c n)=dD c (m % n):=by
  have h3:((m % n:Nat):Int)=0\/b=c:=by rcases h with h | h;exact .inr h;exact .inl (by omega)
  generalize m / n=q at *
  generalize m % n=r at *
  refine fdiv_unique ?_ ?_
  ·cases b<;>cases c
   ·show (r:Int)+(n:Int)*(q:Int)=(m:Int);exact h1
   ·show -(r:Int)+(-(n:Int))*(-(q:Int))=(m:Int);rw[Int.neg_mul_neg];rcases h3 with h3 | h3;omega;cases h3
   ·show (r:Int)+(n:Int)*(-(q:Int))=-(m:Int);rw[Int.mul_neg];rcases h3 with h3 | h3;omega;cases h3
   ·show -(r:Int)+(-(n:Int))*(q:Int)=-(m:Int);rw[Int.neg_mul];omega
  ·cases c
   ·left;show 0<=(r:Int)/\(r:Int)<(n:Int);omega
   ·right;show -(n:Int) < -(r:Int)/\-(r:Int)<=0;omega
 rw[key.1,key.2]
 exact ⟨rfl,rfl⟩
theorem div_other{b c:Bool}{m n:Nat}(hn:0<n)(h:b≠c)(hr:0<m % n) :
  kN ((dD b m).fdiv (dD c n))=xU (!(b == c)) (m / n+1)/\kN ((dD b m).fmod (dD c n))=xU c (n-m % n):=by
 have h1:((m % n:Nat):Int)+(n:Int)*((m / n:Nat):Int)=(m:Int):=by
  have:=Nat.mod_add_div m n;exact_mod_cast this
 have h2:=Nat.mod_lt m hn
 rw[dH,dH]
 have key:(dD b m).fdiv (dD c n)=dD (!(b == c)) (m / n+1)/\(dD b m).fmod (dD c n)=dD c (n-m % n):=by
  have e1:(n:Int)*(((m / n+1:Nat)):Int)=(n:Int)*((m / n:Nat):Int)+n:=by
   rw[Int.natCast_add,Int.mul_add];simp
  generalize m / n=q at *
  generalize m % n=r at *
  refine fdiv_unique ?_ ?_
  ·cases b<;>cases c
   ·exact absurd rfl h
   ·show -((n-r:Nat):Int)+(-(n:Int))*(-((q+1:Nat):Int))=(m:Int);rw[Int.neg_mul_neg,e1];omega
   ·show ((n-r:Nat):Int)+(n:Int)*(-((q+1:Nat):Int))=-(m:Int);rw[Int.mul_neg,e1];omega
   ·exact absurd rfl h
  ·cases c
   ·left;show 0<=((n-r:Nat):Int)/\((n-r:Nat):Int)<(n:Int);omega
   ·right;show -(n:Int) < -((n-r:Nat):Int)/\-((n-r:Nat):Int)<=0;omega
 rw[key.1,key.2]
 exact ⟨rfl,rfl⟩
theorem r_div_same{X Y:Int}(hn:0<Y.natAbs)(h:(kN X).neg=(kN Y).neg\/¬ (0:Int)<(((ofNat (val (ofNat X.natAbs) % val (ofNat Y.natAbs))).length:Nat):Int)) :
  xU (!((kN X).neg == (kN Y).neg)) (val (ofNat (val (ofNat X.natAbs) / val (ofNat Y.natAbs))))=kN (X.fdiv Y):=by
 rw[kH,kH,kH]
 rw[kH,kH] at h
 have h1:=(div_same (b:=(kN X).neg) (c:=(kN Y).neg) (m:=X.natAbs) (n:=Y.natAbs) hn (by
  rcases h with h | h
  ·exact .inl h
  ·right
   rcases Nat.eq_zero_or_pos (X.natAbs % Y.natAbs) with h2 | h2
   ·exact h2
   ·have:=eH h2;omega)).1
 rw[mN,mN] at h1
 exact h1.symm
theorem r_div_other{X Y:Int}(hn:0<Y.natAbs)(h:(kN X).neg≠(kN Y).neg/\(0:Int)<(((ofNat (val (ofNat X.natAbs) % val (ofNat Y.natAbs))).length:Nat):Int)) :
  kN (jV (xU (!((kN X).neg == (kN Y).neg)) (val (ofNat (val (ofNat X.natAbs) / val (ofNat Y.natAbs)))))-jV (kN 1))=kN (X.fdiv Y):=by
 obtain ⟨h,h0⟩:=h
 rw[kH,kH] at h0
 have h2:0<X.natAbs % Y.natAbs:=by
  rcases Nat.eq_zero_or_pos (X.natAbs % Y.natAbs) with h3 | h3
  ·rw[h3,uC] at h0;simp at h0
  ·exact h3
 have h1:=(div_other hn h h2).1
 rw[mN,mN] at h1
 rw[h1,kH,kH,kH,dH,dH,dJ,dJ]
 have hb:(!((kN X).neg == (kN Y).neg))=true:=by rw[Bool.not_eq_true',beq_eq_false_iff_ne];exact h
 rw[hb]
 congr 1
 unfold dD
 rw[if_pos rfl,if_pos rfl];omega
theorem r_rem_eq(X Y:Int):kN (jV (kN X)-jV (kN (jV (kN (X.fdiv Y))*jV (kN Y))))=kN (X.fmod Y):=by
 rw[dJ,dJ,dJ,dJ,Int.fmod_def,Int.mul_comm]
def jM(q:Rat):kY:=⟨kN q.num,kN q.den⟩
def kT(x:kY):Bool:=uL x.num&&(uL x.den&&(decide (0<jV x.den)&&(Int.gcd (jV x.num) (jV x.den) == 1)))
def qS(x:kY):Rat:=if kT x=true then Rat.divInt (jV x.num) (jV x.den) else 0
theorem cP(q:Rat):kT (jM q)=true:=by
 unfold kT jM
 simp only[validI_ofZ,dJ,Bool.true_and,Bool.and_eq_true,decide_eq_true_eq,beq_iff_eq]
 refine ⟨by have:=q.den_pos;omega,?_⟩
 have:=q.reduced
 unfold Int.gcd
 rw[Int.natAbs_natCast]
 exact this
theorem vY(q:Rat):qS (jM q)=q:=by
 unfold qS
 rw[if_pos (cP q)]
 unfold jM
 simp only[dJ]
 exact Rat.num_divInt_den q
theorem ofQ_toQ{x:kY}(h:kT x=true):jM (qS x)=x:=by
 unfold qS
 rw[if_pos h]
 unfold kT at h
 simp only[Bool.and_eq_true,decide_eq_true_eq,beq_iff_eq] at h
 obtain ⟨h1,h2,h3,h4⟩:=h
 have e1:(Rat.divInt (jV x.num) (jV x.den)).num=jV x.num:=by
  rw[Rat.num_divInt,Int.gcd_comm,h4,Int.sign_eq_one_of_pos h3];simp
 have e2:(((Rat.divInt (jV x.num) (jV x.den)).den:Nat):Int)=jV x.den:=by
  rw[Rat.den_divInt,if_neg (by omega),Int.gcd_comm,h4];simp;omega
 unfold jM
 rw[e1,e2,ofZ_toZ h1,ofZ_toZ h2]
theorem toQ_bad{x:kY}(h:kT x=false):qS x=0:=by unfold qS;rw[if_neg (by rw[h];simp)]
def QL(q:Rat)(n:Nat):Prop:=dE q.num<=n/\dE q.den<=n
theorem uG{q:Rat}{m n:Nat}(h:QL q m)(hm:m<=n:=by decide):QL q n:=⟨Nat.le_trans h.1 hm,Nat.le_trans h.2 hm⟩
theorem ql_divInt{a b:Int}{n:Nat}(ha:dE a<=n)(hb:dE b<=n)(h1:1<=n):QL (Rat.divInt a b) n:=by
 constructor
 ·refine Nat.le_trans ?_ ha
  refine lI ?_
  rw[Rat.num_divInt]
  refine Nat.le_trans (Int.natAbs_ediv_le_natAbs _ _) ?_
  rw[Int.natAbs_mul]
  rcases Int.lt_trichotomy b 0 with h | h | h
  ·rw[Int.sign_eq_neg_one_of_neg h];simp
  ·rw[h];simp
  ·rw[Int.sign_eq_one_of_pos h];simp
 ·rw[Rat.den_divInt]
  split
  ·exact Nat.le_trans (by unfold dE;simp [mC,uC]) h1
  ·refine Nat.le_trans ?_ hb
   refine lI ?_
   rw[Int.natAbs_natCast]
   exact Nat.div_le_self _ _
theorem add_divInt(a b:Rat):a+b=Rat.divInt (a.num*b.den+b.num*a.den) (a.den*b.den):=by
 rw[Rat.add_def',<- Rat.divInt_ofNat,Int.natCast_mul]
theorem mul_divInt(a b:Rat):a*b=Rat.divInt (a.num*b.num) (a.den*b.den):=by
 rw[Rat.mul_def',<- Rat.divInt_ofNat,Int.natCast_mul]
theorem div_divInt(a b:Rat):a / b=Rat.divInt (a.num*b.den) (a.den*b.num):=by
 rw[Rat.div_def,Rat.inv_def]
 conv=>lhs;rw[<- Rat.num_divInt_den a]
 rw[Rat.divInt_mul_divInt]
theorem ql_add{a b:Rat}{m n k:Nat}(ha:QL a m)(hb:QL b n)(h:m+n+1<=k):QL (a+b) k:=by
 rw[add_divInt]
 refine ql_divInt (lenZ_add (cX ha.1 hb.2 (Nat.le_refl _)) (cX hb.1 ha.2 (Nat.le_refl _)) (by omega)) (cX ha.2 hb.2 (by omega)) (by omega)
theorem ql_neg{a:Rat}{m:Nat}(ha:QL a m):QL (-a) m:=⟨by rw[Rat.neg_num,lenZ_neg];exact ha.1,by rw[Rat.neg_den];exact ha.2⟩
theorem ql_sub{a b:Rat}{m n k:Nat}(ha:QL a m)(hb:QL b n)(h:m+n+1<=k):QL (a-b) k:=by
 rw[Rat.sub_eq_add_neg];exact ql_add ha (ql_neg hb) h
theorem ql_pos{a:Rat}{m:Nat}(ha:QL a m):1<=m:=by
 have h1:=fP.1 ha.2
 rcases Nat.eq_zero_or_pos m with h | h
 ·subst h;rw[cK] at h1;have:=a.den_pos;omega
 ·exact h
theorem yH{a b:Rat}{m n k:Nat}(ha:QL a m)(hb:QL b n)(h:m+n<=k:=by decide):QL (a*b) k:=by
 have h1:=ql_pos ha
 rw[mul_divInt]
 exact ql_divInt (cX ha.1 hb.1 h) (cX ha.2 hb.2 h) (by omega)
theorem ql_div{a b:Rat}{m n k:Nat}(ha:QL a m)(hb:QL b n)(h:m+n<=k:=by decide):QL (a / b) k:=by
 have h1:=ql_pos ha
 rw[div_divInt]
 exact ql_divInt (cX ha.1 hb.2 h) (cX ha.2 hb.1 h) (by omega)
theorem uB{z:Int}(h:z.natAbs<1000000000:=by decide):dE z<=1:=fP.2 (by rw[show (1:Nat)=0+1 from rfl,uZ,cK];omega)
theorem vL{z:Int}{n:Nat}(h:dE z<=n)(h1:1<=n:=by decide):QL (z:Rat) n:=⟨h,Nat.le_trans (uB (by simp)) h1⟩
theorem cY:QL 0 1:=⟨uB (by simp),uB (by simp)⟩
theorem ql_ite{p:Prop}[Decidable p]{a b:Rat}{n:Nat}(ha:QL a n)(hb:QL b n):QL (if p then a else b) n:=by split<;>assumption
theorem ql_min{a b:Rat}{n:Nat}(ha:QL a n)(hb:QL b n):QL (min a b) n:=by rw[Rat.min_def];exact ql_ite ha hb
theorem ql_max{a b:Rat}{n:Nat}(ha:QL a n)(hb:QL b n):QL (max a b) n:=by rw[Rat.max_def];exact ql_ite hb ha
structure yB (x:kY) (q:Rat) (n:Nat):Prop where
 v:qS x=q
 p:1<=n
 n1:x.num.gs.length<=n
 n2:x.den.gs.length<=n
theorem yB.ql{x:kY}{q:Rat}{n:Nat}(h:yB x q n):QL q n:=by
 rw[<- h.v]
 by_cases hv:kT x=true
 ·unfold qS;rw[if_pos hv]
  exact ql_divInt (Nat.le_trans (eF _) h.n1) (Nat.le_trans (eF _) h.n2) h.p
 ·unfold qS;rw[if_neg hv]
  exact uG cY h.p
theorem jZ{q:Rat}{n:Nat}(h:QL q n):yB (jM q) q n:=⟨vY q,ql_pos h,h.1,h.2⟩
theorem uK{q:Rat}{n:Nat}(h:QL q n):dP (jM q).num q.num n:=iok_of h.1
theorem qU{q:Rat}{n:Nat}(h:QL q n):dP (jM q).den q.den n:=iok_of h.2
theorem jO{x:kY}{a:Rat}{m n:Nat}(hx:yB x a m)(h:m<=n:=by decide):yB x a n:=⟨hx.v,Nat.le_trans hx.p h,Nat.le_trans hx.n1 h,Nat.le_trans hx.n2 h⟩
theorem divInt_parts{a b:Int}(hb:0<b):jM (Rat.divInt a b)=⟨kN (a.fdiv (Int.gcd a b)),kN (b.fdiv (Int.gcd a b))⟩:=by
 unfold jM
 have e1:(Rat.divInt a b).num=a.fdiv (Int.gcd a b):=by
  rw[Rat.num_divInt,Int.sign_eq_one_of_pos hb,Int.one_mul,Int.gcd_comm,Int.fdiv_eq_ediv_of_nonneg _ (by omega)]
 have e2:(((Rat.divInt a b).den:Nat):Int)=b.fdiv (Int.gcd a b):=by
  rw[Rat.den_divInt,if_neg (by omega),Int.gcd_comm,Int.fdiv_eq_ediv_of_nonneg _ (by omega),Int.natCast_ediv]
  congr 1;omega
 rw[e1,e2]
def gE(a b:Rat):Int:=if a<b then -1 else if b<a then 1 else 0
theorem cmpQ_cross(a b:Rat):uY (a.num*b.den) (b.num*a.den)=gE a b:=by
 unfold uY gE
 simp only[Rat.lt_iff]
def aE(a:Rat):Int:=qZ a.num
theorem signQ_sub(a b:Rat):aE (a-b)=gE a b:=by
 unfold aE qZ gE
 have h1:(a-b).num=0↔a-b=0:=Rat.num_eq_zero
 have h2:0<=(a-b).num↔0<=a-b:=Rat.num_nonneg
 have h3:b<=a↔0<=a-b:=Rat.le_iff_sub_nonneg b a
 by_cases hlt:a<b
 ·have h4:¬ 0<=(a-b).num:=λh=>Rat.not_le.2 hlt (h3.2 (h2.1 h))
  rw[if_neg (by omega),if_pos (by omega),if_pos hlt]
 ·have h4:0<=(a-b).num:=h2.2 (h3.1 (Rat.not_lt.1 hlt))
  rw[if_neg hlt]
  by_cases hgt:b<a
  ·have h5:(a-b).num≠0:=λh=>by
    have h6:=h1.1 h
    have h7:=(Rat.lt_iff_sub_pos b a).1 hgt
    rw[h6] at h7;exact Rat.lt_irrefl h7
   rw[if_neg h5,if_neg (by omega),if_pos hgt]
  ·have h5:a=b:=Rat.le_antisymm (Rat.not_lt.1 hgt) (Rat.not_lt.1 hlt)
   have h6:(a-b).num=0:=h1.2 (by rw[h5];exact Rat.sub_self)
   rw[if_pos h6,if_neg hgt]
theorem copied_eq{x:kY}(h:kT x=true):(⟨kN (-(-jV x.num)),kN (-(-jV x.den))⟩:kY)=jM (qS x):=by
 have h0:=h
 unfold kT at h
 simp only[Bool.and_eq_true] at h
 rw[ofQ_toQ h0,Int.neg_neg,Int.neg_neg,ofZ_toZ h.1,ofZ_toZ h.2.1]
theorem red_neg{a b:Int}(hb:b<0):(⟨kN ((-a).fdiv (Int.gcd (-a) (-b))),kN ((-b).fdiv (Int.gcd (-a) (-b)))⟩:kY)=jM (Rat.divInt a b):=by
 rw[<- divInt_parts (by omega),Rat.neg_divInt_neg]
theorem red_pos{a b:Int}(hb:¬ b<0)(h0:b≠0):(⟨kN (a.fdiv (Int.gcd a b)),kN (b.fdiv (Int.gcd a b))⟩:kY)=jM (Rat.divInt a b):=(divInt_parts (by omega)).symm
theorem gcd_ne{a b:Int}(hb:b≠0):((Int.gcd a b:Nat):Int)≠0:=by
 intro h
 have h1:Int.gcd a b=0:=by omega
 rw[Int.gcd_eq_zero_iff] at h1
 exact hb h1.2
theorem lenZ_gcd{a b:Int}{n:Nat}(hb:b≠0)(h:dE b<=n):dE ((Int.gcd a b:Nat):Int)<=n:=by
 refine Nat.le_trans (lI ?_) h
 rw[Int.natAbs_natCast]
 exact Nat.le_of_dvd (by omega) (Int.gcd_dvd_natAbs_right a b)
theorem signI_le{z:Int}:qZ z<=0↔z<=0:=by
 rcases yL z with ⟨h1,h2⟩ | ⟨h1,h2⟩ | ⟨h1,h2⟩<;>omega
theorem signI_lt{z:Int}:qZ z<0↔z<0:=by
 rcases yL z with ⟨h1,h2⟩ | ⟨h1,h2⟩ | ⟨h1,h2⟩<;>omega
theorem cmpI_zero{a b:Int}:uY a b=0↔a=b:=by
 unfold uY
 split
 ·constructor<;>intro h<;>omega
 ·split<;>constructor<;>intro h<;>omega
theorem validR_no{x:kY}(h:((!uL x.num||!uL x.den)||decide (qZ (jV x.den)<=0))=true):kT x=false:=by
 unfold kT
 rw[Bool.or_eq_true,Bool.or_eq_true,Bool.not_eq_true',Bool.not_eq_true',decide_eq_true_eq,signI_le] at h
 rcases h with (h | h) | h
 ·rw[h];rfl
 ·rw[h];simp
 ·rw[show decide (0<jV x.den)=false from decide_eq_false (by omega)];simp
theorem validR_yes{x:kY}(h:((!uL x.num||!uL x.den)||decide (qZ (jV x.den)<=0))=false):kT x=(uY ((Int.gcd (jV x.num) (jV x.den):Nat):Int) 1 == 0):=by
 unfold kT
 rw[Bool.or_eq_false_iff,Bool.or_eq_false_iff,Bool.not_eq_false',Bool.not_eq_false',decide_eq_false_iff_not,signI_le] at h
 obtain ⟨⟨h1,h2⟩,h3⟩:=h
 rw[h1,h2,show decide (0<jV x.den)=true from decide_eq_true (by omega)]
 simp only[Bool.true_and]
 rw[Bool.eq_iff_iff,beq_iff_eq,beq_iff_eq,cmpI_zero]
 omega
def divR(p q:Rat):kY:=if q=0 then ⟨⟨false,[]⟩,⟨false,[]⟩⟩ else jM (p / q)
def divC(q:Rat):Int:=if q=0 then 14 else 0
theorem divR_ne{p q:Rat}(h:q≠0):divR p q=jM (p / q):=if_neg h
theorem divC_zero{q:Rat}(h:q=0):divC q=14:=if_pos h
theorem divC_ne{q:Rat}(h:q≠0):divC q=0:=if_neg h
theorem mul_ne{a b:Int}(ha:a≠0)(hb:b≠0):a*b≠0:=Int.mul_ne_zero ha hb
theorem bK(q:Rat):(q.den:Int)≠0:=by have:=q.den_pos;omega
theorem num_ne{q:Rat}(h:q≠0):q.num≠0:=λe=>h (Rat.num_eq_zero.1 e)
theorem dA{x y:kW}{a b:Int}{m n k:Nat}(hx:dP x a m)(hy:dP y b n)(h:max m n<=k:=by decide):dP (kN ((Int.gcd a b:Nat):Int)) ((Int.gcd a b:Nat):Int) k:=iok_of (by
 by_cases hb:b=0
 ·subst hb
  rw[Int.gcd_zero_right]
  refine Nat.le_trans (lI (z:=a) ?_) (Nat.le_trans hx.ln (by omega))
  simp
 ·exact Nat.le_trans (lenZ_gcd hb hy.ln) (by omega))
theorem cE{z:Int}(h1:-9223372036854775808<=z:=by decide)(h2:z<=9223372036854775807:=by decide):dE z<=3:=aB (by omega)
theorem red_neg2{a b:Int}(hb:b<0):jM (Rat.divInt a b)=⟨kN (a.fdiv (-((Int.gcd a b:Nat):Int))),kN (b.fdiv (-((Int.gcd a b:Nat):Int)))⟩:=by
 rw[<- red_neg hb]
 have e:Int.gcd (-a) (-b)=Int.gcd a b:=by simp
 rw[e]
 have h1:=Int.neg_fdiv_neg a (-((Int.gcd a b:Nat):Int))
 have h2:=Int.neg_fdiv_neg b (-((Int.gcd a b:Nat):Int))
 rw[Int.neg_neg] at h1 h2
 rw[h1,h2]
def newR(a b:Int):kY:=if b=0 then ⟨⟨false,[]⟩,⟨false,[]⟩⟩ else jM (Rat.divInt a b)
def newC(b:Int):Int:=if b=0 then 14 else 0
theorem sign0{b:Int}(h:qZ b=0):b=0:=by
 rcases yL b with ⟨h1,h2⟩ | ⟨h1,h2⟩ | ⟨h1,h2⟩<;>omega
theorem newR_div(p q:Rat):newR (p.num*q.den) (p.den*q.num)=divR p q:=by
 unfold newR divR
 by_cases h:q=0
 ·subst h;simp
 ·rw[if_neg h,if_neg (mul_ne (bK p) (num_ne h)),div_divInt]
theorem newC_div(p q:Rat):newC (p.den*q.num)=divC q:=by
 unfold newC divC
 by_cases h:q=0
 ·subst h;simp
 ·rw[if_neg h,if_neg (mul_ne (bK p) (num_ne h))]
open Go.RowKit (Below)
theorem sim_put{C:Ctx}{a:Act}{w:World}{S:SL}{B:BS}{D:kV}{β:kX}{t:Tmp}{v:Value}{x:SV}(h:iJ C a w ⟨S,B⟩ D β)(hd:nE C.n (some t)=true)(hx:kZ w D β v x):iJ C (a.put (some t) v) w ⟨(t,x)::S,B⟩ D β :=
 ⟨h.base.put hd _,h.mem,h.high,λu=>by
  show kZ w D β ((a.put (some t) v).tmps.getD u undef) (kD ((t,x)::S) u)
  rw[vO h.base.size hd,qQ]
  by_cases e:t=u
  ·rw[if_pos e,if_pos (by rw[e])];exact hx
  ·rw[if_neg e,if_neg (λe'=>e (by injection e'))];exact h.slots u⟩
theorem pwp_nilq{P:Program}{n:Fr}{S:SL}{B:BS}{Q:Exit->PS->Prop}{id:Nat}{o1 o2:Oper}{t0 ta tb:Tmp}{T T' E t:TypeId}{s s':Nat}{es:List jY}
  (h1:o1.op=.move (.tmp t0)) (h1d:o1.dst=some ta) (h1g:o1.guard=none) (h2:o2.op=.binOp .eql T (.tmp ta) (.const (.slice none 0 0)) T') (h2d:o2.dst=some tb) (h2g:o2.guard=none)
  (hT:uU P T=some (E,s)) (hda:nE n (some ta)=true) (hdb:nE n (some tb)=true) (hx:kD S t0=.d (.sl t s' es))
  (hq:∀ b:Bool,(b=true->es=[])->Q .normal ⟨(tb,.d (.val (.bool b)))::(ta,.d (.sl t s' es))::S,B⟩):eM P n (.region id #[o1,o2] false) Q ⟨S,B⟩:=λC a w N hn hs=>by
 subst hn
 obtain ⟨D,β,hs⟩:=hs
 have hv:=hs.slots t0
 have hv':kZ w D β (a.tmps.getD t0 undef) (kD S t0):=hv
 rw[hx] at hv'
 have hev:a.eval (.tmp t0)=a.tmps.getD t0 undef:=rfl
 generalize a.tmps.getD t0 undef=v at hv' hev
 have hv'':uS w D v (.sl t s' es):=hv'
 obtain ⟨i,f1,f2,f3⟩:=cL hT
 cases hv'' with
 |sl g off u hnn hcc hmm hss ha hD hu eD hrr=>
 rename_i ad len cap
 subst hnn
 have hp1:yZ o1=true:=by simp [yZ,h1]
 have hp2:yZ o2=true:=by simp [yZ,h2]
 have hs1:=sim_put hs hda hv'
 have hs2:=sim_put (v:=.bool ad.isNone) hs1 hdb (x:=.d (.val (.bool ad.isNone))) (uS.val _)
 refine wpIn_region_lit (wpListIn_plain h1g λK1 hK1=>oD hp1 (cF (v:=.slice ad es.length cap) (w':=w) ?_ (hK1 _ _ (wpListIn_plain h2g λK2 hK2=>oD hp2 (cF (v:=.bool ad.isNone) (w':=w) ?_ (hK2 _ _ (wpListIn_nil ?_)))))))
 ·simp only[execOp,h1,hev,Sem.run_pure]
 ·have hta:(a.put o1.dst (Value.slice ad es.length cap)).eval (.tmp ta)=.slice ad es.length cap:=by
   show (a.put o1.dst (Value.slice ad es.length cap)).tmps.getD ta undef=_
   rw[h1d,vO hs.base.size hda,if_pos rfl]
  have hce:(a.put o1.dst (Value.slice ad es.length cap)).eval (.const (.slice none 0 0))=.slice none 0 0:=rfl
  have heq:∀ d:Nat,(Op.equalIn (d+1) T (.slice ad es.length cap) (.slice none 0 0)).run P w=.ok ad.isNone w:=λd=>by
   cases ad<;>simp [Op.equalIn,run_underlying f1]
  have heq':(Op.equal T (.slice ad es.length cap) (.slice none 0 0)).run P w=.ok ad.isNone w:=heq 9999
  simp only[execOp,h2,hta,hce]
  simp [eqGuard,binOp,heq']
 ·rw[h1d,h2d]
  refine ⟨_,⟨D,β,hs2⟩,hq _ λhb=>?_⟩
  cases ad with
  |none=>
   refine eq_nil_of_length_eq_zero ?_
   rcases Nat.eq_zero_or_pos es.length with h | h
   ·exact h
   ·have:=ha h;cases this
  |some x=>cases hb
end Go.Fid
