/- Part 25 of a proof: rules, plain facts, and functions walked. -/
import Derived.Test.YtckccjhflbljgaaGreatDoorM24
import Derived.Test.YtckccjhflbljgaaGreatDoorM22
import Derived.Test.YtckccjhflbljgaaGreatDoorM11
import Derived.Test.YtckccjhflbljgaaGreatDoorM12
import Derived.Test.YtckccjhflbljgaaGreatDoorM23
set_option linter.all false
set_option maxRecDepth 4000
namespace Go.Fid
open List
section
variable {i n:Int} {t:List jS}
theorem drc_ov(h:DRC i t=0)(hl:0<t.length):iX i t=drvT i t/\(dU i t t.length).1.ov=false:=by
 unfold DRC at h
 unfold iX
 rcases hb:dOv i t with _ | _
 ·refine ⟨if_neg (by simp),?_⟩
  unfold dOv at hb
  rw[any_eq_false] at hb
  have:=hb (t.length-1) (mem_range.2 (by omega))
  rw[show t.length-1+1=t.length by omega] at this
  simpa using this
 ·rw[hb] at h;exact absurd h (by decide)
theorem drv_nf{A:Type}{d:A}{f:Nf A}(hA:Alg A d f)(hT:TxI)(h0:yT n t=0)(hq:∀ x∈t,yB x.n (qS x.n) 1048576)(hc:DRC i t=0) :
  eV d f (iX i t) ((iX i t).length-1)=(dfU d f i t t.length).getD (t.length-1) d/\0<(iX i t).length:=by
 have t0:=dF h0
 have qM:0<t.length:=by omega
 obtain ⟨d2,hov⟩:=drc_ov hc qM
 rw[d2]
 have sm:=dU_sem hA hT (i:=i) h0 hq t.length (Nat.le_refl _) hov
 have iv:=dInv (i:=i) h0 hq t.length (Nat.le_refl _)
 have ixm:gV (dU i t t.length).1 (gI (dU i t t.length).2.2 ((t.length:Int)-1)):=iv.hS _ (by omega)
 have val:=sm.s (t.length-1) (by omega)
 have e1:gI (dU i t t.length).2.2 ((t.length:Int)-1)=(dU i t t.length).2.2.getD (t.length-1) 0:=by
  unfold gI;rw[show ((t.length:Int)-1).toNat=t.length-1 by omega]
 unfold drvT
 dsimp only
 rw[e1] at ixm ⊢
 have hm:=qO ixm
 obtain ⟨l1,l2⟩:=trim_last (d:=d) hA.ok sm.sb.hB.ho hm
 exact ⟨l2.trans val,l1⟩
theorem drv_c0(hT:TxI)(h0:yT n t=0)(hq:∀ x∈t,yB x.n (qS x.n) 8)(hc:DRC i t=0):yT n (iX i t)=0/\∀ x∈iX i t,yB x.n (qS x.n) 8:=by
 have hqJ:∀ x∈t,yB x.n (qS x.n) 1048576:=λx hx=>jO (hq x hx) (by decide)
 have t0:=dF h0
 have qM:0<t.length:=by omega
 obtain ⟨d2,hov⟩:=drc_ov hc qM
 rw[d2]
 have sm:=dU_sem (fR_alg []) hT (i:=i) h0 hqJ t.length (Nat.le_refl _) hov
 have iv:=dInv (i:=i) h0 hqJ t.length (Nat.le_refl _)
 have gd:=dU_gd (R:=λ_:Rat=>True) (m:=8) (fR_alg []) hT (i:=i) h0 hqJ (by decide) (λx hx _=>(hq x hx).ql) (λk hk ho=>trivial) t.length (Nat.le_refl _) hov
 have ixm:gV (dU i t t.length).1 (gI (dU i t t.length).2.2 ((t.length:Int)-1)):=iv.hS _ (by omega)
 unfold drvT
 dsimp only
 have hm:=qO ixm
 have ho:OrdT (dU i t t.length).1.tm:=sm.sb.hB.ho
 have hl4:=sm.sb.hB.hl
 have hus:=sm.sb.hB.hu
 have hsz:=sm.sb.hB.hs
 have usS:=us_fS sm.sb
 generalize (gI (dU i t t.length).2.2 ((t.length:Int)-1)).toNat=m at hm ⊢
 generalize hB:(dU i t t.length).1=B at *
 obtain ⟨l1,l2⟩:=trim_last (d:=(0:Rat)) (fR_alg []).ok ho hm
 have tl:=trim_le B.tm m
 have np:∀ q,q<(yY B.tm m).length->NPx n 8 ((yY B.tm m).getD q tz):=λq hq=>by
  obtain ⟨nm,j,j1,j2,_⟩:=trim_nd2 ho hm hq
  rw[j2];exact (gd j j1).1.rn
 have kd:∀ q,q<(yY B.tm m).length->0<=qB ((yY B.tm m).getD q tz).op:=λq hq=>kd_nn (np q hq).o0 (np q hq).o7
 have hu:bN n (yY B.tm m) (yY B.tm m).length:=λq hq=>by
  obtain ⟨nm,j,j1,j2,j3,j4⟩:=trim_nd2 ho hm hq
  refine (np q hq).nd (by rw[xE];exact j3) ?_
  rw[szU_fS q (λj hj=>kd j (by omega)),szN_fS (kd q hq)]
  have e:eV 0 fS (yY B.tm m) q=_:=nfU_at _ _ q hq
  rw[<- e,(j4 Int 0 fS fS_ok).1,<- usS (j+1) j (Nat.lt_succ_self _) j1]
  exact (hsz j (by omega)).2
 refine ⟨(tm_yes (by omega) (by omega) (by omega) hu).1,λx hx=>?_⟩
 obtain ⟨q,hq,rfl⟩:=getElem_of_mem hx
 have:=(np q hq).q (by decide)
 rwa [getD_eq_getElem?_getD,getElem?_eq_getElem hq] at this
theorem drv_gen(hT:TxI){xs:List Rat}(hr:VRun xs t)(hq:∀ x∈t,yB x.n (qS x.n) 8)(hx:∀ q∈xs,QL q 24)(hc:DRC i t=0):Drv xs i t (iX i t):=by
 have h0:=hr.c0
 have hqJ:∀ x∈t,yB x.n (qS x.n) 1048576:=λx hx=>jO (hq x hx) (by decide)
 have t0:=dF h0
 have qM:0<t.length:=by omega
 obtain ⟨val,_⟩:=drv_nf (fR_alg xs) hT h0 hqJ hc
 obtain ⟨c0,hq8⟩:=drv_c0 hT h0 hq hc
 have k0:=fun {j:Nat} (hj:j<(iX i t).length)=>nd_k c0 (λx hx=>jO (hq8 x hx) (by decide)) hj
 have hu:=(dF c0).2.2.2.2
 have vb:=λk hk=>vb_all hu hq8 hx (k:=k) hk
 have vu:∀ k,k<=(iX i t).length->vU xs (iX i t) k=aG 0 (fR xs) (iX i t) k:=λk hk=>vU_fR xs _ k λj hj=>(k0 (show j<(iX i t).length by omega)).2.2
 refine ⟨hq8,⟨c0,⟨λk hk=>?_,λk hk h5=>?_⟩⟩,?_⟩
 ·obtain ⟨s,s1,s2,s3⟩:=vb_node (hu k hk) ((xE _ k).trans (aD xs _ k).symm) (hq8 _ (qG hk)) hx (vb k (by omega))
  obtain ⟨_,_,_,s4⟩:=nd_0 (hu k hk)
  exact uG s3 (bd_4096 (by omega))
 ·rw[vu k (by omega)]
  revert h5 hk
  obtain ⟨d2,hov⟩:=drc_ov hc qM
  rw[d2]
  intro hk h5
  have sm:=dU_sem (fR_alg xs) hT (i:=i) h0 hqJ t.length (Nat.le_refl _) hov
  have iv:=dInv (i:=i) h0 hqJ t.length (Nat.le_refl _)
  have hop:∀ j,j<t.length->0<=(t.getD j tz).op/\(t.getD j tz).op<=7:=λj hj=>(nd_k h0 hqJ hj).2.2
  have gd:=dU_gd (R:=λv:Rat=>v≠0) (m:=8) (fR_alg xs) hT (i:=i) h0 hqJ (by decide) (λx hx _=>(hq x hx).ql) (λk hk ho=>by
   have:=hr.up.dz k hk ho
   rwa [vU_fR xs t k (λj hj=>hop j (by omega))] at this) t.length (Nat.le_refl _) hov
  have ixm:gV (dU i t t.length).1 (gI (dU i t t.length).2.2 ((t.length:Int)-1)):=iv.hS _ (by omega)
  unfold drvT at hk h5 ⊢
  dsimp only at hk h5 ⊢
  have hm:=qO ixm
  have ho:OrdT (dU i t t.length).1.tm:=sm.sb.hB.ho
  generalize (gI (dU i t t.length).2.2 ((t.length:Int)-1)).toNat=m at hm hk h5 ⊢
  generalize hB:(dU i t t.length).1=B at *
  obtain ⟨nm,j,j1,j2,j3,j4⟩:=trim_nd2 ho hm hk
  have o5:(B.tm.getD j tz).op=5:=by rw[j2,(rnN_op _ _).1] at h5;exact h5
  have kb:=j3.2 (by rw[h5];decide)
  have eb:((yY B.tm m).getD k tz).b=nm.getD (B.tm.getD j tz).b.toNat 0:=by rw[j2];exact rnN_b (by rw[o5];decide)
  rw[eV_at (by omega) (by omega),eb,(j4 Rat 0 (fR xs) (fR_alg xs).ok).2 (by rw[o5];decide)]
  exact (gd j j1).2 o5
 ·unfold uJ
  rw[vu _ (Nat.le_refl _)]
  exact val
end
def fD(xs:List Rat)(k:Int):Nf (Rat × Rat):=λo a u v n=>
 if o=1 then (xs.getD a.toNat 0,if a=k then 1 else 0)
 else if o=2 then (u.1+v.1,u.2+v.2)
 else if o=3 then (u.1-v.1,u.2-v.2)
 else if o=4 then (u.1*v.1,u.1*v.2+v.1*u.2)
 else if o=6 then (-u.1,-u.2)
 else if o=7 then (u.1*u.1,2*(u.1*u.2))
 else if o=5 then (u.1 / v.1,(u.2-u.1 / v.1*v.2) / v.1)
 else if o=0 then (qS n,0)
 else (0,0)
theorem fD_other{xs:List Rat}{k o a:Int}{u v:Rat × Rat}{n:kY}(h:¬ (o=0\/o=1))(h2:¬ (o=6\/o=7))(h3:¬ (o=2\/o=3\/o=4\/o=5)):fD xs k o a u v n=(0,0):=by
 unfold fD
 rw[if_neg (by omega),if_neg (by omega),if_neg (by omega),if_neg (by omega),if_neg (by omega),if_neg (by omega),if_neg (by omega),if_neg (by omega)]
theorem fD_alg(xs:List Rat)(k:Int):Alg (Rat × Rat) (0,0) (fD xs k):=by
 have z0:qS (jM 0)=0:=vY 0
 have z1:qS (jM 1)=1:=vY 1
 refine ⟨⟨λo a u v u' v' n h=>?_,λo a a' u v v' n h=>?_,λo a a' u v n h=>?_,λo a u v n n' h=>?_⟩,λa a' p q h=>?_,λx n=>?_,λx n=>?_,λx n=>?_,λx n=>?_,λx n=>?_,λx n=>?_,λx n=>?_,λx n=>?_,λx n=>?_⟩
 ·rcases vJ o with ⟨e,g⟩ | ⟨e,g⟩ | ⟨e,g⟩ | ⟨e,g1,g2,g3⟩
  ·rcases g with rfl | rfl<;>rfl
  ·omega
  ·omega
  ·rw[fD_other g1 g2 g3,fD_other g1 g2 g3]
 ·rcases vJ o with ⟨e,g⟩ | ⟨e,g⟩ | ⟨e,g⟩ | ⟨e,g1,g2,g3⟩
  ·omega
  ·rcases g with rfl | rfl<;>rfl
  ·omega
  ·omega
 ·rcases vJ o with ⟨e,g⟩ | ⟨e,g⟩ | ⟨e,g⟩ | ⟨e,g1,g2,g3⟩
  ·omega
  ·omega
  ·rcases g with rfl | rfl | rfl | rfl<;>rfl
  ·omega
 ·rcases vJ o with ⟨e,g⟩ | ⟨e,g⟩ | ⟨e,g⟩ | ⟨e,g1,g2,g3⟩
  ·rcases g with rfl | rfl
   ·exact absurd rfl h
   ·rfl
  ·rcases g with rfl | rfl<;>rfl
  ·rcases g with rfl | rfl | rfl | rfl<;>rfl
  ·rw[fD_other g1 g2 g3,fD_other g1 g2 g3]
 ·show (qS p,(0:Rat))=(qS q,0);rw[h]
 ·show (qS (jM 0)+x.1,0+x.2)=x;rw[z0,Rat.zero_add,Rat.zero_add]
 ·show (x.1+qS (jM 0),x.2+0)=x;rw[z0,Rat.add_zero,Rat.add_zero]
 ·show (x.1-qS (jM 0),x.2-0)=x;rw[z0];exact Prod.ext (by show x.1-0=x.1;grind) (by show x.2-0=x.2;grind)
 ·show (qS (jM 0)-x.1,0-x.2)=(-x.1,-x.2);rw[z0];exact Prod.ext (by show 0-x.1=-x.1;grind) (by show 0-x.2=-x.2;grind)
 ·show (qS (jM 0)*x.1,qS (jM 0)*x.2+x.1*0)=(qS (jM 0),0);rw[z0,Rat.zero_mul,Rat.zero_mul,Rat.mul_zero,Rat.zero_add]
 ·show (x.1*qS (jM 0),x.1*0+qS (jM 0)*x.2)=(qS (jM 0),0);rw[z0,Rat.mul_zero,Rat.zero_mul,Rat.zero_add]
 ·show (qS (jM 1)*x.1,qS (jM 1)*x.2+x.1*0)=x;rw[z1,Rat.one_mul,Rat.one_mul,Rat.mul_zero,Rat.add_zero]
 ·show (x.1*qS (jM 1),x.1*0+qS (jM 1)*x.2)=x;rw[z1,Rat.mul_one,Rat.mul_zero,Rat.one_mul,Rat.zero_add]
 ·show (qS (jM 0) / x.1,(0-qS (jM 0) / x.1*x.2) / x.1)=(qS (jM 0),0)
  have e:(0:Rat) / x.1=0:=by rw[Rat.div_def,Rat.zero_mul]
  rw[z0,e,Rat.zero_mul,show (0:Rat)-0=0 by grind,e]
def s2N(x:jS)(va vb ai bi ak bk ha hb q qi qk:Rat):Rat :=
 if x.op=2 then ha+hb
 else if x.op=3 then ha-hb
 else if x.op=4 then va*hb+vb*ha+ai*bk+ak*bi
 else if x.op=6 then -ha
 else if x.op=7 then 2*(va*ha+ai*ak)
 else if x.op=5 then (ha-(qi*bk+qk*bi+q*hb)) / vb
 else 0
def d1(xs:List Rat)(i:Int)(t:List jS)(k:Nat)(z:Int):Rat:=(dfU 0 (fR xs) i t k).getD z.toNat 0
def v0(xs:List Rat)(t:List jS)(k:Nat)(z:Int):Rat:=(aG 0 (fR xs) t k).getD z.toNat 0
def d1N(xs:List Rat)(i:Int)(t:List jS)(k:Nat):Rat :=
 dfN 0 (fR xs) i (t.getD k tz) (v0 xs t k (t.getD k tz).a) (v0 xs t k (t.getD k tz).b) (d1 xs i t k (t.getD k tz).a) (d1 xs i t k (t.getD k tz).b) (nfV 0 (fR xs) (aG 0 (fR xs) t k) (t.getD k tz))
def s2U(xs:List Rat)(i j:Int)(t:List jS):Nat->List Rat
 |0=>[]
 |k+1=>s2U xs i j t k++[s2N (t.getD k tz) (v0 xs t k (t.getD k tz).a) (v0 xs t k (t.getD k tz).b) (d1 xs i t k (t.getD k tz).a) (d1 xs i t k (t.getD k tz).b) (d1 xs j t k (t.getD k tz).a) (d1 xs j t k (t.getD k tz).b)
   ((s2U xs i j t k).getD (t.getD k tz).a.toNat 0) ((s2U xs i j t k).getD (t.getD k tz).b.toNat 0) (nfV 0 (fR xs) (aG 0 (fR xs) t k) (t.getD k tz)) (d1N xs i t k) (d1N xs j t k)]
theorem s2U_len(xs:List Rat)(i j:Int)(t:List jS):∀ k,(s2U xs i j t k).length=k
 |0=>rfl
 |k+1=>by rw[s2U,length_append,s2U_len xs i j t k];rfl
theorem s2N_symm(x:jS)(va vb ai bi ak bk ha hb q qi qk:Rat):s2N x va vb ai bi ak bk ha hb q qi qk=s2N x va vb ak bk ai bi ha hb q qk qi:=by
 unfold s2N
 rw[show va*hb+vb*ha+ai*bk+ak*bi=va*hb+vb*ha+ak*bi+ai*bk by grind,show va*ha+ai*ak=va*ha+ak*ai by grind,show qi*bk+qk*bi+q*hb=qk*bi+qi*bk+q*hb by grind]
theorem s2U_symm(xs:List Rat)(i j:Int)(t:List jS):∀ k,s2U xs i j t k=s2U xs j i t k
 |0=>rfl
 |k+1=>by rw[s2U,s2U,s2U_symm xs i j t k,s2N_symm]
theorem dfU_s(xs:List Rat)(i:Int)(t:List jS)(k:Nat):dfU 0 (fR xs) i t (k+1)=dfU 0 (fR xs) i t k++[d1N xs i t k]:=rfl
section
variable {xs:List Rat} {i k:Int} {t:List jS}
theorem pair_snoc{P:List (Rat × Rat)}{U V:List Rat}{p:Rat × Rat}{u v:Rat}(hU:U.length=P.length)(hV:V.length=P.length)(h:∀ j,P.getD j (0,0)=(U.getD j 0,V.getD j 0))(hp:p=(u,v))(j:Nat) :
  (P++[p]).getD j (0,0)=((U++[u]).getD j 0,(V++[v]).getD j 0):=by
 rw[qC,qC,qC,hU,hV]
 by_cases h1:j<P.length
 ·rw[if_pos h1,if_pos h1,if_pos h1];exact h j
 ·rw[if_neg h1,if_neg h1,if_neg h1]
  by_cases h2:j=P.length
  ·rw[if_pos h2,if_pos h2,if_pos h2,hp]
  ·rw[if_neg h2,if_neg h2,if_neg h2]
theorem fD_get:∀ m,(∀ j,j<m->0<=(t.getD j tz).op/\(t.getD j tz).op<=7)->∀ j,(aG (0,0) (fD xs k) t m).getD j (0,0)=((aG 0 (fR xs) t m).getD j 0,(dfU 0 (fR xs) k t m).getD j 0)
 |0,_,j=>rfl
 |m+1,h,j=>by
  have ih:=fD_get m (λj hj=>h j (by omega))
  obtain ⟨o0,o7⟩:=h m (Nat.lt_succ_self m)
  have z0:qS (jM 0)=0:=vY 0
  have z1:qS (jM 1)=1:=vY 1
  have z2:qS (jM 2)=2:=vY 2
  refine pair_snoc (by rw[eN,eN]) (by rw[fM,eN]) ih ?_ j
  unfold nfV
  rw[ih,ih]
  unfold dfN
  rcases iN o0 o7 with e | e | e | e | e | e | e | e
  ·simp only[e];exact Prod.ext rfl (show (0:Rat)=qS (jM 0) from z0.symm)
  ·simp only[e]
   refine Prod.ext rfl ?_
   show (if (t.getD m tz).a=k then (1:Rat) else 0)=if (t.getD m tz).a=k then qS (jM 1) else qS (jM 0)
   rw[z0,z1]
  ·simp only[e];rfl
  ·simp only[e];rfl
  ·simp only[e];rfl
  ·simp only[e];rfl
  ·simp only[e]
   refine Prod.ext rfl ?_
   show -(dfU 0 (fR xs) k t m).getD (t.getD m tz).a.toNat 0=qS (jM 0)-(dfU 0 (fR xs) k t m).getD (t.getD m tz).a.toNat 0
   rw[z0];grind
  ·simp only[e]
   refine Prod.ext rfl ?_
   show 2*((aG 0 (fR xs) t m).getD (t.getD m tz).a.toNat 0*(dfU 0 (fR xs) k t m).getD (t.getD m tz).a.toNat 0)=qS (jM 2)*((aG 0 (fR xs) t m).getD (t.getD m tz).a.toNat 0*(dfU 0 (fR xs) k t m).getD (t.getD m tz).a.toNat 0)
   rw[z2]
theorem fD_df:∀ m,(∀ j,j<m->0<=(t.getD j tz).op/\(t.getD j tz).op<=7)->∀ j,(dfU (0,0) (fD xs k) i t m).getD j (0,0)=((dfU 0 (fR xs) i t m).getD j 0,(s2U xs i k t m).getD j 0)
 |0,_,j=>rfl
 |m+1,h,j=>by
  have ih:=fD_df m (λj hj=>h j (by omega))
  have iv:=fD_get (xs:=xs) (k:=k) (t:=t) m (λj hj=>h j (by omega))
  have iq:=fD_get (xs:=xs) (k:=k) (t:=t) (m+1) h m
  obtain ⟨o0,o7⟩:=h m (Nat.lt_succ_self m)
  have z0:qS (jM 0)=0:=vY 0
  have z1:qS (jM 1)=1:=vY 1
  have z2:qS (jM 2)=2:=vY 2
  have e1:nfV (0,0) (fD xs k) (aG (0,0) (fD xs k) t m) (t.getD m tz)=(nfV 0 (fR xs) (aG 0 (fR xs) t m) (t.getD m tz),d1N xs k t m):=by
   rw[aG,qC,eN,if_neg (Nat.lt_irrefl _),if_pos rfl,aG,qC,eN,if_neg (Nat.lt_irrefl _),if_pos rfl,dfU_s,qC,fM,if_neg (Nat.lt_irrefl _),if_pos rfl] at iq
   exact iq
  refine pair_snoc (by rw[fM,fM]) (by rw[s2U_len,fM]) ih ?_ j
  rw[iv,iv,ih,ih,e1]
  show _=(d1N xs i t m,_)
  have ed:d1N xs i t m=dfN 0 (fR xs) i (t.getD m tz) (v0 xs t m (t.getD m tz).a) (v0 xs t m (t.getD m tz).b) (d1 xs i t m (t.getD m tz).a) (d1 xs i t m (t.getD m tz).b) (nfV 0 (fR xs) (aG 0 (fR xs) t m) (t.getD m tz)):=rfl
  show dfN (0,0) (fD xs k) i (t.getD m tz) (v0 xs t m (t.getD m tz).a,d1 xs k t m (t.getD m tz).a) (v0 xs t m (t.getD m tz).b,d1 xs k t m (t.getD m tz).b) (d1 xs i t m (t.getD m tz).a,(s2U xs i k t m).getD (t.getD m tz).a.toNat 0) (d1 xs i t m (t.getD m tz).b,(s2U xs i k t m).getD (t.getD m tz).b.toNat 0) (nfV 0 (fR xs) (aG 0 (fR xs) t m) (t.getD m tz),d1N xs k t m)=_
  generalize v0 xs t m (t.getD m tz).a=va at *
  generalize v0 xs t m (t.getD m tz).b=vb at *
  generalize d1 xs k t m (t.getD m tz).a=ak at *
  generalize d1 xs k t m (t.getD m tz).b=bk at *
  generalize d1 xs i t m (t.getD m tz).a=ai at *
  generalize d1 xs i t m (t.getD m tz).b=bi at *
  generalize (s2U xs i k t m).getD (t.getD m tz).a.toNat 0=ha
  generalize (s2U xs i k t m).getD (t.getD m tz).b.toNat 0=hb
  generalize nfV 0 (fR xs) (aG 0 (fR xs) t m) (t.getD m tz)=q at *
  generalize d1N xs k t m=qk
  generalize d1N xs i t m=qi at *
  subst ed
  generalize t.getD m tz=x at *
  unfold dfN s2N
  rcases iN o0 o7 with e | e | e | e | e | e | e | e
  ·simp only[e];exact Prod.ext rfl rfl
  ·simp only[e]
   by_cases hi:x.a=i
   ·simp only[hi];exact Prod.ext rfl rfl
   ·simp only[if_neg hi];exact Prod.ext rfl rfl
  ·simp only[e];rfl
  ·simp only[e];rfl
  ·simp only[e]
   refine Prod.ext rfl ?_
   show va*hb+bi*ak+(vb*ha+ai*bk)=va*hb+vb*ha+ai*bk+ak*bi
   grind
  ·simp only[e]
   refine Prod.ext rfl ?_
   show (ha-(q*hb+bi*qk)-(ai-q*bi) / vb*bk) / vb=(ha-((ai-q*bi) / vb*bk+qk*bi+q*hb)) / vb
   generalize (ai-q*bi) / vb=w
   congr 1
   grind
  ·simp only[e]
   refine Prod.ext rfl ?_
   show (0:Rat)-ha=-ha
   grind
  ·simp only[e]
   refine Prod.ext rfl ?_
   show qS (jM 2)*(va*ha+ai*ak)+va*ai*0=2*(va*ha+ai*ak)
   rw[z2];grind
theorem der2(hT:TxI)(hr:VRun xs t)(hq:∀ x∈t,yB x.n (qS x.n) 8)(hx:∀ q∈xs,QL q 24)(hc:DRC i t=0)(hc2:DRC k (iX i t)=0) :
  Drv xs k (iX i t) (iX k (iX i t))/\uJ xs (iX k (iX i t))=(s2U xs i k t t.length).getD (t.length-1) 0:=by
 have D1:=drv_gen (i:=i) hT hr hq hx hc
 have D2:=drv_gen (i:=k) hT D1.run D1.q hx hc2
 refine ⟨D2,?_⟩
 have hop:∀ {T:List jS},yT ((xs.length:Nat):Int) T=0->(∀ x∈T,yB x.n (qS x.n) 8)->∀ j,j<T.length->0<=(T.getD j tz).op/\(T.getD j tz).op<=7:=λh0 hq j hj=>(nd_k h0 (λx hx=>jO (hq x hx) (by decide)) hj).2.2
 obtain ⟨e1,_⟩:=drv_nf (fD_alg xs k) hT hr.c0 (λx hx=>jO (hq x hx) (by decide)) hc
 unfold eV at e1
 rw[fD_get _ (hop D1.run.c0 D1.q),fD_df _ (hop hr.c0 hq)] at e1
 rw[D2.val]
 exact congrArg Prod.snd e1
end
end Go.Fid
namespace Go.Proofs.YtckccjhflbljgaaGreatDoor
open List Tryz
open Go.Fid
section
variable {xs:List Rat} {q:List (List kY)} {ts:List (List jS)} {i:Nat}
end
end Go.Proofs.YtckccjhflbljgaaGreatDoor
namespace Go.Fid
open List
end Go.Fid
namespace Go.Proofs.YtckccjhflbljgaaGreatDoor
open List
open Go.Fid
section
variable (F:Nat->Nat->kY) {r c i j p q:Nat}
end
def sm(f:Nat->Rat):Nat->Rat
 |0=>0
 |n+1=>sm f n+f n
end Go.Proofs.YtckccjhflbljgaaGreatDoor
namespace Go.Proofs.YtckccjhflbljgaaGreatDoor
open List Tryz
open Go.Fid
structure Gd (z:Int) (k:Nat) (x:jS):Prop where
 bad:¬ dI x
 ord:¬ eA ((k:Nat):Int) x
 rng:¬ rngN z x
theorem Gd.a{z:Int}{k:Nat}{x:jS}(h:Gd z k x)(h1:1<=qB x.op):0<=x.a/\x.a<k:=by
 have:=h.ord;unfold eA at this;omega
theorem Gd.b{z:Int}{k:Nat}{x:jS}(h:Gd z k x)(h1:qB x.op=2):0<=x.b/\x.b<k:=by
 have:=h.ord;unfold eA at this;omega
theorem Gd.kd{z:Int}{k:Nat}{x:jS}(h:Gd z k x):(qB x.op=0/\(x.op=0\/x.op=1))\/(qB x.op=1/\(x.op=6\/x.op=7))\/(qB x.op=2/\(x.op=2\/x.op=3\/x.op=4\/x.op=5)):=by
 rcases vJ x.op with h1 | h1 | h1 | h1
 ·exact .inl h1
 ·exact .inr (.inl h1)
 ·exact .inr (.inr h1)
 ·exact absurd (Or.inl (by omega)) h.bad
structure Sm (bx:List R2) (s:List jS):Prop where
 t:cQ bx s
 h:∀ k,k<s.length->mP (gM s k) (s.getD k tz)<=70
 l:s.length<=100
section
variable {bx:List R2} {s t:List jS}
theorem dz_no{w:List jS}(h:dzT bx w=false){k:Nat}(hk:k<w.length):dzB bx w k=false:=by
 unfold dzT at h
 rw[any_eq_false] at h
 have:=h k (mem_range.2 hk)
 simpa using this
end
end Go.Proofs.YtckccjhflbljgaaGreatDoor
namespace Go.Fid
open List
abbrev HF:=Nat->Nat->R2
def hz0:HF:=λ_ _=>z2
def hA(H:List HF)(z:Int):HF:=H.getD z.toNat hz0
def gA(L:List JV)(z:Int)(i:Nat):R2:=(jA L z).g.getD i z2
def nH(bx:List R2)(L:List JV)(H:List HF)(x:jS)(i j:Nat):R2 :=
 if x.op=2 then qE (hA H x.a i j) (hA H x.b i j)
 else if x.op=3 then gS (hA H x.a i j) (hA H x.b i j)
 else if x.op=4 then qE (qE (qE (kL (jA L x.a).v (hA H x.b i j)) (kL (jA L x.b).v (hA H x.a i j))) (kL (gA L x.a i) (gA L x.b j))) (kL (gA L x.a j) (gA L x.b i))
 else if x.op=6 then lR (hA H x.a i j)
 else if x.op=7 then kL (gw 2) (qE (kL (jA L x.a).v (hA H x.a i j)) (if i=j then gsq (gA L x.a i) else kL (gA L x.a i) (gA L x.a j)))
 else if x.op=5 then fK (gS (hA H x.a i j) (qE (qE (kL (nG bx L x i) (gA L x.b j)) (kL (nG bx L x j) (gA L x.b i))) (kL (nV bx L x) (hA H x.b i j)))) (jA L x.b).v
 else gw 0
def hU(bx:List R2)(t:List jS):Nat->List HF
 |0=>[]
 |k+1=>hU bx t k++[nH bx (jU bx t k) (hU bx t k) (t.getD k tz)]
theorem hU_len(bx:List R2)(t:List jS):∀ k,(hU bx t k).length=k
 |0=>rfl
 |k+1=>by rw[hU,length_append,hU_len bx t k];rfl
def hRow(h:HF)(i:Nat):List jX:=(range (i+1)).map λj=>kF (h i j)
def mX(h:HF)(n:Nat):List (List jX):=(range n).map (hRow h)
def ofJH(J:JV)(h:HF)(n:Nat):xS:=⟨kF J.v,J.g.map kF,mX h n⟩
def bH(s:Nat):Nat:=180*(s*s*s)
theorem bH_sum{a b:Nat}(ha:1<=a)(hb:1<=b):bH a+bH b+270*((a+b)*(a+b))<=bH (a+b):=by
 have e:(a+b)*(a+b)*(a+b)=a*a*a+b*b*b+3*(a*b*(a+b)):=by
  have h1:(a+b)*(a+b)=a*a+b*b+2*(a*b):=sq_sum a b
  rw[h1]
  simp only[Nat.add_mul,Nat.mul_add]
  have m1:a*a*b=a*b*a:=Nat.mul_right_comm a a b
  have m2:b*b*a=a*b*b:=by rw[Nat.mul_comm a b];exact Nat.mul_right_comm b b a
  have m3:2*(a*b)*a=2*(a*b*a):=Nat.mul_assoc ..
  have m4:2*(a*b)*b=2*(a*b*b):=Nat.mul_assoc ..
  omega
 have h2:(a+b)*(a+b)<=2*(a*b)*(a+b):=Nat.mul_le_mul_right _ (sr_le ha hb)
 have h3:2*(a*b)*(a+b)=2*(a*b*(a+b)):=Nat.mul_assoc ..
 unfold bH
 rw[e]
 omega
theorem bH_1{s:Nat}(h:1<=s):180*s<=bH s/\s<=s*s:=by
 have h1:s*1<=s*s:=Nat.mul_le_mul_left _ h
 have h2:s*1<=s*s*s:=by
  have:s*s*1<=s*s*s:=Nat.mul_le_mul_left _ h
  omega
 unfold bH;omega
def Bd2(ss:List Int)(L:List JV)(H:List HF)(k:Nat):Prop:=∀ j,j<k->∃ s:Nat,ss.getD j 0=(s:Int)/\1<=s/\cO (L.getD j jz).v (λi=>(L.getD j jz).g.getD i z2) s/\∀ p q,GL (bH s) (H.getD j hz0 p q)
theorem bd2_node{z:Int}{ss:List Int}{L:List JV}{H:List HF}{bx:List R2}{x:jS}(hk:ndC z ss x=0)(hl:ss.length=L.length)(hq:yB x.n (qS x.n) 8)(hb:∀ y∈bx,GL 24 y)(h:Bd2 ss L H L.length) :
  ∃ s:Nat,mP ss x=(s:Int)/\1<=s/\cO (nV bx L x) (nG bx L x) s/\∀ p q,GL (bH s) (nH bx L H x p q):=by
 obtain ⟨s0,s1,s2,s3⟩:=bd_node (bx:=bx) hk hl hq hb (λj hj=>by obtain ⟨s,a,b,c,_⟩:=h j hj;exact ⟨s,a,b,c⟩)
 refine ⟨s0,s1,s2,s3,λp q=>?_⟩
 obtain ⟨h1,h2,h3,_⟩:=nd_0 hk
 unfold dI at h1
 unfold eA at h2
 have at2:∀ {a:Int},0<=a->a<L.length->∃ s:Nat,ss.getD a.toNat 0=(s:Int)/\1<=s/\GL (bV s) (jA L a).v/\(∀ i,GL (bG s) (gA L a i))/\∀ p q,GL (bH s) (hA H a p q):=fun {a} q0 q1=>by
  obtain ⟨s,a1,a2,a3,a4⟩:=h a.toNat (by omega)
  exact ⟨s,a1,a2,a3.1,a3.2,a4⟩
 have b0:=(bH_1 s2).1
 rcases vJ x.op with ⟨e,f⟩ | ⟨e,f⟩ | ⟨e,f⟩ | ⟨e,f⟩
 ·have e0:nH bx L H x p q=gw 0:=by unfold nH;rcases f with f | f<;>simp only[f]<;>rfl
  rw[e0];exact kU gl_0 (by omega)
 ·obtain ⟨s,e1,e2,e3,e4,e5⟩:=at2 (a:=x.a) (by omega) (by omega)
  rcases f with f | f
  ·have es:s0=s:=by unfold mP at s1;rw[if_neg (by omega),if_pos f,e1] at s1;omega
   have e0:nH bx L H x p q=lR (hA H x.a p q):=by unfold nH;simp only[f];rfl
   rw[e0,es];exact gl_neg (e5 p q)
  ·have es:s0=s+s:=by unfold mP at s1;rw[if_neg (by omega),if_neg (by omega),if_pos f,e1] at s1;omega
   have e0:nH bx L H x p q=kL (gw 2) (qE (kL (jA L x.a).v (hA H x.a p q)) (if p=q then gsq (gA L x.a p) else kL (gA L x.a p) (gA L x.a q))):=by unfold nH;simp only[f];rfl
   have sm:=bH_sum e2 e2
   have e6:=sq_sum s s
   have e7:=(bH_1 e2).2
   have e8:GL (bG s+bG s) (if p=q then gsq (gA L x.a p) else kL (gA L x.a p) (gA L x.a q)):=by
    split
    ·exact gl_sq (e4 p) (Nat.le_refl _)
    ·exact uM (e4 p) (e4 q) (Nat.le_refl _)
   rw[e0,es]
   exact uM gl_2 (gY (uM e3 (e5 p q) (Nat.le_refl _)) e8 (Nat.le_refl _)) (by unfold bV bG;omega)
 ·obtain ⟨s,e1,e2,e3,e4,e5⟩:=at2 (a:=x.a) (by omega) (by omega)
  obtain ⟨r,g1,g2,g3,g4,g5⟩:=at2 (a:=x.b) (by omega) (by omega)
  have es:s0=s+r:=by unfold mP at s1;rw[if_neg (by omega),if_neg (by omega),if_neg (by omega),e1,g1] at s1;omega
  have sm:=bH_sum e2 g2
  have e6:=sq_sum s r
  have e7:=(bH_1 e2).2
  have e8:=(bH_1 g2).2
  have e9:=sr_le e2 g2
  subst es
  rcases f with f | f | f | f
  ·have e0:nH bx L H x p q=qE (hA H x.a p q) (hA H x.b p q):=by unfold nH;simp only[f];rfl
   rw[e0];exact gY (e5 p q) (g5 p q) (by omega)
  ·have e0:nH bx L H x p q=gS (hA H x.a p q) (hA H x.b p q):=by unfold nH;simp only[f];rfl
   rw[e0];exact gl_sub (e5 p q) (g5 p q) (by omega)
  ·have e0:nH bx L H x p q=qE (qE (qE (kL (jA L x.a).v (hA H x.b p q)) (kL (jA L x.b).v (hA H x.a p q))) (kL (gA L x.a p) (gA L x.b q))) (kL (gA L x.a q) (gA L x.b p)):=by unfold nH;simp only[f];rfl
   rw[e0]
   exact gY (gY (gY (uM e3 (g5 p q) (Nat.le_refl _)) (uM g3 (e5 p q) (Nat.le_refl _)) (Nat.le_refl _)) (uM (e4 p) (g4 q) (Nat.le_refl _)) (Nat.le_refl _)) (uM (e4 q) (g4 p) (Nat.le_refl _)) (by unfold bV bG;omega)
  ·have e0:nH bx L H x p q=fK (gS (hA H x.a p q) (qE (qE (kL (nG bx L x p) (gA L x.b q)) (kL (nG bx L x q) (gA L x.b p))) (kL (nV bx L x) (hA H x.b p q)))) (jA L x.b).v:=by unfold nH;simp only[f];rfl
   rw[e0]
   refine gl_div (gl_sub (e5 p q) (gY (gY (uM (s3.2 p) (g4 q) (Nat.le_refl _)) (uM (s3.2 q) (g4 p) (Nat.le_refl _)) (Nat.le_refl _)) (uM s3.1 (g5 p q) (Nat.le_refl _)) (Nat.le_refl _)) (Nat.le_refl _)) g3 (k:=bH (s+r)) ?_
   unfold bV bG;omega
 ·omega
structure Tame2 (bx:List R2) (t:List jS):Prop where
 tm:cQ bx t
 s:∀ k,k<t.length->mP (gM t k) (t.getD k tz)<=17
theorem bh_17{s:Nat}(h:s<=17):bH s<=1048576:=by
 have h2:s*s<=17*17:=Nat.mul_le_mul h h
 have h3:s*s*s<=17*17*17:=Nat.mul_le_mul h2 h
 unfold bH;omega
section
variable {bx:List R2} {t:List jS}
theorem Tame2.bd(h:Tame2 bx t):∀ {k:Nat},k<=t.length->Bd2 (gM t k) (jU bx t k) (hU bx t k) k
 |0,_=>λj hj=>absurd hj (Nat.not_lt_zero j)
 |k+1,hk=>λj hj=>by
  have ih:=h.bd (k:=k) (by omega)
  have l1:=xE t k
  have l2:=gZ bx t k
  have l3:=hU_len bx t k
  have g1:(gM t (k+1)).getD j 0=_:=zG
  have g2:(jU bx t (k+1)).getD j jz=_:=zG
  have g3:(hU bx t (k+1)).getD j hz0=_:=zG
  rcases Nat.lt_or_ge j k with hjk | hjk
  ·rw[if_pos (by omega)] at g1 g2 g3
   rw[g1,g2,g3];exact ih j (by omega)
  ·rw[if_neg (by omega),if_pos (by omega)] at g1 g2 g3
   rw[g1,g2,g3]
   obtain ⟨s,e1,e2,e3,e4⟩:=bd2_node (H:=hU bx t k) ((dF h.tm.c0).2.2.2.2 k (by omega)) (l1.trans l2.symm) (h.tm.q _ (qG (by omega))) h.tm.b (by rw[l2];exact ih)
   exact ⟨s,e1,e2,nJ_get e2 e3,e4⟩
theorem Tame2.nh(h:Tame2 bx t){k:Nat}(hk:k<t.length)(i j:Nat):GL 1048576 (nH bx (jU bx t k) (hU bx t k) (t.getD k tz) i j):=by
 obtain ⟨s,e1,e2,e3,e4⟩:=bd2_node (H:=hU bx t k) ((dF h.tm.c0).2.2.2.2 k hk) ((xE t k).trans (gZ bx t k).symm) (h.tm.q _ (qG hk)) h.tm.b (by rw[gZ];exact h.bd (Nat.le_of_lt hk))
 have e5:=h.s k hk
 exact kU (e4 i j) (bh_17 (by omega))
theorem gl_z2{n:Nat}(h:1<=n):GL n z2:=⟨uG cY h,uG cY h,Rat.le_refl⟩
theorem Tame2.ha(h:Tame2 bx t):∀ {k:Nat},k<=t.length->∀ (z:Int) (i j:Nat),GL 1048576 (hA (hU bx t k) z i j)
 |0,_,z,i,j=>gl_z2 (by decide)
 |k+1,hk,z,i,j=>by
  have g3:(hU bx t (k+1)).getD z.toNat hz0=_:=zG
  show GL 1048576 ((hU bx t (k+1)).getD z.toNat hz0 i j)
  rw[g3,hU_len]
  by_cases h1:z.toNat<k
  ·rw[if_pos h1];exact h.ha (k:=k) (by omega) z i j
  ·rw[if_neg h1]
   by_cases h2:z.toNat=k
   ·rw[if_pos h2];exact h.nh (by omega) i j
   ·rw[if_neg h2];exact gl_z2 (by decide)
end
theorem hRow_len(h:HF)(i:Nat):(hRow h i).length=i+1:=by simp [hRow]
theorem hRows_len(h:HF)(n:Nat):(mX h n).length=n:=by simp [mX]
theorem hRow_get{h:HF}{i j:Nat}{d:jX}(hj:j<=i):(hRow h i).getD j d=kF (h i j):=by
 unfold hRow
 rw[getD_eq_getElem?_getD,getElem?_map,getElem?_range (by omega)];rfl
theorem hRows_get{h:HF}{n i:Nat}{d:List jX}(hi:i<n):(mX h n).getD i d=hRow h i:=by
 unfold mX
 rw[getD_eq_getElem?_getD,getElem?_map,getElem?_range hi];rfl
theorem hRow_push{h:HF}{l:List jX}{i j:Nat}(e:l=(range j).map λj=>kF (h i j)):l++[kF (h i j)]=(range (j+1)).map λj=>kF (h i j):=by
 rw[e,range_succ,map_append];rfl
theorem hRow_done{h:HF}{l:List jX}{i j:Nat}(e:l=(range j).map λj=>kF (h i j))(hj:j=i+1):l=hRow h i:=by rw[e,hj];rfl
theorem hRows_push{h:HF}{l:List (List jX)}{r:List jX}{i:Nat}(e:l=mX h i)(hr:r=hRow h i):l++[r]=mX h (i+1):=by
 rw[e,hr];unfold mX;rw[range_succ,map_append];rfl
section
variable {bx:List R2} {L:List JV} {H:List HF} {x:jS} {i j:Nat}
theorem nH_0(h:x.op=0\/x.op=1):nH bx L H x i j=gw 0:=by unfold nH;rcases h with h | h<;>simp only[h]<;>rfl
theorem nH_2(h:x.op=2):nH bx L H x i j=qE (hA H x.a i j) (hA H x.b i j):=by unfold nH;simp only[h];rfl
theorem nH_3(h:x.op=3):nH bx L H x i j=gS (hA H x.a i j) (hA H x.b i j):=by unfold nH;simp only[h];rfl
theorem nH_4(h:x.op=4):nH bx L H x i j=qE (qE (qE (kL (jA L x.a).v (hA H x.b i j)) (kL (jA L x.b).v (hA H x.a i j))) (kL (gA L x.a i) (gA L x.b j))) (kL (gA L x.a j) (gA L x.b i)):=by unfold nH;simp only[h];rfl
theorem nH_6(h:x.op=6):nH bx L H x i j=lR (hA H x.a i j):=by unfold nH;simp only[h];rfl
theorem nH_7y(h:x.op=7)(e:i=j):nH bx L H x i j=kL (gw 2) (qE (kL (jA L x.a).v (hA H x.a i j)) (gsq (gA L x.a i))):=by unfold nH;simp only[h,if_pos e];rfl
theorem nH_7n(h:x.op=7)(e:i≠j):nH bx L H x i j=kL (gw 2) (qE (kL (jA L x.a).v (hA H x.a i j)) (kL (gA L x.a i) (gA L x.a j))):=by unfold nH;simp only[h,if_neg e];rfl
theorem nH_5(h:x.op=5):nH bx L H x i j=fK (gS (hA H x.a i j) (qE (qE (kL (nG bx L x i) (gA L x.b j)) (kL (nG bx L x j) (gA L x.b i))) (kL (nV bx L x) (hA H x.b i j)))) (jA L x.b).v:=by unfold nH;simp only[h];rfl
theorem nJ_g(hi:i<bx.length):(nJ bx L x).g.getD i z2=nG bx L x i:=by
 unfold nJ jk;dsimp only
 rw[getD_eq_getElem?_getD,getElem?_map,getElem?_range hi];rfl
end
def jhU(bx:List R2)(t:List jS):Nat->List xS
 |0=>[]
 |k+1=>jhU bx t k++[ofJH (nJ bx (jU bx t k) (t.getD k tz)) (nH bx (jU bx t k) (hU bx t k) (t.getD k tz)) bx.length]
theorem jhU_len(bx:List R2)(t:List jS):∀ k,(jhU bx t k).length=k
 |0=>rfl
 |k+1=>by rw[jhU,length_append,jhU_len bx t k];rfl
theorem jhU_get{bx:List R2}{t:List jS}{d:xS}:∀ {k j:Nat},j<k->(jhU bx t k).getD j d=ofJH ((jU bx t k).getD j jz) ((hU bx t k).getD j hz0) bx.length
 |0,j,h=>absurd h (Nat.not_lt_zero j)
 |k+1,j,h=>by
  rw[jhU,jU,hU,qC,qC,qC,jhU_len,gZ,hU_len]
  rcases Nat.lt_or_ge j k with hj | hj
  ·rw[if_pos hj,if_pos hj,if_pos hj];exact jhU_get hj
  ·rw[if_neg (by omega),if_pos (by omega),if_neg (by omega),if_pos (by omega),if_neg (by omega),if_pos (by omega)]
theorem jhU_nx{bx:List R2}{t:List jS}{k:Nat}{o:List xS}{gl:List jX}{hl:List (List jX)}(ho:o=jhU bx t k)(hg:gl=map kF (map (nG bx (jU bx t k) (t.getD k tz)) (range bx.length)))(hh:hl=mX (nH bx (jU bx t k) (hU bx t k) (t.getD k tz)) bx.length) :
  o++[xS.mk (kF (nV bx (jU bx t k) (t.getD k tz))) gl hl]=jhU bx t (k+1):=by
 rw[ho,hg,hh];rfl
def lastH(bx:List R2)(t:List jS):HF:=(hU bx t t.length).getD (t.length-1) hz0
def dJ2(bx:List R2)(t:List jS)(k:Nat):xS:=if k=t.length then ofJH (mI bx t) (lastH bx t) bx.length else ⟨⟨zr,zr⟩,[],[]⟩
theorem dJ2_y(bx:List R2)(t:List jS):dJ2 bx t t.length=ofJH (mI bx t) (lastH bx t) bx.length:=if_pos rfl
theorem dJ2_n{bx:List R2}{t:List jS}{k:Nat}(h:k<t.length):dJ2 bx t k=⟨⟨zr,zr⟩,[],[]⟩:=if_neg (by omega)
theorem min_same(x:Rat):min x x=x:=by rw[Rat.min_def];split<;>rfl
theorem max_same(x:Rat):max x x=x:=by rw[Rat.max_def];split<;>rfl
theorem mn4(x:Rat):mF x [x,x,x]=x:=by show min (min (min x x) x) x=x;rw[min_same,min_same,min_same]
theorem mx4(x:Rat):cC x [x,x,x]=x:=by show max (max (max x x) x) x=x;rw[max_same,max_same,max_same]
theorem pt_add(a b:Rat):qE (xG a) (xG b)=xG (a+b):=rfl
theorem pt_sub(a b:Rat):gS (xG a) (xG b)=xG (a-b):=rfl
theorem pt_neg(a:Rat):lR (xG a)=xG (-a):=rfl
theorem fY(a b:Rat):kL (xG a) (xG b)=xG (a*b):=by unfold kL xG;dsimp only;rw[mn4,mx4]
theorem pt_div(a b:Rat):fK (xG a) (xG b)=xG (a / b):=by unfold fK xG;dsimp only;rw[mn4,mx4]
theorem pt_sq(a:Rat):gsq (xG a)=xG (a*a):=by
 unfold gsq xG sqL sqH
 dsimp only
 have e1:mF (a*a) [a*a]=a*a:=min_same _
 have e2:cC (a*a) [a*a]=a*a:=max_same _
 rw[e1,e2]
 rcases hz:mU a a with _ | _
 ·rfl
 ·have h0:a=0:=by
   unfold mU at hz
   rw[Bool.and_eq_true,decide_eq_true_eq,decide_eq_true_eq] at hz
   exact Rat.le_antisymm hz.1 hz.2
  subst h0
  rw[if_pos rfl,Rat.mul_zero];rfl
theorem pt_w(z:Int):gw z=xG (z:Rat):=rfl
section
variable {xs:List Rat} {t:List jS}
theorem pt_bx(j:Nat):(map xG xs).getD j z2=xG (xs.getD j 0):=by
 rw[getD_eq_getElem?_getD,getElem?_map,getD_eq_getElem?_getD]
 cases xs[j]?<;>rfl
theorem pt_val:∀ k,(∀ j,j<k->0<=(t.getD j tz).op/\(t.getD j tz).op<=7)->∀ z:Int,(jA (jU (map xG xs) t k) z).v=xG (v0 xs t k z)
 |0,_,z=>rfl
 |k+1,h,z=>by
  have ih:=pt_val k (λj hj=>h j (by omega))
  obtain ⟨o0,o7⟩:=h k (Nat.lt_succ_self k)
  have g2:(jU (map xG xs) t (k+1)).getD z.toNat jz=_:=zG
  show ((jU (map xG xs) t (k+1)).getD z.toNat jz).v=xG ((aG 0 (fR xs) t (k+1)).getD z.toNat 0)
  rw[g2,aG,qC,gZ,eN]
  by_cases h1:z.toNat<k
  ·rw[if_pos h1,if_pos h1];exact ih z
  ·rw[if_neg h1,if_neg h1]
   by_cases h2:z.toNat=k
   ·rw[if_pos h2,if_pos h2]
    show nV (map xG xs) (jU (map xG xs) t k) (t.getD k tz)=xG (nfV 0 (fR xs) (aG 0 (fR xs) t k) (t.getD k tz))
    have ia:=ih (t.getD k tz).a
    have ib:=ih (t.getD k tz).b
    unfold v0 at ia ib
    unfold nfV
    rcases iN o0 o7 with e | e | e | e | e | e | e | e
    ·rw[nV_0 e,e];rfl
    ·rw[nV_1 e,e,pt_bx];rfl
    ·rw[nV_2 e,e,ia,ib,pt_add];rfl
    ·rw[nV_3 e,e,ia,ib,pt_sub];rfl
    ·rw[nV_4 e,e,ia,ib,fY];rfl
    ·rw[nV_5 e,e,ia,ib,pt_div];rfl
    ·rw[nV_6 e,e,ia,pt_neg];rfl
    ·rw[nV_7 e,e,ia,pt_sq];rfl
   ·rw[if_neg h2,if_neg h2];rfl
theorem pt_nV{k:Nat}(h:∀ j,j<k+1->0<=(t.getD j tz).op/\(t.getD j tz).op<=7):nV (map xG xs) (jU (map xG xs) t k) (t.getD k tz)=xG (nfV 0 (fR xs) (aG 0 (fR xs) t k) (t.getD k tz)):=by
 have e:=pt_val (xs:=xs) (t:=t) (k+1) h ((k:Nat):Int)
 have g2:(jU (map xG xs) t (k+1)).getD ((k:Nat):Int).toNat jz=_:=zG
 unfold jA v0 at e
 rw[g2,aG,qC,gZ,eN,Int.toNat_natCast,if_neg (Nat.lt_irrefl _),if_pos rfl,if_neg (Nat.lt_irrefl _),if_pos rfl] at e
 exact e
theorem pt_der:∀ k,(∀ j,j<k->0<=(t.getD j tz).op/\(t.getD j tz).op<=7)->(∀ j,j<k->(t.getD j tz).op=1->0<=(t.getD j tz).a)->∀ i,i<xs.length->∀ z:Int,gA (jU (map xG xs) t k) z i=xG (d1 xs (i:Int) t k z)
 |0,_,_,i,_,z=>rfl
 |k+1,h,hv,i,hi,z=>by
  have ih:=λz=>pt_der k (λj hj=>h j (by omega)) (λj hj=>hv j (by omega)) i hi z
  have iv:=pt_val (xs:=xs) (t:=t) k (λj hj=>h j (by omega))
  have iq:=pt_nV (xs:=xs) (t:=t) (k:=k) h
  obtain ⟨o0,o7⟩:=h k (Nat.lt_succ_self k)
  have g2:(jU (map xG xs) t (k+1)).getD z.toNat jz=_:=zG
  show ((jU (map xG xs) t (k+1)).getD z.toNat jz).g.getD i z2=xG ((dfU 0 (fR xs) (i:Int) t (k+1)).getD z.toNat 0)
  rw[g2,dfU_s,qC,gZ,fM]
  by_cases h1:z.toNat<k
  ·rw[if_pos h1,if_pos h1];exact ih z
  ·rw[if_neg h1,if_neg h1]
   by_cases h2:z.toNat=k
   ·rw[if_pos h2,if_pos h2]
    have eg:(nJ (map xG xs) (jU (map xG xs) t k) (t.getD k tz)).g.getD i z2=nG (map xG xs) (jU (map xG xs) t k) (t.getD k tz) i:=by
     unfold nJ jk;dsimp only
     rw[getD_eq_getElem?_getD,getElem?_map,getElem?_range (by rw[length_map];exact hi)];rfl
    rw[eg]
    have ia:=ih (t.getD k tz).a
    have ib:=ih (t.getD k tz).b
    have va:=iv (t.getD k tz).a
    have vb:=iv (t.getD k tz).b
    unfold gA at ia ib
    unfold d1N dfN
    rcases iN o0 o7 with e | e | e | e | e | e | e | e
    ·rw[nG_0 e];simp only[e];exact congrArg xG (vY _).symm
    ·rw[nG_1 e];simp only[e]
     have:=hv k (Nat.lt_succ_self k) e
     by_cases hi2:(i:Int)=(t.getD k tz).a
     ·rw[if_pos hi2]
      show gw 1=xG (if (t.getD k tz).a=(i:Int) then qS (jM 1) else qS (jM 0))
      rw[if_pos hi2.symm];exact congrArg xG (vY _).symm
     ·rw[if_neg hi2]
      show gw 0=xG (if (t.getD k tz).a=(i:Int) then qS (jM 1) else qS (jM 0))
      rw[if_neg (λe=>hi2 e.symm)];exact congrArg xG (vY _).symm
    ·rw[nG_2 e,ia,ib,pt_add];simp only[e];rfl
    ·rw[nG_3 e,ia,ib,pt_sub];simp only[e];rfl
    ·rw[nG_4 e,ia,ib,va,vb,fY,fY,pt_add];simp only[e];rfl
    ·rw[nG_5 e,ia,ib,iq,vb,fY,pt_sub,pt_div];simp only[e];rfl
    ·rw[nG_6 e,ia,pt_neg];simp only[e]
     show xG (-d1 xs (i:Int) t k (t.getD k tz).a)=xG (qS (jM 0)-d1 xs (i:Int) t k (t.getD k tz).a)
     rw[show qS (jM 0)=(0:Rat) from vY 0];congr 1;grind
    ·rw[nG_7 e,ia,va,pt_w,fY,fY];simp only[e]
     show xG (((2:Int):Rat)*(v0 xs t k (t.getD k tz).a*d1 xs (i:Int) t k (t.getD k tz).a))=xG (qS (jM ((2:Int):Rat))*(v0 xs t k (t.getD k tz).a*d1 xs (i:Int) t k (t.getD k tz).a))
     rw[vY]
   ·rw[if_neg h2,if_neg h2];rfl
theorem pt_nG{k i:Nat}(h:∀ j,j<k+1->0<=(t.getD j tz).op/\(t.getD j tz).op<=7)(hv:∀ j,j<k+1->(t.getD j tz).op=1->0<=(t.getD j tz).a)(hi:i<xs.length):nG (map xG xs) (jU (map xG xs) t k) (t.getD k tz) i=xG (d1N xs (i:Int) t k):=by
 have e:=pt_der (xs:=xs) (t:=t) (k+1) h hv i hi ((k:Nat):Int)
 have g2:(jU (map xG xs) t (k+1)).getD ((k:Nat):Int).toNat jz=_:=zG
 unfold gA jA d1 at e
 rw[g2,dfU_s,qC,gZ,fM,Int.toNat_natCast,if_neg (Nat.lt_irrefl _),if_pos rfl,if_neg (Nat.lt_irrefl _),if_pos rfl] at e
 have eg:(nJ (map xG xs) (jU (map xG xs) t k) (t.getD k tz)).g.getD i z2=nG (map xG xs) (jU (map xG xs) t k) (t.getD k tz) i:=by
  unfold nJ jk;dsimp only
  rw[getD_eq_getElem?_getD,getElem?_map,getElem?_range (by rw[length_map];exact hi)];rfl
 exact eg.symm.trans e
theorem pt_hes:∀ k,(∀ j,j<k->0<=(t.getD j tz).op/\(t.getD j tz).op<=7)->(∀ j,j<k->(t.getD j tz).op=1->0<=(t.getD j tz).a)->∀ i j,i<xs.length->j<xs.length->∀ z:Int,hA (hU (map xG xs) t k) z i j=xG ((s2U xs (i:Int) (j:Int) t k).getD z.toNat 0)
 |0,_,_,i,j,_,_,z=>rfl
 |k+1,h,hv,i,j,hi,hj,z=>by
  have ih:=λz=>pt_hes k (λj hj=>h j (by omega)) (λj hj=>hv j (by omega)) i j hi hj z
  have iv:=pt_val (xs:=xs) (t:=t) k (λj hj=>h j (by omega))
  have di:=pt_der (xs:=xs) (t:=t) k (λj hj=>h j (by omega)) (λj hj=>hv j (by omega)) i hi
  have dj:=pt_der (xs:=xs) (t:=t) k (λj hj=>h j (by omega)) (λj hj=>hv j (by omega)) j hj
  have iq:=pt_nV (xs:=xs) (t:=t) (k:=k) h
  have qi:=pt_nG (xs:=xs) (t:=t) (k:=k) (i:=i) h hv hi
  have qj:=pt_nG (xs:=xs) (t:=t) (k:=k) (i:=j) h hv hj
  obtain ⟨o0,o7⟩:=h k (Nat.lt_succ_self k)
  have g2:(hU (map xG xs) t (k+1)).getD z.toNat hz0=_:=zG
  show (hU (map xG xs) t (k+1)).getD z.toNat hz0 i j=xG ((s2U xs (i:Int) (j:Int) t (k+1)).getD z.toNat 0)
  rw[g2,s2U,qC,hU_len,s2U_len]
  by_cases h1:z.toNat<k
  ·rw[if_pos h1,if_pos h1];exact ih z
  ·rw[if_neg h1,if_neg h1]
   by_cases h2:z.toNat=k
   ·rw[if_pos h2,if_pos h2]
    unfold nH s2N
    rw[ih,ih,iv,iv,di,di,dj,dj,iq,qi,qj]
    rcases iN o0 o7 with e | e | e | e | e | e | e | e
    ·simp only[e];rfl
    ·simp only[e];rfl
    ·simp only[e];rfl
    ·simp only[e];rfl
    ·simp only[e,fY,pt_add];rfl
    ·simp only[e,fY,pt_add,pt_sub,pt_div];rfl
    ·simp only[e];rfl
    ·simp only[e]
     have e3:(if i=j then gsq (xG (d1 xs (i:Int) t k (t.getD k tz).a)) else kL (xG (d1 xs (i:Int) t k (t.getD k tz).a)) (xG (d1 xs (j:Int) t k (t.getD k tz).a)))=xG (d1 xs (i:Int) t k (t.getD k tz).a*d1 xs (j:Int) t k (t.getD k tz).a):=by
      by_cases hij:i=j
      ·subst hij;rw[if_pos rfl,pt_sq]
      ·rw[if_neg hij,fY]
     show kL (gw 2) (qE (kL (xG (v0 xs t k (t.getD k tz).a)) (xG ((s2U xs (i:Int) (j:Int) t k).getD (t.getD k tz).a.toNat 0))) _)=_
     rw[e3,fY,pt_add,pt_w,fY];rfl
   ·rw[if_neg h2,if_neg h2];rfl
end
open Go.RowKit (Below)
section
variable {P:Program} {n:Fr} {c:Code} {Q:Exit->PS->Prop} {S:SL} {B:BS}
end
section
variable {P:Program} {S:SL} {o:Oper}
end
def tellC:SV->SV
 |.ownx _ _ _ _ u=>.d (.val u)
 |x=>x
theorem kZ.told{w:World}{D:kV}{β:kX}{v:Value}{x:SV}(h:kZ w D β v x):kZ w D β v (tellC x):=by
 cases x with
 |ownx k t s n u=>
  have e:v=u:=h.1
  subst e
  exact uS.val v
 |_=>exact h
theorem mapCs_told{cs:List SV}(h:yC cs=false):yC (cs.map tellC)=false:=by
 rcases cs with _ | ⟨a,_ | ⟨b,l⟩⟩
 ·rfl
 ·cases a<;>first | rfl | exact h
 ·cases a<;>rfl
theorem uE.told{w:World}{D:kV}{β:kX}{k:Nat}{cs:List SV}(h:uE w D β k cs)(hm:yC cs=false):uE w D β k (cs.map tellC):=by
 rcases h with h | ⟨b,vs,T,g1,g2,g3,g4,g5⟩
 ·obtain ⟨h1,h2⟩:=h.cells hm
  subst h2
  exact .inl (.inl ⟨h1,rfl⟩)
 ·refine .inr ⟨b,vs,T,g1,g2,by rw[length_map];exact g3,λi x hx=>?_,g5⟩
  rw[getElem?_map,Option.map_eq_some_iff] at hx
  obtain ⟨y,hy,rfl⟩:=hx
  obtain ⟨u,e1,e2,e3⟩:=g4 i y hy
  exact ⟨u,e1,e2,e3.told⟩
section
variable {P:Program} {o:Oper} {S:SL} {B:BS} {T:TypeId} {x:Operand} {k off:Nat}
theorem oLtx{sz:Nat}{cs:List SV}(hs:qD P T=some (true,sz))(ho:o.op=.load T x:=by exact rfl)(hx:ev (kD S) x=.ref k off:=by exact rfl)(hb:kC B k=some cs:=by exact rfl)(hl:Nat.ble (off+sz) (cs.map tellC).length=true:=by kernel_rfl)(hm:yC cs=false:=by kernel_rfl):ROk P o S B k (gF true (((cs.map tellC).drop off).take sz)) :=
 ⟨cs,λa w D β Q hop hrd hD=>e_lda (S:=kD S) ho hx hs hl rfl (mapCs_told hm) a w D β Q hop (λp hp=>by
  rw[mem_singleton] at hp
  subst hp
  exact (hrd (k,cs) (by simp)).told hm) hD,hb⟩
end
section
variable {P:Program} {n:Fr} {c:Code} {Q:Exit->PS->Prop} {S:SL} {B:BS}
theorem pwp_cell(j i:Nat){cs:List SV}{x:SV}(hj:kC B j=some cs)(hi:cs[i]?=some x)(hm:yC cs=false)
  (h:∀ (w:World) (D:kV) (β:kX) (v:Value),kZ w D β v x->∃ y,kZ w D β v y/\eM P n c Q ⟨S,(j,some (cs.set i y))::B⟩):eM P n c Q ⟨S,B⟩:=λC a w N hn ⟨D,β,hs⟩=>by
 have conv:∀ {y:SV} {i' c},kC ((j,some (cs.set i y))::B) i'=some c->∃ c',kC B i'=some c':=fun {y i' c} hi'=>by
  rw[jI] at hi'
  split at hi'
  ·rename_i e;subst e;exact ⟨_,hj⟩
  ·exact ⟨_,hi'⟩
 rcases hs.mem.ok _ _ hj with g | ⟨b2,vs,T,g1,g2,g3,g4,g5⟩
 ·have:=(g.cells hm).2
  subst this
  simp at hi
 ·obtain ⟨u,e1,e2,e3⟩:=g4 i x hi
  obtain ⟨y,hy,hp⟩:=h w D β u e3
  refine hp C a w N hn ⟨D,β,hs.base,⟨λi' c hi'=>?_,λi1 i2 c1 c2 q1 q2=>?_⟩,λi' c hi'=>?_,hs.slots⟩
  ·rw[jI] at hi'
   split at hi'
   ·rename_i e;subst e
    injection hi' with hi';subst hi'
    refine .inr ⟨b2,vs,T,g1,g2,by rw[length_set];exact g3,λq z hz=>?_,g5⟩
    rw[getElem?_set] at hz
    split at hz
    ·rename_i e;subst e
     split at hz
     ·injection hz with hz;subst hz;exact ⟨u,e1,e2,hy⟩
     ·cases hz
    ·exact g4 q z hz
   ·exact hs.mem.ok i' c hi'
  ·obtain ⟨d1,k1⟩:=conv q1
   obtain ⟨d2,k2⟩:=conv q2
   exact hs.mem.inj i1 i2 d1 d2 k1 k2
  ·obtain ⟨d1,k1⟩:=conv hi'
   exact hs.high i' d1 k1
theorem pwp_fixC(j i:Nat){k T s m:Nat}{cs:List SV}(hj:kC B j=some cs:=by exact rfl)(hi:cs[i]?=some (.own k T s m):=by exact rfl)(hm:yC cs=false:=by kernel_rfl)
  (h:∀ ao cap,eM P n c Q ⟨S,(j,some (cs.set i (.ownx k T s m (.slice ao m cap))))::B⟩):eM P n c Q ⟨S,B⟩ :=
 pwp_cell j i hj hi hm λw D β v hr=>by
  obtain ⟨ao,cap,hv⟩:∃ ao cap,v=.slice ao m cap:=by
   rcases hr with ⟨_,h2,h3⟩ | ⟨b,cap,vs,_,h3,_⟩
   ·exact ⟨_,_,by rw[h3,h2]⟩
   ·exact ⟨_,_,h3⟩
  exact ⟨.ownx k T s m (.slice ao m cap),⟨hv,hr⟩,h ao cap⟩
theorem pwp_unfixC(j i:Nat){k T s m:Nat}{u:Value}{cs:List SV}(hj:kC B j=some cs:=by exact rfl)(hi:cs[i]?=some (.ownx k T s m u):=by exact rfl)(hm:yC cs=false:=by kernel_rfl)
  (h:eM P n c Q ⟨S,(j,some (cs.set i (.own k T s m)))::B⟩):eM P n c Q ⟨S,B⟩ :=
 pwp_cell j i hj hi hm λw D β v hr=>⟨.own k T s m,hr.2,h⟩
end
end Go.Fid
namespace Go.Proofs.YtckccjhflbljgaaGreatDoor
open List Tryz
open Go.Fid
theorem el44:uU prog 44=some (43,1):=by kernel_rfl
theorem fo46_2:uX prog 46 2=some 9:=by kernel_rfl
theorem sh44:qD prog 44=some (false,1):=by kernel_rfl
theorem u_hes(y:xS)(i:Nat)(j:Nat)(h:HF)(n:Nat)(hY:y.hess=mX h n)(hi:i<n)(hj:j<=i)(hg:GL 1048576 (h i j)):jP prog 108 [(jR y),(.val (.int .i64 (((i:Nat):Int)))),(.val (.int .i64 (((j:Nat):Int))))] (jG (kF (h i j))):=by
 have hyl:y.hess.length=n:=by rw[hY,hRows_len]
 have hrl:(hRow h i).length=i+1:=hRow_len h i
 let y1:=(jX.mk qX qX)
 refine vD func108 ?_
 refine jB<|kx [(3,(.ref 0 0)),(6,(.ref 1 0))] [(0,some (bx (jR y))),(1,some (bx (jG y1)))] (zN (xD 0)<|zN (vB 1 uQ uV)<|zZ) ?_
 refine jB<|jB<|kx [(9,(vb (decide (((i:Nat):Int)<((j:Nat):Int)))))] [] (zM<|zM<|zE eR<|zZ) ?_
 refine jD rfl (λh1=>?_) (λh1=>?_)
 ·replace h1:=vF h1
  omega
 ·replace h1:=vT h1
  refine jF<|jB<|kx [] [(1,some (bx (jG (kF (h i j)))))] (zE (kK fo46_2)<|zR (qH sh44)<|zM<|zE (cB el44 i ([]:List (jX)))<|zE (oQd (.sl 42 8 (map jG (y.hess.getD i []))) (.sl 42 8 (map jG (hRow h i))) (dK mE) (by exact (by rw[hY,hRows_get hi])))<|zM<|zE (cB xK j y1 (L:=(hRow h i)))<|zE (oQd (jG ((hRow h i).getD j y1)) (jG (kF (h i j))) (mR jW) (by exact (congrArg jG (hRow_get hj))))<|zT (qL jW)<|zZ) ?_
  refine jE ⟨_,(kM (cs:=(bx (jG (kF (h i j))))) (d:=(jG (kF (h i j)))) rfl rfl jW rfl rfl .nil),?_⟩
  rfl
theorem u_pair6(l0 l1 l2 l3 l4 l5:R2)(hl0:GL 4194304 l0)(hl1:GL 4194304 l1)(hl2:GL 4194304 l2)(hl3:GL 4194304 l3)(hl4:GL 4194304 l4)(hl5:GL 4194304 l5):jP prog 105 [(.sl 42 8 (map jG [(kF l0),(kF l1),(kF l2),(kF l3),(kF l4),(kF l5)]))] (jG (kF (qE (qE (kL l0 l1) (kL l2 l3)) (kL l4 l5)))):=by
 have h:=u_pairN [l0,l1,l2,l3,l4,l5] (glc hl0 (glc hl1 (glc hl2 (glc hl3 (glc hl4 (glc hl5 gln)))))) 3 rfl (by decide)
 rw[show prS [l0,l1,l2,l3,l4,l5] 3=qE (qE (qE (gw 0) (kL l0 l1)) (kL l2 l3)) (kL l4 l5) from rfl,ga0] at h
 exact h
theorem u_pair8(l0 l1 l2 l3 l4 l5 l6 l7:R2)(hl0:GL 4194304 l0)(hl1:GL 4194304 l1)(hl2:GL 4194304 l2)(hl3:GL 4194304 l3)(hl4:GL 4194304 l4)(hl5:GL 4194304 l5)(hl6:GL 4194304 l6)(hl7:GL 4194304 l7):jP prog 105 [(.sl 42 8 (map jG [(kF l0),(kF l1),(kF l2),(kF l3),(kF l4),(kF l5),(kF l6),(kF l7)]))] (jG (kF (qE (qE (qE (kL l0 l1) (kL l2 l3)) (kL l4 l5)) (kL l6 l7)))):=by
 have h:=u_pairN [l0,l1,l2,l3,l4,l5,l6,l7] (glc hl0 (glc hl1 (glc hl2 (glc hl3 (glc hl4 (glc hl5 (glc hl6 (glc hl7 gln)))))))) 4 rfl (by decide)
 rw[show prS [l0,l1,l2,l3,l4,l5,l6,l7] 4=qE (qE (qE (qE (gw 0) (kL l0 l1)) (kL l2 l3)) (kL l4 l5)) (kL l6 l7) from rfl,ga0] at h
 exact h
theorem u_sec(x:jS)(y:xS)(z:xS)(wv:jX)(wg:List jX)(wh:jY)(i:Nat)(j:Nat)(bv:List R2)(L:List JV)(H:List HF)(hn:eY bv.length L x)(hLk:∀ e9∈L,aW 1048576 bv.length e9)(hJ:aW 1048576 bv.length (nJ bv L x))(hi:i<bv.length)(hj:j<=i)(hy:1<=qB x.op->y=ofJH (jA L x.a) (hA H x.a) bv.length)(hz:qB x.op=2->z=ofJH (jA L x.b) (hA H x.b) bv.length)(hw:wv=kF (nV bv L x))(hwg:wg=map kF (map (nG bv L x) (range bv.length)))(hHg:∀ (z:Int) (i j:Nat),GL 1048576 (hA H z i j))(hN:GL 1048576 (nH bv L H x i j)):jP prog 59 [(jN x),(jR y),(jR z),(.agg (jY.cells (jG wv)++[(.sl 42 8 (map jG wg)),(wh)])),(.val (.int .i64 (((i:Nat):Int)))),(.val (.int .i64 (((j:Nat):Int))))] (jG (kF (nH bv L H x i j))):=by
 have hS:StOk bv.length L x:=.inl hn
 have hj2:j<bv.length:=by omega
 have hwl:wg.length=bv.length:=by rw[hwg,length_map,length_map,length_range]
 have hJl:(nJ bv L x).g.length=bv.length:=hJ.2.2
 refine vD func59 ?_
 refine jB<|kx [(6,(.ref 0 0)),(7,(.ref 1 0)),(8,(.ref 2 0)),(9,(.ref 3 0)),(12,(.ref 4 0))] [(0,some (bx (jN x))),(1,some (bx (jR y))),(2,some (bx (jR z))),(3,some (bx (.agg (jY.cells (jG wv)++[(.sl 42 8 (map jG wg)),(wh)])))),(4,some (bx (jG (jX.mk qX qX))))] (zN (xD 0)<|zN (xD 1)<|zN (xD 2)<|zN (xD 3)<|zN (vB 4 uQ uV)<|zZ) ?_
 refine jB<|jB<|kx [(18,(vi x.op))] [] (zE (kK xN)<|zR (qH cN)<|zZ) ?_
 refine jH<|jB<|kx [(19,(vb (x.op == 2)))] [] (zE xL<|zM<|zZ) ?_
 refine jD (b:=(x.op == 2)) rfl (λh1=>?_) (λh1=>?_)
 ·replace h1:=eq_of_beq h1
  have hk2:qB x.op=2:=by rw[h1];rfl
  have hop:=h1
  obtain ⟨a1,a2⟩:=hS.a (by omega)
  obtain ⟨b1,b2⟩:=hS.b hk2
  have hy2:=hy (by omega)
  have hz2:=hz hk2
  have hu:=hLk _ (qG (d:=jz) a2)
  have hv:=hLk _ (qG (d:=jz) b2)
  have hul:(jA L x.a).g.length=bv.length:=hu.2.2
  have hvl:(jA L x.b).g.length=bv.length:=hv.2.2
  have hyh:y.hess=mX (hA H x.a) bv.length:=by rw[hy2];rfl
  have hzh:z.hess=mX (hA H x.b) bv.length:=by rw[hz2];rfl
  refine jB<|kd [] [(4,some (bx (jG (kF (qE ((hA H x.a) i j) ((hA H x.b) i j))))))] mo (wR (kP nF)<|wM<|wM<|wE (kB (u_hes y i j (hA H x.a) bv.length (by assumption) hi hj (hHg _ _ _)))<|wR (kP nF)<|wM<|wM<|wE (kB (u_hes z i j (hA H x.b) bv.length (by assumption) hi hj (hHg _ _ _)))<|wE (kB (u_add ((hA H x.a) i j) (kU (hHg _ _ _)) ((hA H x.b) i j) (kU (hHg _ _ _))))<|wT (qL jW)<|wZ) ?_
  refine jE ⟨_,(kM (cs:=(bx (jG (kF (qE ((hA H x.a) i j) ((hA H x.b) i j)))))) (d:=(jG (kF (qE ((hA H x.a) i j) ((hA H x.b) i j))))) rfl rfl jW rfl rfl .nil),?_⟩
  rw[nH_2 hop];rfl
 ·replace h1:=ne_of_beq_false h1
  refine jB<|kx [(30,(vb (x.op == 3)))] [] (zE xL<|zM<|zZ) ?_
  refine jD (b:=(x.op == 3)) rfl (λh2=>?_) (λh2=>?_)
  ·replace h2:=eq_of_beq h2
   have hk2:qB x.op=2:=by rw[h2];rfl
   have hop:=h2
   obtain ⟨a1,a2⟩:=hS.a (by omega)
   obtain ⟨b1,b2⟩:=hS.b hk2
   have hy2:=hy (by omega)
   have hz2:=hz hk2
   have hu:=hLk _ (qG (d:=jz) a2)
   have hv:=hLk _ (qG (d:=jz) b2)
   have hul:(jA L x.a).g.length=bv.length:=hu.2.2
   have hvl:(jA L x.b).g.length=bv.length:=hv.2.2
   have hyh:y.hess=mX (hA H x.a) bv.length:=by rw[hy2];rfl
   have hzh:z.hess=mX (hA H x.b) bv.length:=by rw[hz2];rfl
   refine jB<|kd [] [(4,some (bx (jG (kF (gS ((hA H x.a) i j) ((hA H x.b) i j))))))] mo (wR (kP nF)<|wM<|wM<|wE (kB (u_hes y i j (hA H x.a) bv.length (by assumption) hi hj (hHg _ _ _)))<|wR (kP nF)<|wM<|wM<|wE (kB (u_hes z i j (hA H x.b) bv.length (by assumption) hi hj (hHg _ _ _)))<|wE (kB (u_sub ((hA H x.a) i j) (kU (hHg _ _ _)) ((hA H x.b) i j) (kU (hHg _ _ _))))<|wT (qL jW)<|wZ) ?_
   refine jE ⟨_,(kM (cs:=(bx (jG (kF (gS ((hA H x.a) i j) ((hA H x.b) i j)))))) (d:=(jG (kF (gS ((hA H x.a) i j) ((hA H x.b) i j))))) rfl rfl jW rfl rfl .nil),?_⟩
   rw[nH_3 hop];rfl
  ·replace h2:=ne_of_beq_false h2
   refine jB<|kx [(41,(vb (x.op == 6)))] [] (zE xL<|zM<|zZ) ?_
   refine jD (b:=(x.op == 6)) rfl (λh3=>?_) (λh3=>?_)
   ·replace h3:=eq_of_beq h3
    have hk1:qB x.op=1:=by rw[h3];rfl
    have hop:=h3
    obtain ⟨a1,a2⟩:=hS.a (by omega)
    have hy2:=hy (by omega)
    have hu:=hLk _ (qG (d:=jz) a2)
    have hul:(jA L x.a).g.length=bv.length:=hu.2.2
    have hyh:y.hess=mX (hA H x.a) bv.length:=by rw[hy2];rfl
    refine jB<|kx [] [(4,some (bx (jG (kF (lR ((hA H x.a) i j))))))] (zR (kP nF)<|zM<|zM<|zE (kB (u_hes y i j (hA H x.a) bv.length (by assumption) hi hj (hHg _ _ _)))<|zE (kB (u_neg ((hA H x.a) i j) (kU (hHg _ _ _))))<|zT (qL jW)<|zZ) ?_
    refine jE ⟨_,(kM (cs:=(bx (jG (kF (lR ((hA H x.a) i j)))))) (d:=(jG (kF (lR ((hA H x.a) i j))))) rfl rfl jW rfl rfl .nil),?_⟩
    rw[nH_6 hop];rfl
   ·replace h3:=ne_of_beq_false h3
    refine jB<|kx [(48,(vb (x.op == 4)))] [] (zE xL<|zM<|zZ) ?_
    refine jD (b:=(x.op == 4)) rfl (λh4=>?_) (λh4=>?_)
    ·replace h4:=eq_of_beq h4
     have hk2:qB x.op=2:=by rw[h4];rfl
     have hop:=h4
     obtain ⟨a1,a2⟩:=hS.a (by omega)
     obtain ⟨b1,b2⟩:=hS.b hk2
     have hy2:=hy (by omega)
     have hz2:=hz hk2
     have hu:=hLk _ (qG (d:=jz) a2)
     have hv:=hLk _ (qG (d:=jz) b2)
     have hul:(jA L x.a).g.length=bv.length:=hu.2.2
     have hvl:(jA L x.b).g.length=bv.length:=hv.2.2
     have hyh:y.hess=mX (hA H x.a) bv.length:=by rw[hy2];rfl
     have hzh:z.hess=mX (hA H x.b) bv.length:=by rw[hz2];rfl
     refine jB<|kd [] [(4,some (bx (jG (kF (qE (qE (qE (kL ((jA L x.a).v) ((hA H x.b) i j)) (kL ((jA L x.b).v) ((hA H x.a) i j))) (kL (((jA L x.a).g).getD i z2) (((jA L x.b).g).getD j z2))) (kL (((jA L x.a).g).getD j z2) (((jA L x.b).g).getD i z2)))))))] mo (wE (kK yI)<|wR (yN (jG y.value) (jG (kF ((jA L x.a).v))) (kP jW) (by exact (by rw[hy2];rfl)))<|wR (kP nF)<|wM<|wM<|wE (kB (u_hes z i j (hA H x.b) bv.length (by assumption) hi hj (hHg _ _ _)))<|wE (kK yI)<|wR (yN (jG z.value) (jG (kF ((jA L x.b).v))) (kP jW) (by exact (by rw[hz2];rfl)))<|wR (kP nF)<|wM<|wM<|wE (kB (u_hes y i j (hA H x.a) bv.length (by assumption) hi hj (hHg _ _ _)))<|wE (kK vS)<|wR (yN (.sl 42 8 (map jG y.grad)) (.sl 42 8 (map jG (map kF ((jA L x.a).g)))) (qH mE) (by exact (by rw[hy2];rfl)))<|wM<|wE (iO xK kF i z2)<|wE (mR jW)<|wE (kK vS)<|wR (yN (.sl 42 8 (map jG z.grad)) (.sl 42 8 (map jG (map kF ((jA L x.b).g)))) (qH mE) (by exact (by rw[hz2];rfl)))<|wM<|wE (iO xK kF j z2)<|wE (mR jW)<|wE (kK vS)<|wR (yN (.sl 42 8 (map jG y.grad)) (.sl 42 8 (map jG (map kF ((jA L x.a).g)))) (qH mE) (by exact (by rw[hy2];rfl)))<|wM<|wE (iO xK kF j z2)<|wE (mR jW)<|wE (kK vS)<|wR (yN (.sl 42 8 (map jG z.grad)) (.sl 42 8 (map jG (map kF ((jA L x.b).g)))) (qH mE) (by exact (by rw[hz2];rfl)))<|wM<|wE (iO xK kF i z2)<|wE (mR jW)<|wE (fC xK uQ uV)<|wE (kB (u_pair8 ((jA L x.a).v) ((hA H x.b) i j) ((jA L x.b).v) ((hA H x.a) i j) (((jA L x.a).g).getD i z2) (((jA L x.b).g).getD j z2) (((jA L x.a).g).getD j z2) (((jA L x.b).g).getD i z2) (kU hu.1) (kU (hHg _ _ _)) (kU hv.1) (kU (hHg _ _ _)) (kU (uH hu.2.1 (by decide) i)) (kU (uH hv.2.1 (by decide) j)) (kU (uH hu.2.1 (by decide) j)) (kU (uH hv.2.1 (by decide) i))))<|wT (qL jW)<|wZ) ?_
     refine jE ⟨_,(kM (cs:=(bx (jG (kF (qE (qE (qE (kL ((jA L x.a).v) ((hA H x.b) i j)) (kL ((jA L x.b).v) ((hA H x.a) i j))) (kL (((jA L x.a).g).getD i z2) (((jA L x.b).g).getD j z2))) (kL (((jA L x.a).g).getD j z2) (((jA L x.b).g).getD i z2))))))) (d:=(jG (kF (qE (qE (qE (kL ((jA L x.a).v) ((hA H x.b) i j)) (kL ((jA L x.b).v) ((hA H x.a) i j))) (kL (((jA L x.a).g).getD i z2) (((jA L x.b).g).getD j z2))) (kL (((jA L x.a).g).getD j z2) (((jA L x.b).g).getD i z2)))))) rfl rfl jW rfl rfl .nil),?_⟩
     rw[nH_4 hop];rfl
    ·replace h4:=ne_of_beq_false h4
     refine jB<|kx [(84,(vb (x.op == 7)))] [] (zE xL<|zM<|zZ) ?_
     refine jD (b:=(x.op == 7)) rfl (λh5=>?_) (λh5=>?_)
     ·replace h5:=eq_of_beq h5
      have hk1:qB x.op=1:=by rw[h5];rfl
      have hop:=h5
      obtain ⟨a1,a2⟩:=hS.a (by omega)
      have hy2:=hy (by omega)
      have hu:=hLk _ (qG (d:=jz) a2)
      have hul:(jA L x.a).g.length=bv.length:=hu.2.2
      have hyh:y.hess=mX (hA H x.a) bv.length:=by rw[hy2];rfl
      refine jB<|kd [(13,(.ref 5 0))] [(5,some (bx (jG (kF (kL (((jA L x.a).g).getD i z2) (((jA L x.a).g).getD j z2))))))] mo (wE (kK vS)<|wR (yN (.sl 42 8 (map jG y.grad)) (.sl 42 8 (map jG (map kF ((jA L x.a).g)))) (qH mE) (by exact (by rw[hy2];rfl)))<|wM<|wE (iO xK kF i z2)<|wE (mR jW)<|wE (kK vS)<|wR (yN (.sl 42 8 (map jG y.grad)) (.sl 42 8 (map jG (map kF ((jA L x.a).g)))) (qH mE) (by exact (by rw[hy2];rfl)))<|wM<|wE (iO xK kF j z2)<|wE (mR jW)<|wE (kB (u_mul (((jA L x.a).g).getD i z2) (kU (uH hu.2.1 (by decide) i)) (((jA L x.a).g).getD j z2) (kU (uH hu.2.1 (by decide) j))))<|wN (vB 5 uQ uV)<|wT (qL jW)<|wZ) ?_
      refine jB<|jB<|kx [(99,(vb (((i:Nat):Int) == ((j:Nat):Int))))] [] (zM<|zM<|zE xL<|zZ) ?_
      refine jD (b:=(((i:Nat):Int) == ((j:Nat):Int))) rfl (λh6=>?_) (λh6=>?_)
      ·replace h6:=eq_of_beq h6
       refine kx [] [(5,some (bx (jG (kF (gsq (((jA L x.a).g).getD i z2))))))] (zE (kK vS)<|zR (yN (.sl 42 8 (map jG y.grad)) (.sl 42 8 (map jG (map kF ((jA L x.a).g)))) (qH mE) (by exact (by rw[hy2];rfl)))<|zM<|zE (iO xK kF i z2)<|zE (mR jW)<|zE (kB (u_sq (((jA L x.a).g).getD i z2) (kU (uH hu.2.1 (by decide) i))))<|zT (qL jW)<|zZ) ?_
       refine jB<|kd [] [(4,some (bx (jG (kF (kL (gw 2) (qE (kL ((jA L x.a).v) ((hA H x.a) i j)) (gsq (((jA L x.a).g).getD i z2))))))))] mo (wE (kK yI)<|wR (yN (jG y.value) (jG (kF ((jA L x.a).v))) (kP jW) (by exact (by rw[hy2];rfl)))<|wR (kP nF)<|wM<|wM<|wE (kB (u_hes y i j (hA H x.a) bv.length (by assumption) hi hj (hHg _ _ _)))<|wE (kB (u_mul ((jA L x.a).v) (kU hu.1) ((hA H x.a) i j) (kU (hHg _ _ _))))<|wR (kP jW)<|wE (kB (u_add (kL ((jA L x.a).v) ((hA H x.a) i j)) (kU (uM (k:=2097152) hu.1 (hHg _ _ _))) (gsq (((jA L x.a).g).getD i z2)) (kU (gl_sq (k:=2097152) (uH hu.2.1 (by decide) i)))))<|wE (kB (u_twice (qE (kL ((jA L x.a).v) ((hA H x.a) i j)) (gsq (((jA L x.a).g).getD i z2))) (kU (gY (k:=4194305) (uM (k:=2097152) hu.1 (hHg _ _ _)) (gl_sq (k:=2097152) (uH hu.2.1 (by decide) i))))))<|wT (qL jW)<|wZ) ?_
       refine jE ⟨_,(kM (cs:=(bx (jG (kF (kL (gw 2) (qE (kL ((jA L x.a).v) ((hA H x.a) i j)) (gsq (((jA L x.a).g).getD i z2)))))))) (d:=(jG (kF (kL (gw 2) (qE (kL ((jA L x.a).v) ((hA H x.a) i j)) (gsq (((jA L x.a).g).getD i z2))))))) rfl rfl jW rfl rfl .nil),?_⟩
       rw[nH_7y hop (show i=j by omega)];rfl
      ·replace h6:=ne_of_beq_false h6
       refine jF<|jB<|kd [] [(4,some (bx (jG (kF (kL (gw 2) (qE (kL ((jA L x.a).v) ((hA H x.a) i j)) (kL (((jA L x.a).g).getD i z2) (((jA L x.a).g).getD j z2))))))))] mo (wE (kK yI)<|wR (yN (jG y.value) (jG (kF ((jA L x.a).v))) (kP jW) (by exact (by rw[hy2];rfl)))<|wR (kP nF)<|wM<|wM<|wE (kB (u_hes y i j (hA H x.a) bv.length (by assumption) hi hj (hHg _ _ _)))<|wE (kB (u_mul ((jA L x.a).v) (kU hu.1) ((hA H x.a) i j) (kU (hHg _ _ _))))<|wR (kP jW)<|wE (kB (u_add (kL ((jA L x.a).v) ((hA H x.a) i j)) (kU (uM (k:=2097152) hu.1 (hHg _ _ _))) (kL (((jA L x.a).g).getD i z2) (((jA L x.a).g).getD j z2)) (kU (uM (k:=2097152) (uH hu.2.1 (by decide) i) (uH hu.2.1 (by decide) j)))))<|wE (kB (u_twice (qE (kL ((jA L x.a).v) ((hA H x.a) i j)) (kL (((jA L x.a).g).getD i z2) (((jA L x.a).g).getD j z2))) (kU (gY (k:=4194305) (uM (k:=2097152) hu.1 (hHg _ _ _)) (uM (k:=2097152) (uH hu.2.1 (by decide) i) (uH hu.2.1 (by decide) j))))))<|wT (qL jW)<|wZ) ?_
       refine jE ⟨_,(kM (cs:=(bx (jG (kF (kL (gw 2) (qE (kL ((jA L x.a).v) ((hA H x.a) i j)) (kL (((jA L x.a).g).getD i z2) (((jA L x.a).g).getD j z2)))))))) (d:=(jG (kF (kL (gw 2) (qE (kL ((jA L x.a).v) ((hA H x.a) i j)) (kL (((jA L x.a).g).getD i z2) (((jA L x.a).g).getD j z2))))))) rfl rfl jW rfl rfl .nil),?_⟩
       rw[nH_7n hop (show i≠j by omega)];rfl
     ·replace h5:=ne_of_beq_false h5
      refine jB<|kx [(116,(vb (x.op == 5)))] [] (zE xL<|zM<|zZ) ?_
      refine jD (b:=(x.op == 5)) rfl (λh7=>?_) (λh7=>?_)
      ·replace h7:=eq_of_beq h7
       have hk2:qB x.op=2:=by rw[h7];rfl
       have hop:=h7
       obtain ⟨a1,a2⟩:=hS.a (by omega)
       obtain ⟨b1,b2⟩:=hS.b hk2
       have hy2:=hy (by omega)
       have hz2:=hz hk2
       have hu:=hLk _ (qG (d:=jz) a2)
       have hv:=hLk _ (qG (d:=jz) b2)
       have hul:(jA L x.a).g.length=bv.length:=hu.2.2
       have hvl:(jA L x.b).g.length=bv.length:=hv.2.2
       have hyh:y.hess=mX (hA H x.a) bv.length:=by rw[hy2];rfl
       have hzh:z.hess=mX (hA H x.b) bv.length:=by rw[hz2];rfl
       refine jB<|kd [(14,(.ref 6 0))] [(6,some (bx (jG (kF (qE (qE (kL (nG bv L x i) (((jA L x.b).g).getD j z2)) (kL (nG bv L x j) (((jA L x.b).g).getD i z2))) (kL (nV bv L x) ((hA H x.b) i j)))))))] mo (wE (kK vS)<|wR (yN (.sl 42 8 (map jG wg)) (.sl 42 8 (map jG (map kF ((nJ bv L x).g)))) (qH mE) (by exact (by rw[hwg];rfl)))<|wM<|wE (iO xK kF i z2)<|wE (oQd (jG (kF (((nJ bv L x).g).getD i z2))) (jG (kF (nG bv L x i))) (mR jW) (by exact (congrArg (λa=>jG (kF a)) (nJ_g hi))))<|wE (kK vS)<|wR (yN (.sl 42 8 (map jG z.grad)) (.sl 42 8 (map jG (map kF ((jA L x.b).g)))) (qH mE) (by exact (by rw[hz2];rfl)))<|wM<|wE (iO xK kF j z2)<|wE (mR jW)<|wE (kK vS)<|wR (yN (.sl 42 8 (map jG wg)) (.sl 42 8 (map jG (map kF ((nJ bv L x).g)))) (qH mE) (by exact (by rw[hwg];rfl)))<|wM<|wE (iO xK kF j z2)<|wE (oQd (jG (kF (((nJ bv L x).g).getD j z2))) (jG (kF (nG bv L x j))) (mR jW) (by exact (congrArg (λa=>jG (kF a)) (nJ_g hj2))))<|wE (kK vS)<|wR (yN (.sl 42 8 (map jG z.grad)) (.sl 42 8 (map jG (map kF ((jA L x.b).g)))) (qH mE) (by exact (by rw[hz2];rfl)))<|wM<|wE (iO xK kF i z2)<|wE (mR jW)<|wE (kK yI)<|wR (yN (jG wv) (jG (kF (nV bv L x))) (kP jW) (by exact (congrArg jG hw)))<|wR (kP nF)<|wM<|wM<|wE (kB (u_hes z i j (hA H x.b) bv.length (by assumption) hi hj (hHg _ _ _)))<|wE (fC xK uQ uV)<|wE (kB (u_pair6 (nG bv L x i) (((jA L x.b).g).getD j z2) (nG bv L x j) (((jA L x.b).g).getD i z2) (nV bv L x) ((hA H x.b) i j) (kU (nG_gl hJ hi)) (kU (uH hv.2.1 (by decide) j)) (kU (nG_gl hJ hj2)) (kU (uH hv.2.1 (by decide) i)) (kU hJ.1) (kU (hHg _ _ _))))<|wN (vB 6 uQ uV)<|wT (qL jW)<|wZ) ?_
       refine jB<|kd [(15,(.ref 7 0))] [(7,some (bx (jG (kF (fK (gS ((hA H x.a) i j) (qE (qE (kL (nG bv L x i) (((jA L x.b).g).getD j z2)) (kL (nG bv L x j) (((jA L x.b).g).getD i z2))) (kL (nV bv L x) ((hA H x.b) i j)))) ((jA L x.b).v))))))] mo (wR (kP nF)<|wM<|wM<|wE (kB (u_hes y i j (hA H x.a) bv.length (by assumption) hi hj (hHg _ _ _)))<|wR (kP jW)<|wE (kB (u_sub ((hA H x.a) i j) (kU (hHg _ _ _)) (qE (qE (kL (nG bv L x i) (((jA L x.b).g).getD j z2)) (kL (nG bv L x j) (((jA L x.b).g).getD i z2))) (kL (nV bv L x) ((hA H x.b) i j))) (kU (gY (k:=6291458) (gY (k:=4194305) (uM (k:=2097152) (nG_gl hJ hi) (uH hv.2.1 (by decide) j)) (uM (k:=2097152) (nG_gl hJ hj2) (uH hv.2.1 (by decide) i))) (uM (k:=2097152) hJ.1 (hHg _ _ _))))))<|wE (kK yI)<|wR (yN (jG z.value) (jG (kF ((jA L x.b).v))) (kP jW) (by exact (by rw[hz2];rfl)))<|wE (kB (u_div (gS ((hA H x.a) i j) (qE (qE (kL (nG bv L x i) (((jA L x.b).g).getD j z2)) (kL (nG bv L x j) (((jA L x.b).g).getD i z2))) (kL (nV bv L x) ((hA H x.b) i j)))) (kU (gl_sub (k:=7340035) (hHg _ _ _) (gY (k:=6291458) (gY (k:=4194305) (uM (k:=2097152) (nG_gl hJ hi) (uH hv.2.1 (by decide) j)) (uM (k:=2097152) (nG_gl hJ hj2) (uH hv.2.1 (by decide) i))) (uM (k:=2097152) hJ.1 (hHg _ _ _))))) ((jA L x.b).v) (kU hv.1) (hn.zf hop)))<|wM<|wE zP<|wE zP<|wN (vB 7 uQ uV)<|wT (qL jW)<|wM<|wZ) ?_
       refine jB<|kx [] [(4,some (bx (jG (kF (fK (gS ((hA H x.a) i j) (qE (qE (kL (nG bv L x i) (((jA L x.b).g).getD j z2)) (kL (nG bv L x j) (((jA L x.b).g).getD i z2))) (kL (nV bv L x) ((hA H x.b) i j)))) ((jA L x.b).v))))))] (zR (kP jW)<|zT (qL jW)<|zZ) ?_
       refine jE ⟨_,(kM (cs:=(bx (jG (kF (fK (gS ((hA H x.a) i j) (qE (qE (kL (nG bv L x i) (((jA L x.b).g).getD j z2)) (kL (nG bv L x j) (((jA L x.b).g).getD i z2))) (kL (nV bv L x) ((hA H x.b) i j)))) ((jA L x.b).v)))))) (d:=(jG (kF (fK (gS ((hA H x.a) i j) (qE (qE (kL (nG bv L x i) (((jA L x.b).g).getD j z2)) (kL (nG bv L x j) (((jA L x.b).g).getD i z2))) (kL (nV bv L x) ((hA H x.b) i j)))) ((jA L x.b).v))))) rfl rfl jW rfl rfl .nil),?_⟩
       rw[nH_5 hop];rfl
      ·replace h7:=ne_of_beq_false h7
       have hop:x.op=0\/x.op=1:=by have:=hn.op;omega
       refine jF<|jB<|kx [] [(4,some (bx (jG (kF (gw 0)))))] (zE (kB u_none)<|zT (qL jW)<|zZ) ?_
       refine jE ⟨_,(kM (cs:=(bx (jG (kF (gw 0))))) (d:=(jG (kF (gw 0)))) rfl rfl jW rfl rfl .nil),?_⟩
       rw[nH_0 hop];rfl
end Go.Proofs.YtckccjhflbljgaaGreatDoor
