/- Part 12 of a proof: rules, plain facts, and functions walked. -/
import Derived.Test.YtciingpdmjepgaaGreatM10
import Derived.Test.YtciingpdmjepgaaGreatM11
import Derived.Test.YtciingpdmjepgaaGreatM8
import Derived.Test.YtciingpdmjepgaaGreatChecked
import Derived.LoopNIn
set_option linter.all false
namespace Go.Fid
structure jB where
 a:Int
 b:Int
 c:Int
 d:Int
deriving DecidableEq
def qL(q:jB):List Int:=[q.a,q.b,q.c,q.d]
def cU(q:jB):Prop:=mF (qL q)≠0
def qn(q:jB):Int:=q.a*q.a+q.b*q.b+q.c*q.c+q.d*q.d
def jX(p q:jB):jB:=⟨p.a*q.a-p.b*q.b-p.c*q.c-p.d*q.d,p.a*q.b+p.b*q.a+p.c*q.d-p.d*q.c,p.a*q.c-p.b*q.d+p.c*q.a+p.d*q.b,p.a*q.d+p.b*q.c-p.c*q.b+p.d*q.a⟩
def uK(q:jB):jB:=⟨q.a,-q.b,-q.c,-q.d⟩
def qsc(k:Int)(q:jB):jB:=⟨k*q.a,k*q.b,k*q.c,k*q.d⟩
def q1:jB:=⟨1,0,0,0⟩
def q0:jB:=⟨0,0,0,0⟩
def qdv(q:jB)(k:Int):jB:=⟨q.a.fdiv k,q.b.fdiv k,q.c.fdiv k,q.d.fdiv k⟩
def yE(q:jB):jB:=qdv q (dvL (qL q))
theorem qL_inj{p q:jB}(h:qL p=qL q):p=q:=by
 cases p;cases q;simp only[qL,List.cons.injEq,and_true] at h;obtain ⟨rfl,rfl,rfl,rfl⟩:=h;rfl
theorem qL_can(q:jB):qL (yE q)=redL (qL q):=rfl
theorem qL_sc(k:Int)(q:jB):qL (qsc k q)=(qL q).map (k*·):=rfl
theorem qnz_iff{q:jB}:cU q↔q≠q0:=by
 unfold cU
 rw[Ne,sgnL_zero]
 constructor
 ·intro h e;subst e;exact h (by simp [qL,q0])
 ·intro h e
  refine h (qL_inj ?_)
  simp only[qL,List.mem_cons,List.not_mem_nil,or_false,forall_eq_or_imp,forall_eq] at e
  obtain ⟨e1,e2,e3,e4⟩:=e
  simp [qL,q0,e1,e2,e3,e4]
theorem qn_nn(q:jB):0<=qn q:=by
 unfold qn
 have h:∀ x:Int,0<=x*x:=fun x=>by
  rcases Int.le_total 0 x with h | h
  ·exact Int.mul_nonneg h h
  ·exact Int.mul_nonneg_of_nonpos_of_nonpos h h
 have:=h q.a;have:=h q.b;have:=h q.c;have:=h q.d
 omega
theorem fO(x:Int):0<=x*x:=by
 rcases Int.le_total 0 x with h | h
 ·exact Int.mul_nonneg h h
 ·exact Int.mul_nonneg_of_nonpos_of_nonpos h h
theorem qsq_0{x:Int}(h:x*x=0):x=0:=by
 rcases Int.mul_eq_zero.1 h with h | h<;>exact h
theorem qn_0{q:jB}:qn q=0↔q=q0:=by
 constructor
 ·intro h
  unfold qn at h
  have h1:=fO q.a;have h2:=fO q.b;have h3:=fO q.c;have h4:=fO q.d
  have e1:=qsq_0 (x:=q.a) (by omega)
  have e2:=qsq_0 (x:=q.b) (by omega)
  have e3:=qsq_0 (x:=q.c) (by omega)
  have e4:=qsq_0 (x:=q.d) (by omega)
  exact qL_inj (by simp [qL,q0,e1,e2,e3,e4])
 ·intro h;subst h;rfl
theorem hZ{q:jB}:cU q↔qn q≠0:=by rw[qnz_iff,Ne,Ne,qn_0]
theorem qn_mul(p q:jB):qn (jX p q)=qn p*qn q:=by
 unfold qn jX;grind
theorem xU{p q:jB}(hp:cU p)(hq:cU q):cU (jX p q):=by
 rw[hZ] at hp hq ⊢
 rw[qn_mul];exact Int.mul_ne_zero hp hq
theorem qn_cj(q:jB):qn (uK q)=qn q:=by unfold qn uK;grind
theorem yN{q:jB}(h:cU q):cU (uK q):=by rw[hZ] at h ⊢;rwa [qn_cj]
theorem vJ(p q r:jB):jX (jX p q) r=jX p (jX q r):=by
 unfold jX;simp only[jB.mk.injEq];refine ⟨?_,?_,?_,?_⟩<;>grind
theorem qmul_cj(q:jB):jX q (uK q)=qsc (qn q) q1:=by
 unfold jX uK qsc qn q1;simp only[jB.mk.injEq];refine ⟨?_,?_,?_,?_⟩<;>grind
theorem qcj_mul(q:jB):jX (uK q) q=qsc (qn q) q1:=by
 unfold jX uK qsc qn q1;simp only[jB.mk.injEq];refine ⟨?_,?_,?_,?_⟩<;>grind
theorem qcj_qmul(p q:jB):uK (jX p q)=jX (uK q) (uK p):=by
 unfold jX uK;simp only[jB.mk.injEq];refine ⟨?_,?_,?_,?_⟩<;>grind
theorem qmul_1(q:jB):jX q q1=q:=by unfold jX q1;cases q;simp
theorem q1_mul(q:jB):jX q1 q=q:=by unfold jX q1;cases q;simp
theorem dK(k:Int)(p q:jB):jX (qsc k p) q=qsc k (jX p q):=by
 unfold jX qsc;simp only[jB.mk.injEq];refine ⟨?_,?_,?_,?_⟩<;>grind
theorem gZ(k:Int)(p q:jB):jX p (qsc k q)=qsc k (jX p q):=by
 unfold jX qsc;simp only[jB.mk.injEq];refine ⟨?_,?_,?_,?_⟩<;>grind
theorem qsc_sc(k l:Int)(q:jB):qsc k (qsc l q)=qsc (k*l) q:=by
 unfold qsc;simp only[jB.mk.injEq];refine ⟨?_,?_,?_,?_⟩<;>grind
theorem qsc_1(q:jB):qsc 1 q=q:=by unfold qsc;cases q;simp
theorem qcj_sc(k:Int)(q:jB):uK (qsc k q)=qsc k (uK q):=by
 unfold qsc uK;simp only[jB.mk.injEq];refine ⟨?_,?_,?_,?_⟩<;>grind
theorem qn_sc(k:Int)(q:jB):qn (qsc k q)=k*k*qn q:=by unfold qn qsc;grind
theorem qsc_nz{k:Int}{q:jB}(hk:k≠0)(h:cU q):cU (qsc k q):=by
 rw[hZ] at h ⊢;rw[qn_sc];exact Int.mul_ne_zero (Int.mul_ne_zero hk hk) h
def yR(p q:jB):Prop:=∃ k l:Int,k≠0/\l≠0/\qsc k p=qsc l q
theorem yR.refl(p:jB):yR p p:=⟨1,1,by decide,by decide,rfl⟩
theorem yR.symm{p q:jB}(h:yR p q):yR q p:=by
 obtain ⟨k,l,h1,h2,h3⟩:=h;exact ⟨l,k,h2,h1,h3.symm⟩
theorem yR.trans{p q r:jB}(h:yR p q)(g:yR q r):yR p r:=by
 obtain ⟨k,l,h1,h2,h3⟩:=h
 obtain ⟨k',l',g1,g2,g3⟩:=g
 refine ⟨k'*k,l*l',Int.mul_ne_zero g1 h1,Int.mul_ne_zero h2 g2,?_⟩
 rw[<- qsc_sc,h3,qsc_sc,Int.mul_comm k' l,<- qsc_sc,g3,qsc_sc]
theorem yR.sc{k:Int}(hk:k≠0)(p:jB):yR (qsc k p) p:=⟨1,k,by decide,hk,by rw[qsc_1]⟩
theorem yR.mul{p p' q q':jB}(h:yR p p')(g:yR q q'):yR (jX p q) (jX p' q'):=by
 obtain ⟨k,l,h1,h2,h3⟩:=h
 obtain ⟨k',l',g1,g2,g3⟩:=g
 refine ⟨k*k',l*l',Int.mul_ne_zero h1 g1,Int.mul_ne_zero h2 g2,?_⟩
 rw[<- qsc_sc,<- gZ,<- dK,h3,g3,dK,gZ,qsc_sc]
theorem yR.cj{p q:jB}(h:yR p q):yR (uK p) (uK q):=by
 obtain ⟨k,l,h1,h2,h3⟩:=h
 exact ⟨k,l,h1,h2,by rw[<- qcj_sc,h3,qcj_sc]⟩
theorem yR.nz{p q:jB}(h:yR p q)(hp:cU p):cU q:=by
 obtain ⟨k,l,h1,h2,h3⟩:=h
 have hk:=qsc_nz h1 hp
 rw[h3,hZ,qn_sc] at hk
 rw[hZ];intro e;exact hk (by rw[e,Int.mul_zero])
theorem qcan_back{q:jB}(h:cU q):qsc (dvL (qL q)) (yE q)=q:=qL_inj (by rw[qL_sc,qL_can];exact redL_back h)
theorem eX{q:jB}(h:cU q):yR (yE q) q:=⟨dvL (qL q),1,dvL_ne h,by decide,by rw[qcan_back h,qsc_1]⟩
theorem qcan_nz{q:jB}(h:cU q):cU (yE q):=(eX h).symm.nz h
theorem qcan_sc{k:Int}(hk:k≠0){q:jB}(h:cU q):yE (qsc k q)=yE q:=qL_inj (by rw[qL_can,qL_sc,qL_can,redL_scale hk h])
theorem aA{p q:jB}(hp:cU p)(hq:cU q):yE p=yE q↔yR p q:=by
 constructor
 ·intro h
  have h1:=(eX hp).symm
  rw[h] at h1
  exact h1.trans (eX hq)
 ·rintro ⟨k,l,h1,h2,h3⟩
  rw[<- qcan_sc h1 hp,h3,qcan_sc h2 hq]
theorem fdiv_abs{x d:Int}(hd:d≠0)(h:d∣x):(x.fdiv d).natAbs<=x.natAbs:=by
 obtain ⟨e,rfl⟩:=h
 rw[Int.mul_fdiv_cancel_left _ hd,Int.natAbs_mul]
 exact Nat.le_mul_of_pos_left _ (Int.natAbs_pos.2 hd)
def inQ(z:Int):Prop:=-1048576<=z/\z<=1048576
instance {z:Int}:Decidable (inQ z):=by unfold inQ;infer_instance
def cS(q:jB):Prop:=inQ q.a/\inQ q.b/\inQ q.c/\inQ q.d
instance {q:jB}:Decidable (cS q):=by unfold cS;infer_instance
def mK(q:jB):Prop:=cU q/\cS q
def qV(q:jB):jB:=if cS (yE q) then yE q else q0
def qC(q:jB):Nat:=if cS (yE q) then 0 else 3
theorem qV_fit(q:jB):cS (qV q):=by
 unfold qV;split
 ·assumption
 ·decide
theorem qC_01(q:jB):qC q=0\/qC q=3:=by unfold qC;split<;>simp
theorem qC_0{q:jB}:qC q=0↔cS (yE q):=by unfold qC;split<;>simp_all
theorem qV_y{q:jB}(h:cS (yE q)):qV q=yE q:=if_pos h
theorem qV_n{q:jB}(h:¬ cS (yE q)):qV q=q0:=if_neg h
theorem qC_y{q:jB}(h:cS (yE q)):qC q=0:=if_pos h
theorem qC_n{q:jB}(h:¬ cS (yE q)):qC q=3:=if_neg h
theorem qV_c0{q:jB}(h:qC q=0):qV q=yE q:=qV_y (qC_0.1 h)
theorem cM{q:jB}(hq:cU q)(h:qC q=0):mK (qV q):=⟨by rw[qV_c0 h];exact qcan_nz hq,qV_fit q⟩
theorem inQ_fdiv{x d:Int}(hd:d≠0)(h:d∣x)(hx:inQ x):inQ (x.fdiv d):=by
 have:=fdiv_abs hd h
 unfold inQ at hx ⊢;omega
theorem qcan_fit{q:jB}(h:mK q):cS (yE q):=by
 have hd:=dvL_ne h.1
 obtain ⟨h1,h2,h3,h4⟩:=h.2
 have hv:∀ z∈qL q,dvL (qL q)∣z:=dvL_dvd
 exact ⟨inQ_fdiv hd (hv _ (by simp [qL])) h1,inQ_fdiv hd (hv _ (by simp [qL])) h2,inQ_fdiv hd (hv _ (by simp [qL])) h3,inQ_fdiv hd (hv _ (by simp [qL])) h4⟩
theorem qcj_fit{q:jB}(h:cS q):cS (uK q):=by
 obtain ⟨h1,h2,h3,h4⟩:=h
 unfold cS uK inQ at *
 refine ⟨h1,?_,?_,?_⟩<;>dsimp only at *<;>omega
theorem qcj_ok{q:jB}(h:mK q):mK (uK q):=⟨yN h.1,qcj_fit h.2⟩
theorem qC_ok{q:jB}(h:mK q):qC q=0:=qC_0.2 (qcan_fit h)
theorem cI{q:jB}(h:mK q):qC (uK q)=0:=qC_ok (qcj_ok h)
theorem gF{q:jB}:mK q↔yD q.a q.b q.c q.d=0:=by
 constructor
 ·rintro ⟨h,h1,h2,h3,h4⟩
  refine eA (fun e=>?_) ⟨h1,h2,h3,h4⟩
  obtain ⟨e1,e2,e3,e4⟩:=e
  exact qnz_iff.1 h (qL_inj (by simp [qL,q0,e1,e2,e3,e4]))
 ·intro h
  unfold yD at h
  split at h
  ·cases h
  ·rename_i hz
   split at h
   ·rename_i hf
    refine ⟨qnz_iff.2 fun e=>hz ?_,hf⟩
    subst e;simp [q0]
   ·cases h
theorem q1_ok:mK q1:=gF.2 (by decide)
theorem q1_can:yE q1=q1:=by decide
def Qcn(q:jB):Prop:=mK q/\yE q=q
theorem qV_eq{q:jB}(hq:cU q)(h:qC q=0):yR (qV q) q:=by rw[qV_c0 h];exact eX hq
theorem Qcn.ext{p q:jB}(hp:Qcn p)(hq:Qcn q)(h:yR p q):p=q:=by
 rw[<- hp.2,<- hq.2];exact (aA hp.1.1 hq.1.1).2 h
theorem qC_congr{p q:jB}(hp:cU p)(hq:cU q)(h:yR p q):qC p=qC q/\qV p=qV q:=by
 have e:=(aA hp hq).2 h
 unfold qC qV;rw[e];exact ⟨rfl,rfl⟩
def eJ(p q:jB):Int:=p.a*q.a+p.b*q.b+p.c*q.c+p.d*q.d
theorem qlagr(p q:jB):qn p*qn q-eJ p q*eJ p q=(p.a*q.b-p.b*q.a)*(p.a*q.b-p.b*q.a)+(p.a*q.c-p.c*q.a)*(p.a*q.c-p.c*q.a)+(p.a*q.d-p.d*q.a)*(p.a*q.d-p.d*q.a)+(p.b*q.c-p.c*q.b)*(p.b*q.c-p.c*q.b)+(p.b*q.d-p.d*q.b)*(p.b*q.d-p.d*q.b)+(p.c*q.d-p.d*q.c)*(p.c*q.d-p.d*q.c):=by
 unfold qn eJ;grind
theorem qdot_sc(p q:jB)(h1:p.a*q.b=p.b*q.a)(h2:p.a*q.c=p.c*q.a)(h3:p.a*q.d=p.d*q.a)(h4:p.b*q.c=p.c*q.b)(h5:p.b*q.d=p.d*q.b)(h6:p.c*q.d=p.d*q.c):qsc (eJ p q) p=qsc (qn p) q:=by
 unfold qsc eJ qn;simp only[jB.mk.injEq];refine ⟨?_,?_,?_,?_⟩<;>grind
theorem qcs_eq{p q:jB}(hp:cU p)(hq:cU q):eJ p q*eJ p q=qn p*qn q↔yR p q:=by
 constructor
 ·intro h
  have hl:=qlagr p q
  have n1:=fO (p.a*q.b-p.b*q.a);have n2:=fO (p.a*q.c-p.c*q.a);have n3:=fO (p.a*q.d-p.d*q.a)
  have n4:=fO (p.b*q.c-p.c*q.b);have n5:=fO (p.b*q.d-p.d*q.b);have n6:=fO (p.c*q.d-p.d*q.c)
  have e1:=qsq_0 (x:=p.a*q.b-p.b*q.a) (by omega)
  have e2:=qsq_0 (x:=p.a*q.c-p.c*q.a) (by omega)
  have e3:=qsq_0 (x:=p.a*q.d-p.d*q.a) (by omega)
  have e4:=qsq_0 (x:=p.b*q.c-p.c*q.b) (by omega)
  have e5:=qsq_0 (x:=p.b*q.d-p.d*q.b) (by omega)
  have e6:=qsq_0 (x:=p.c*q.d-p.d*q.c) (by omega)
  refine ⟨eJ p q,qn p,fun e=>?_,hZ.1 hp,qdot_sc p q (by omega) (by omega) (by omega) (by omega) (by omega) (by omega)⟩
  rw[e] at h
  exact Int.mul_ne_zero (hZ.1 hp) (hZ.1 hq) (by omega)
 ·rintro ⟨k,l,hk,hl,h⟩
  have ha:k*p.a=l*q.a:=congrArg jB.a h
  have hb:k*p.b=l*q.b:=congrArg jB.b h
  have hc:k*p.c=l*q.c:=congrArg jB.c h
  have hd:k*p.d=l*q.d:=congrArg jB.d h
  have hl2:=qlagr p q
  have key:∀ x y x' y':Int,k*x=l*x'->k*y=l*y'->x*y'-y*x'=0:=fun x y x' y' e1 e2=>by
   have:k*l*(x*y'-y*x')=0:=by grind
   rcases Int.mul_eq_zero.1 this with h | h
   ·exact absurd h (Int.mul_ne_zero hk hl)
   ·exact h
  rw[key _ _ _ _ ha hb,key _ _ _ _ ha hc,key _ _ _ _ ha hd,key _ _ _ _ hb hc,key _ _ _ _ hb hd,key _ _ _ _ hc hd] at hl2
  omega
def chQ(p q:jB):Rat:=((1:Int):Rat)-((eJ p q:Int):Rat)*((eJ p q:Int):Rat) / (((qn p:Int):Rat)*((qn q:Int):Rat))
theorem chQ_0{p q:jB}(hp:cU p)(hq:cU q):chQ p q=0↔yR p q:=by
 rw[<- qcs_eq hp hq]
 unfold chQ
 have hn:((qn p*qn q:Int):Rat)≠0:=by
  rw[Ne,Rat.intCast_eq_zero_iff];exact Int.mul_ne_zero (hZ.1 hp) (hZ.1 hq)
 rw[<- Rat.intCast_mul,<- Rat.intCast_mul]
 constructor
 ·intro h
  have e:((eJ p q*eJ p q:Int):Rat) / ((qn p*qn q:Int):Rat)=1:=by
   have e2:((1:Int):Rat)=1:=rfl
   rw[e2] at h;grind
  have e3:((eJ p q*eJ p q:Int):Rat)=((qn p*qn q:Int):Rat):=by
   have:=Rat.div_mul_cancel (a:=((eJ p q*eJ p q:Int):Rat)) hn
   rw[e,Rat.one_mul] at this;exact this.symm
  exact Rat.intCast_inj.1 e3
 ·intro h
  rw[h,Rat.div_def,Rat.mul_inv_cancel _ hn];decide +kernel
def dF:List Int->Int
 |[]=>0
 |z::r=>if z=0 then dF r else z
theorem sgnL_fst:∀ zs:List Int,mF zs=kW (dF zs)
 |[]=>rfl
 |z::r=>by
  unfold mF dF
  split
  ·exact sgnL_fst r
  ·rfl
theorem dG{z:Int}:kW z=0↔z=0:=⟨fun h=>Classical.byContradiction fun g=>signI_ne g h,fun h=>by subst h;rfl⟩
theorem fst_0{a b c d:Int}(h:kW a≠0):a=dF [a,b,c,d]:=by
 unfold dF;rw[if_neg (fun e=>h (dG.2 e))]
theorem fst_1{a b c d:Int}(h1:kW a=0)(h:kW b≠0):b=dF [a,b,c,d]:=by
 unfold dF;rw[if_pos (dG.1 h1)];unfold dF;rw[if_neg (fun e=>h (dG.2 e))]
theorem fst_2{a b c d:Int}(h1:kW a=0)(h2:kW b=0)(h:kW c≠0):c=dF [a,b,c,d]:=by
 unfold dF;rw[if_pos (dG.1 h1)];unfold dF;rw[if_pos (dG.1 h2)];unfold dF;rw[if_neg (fun e=>h (dG.2 e))]
theorem fst_3{a b c d:Int}(h1:kW a=0)(h2:kW b=0)(h3:kW c=0):d=dF [a,b,c,d]:=by
 unfold dF;rw[if_pos (dG.1 h1)];unfold dF;rw[if_pos (dG.1 h2)];unfold dF;rw[if_pos (dG.1 h3)];unfold dF;split
 ·rename_i h;rw[h];rfl
 ·rfl
theorem dv_n{q:jB}{f:Int}(hf:f=dF (qL q))(h:kW f<0):dvL (qL q)=-((gcdL (qL q):Nat):Int):=by
 unfold dvL;rw[sgnL_fst,<- hf,if_pos h]
theorem dv_p{q:jB}{f:Int}(hf:f=dF (qL q))(h:¬ kW f<0):dvL (qL q)=((gcdL (qL q):Nat):Int):=by
 unfold dvL;rw[sgnL_fst,<- hf,if_neg h]
theorem gcd_n{q:jB}(h:cU q):((gcdL (qL q):Nat):Int)≠0:=fun e=>gcdL_ne h (by omega)
theorem fst_len{n:Nat}:∀ (zs:List Int),(∀ z∈zs,xH z<=n)->xH (dF zs)<=n
 |[],_=>by
  have:xH 0=0:=by decide +kernel
  unfold dF;omega
 |z::r,h=>by
  unfold dF;split
  ·exact fst_len r fun y hy=>h y (List.mem_cons_of_mem _ hy)
  ·exact h z (List.mem_cons_self ..)
theorem fst_iok{f:Int}{q:jB}{n:Nat}(hf:f=dF (qL q))(h:∀ z∈qL q,xH z<=n):xI (kG f) f n:=by subst hf;exact nO (fst_len _ h)
theorem q4_len{a b c d:Int}{n:Nat}(ha:xI (kG a) a n)(hb:xI (kG b) b n)(hc:xI (kG c) c n)(hd:xI (kG d) d n):∀ z∈qL ⟨a,b,c,d⟩,xH z<=n:=by
 intro z hz
 simp only[qL,List.mem_cons,List.not_mem_nil,or_false] at hz
 rcases hz with rfl | rfl | rfl | rfl
 ·exact ha.ln
 ·exact hb.ln
 ·exact hc.ln
 ·exact hd.ln
theorem gcd_iok{q:jB}{n:Nat}(h:∀ z∈qL q,xH z<=n):xI (kG ((gcdL (qL q):Nat):Int)) ((gcdL (qL q):Nat):Int) n:=nO (gcdL_len _ h)
def smB(x:Int):Bool:=(!(kO x)||decide (jO x < -1048576))||decide (1048576<jO x)
theorem smB_f{x:Int}(h:smB x=false):inQ x/\jO x=x:=by
 simp only[smB,Bool.or_eq_false_iff,Bool.not_eq_false',decide_eq_false_iff_not] at h
 obtain ⟨⟨h1,h2⟩,h3⟩:=h
 rw[smallI_t h1] at h2 h3
 exact ⟨⟨by omega,by omega⟩,smallI_t h1⟩
theorem smB_t{x:Int}(h:smB x=true):¬ inQ x:=fun hx=>by
 unfold inQ at hx
 have hf:kO x=true:=fits64_t (by omega) (by omega)
 simp only[smB,smallI_t hf,hf,Bool.not_true,Bool.false_or,Bool.or_eq_true,decide_eq_true_eq] at h
 omega
theorem prim_n{q:jB}{d x:Int}(hd:dvL (qL q)=d)(hx:x=q.a\/x=q.b\/x=q.c\/x=q.d)(h:smB (x.fdiv d)=true):qC q=3/\qV q=⟨0,0,0,0⟩:=by
 have hn:¬ cS (yE q):=fun hf=>by
  refine smB_t h ?_
  subst hd
  obtain ⟨h1,h2,h3,h4⟩:=hf
  rcases hx with rfl | rfl | rfl | rfl
  ·exact h1
  ·exact h2
  ·exact h3
  ·exact h4
 exact ⟨qC_n hn,qV_n hn⟩
theorem prim_y{q:jB}{d:Int}(hd:dvL (qL q)=d)(h1:smB (q.a.fdiv d)=false)(h2:smB (q.b.fdiv d)=false)(h3:smB (q.c.fdiv d)=false)(h4:smB (q.d.fdiv d)=false) :
  qC q=0/\qV q=⟨jO (q.a.fdiv d),jO (q.b.fdiv d),jO (q.c.fdiv d),jO (q.d.fdiv d)⟩:=by
 subst hd
 obtain ⟨f1,e1⟩:=smB_f h1
 obtain ⟨f2,e2⟩:=smB_f h2
 obtain ⟨f3,e3⟩:=smB_f h3
 obtain ⟨f4,e4⟩:=smB_f h4
 have hf:cS (yE q):=⟨f1,f2,f3,f4⟩
 refine ⟨qC_y hf,?_⟩
 rw[qV_y hf,e1,e2,e3,e4];rfl
theorem cS.bd{q:jB}(h:cS q):(-1048576<=q.a/\q.a<=1048576)/\(-1048576<=q.b/\q.b<=1048576)/\(-1048576<=q.c/\q.c<=1048576)/\(-1048576<=q.d/\q.d<=1048576):=h
end Go.Fid
namespace Go.Fid
end Go.Fid
namespace Go.Fid
def sameQ(p q:jB):Bool:=decide (qL (qV p)=qL (qV q))
theorem sameQ_iff{p q:jB}(hp:mK p)(hq:mK q):sameQ p q=true↔yR p q:=by
 unfold sameQ
 rw[decide_eq_true_iff,qV_c0 (qC_ok hp),qV_c0 (qC_ok hq)]
 exact ⟨fun h=>(aA hp.1 hq.1).1 (qL_inj h),fun h=>congrArg qL ((aA hp.1 hq.1).2 h)⟩
theorem qdot_bd{p q:jB}(hp:mK p)(hq:mK q):-9223372036854775808<=eJ p q/\eJ p q<=9223372036854775807:=by
 obtain ⟨a1,a2,a3,a4⟩:=hp.2.bd
 obtain ⟨b1,b2,b3,b4⟩:=hq.2.bd
 have:=zJ a1 b1;have:=zJ a2 b2;have:=zJ a3 b3;have:=zJ a4 b4
 unfold eJ;omega
theorem qn_bd{p:jB}(hp:mK p):1<=qn p/\qn p<=9223372036854775807:=by
 have h:=qdot_bd hp hp
 have h0:=qn_nn p
 have h1:=hZ.1 hp.1
 have e:eJ p p=qn p:=rfl
 omega
theorem chQ_di(p q:jB):((1:Int):Rat)-Rat.divInt (eJ p q*eJ p q) (qn p*qn q)=chQ p q:=by
 unfold chQ;rw[<- Rat.intCast_mul,<- Rat.intCast_mul,Rat.divInt_eq_div]
structure jE where
 fr:Int
 to_:Int
 turn:jB
deriving DecidableEq
def e0:jE:=⟨0,0,⟨0,0,0,0⟩⟩
def edgC(n:Int)(x:jE):Nat :=
 if 0<=x.fr/\x.fr<n/\0<=x.to_/\x.to_<n then (if x.fr=x.to_ then 13 else yD x.turn.a x.turn.b x.turn.c x.turn.d) else 2
def edsC(n:Int):List jE->Nat
 |[]=>0
 |x::l=>if edgC n x=0 then edsC n l else edgC n x
def zP(n:Int)(es:List jE):Nat:=if n<1\/64<n\/256<es.length then 3 else edsC n es
structure EOkE (n:Nat) (x:jE):Prop where
 f0:0<=x.fr
 f1:x.fr<n
 t0:0<=x.to_
 t1:x.to_<n
 ne:x.fr≠x.to_
 q:mK x.turn
theorem edgC_ok{n:Nat}{x:jE}:edgC n x=0↔EOkE n x:=by
 unfold edgC
 constructor
 ·intro h
  split at h
  ·rename_i hr
   split at h
   ·cases h
   ·rename_i hn
    exact ⟨hr.1,hr.2.1,hr.2.2.1,hr.2.2.2,hn,gF.2 h⟩
  ·cases h
 ·intro h
  rw[if_pos ⟨h.f0,h.f1,h.t0,h.t1⟩,if_neg h.ne]
  exact gF.1 h.q
def xP(n:Nat)(es:List jE):Prop:=∀ x∈es,EOkE n x
theorem edsC_ok{n:Nat}:∀ {es:List jE},edsC n es=0↔xP n es
 |[]=>by simp [edsC,xP]
 |x::l=>by
  unfold edsC
  split
  ·rename_i h
   rw[edsC_ok (es:=l)]
   exact ⟨fun g=>List.forall_mem_cons.2 ⟨edgC_ok.1 h,g⟩,fun g=>(List.forall_mem_cons.1 g).2⟩
  ·rename_i h
   exact ⟨fun g=>absurd g h,fun g=>absurd (edgC_ok.2 (List.forall_mem_cons.1 g).1) h⟩
theorem edsC_at{n:Int}:∀ {es:List jE} {k:Nat},k<es.length->(∀ i,i<k->edgC n (es.getD i e0)=0)->edgC n (es.getD k e0)≠0->edsC n es=edgC n (es.getD k e0)
 |[],k,h,_,_=>by simp at h
 |x::l,0,h,_,h2=>by simp only[edsC,List.getD_cons_zero] at h2 ⊢;rw[if_neg h2]
 |x::l,k+1,h,h1,h2=>by
  have hx:=h1 0 (by omega)
  simp only[List.getD_cons_zero] at hx
  simp only[edsC,List.getD_cons_succ,hx,if_true] at h2 ⊢
  exact edsC_at (by simpa using h) (fun i hi=>by have:=h1 (i+1) (by omega);simpa using this) h2
theorem edsC_end{n:Int}:∀ {es:List jE},(∀ i,i<es.length->edgC n (es.getD i e0)=0)->edsC n es=0
 |[],_=>rfl
 |x::l,h=>by
  have hx:=h 0 (by simp)
  simp only[List.getD_cons_zero] at hx
  simp only[edsC,hx,if_true]
  exact edsC_end fun i hi=>by have:=h (i+1) (by simpa using hi);simpa using this
theorem lopC_lim{n:Int}{es:List jE}(h:n<1\/64<n\/256<es.length):zP n es=3:=if_pos h
theorem lopC_eds{n:Int}{es:List jE}(h1:¬ n<1)(h2:¬ 64<n)(h3:¬ 256<es.length):zP n es=edsC n es:=if_neg (fun h=>by rcases h with h | h | h<;>omega)
theorem lopC_0{n:Int}{es:List jE}(h:zP n es=0):1<=n/\n<=64/\es.length<=256/\xP n.toNat es:=by
 unfold zP at h
 split at h
 ·cases h
 ·rename_i hn
  have h1:1<=n:=by omega
  refine ⟨h1,by omega,by omega,?_⟩
  rw[show n=((n.toNat:Nat):Int) by omega] at h
  exact edsC_ok.1 h
theorem eL{n:Nat}{es:List jE}(h:xP n es){k:Nat}(hk:k<es.length):EOkE n (es.getD k e0):=by
 rw[List.getD_eq_getElem?_getD,List.getElem?_eq_getElem hk]
 exact h _ (List.getElem_mem hk)
def pA(p:List Int)(x:jE):Int:=p.getD x.fr.toNat 0
def pB(p:List Int)(x:jE):Int:=p.getD x.to_.toNat 0
def kp(g:Bool)(a b:Int):Int:=if g=true then min a b else a
def dp(g:Bool)(a b:Int):Int:=if g=true then max a b else b
def rl(k d q:Int):Int:=if q=d then k else q
def mrg(g:Bool)(a b:Int)(p:List Int):List Int:=p.map (rl (kp g a b) (dp g a b))
def kV(g:Bool)(n:Nat)(es:List jE):Nat->List Int
 |0=>(List.range n).map fun k=>((k:Nat):Int)
 |k+1=>if pA (kV g n es k) (es.getD k e0)=pB (kV g n es k) (es.getD k e0) then kV g n es k else mrg g (pA (kV g n es k) (es.getD k e0)) (pB (kV g n es k) (es.getD k e0)) (kV g n es k)
def yQ(g:Bool)(n:Nat)(es:List jE):Nat->List Int
 |0=>[]
 |k+1=>if pA (kV g n es k) (es.getD k e0)=pB (kV g n es k) (es.getD k e0) then yQ g n es k else yQ g n es k++[((k:Nat):Int)]
theorem mM{g:Bool}{n:Nat}{es:List jE}{k:Nat}(h:pA (kV g n es k) (es.getD k e0)=pB (kV g n es k) (es.getD k e0)):kV g n es (k+1)=kV g n es k/\yQ g n es (k+1)=yQ g n es k:=⟨if_pos h,if_pos h⟩
theorem mW{g:Bool}{n:Nat}{es:List jE}{k:Nat}(h:¬ pA (kV g n es k) (es.getD k e0)=pB (kV g n es k) (es.getD k e0)):kV g n es (k+1)=mrg g (pA (kV g n es k) (es.getD k e0)) (pB (kV g n es k) (es.getD k e0)) (kV g n es k)/\yQ g n es (k+1)=yQ g n es k++[((k:Nat):Int)]:=⟨if_neg h,if_neg h⟩
theorem mrg_len(g:Bool)(a b:Int)(p:List Int):(mrg g a b p).length=p.length:=by simp [mrg]
theorem gV(g:Bool)(n:Nat)(es:List jE):∀ k,(kV g n es k).length=n
 |0=>by simp [kV]
 |k+1=>by
  unfold kV
  split
  ·exact gV g n es k
  ·rw[mrg_len];exact gV g n es k
theorem tTak_len(g:Bool)(n:Nat)(es:List jE):∀ k,(yQ g n es k).length<=k
 |0=>by simp [yQ]
 |k+1=>by
  have:=tTak_len g n es k
  unfold yQ
  split
  ·omega
  ·rw[List.length_append];simp;omega
theorem cL{g:Bool}{n:Nat}{es:List jE}:∀ {k:Nat} {z:Int},z∈yQ g n es k->∃ i:Nat,i<k/\z=i
 |0,z,h=>by simp [yQ] at h
 |k+1,z,h=>by
  unfold yQ at h
  split at h
  ·obtain ⟨i,h1,h2⟩:=cL h;exact ⟨i,by omega,h2⟩
  ·rcases List.mem_append.1 h with h | h
   ·obtain ⟨i,h1,h2⟩:=cL h;exact ⟨i,by omega,h2⟩
   ·exact ⟨k,by omega,by simpa using h⟩
theorem gE{g:Bool}{a b:Int}{p:List Int}{i:Nat}(h:i<p.length):(mrg g a b p).getD i 0=rl (kp g a b) (dp g a b) (p.getD i 0):=by
 simp [mrg,List.getD_eq_getElem?_getD,List.getElem?_eq_getElem h]
theorem rl_iff{g:Bool}{a b u v:Int}(h:a≠b):rl (kp g a b) (dp g a b) u=rl (kp g a b) (dp g a b) v↔(u=v\/(u=a/\v=b)\/(u=b/\v=a)):=by
 unfold rl kp dp
 cases g<;>simp only[Bool.false_eq_true,if_false,if_true]<;>split<;>split<;>constructor<;>intro hh<;>omega
section
variable {n:Nat} {es:List jE}
theorem same_cls(h:xP n es):∀ {k:Nat},k<=es.length->∀ {i j:Nat},i<n->j<n->((kV true n es k).getD i 0=(kV true n es k).getD j 0↔(kV false n es k).getD i 0=(kV false n es k).getD j 0)
 |0,_,i,j,hi,hj=>by simp [kV]
 |k+1,hk,i,j,hi,hj=>by
  have ih:=fun {i j:Nat} (hi:i<n) (hj:j<n)=>same_cls h (k:=k) (by omega) hi hj
  have hx:=eL h (k:=k) (by omega)
  generalize he:es.getD k e0=x at hx
  have hf:x.fr.toNat<n:=by have:=hx.f0;have:=hx.f1;omega
  have ht:x.to_.toNat<n:=by have:=hx.t0;have:=hx.t1;omega
  have e1:=ih hf ht
  by_cases hab:pA (kV true n es k) (es.getD k e0)=pB (kV true n es k) (es.getD k e0)
  ·have hab2:pA (kV false n es k) (es.getD k e0)=pB (kV false n es k) (es.getD k e0):=by
    rw[he] at hab ⊢;exact e1.1 hab
   rw[(mM hab).1,(mM hab2).1];exact ih hi hj
  ·have hab2:¬ pA (kV false n es k) (es.getD k e0)=pB (kV false n es k) (es.getD k e0):=by
    rw[he] at hab ⊢;exact fun e=>hab (e1.2 e)
   rw[(mW hab).1,(mW hab2).1]
   rw[he] at hab hab2 ⊢
   have l1:=gV true n es k
   have l2:=gV false n es k
   rw[gE (by omega),gE (by omega),gE (by omega),gE (by omega),rl_iff hab,rl_iff hab2]
   unfold pA pB
   rw[ih hi hj,ih hi hf,ih hj ht,ih hi ht,ih hj hf]
theorem tTak_eq(h:xP n es):∀ {k:Nat},k<=es.length->yQ true n es k=yQ false n es k
 |0,_=>rfl
 |k+1,hk=>by
  have ih:=tTak_eq h (k:=k) (by omega)
  have hx:=eL h (k:=k) (by omega)
  have e1:=same_cls h (k:=k) (by omega) (i:=(es.getD k e0).fr.toNat) (j:=(es.getD k e0).to_.toNat) (by have:=hx.f0;have:=hx.f1;omega) (by have:=hx.t0;have:=hx.t1;omega)
  by_cases hab:pA (kV true n es k) (es.getD k e0)=pB (kV true n es k) (es.getD k e0)
  ·rw[(mM hab).2,(mM (e1.1 hab)).2,ih]
  ·rw[(mW hab).2,(mW (fun e=>hab (e1.2 e))).2,ih]
theorem cG(h:xP n es):∀ {k:Nat},k<=es.length->∀ {i:Nat},i<n->0<=(kV true n es k).getD i 0/\(kV true n es k).getD i 0<=i
 |0,_,i,hi=>by simp [kV,List.getD_eq_getElem?_getD,hi]
 |k+1,hk,i,hi=>by
  have ih:=fun {i:Nat} (hi:i<n)=>cG h (k:=k) (by omega) hi
  have hx:=eL h (k:=k) (by omega)
  by_cases hab:pA (kV true n es k) (es.getD k e0)=pB (kV true n es k) (es.getD k e0)
  ·rw[(mM hab).1];exact ih hi
  ·rw[(mW hab).1,gE (by rw[gV];exact hi)]
   have hf:=ih (i:=(es.getD k e0).fr.toNat) (by have:=hx.f0;have:=hx.f1;omega)
   have ht:=ih (i:=(es.getD k e0).to_.toNat) (by have:=hx.t0;have:=hx.t1;omega)
   have hi2:=ih hi
   unfold rl kp dp pA pB
   simp only[if_true]
   split<;>omega
theorem tPar_root(h:xP n es):∀ {k:Nat},k<=es.length->∀ {i:Nat},i<n->(kV true n es k).getD ((kV true n es k).getD i 0).toNat 0=(kV true n es k).getD i 0
 |0,_,i,hi=>by simp [kV,List.getD_eq_getElem?_getD,hi]
 |k+1,hk,i,hi=>by
  have ih:=fun {i:Nat} (hi:i<n)=>tPar_root h (k:=k) (by omega) hi
  have rg:=fun {i:Nat} (hi:i<n)=>cG h (k:=k) (by omega) hi
  have hx:=eL h (k:=k) (by omega)
  by_cases hab:pA (kV true n es k) (es.getD k e0)=pB (kV true n es k) (es.getD k e0)
  ·rw[(mM hab).1];exact ih hi
  ·have l1:=gV true n es k
   have hf:(es.getD k e0).fr.toNat<n:=by have:=hx.f0;have:=hx.f1;omega
   have ht:(es.getD k e0).to_.toNat<n:=by have:=hx.t0;have:=hx.t1;omega
   have rf:=rg hf;have rt:=rg ht;have ri:=rg hi
   have f1:=ih hf;have t1:=ih ht;have i1:=ih hi
   rw[(mW hab).1]
   rw[gE (i:=i) (by omega)]
   have e:∃ q,q=rl (kp true (pA (kV true n es k) (es.getD k e0)) (pB (kV true n es k) (es.getD k e0))) (dp true (pA (kV true n es k) (es.getD k e0)) (pB (kV true n es k) (es.getD k e0))) ((kV true n es k).getD i 0):=⟨_,rfl⟩
   obtain ⟨q,hq⟩:=e
   rw[<- hq]
   have hq0:0<=q/\q<n/\(kV true n es k).getD q.toNat 0=q/\q≠max (pA (kV true n es k) (es.getD k e0)) (pB (kV true n es k) (es.getD k e0)):=by
    unfold rl kp dp at hq
    simp only[if_true] at hq
    unfold pA pB at *
    split at hq
    ·rcases Int.le_total ((kV true n es k).getD (es.getD k e0).fr.toNat 0) ((kV true n es k).getD (es.getD k e0).to_.toNat 0) with hm | hm
     ·rw[Int.min_eq_left hm] at hq;subst hq;exact ⟨by omega,by omega,f1,by omega⟩
     ·rw[Int.min_eq_right hm] at hq;subst hq;exact ⟨by omega,by omega,t1,by omega⟩
    ·subst hq;exact ⟨by omega,by omega,i1,by assumption⟩
   rw[gE (by omega),hq0.2.2.1]
   unfold rl dp
   simp only[if_true]
   rw[if_neg hq0.2.2.2]
theorem cF(h:xP n es)(S:Nat->Prop):∀ {k:Nat},k<=es.length->(∀ i:Nat,(i:Int)∈yQ true n es k->(S (es.getD i e0).fr.toNat↔S (es.getD i e0).to_.toNat))->∀ {i j:Nat},i<n->j<n->(kV true n es k).getD i 0=(kV true n es k).getD j 0->(S i↔S j)
 |0,_,_,i,j,hi,hj,e=>by
  simp [kV,List.getD_eq_getElem?_getD,hi,hj] at e
  rw[show i=j by omega]
 |k+1,hk,hS,i,j,hi,hj,e=>by
  by_cases hab:pA (kV true n es k) (es.getD k e0)=pB (kV true n es k) (es.getD k e0)
  ·rw[(mM hab).1] at e
   rw[(mM hab).2] at hS
   exact cF h S (by omega) hS hi hj e
  ·have hx:=eL h (k:=k) (by omega)
   have hf:(es.getD k e0).fr.toNat<n:=by have:=hx.f0;have:=hx.f1;omega
   have ht:(es.getD k e0).to_.toNat<n:=by have:=hx.t0;have:=hx.t1;omega
   rw[(mW hab).2] at hS
   have ih:=fun {i j:Nat} (hi:i<n) (hj:j<n) e=>cF h S (k:=k) (by omega) (fun i hi=>hS i (List.mem_append_left _ hi)) (i:=i) (j:=j) hi hj e
   have hk1:=hS k (List.mem_append_right _ (by simp))
   have l1:=gV true n es k
   rw[(mW hab).1,gE (by omega),gE (by omega),rl_iff hab] at e
   rcases e with e | ⟨e1,e2⟩ | ⟨e1,e2⟩
   ·exact ih hi hj e
   ·exact (ih hi hf e1).trans (hk1.trans (ih ht hj e2.symm))
   ·exact (ih hi ht e1).trans (hk1.symm.trans (ih hf hj e2.symm))
theorem tPar_ends(h:xP n es):∀ {k:Nat},k<=es.length->∀ {i:Nat},i<k->(kV true n es k).getD (es.getD i e0).fr.toNat 0=(kV true n es k).getD (es.getD i e0).to_.toNat 0
 |0,_,i,hi=>by omega
 |k+1,hk,i,hi=>by
  have hx:=eL h (k:=i) (by omega)
  have hf:(es.getD i e0).fr.toNat<n:=by have:=hx.f0;have:=hx.f1;omega
  have ht:(es.getD i e0).to_.toNat<n:=by have:=hx.t0;have:=hx.t1;omega
  have l1:=gV true n es k
  by_cases hik:i=k
  ·subst hik
   by_cases hab:pA (kV true n es i) (es.getD i e0)=pB (kV true n es i) (es.getD i e0)
   ·rw[(mM hab).1];exact hab
   ·rw[(mW hab).1,gE (by omega),gE (by omega),rl_iff hab]
    exact .inr (.inl ⟨rfl,rfl⟩)
  ·have ih:=tPar_ends h (k:=k) (by omega) (i:=i) (by omega)
   by_cases hab:pA (kV true n es k) (es.getD k e0)=pB (kV true n es k) (es.getD k e0)
   ·rw[(mM hab).1];exact ih
   ·rw[(mW hab).1,gE (by omega),gE (by omega),rl_iff hab];exact .inl ih
def tV(n:Nat)(es:List jE):Nat->Nat->jB
 |0,_=>q1
 |k+1,j=>
  if pA (kV true n es k) (es.getD k e0)=pB (kV true n es k) (es.getD k e0) then tV n es k j
  else if pA (kV true n es k) (es.getD k e0)<pB (kV true n es k) (es.getD k e0) then
   (if (kV true n es k).getD j 0=pB (kV true n es k) (es.getD k e0) then jX (jX (jX (tV n es k (es.getD k e0).fr.toNat) (uK (es.getD k e0).turn)) (uK (tV n es k (es.getD k e0).to_.toNat))) (tV n es k j) else tV n es k j)
  else
   (if (kV true n es k).getD j 0=pA (kV true n es k) (es.getD k e0) then jX (jX (jX (tV n es k (es.getD k e0).to_.toNat) (es.getD k e0).turn) (uK (tV n es k (es.getD k e0).fr.toNat))) (tV n es k j) else tV n es k j)
theorem tV_nz(h:xP n es):∀ {k:Nat},k<=es.length->∀ j,cU (tV n es k j)
 |0,_,j=>q1_ok.1
 |k+1,hk,j=>by
  have ih:=tV_nz h (k:=k) (by omega)
  have hx:=eL h (k:=k) (by omega)
  unfold tV
  split
  ·exact ih j
  ·split
   ·split
    ·exact xU (xU (xU (ih _) (yN hx.q.1)) (yN (ih _))) (ih _)
    ·exact ih j
   ·split
    ·exact xU (xU (xU (ih _) hx.q.1) (yN (ih _))) (ih _)
    ·exact ih j
theorem tV_root(h:xP n es):∀ {k:Nat},k<=es.length->∀ {j:Nat},j<n->(kV true n es k).getD j 0=j->tV n es k j=q1
 |0,_,j,_,_=>rfl
 |k+1,hk,j,hj,e=>by
  have hx:=eL h (k:=k) (by omega)
  have hf:(es.getD k e0).fr.toNat<n:=by have:=hx.f0;have:=hx.f1;omega
  have ht:(es.getD k e0).to_.toNat<n:=by have:=hx.t0;have:=hx.t1;omega
  have ih:=tV_root h (k:=k) (by omega) hj
  have l1:=gV true n es k
  have rj:=cG h (k:=k) (by omega) hj
  have rf:=cG h (k:=k) (by omega) hf
  have rt:=cG h (k:=k) (by omega) ht
  by_cases hab:pA (kV true n es k) (es.getD k e0)=pB (kV true n es k) (es.getD k e0)
  ·rw[(mM hab).1] at e
   unfold tV;rw[if_pos hab];exact ih e
  ·rw[(mW hab).1,gE (by omega)] at e
   unfold tV;rw[if_neg hab]
   have hne:(kV true n es k).getD j 0≠max (pA (kV true n es k) (es.getD k e0)) (pB (kV true n es k) (es.getD k e0)):=fun e2=>by
    unfold rl kp dp at e
    simp only[if_true] at e
    rw[if_pos e2] at e
    unfold pA pB at *
    omega
   have e3:(kV true n es k).getD j 0=j:=by
    unfold rl dp at e
    simp only[if_true] at e
    rwa [if_neg hne] at e
   split
   ·rw[if_neg (fun e2=>hne (by omega))];exact ih e3
   ·rw[if_neg (fun e2=>hne (by omega))];exact ih e3
theorem tV_sat(h:xP n es):∀ {k:Nat},k<=es.length->∀ {i:Nat},(i:Int)∈yQ true n es k->yR (tV n es k (es.getD i e0).fr.toNat) (jX (tV n es k (es.getD i e0).to_.toNat) (es.getD i e0).turn)
 |0,_,i,hi=>by simp [yQ] at hi
 |k+1,hk,i,hi=>by
  have nz:=tV_nz h (k:=k) (by omega)
  have hx:=eL h (k:=k) (by omega)
  by_cases hab:pA (kV true n es k) (es.getD k e0)=pB (kV true n es k) (es.getD k e0)
  ·rw[(mM hab).2] at hi
   unfold tV;simp only[if_pos hab]
   exact tV_sat h (by omega) hi
  ·rw[(mW hab).2] at hi
   unfold tV;simp only[if_neg hab]
   rcases List.mem_append.1 hi with hi | hi
   ·have ih:=tV_sat h (k:=k) (by omega) hi
    obtain ⟨i',hi',e'⟩:=cL hi
    have hends:=tPar_ends h (k:=k) (by omega) (i:=i) (by omega)
    have hm:∀ m:jB,yR (jX m (tV n es k (es.getD i e0).fr.toNat)) (jX (jX m (tV n es k (es.getD i e0).to_.toNat)) (es.getD i e0).turn):=fun m=>by
     rw[vJ];exact (yR.refl m).mul ih
    rw[hends]
    split
    ·split
     ·exact hm _
     ·exact ih
    ·split
     ·exact hm _
     ·exact ih
   ·obtain rfl:i=k:=by simp at hi;omega
    have hA:(kV true n es i).getD (es.getD i e0).fr.toNat 0=pA (kV true n es i) (es.getD i e0):=rfl
    have hB:(kV true n es i).getD (es.getD i e0).to_.toNat 0=pB (kV true n es i) (es.getD i e0):=rfl
    rw[hA,hB]
    simp only[if_true,if_neg hab,if_neg (fun e=>hab (Eq.symm e))]
    split
    ·refine yR.symm ?_
     rw[vJ _ (uK (tV n es i (es.getD i e0).to_.toNat)) _,qcj_mul,gZ,qmul_1,dK,vJ,qcj_mul,gZ,qmul_1,qsc_sc]
     exact yR.sc (Int.mul_ne_zero (hZ.1 (nz _)) (hZ.1 hx.q.1)) _
    ·rw[vJ (jX _ _),qcj_mul,gZ,qmul_1]
     exact yR.sc (hZ.1 (nz _)) _
theorem tV_uniq(h:xP n es)(W:Nat->jB)(hW:∀ j,j<n->cU (W j)){k:Nat}(hk:k<=es.length)(hs:∀ i:Nat,(i:Int)∈yQ true n es k->yR (W (es.getD i e0).fr.toNat) (jX (W (es.getD i e0).to_.toNat) (es.getD i e0).turn))
  {j:Nat} (hj:j<n):yR (tV n es k j) (jX (uK (W ((kV true n es k).getD j 0).toNat)) (W j)):=by
 have rj:=cG h hk hj
 generalize hr:((kV true n es k).getD j 0).toNat=r
 have hrn:r<n:=by omega
 have hroot:=tPar_root h hk hj
 rw[hr] at hroot
 have hc:=cF h (fun i=>yR (tV n es k i) (jX (uK (W r)) (W i))) hk (fun i hi=>by
  obtain ⟨i',hi',e'⟩:=cL hi
  have hx:=eL h (k:=i) (by omega)
  have s1:=tV_sat h hk hi
  have s2:=hs i hi
  have hn:=hZ.1 hx.q.1
  constructor
  ·intro g
   have e1:yR (jX (tV n es k (es.getD i e0).to_.toNat) (es.getD i e0).turn) (jX (jX (uK (W r)) (W (es.getD i e0).to_.toNat)) (es.getD i e0).turn) :=
    s1.symm.trans (g.trans (by rw[vJ];exact (yR.refl _).mul s2))
   have e2:=e1.mul (yR.refl (uK (es.getD i e0).turn))
   rw[vJ,qmul_cj,gZ,qmul_1,vJ (jX _ _),qmul_cj,gZ,qmul_1] at e2
   exact (yR.sc hn _).symm.trans (e2.trans (yR.sc hn _))
  ·intro g
   refine s1.trans ((g.mul (yR.refl _)).trans ?_)
   rw[vJ];exact (yR.refl _).mul s2.symm) hrn hj (by rw[hroot])
 refine hc.1 ?_
 rw[tV_root h hk hrn (by omega),qcj_mul]
 exact (yR.sc (hZ.1 (hW r hrn)) _).symm
end
def aV(n:Nat)(es:List jE)(j:Nat):jB:=tV n es es.length j
def aFit(n:Nat)(es:List jE):Prop:=∀ j,j<n->cS (yE (aV n es j))
instance {n:Nat} {es:List jE}:Decidable (aFit n es):=by unfold aFit;infer_instance
def vK(n:Nat)(es:List jE):List jB:=if aFit n es then (List.range n).map fun j=>yE (aV n es j) else []
def mH(n:Nat)(es:List jE):Nat:=if aFit n es then 0 else 3
def jK(n:Nat)(es:List jE):List Int:=yQ true n es es.length
end Go.Fid
namespace Go.Proofs.YtciingpdmjepgaaGreat
open Go.Fid
def jL(x:kR):jW:=.agg [.val (.bool x.neg),.sl 135 1 (x.gs.map jC)]
def qA(x:vO):jW:=.agg [.val (.bool x.num.neg),.sl 135 1 (x.num.gs.map jC),.val (.bool x.den.neg),.sl 135 1 (x.den.gs.map jC)]
structure qD where
 x:Int
 y:Int
structure jM where
 x:Int
 y:Int
 z:Int
def kH(x:jM):jW:=.agg [.val (.int .i64 x.x),.val (.int .i64 x.y),.val (.int .i64 x.z)]
def jI(x:jB):jW:=.agg [.val (.int .i64 x.a),.val (.int .i64 x.b),.val (.int .i64 x.c),.val (.int .i64 x.d)]
def kC(x:jE):jW:=.agg [.val (.int .i64 x.fr),.val (.int .i64 x.to_),.val (.int .i64 x.turn.a),.val (.int .i64 x.turn.b),.val (.int .i64 x.turn.c),.val (.int .i64 x.turn.d)]
structure kM where
 at_:jM
 turn:jB
 focal:Int
 centre:qD
def uQ(x:kM):jW:=.agg [.val (.int .i64 x.at_.x),.val (.int .i64 x.at_.y),.val (.int .i64 x.at_.z),.val (.int .i64 x.turn.a),.val (.int .i64 x.turn.b),.val (.int .i64 x.turn.c),.val (.int .i64 x.turn.d),.val (.int .i64 x.focal),.val (.int .i64 x.centre.x),.val (.int .i64 x.centre.y)]
structure A2 (α:Type) where
 a0:α
 a1:α
structure A3 (α:Type) where
 a0:α
 a1:α
 a2:α
structure A4 (α:Type) where
 a0:α
 a1:α
 a2:α
 a3:α
def gW(x:A4 (Int)):jW:=.agg [.val (.int .i64 x.a0),.val (.int .i64 x.a1),.val (.int .i64 x.a2),.val (.int .i64 x.a3)]
def encA113(x:A3 (Int)):jW:=.agg [.val (.int .i64 x.a0),.val (.int .i64 x.a1),.val (.int .i64 x.a2)]
def encA114(x:A3 (A3 (Int))):jW:=.agg [.val (.int .i64 x.a0.a0),.val (.int .i64 x.a0.a1),.val (.int .i64 x.a0.a2),.val (.int .i64 x.a1.a0),.val (.int .i64 x.a1.a1),.val (.int .i64 x.a1.a2),.val (.int .i64 x.a2.a0),.val (.int .i64 x.a2.a1),.val (.int .i64 x.a2.a2)]
def encA119(x:A4 (kR)):jW:=.agg [.val (.bool x.a0.neg),.sl 135 1 (x.a0.gs.map jC),.val (.bool x.a1.neg),.sl 135 1 (x.a1.gs.map jC),.val (.bool x.a2.neg),.sl 135 1 (x.a2.gs.map jC),.val (.bool x.a3.neg),.sl 135 1 (x.a3.gs.map jC)]
structure kL where
 kind:Int
 a:Int
 b:Int
 axis:Int
 value:A2 (Int)
 weight:Int
def qN(x:kL):jW:=.agg [.val (.int .i64 x.kind),.val (.int .i64 x.a),.val (.int .i64 x.b),.val (.int .i64 x.axis),.val (.int .i64 x.value.a0),.val (.int .i64 x.value.a1),.val (.int .i64 x.weight)]
structure qW where
 dim:Int
 sts:List (kM)
 pts:List (jM)
 obs:List (kL)
def kJ(x:qW):jW:=.agg [.val (.int .i64 x.dim),.sl 38 10 (x.sts.map uQ),.sl 30 3 (x.pts.map kH),.sl 68 7 (x.obs.map qN)]
structure RNam where
 a:Int
 b:Int
 axis:Int
def encNam(x:RNam):jW:=.agg [.val (.int .i64 x.a),.val (.int .i64 x.b),.val (.int .i64 x.axis)]
theorem mo:Tryz.prog.follows .mixedOrders=true:=by kernel_rfl
end Go.Proofs.YtciingpdmjepgaaGreat
namespace Go.Fid
abbrev vi (z:Int):SV:=.d (.val (.int .i64 z))
abbrev jN (n:Nat):SV:=.d (.val (.int .i64 (n:Int)))
abbrev yH (n:Nat):SV:=.d (.val (.int .u64 (n:Int)))
abbrev fU (n:Nat):SV:=.d (.val (.int .u32 (n:Int)))
abbrev vb (b:Bool):SV:=.d (.val (.bool b))
abbrev vl {α:Type} (E z:Nat) (F:α->jW) (L:List α):SV:=.d (.sl E z (L.map F))
abbrev bm {α:Type} (F:α->jW) (L:List α):List SV:=L.map (fun g=>SV.d (F g))
section
variable {P:Program} {n:Fr} {ops:Array Oper} {S S':SL} {B B':BS} {l:List Oper} {o:Oper} {news:List Nat} {acc0:List (List Nat × List Nat)}
def mvB(o:Oper):Option Operand:=match o.op with
 |.move x=>some x
 |.assign x=>some x
 |_=>none
def mvS(S:SL)(o:Oper):Option SV:=(mvB o).map (ev (jR S))
end
theorem fillL_all{s:Nat}:∀ (ds:List jW) (k:Nat) (a z:List jW),a.length=k*s->z.length=ds.length*s->(∀ d∈ds,d.cells.length=s) ->
  eZ (fun i=>some (i*s,s)) (a++z) ((ds.zipIdx k).map fun p=>(p.2,p.1.cells))=some (a++flat ds)
 |[],k,a,z,ha,hz,_=>by
  have:z=[]:=List.eq_nil_of_length_eq_zero (by simpa using hz)
  subst this;simp [eZ,flat]
 |d::ds,k,a,z,ha,hz,hs=>by
  have hd:=hs d (by simp)
  have hz':z.length=s+ds.length*s:=by rw[hz,List.length_cons,Nat.add_mul];omega
  rw[List.zipIdx_cons,List.map_cons]
  simp only[eZ]
  have h1:(Nat.beq d.cells.length s&&Nat.ble (k*s+d.cells.length) (a++z).length)=true:=by
   rw[Bool.and_eq_true]
   refine ⟨by rw[hd];exact Nat.beq_refl s,Nat.ble_eq_true_of_le ?_⟩
   rw[List.length_append,ha,hd];omega
  rw[h1,cond_true]
  have h2:patch (a++z) (k*s) d.cells=(a++d.cells)++z.drop s:=by
   unfold patch
   rw[<- ha,List.take_left,hd]
   congr 1
   rw[List.drop_append,List.drop_of_length_le (by omega),List.nil_append]
   congr 1;omega
  rw[h2,fillL_all ds (k+1) (a++d.cells) (z.drop s) (by rw[List.length_append,ha,hd,Nat.add_mul];omega) (by rw[List.length_drop];omega) (fun x hx=>hs x (by simp [hx])),mL,List.append_assoc]
theorem e_bldF{P:Program}{o:Oper}{S:Nat->SV}{T E:TypeId}{n s:Nat}{ps:List (Nat × Operand)}{ds:List jW}{zv:List Value}{zd:List jW}{y:jW}(ho:o.op=.build T ps.toArray)(hT:arrB P T=some (n,E,s))(hz:uO P T=some zv)(hzd:nH zv zd)
  (hps:ps.map (fun p=>(p.1,ev S p.2))=ds.zipIdx.map (fun p=>(p.2,.d p.1))) (hok:ds.all (fun d=>d.ok1)=true) (hs:ds.all (fun d=>Nat.beq d.cells.length s)=true) (hl:Nat.beq zd.length (ds.length*s)=true) (hy:jW.agg (flat ds)=y):qU P o S [] (.d y):=by
 subst hy
 refine e_build_arr (pd:=ds.zipIdx.map fun p=>(p.2,p.1)) ho hT hz hzd (by rw[hps,List.map_map];rfl) ?_ ?_
 ·rw[List.all_eq_true] at hok ⊢
  intro p hp
  obtain ⟨q,hq,rfl⟩:=List.mem_map.1 hp
  exact hok _ (List.fst_mem_of_mem_zipIdx hq)
 ·have:=fillL_all ds 0 [] zd (by simp) (Nat.eq_of_beq_eq_true hl) (fun d hd=>Nat.eq_of_beq_eq_true (List.all_eq_true.1 hs d hd))
  rw[List.map_map]
  rw[List.nil_append,List.nil_append] at this
  exact this
theorem nN{α:Type}{s:Nat}(F:α->jW)(L:List α)(hF:∀ g,(F g).cells.length=s):∀ e∈L.map F,e.cells.length=s:=by
 intro e he
 obtain ⟨g,_,rfl⟩:=List.mem_map.1 he
 exact hF g
theorem mN{α:Type}{s:Nat}(F:α->jW)(L:List α)(hF:∀ g,(F g).cells.length=s){m:Nat}(h:L.length=m):(xQ F L).take (m*s)=(flat (L.map F)).map .d:=by
 refine List.take_of_length_le ?_
 rw[List.length_map,cP F hF,h]
 exact Nat.le_refl _
open Go.RowKit (Below)
def eV(P:Program)(n:Fr)(c:Code)(Q:Exit->PS->Prop):Nat->PS->Prop
 |0,_=>False
 |m+1,st=>cR P n c (PThen (eV P n c Q m) Q) st
theorem yY{P:Program}{n:Fr}{c:Code}{Q:Exit->PS->Prop}{st:PS}(m:Nat)(h:eV P n c Q m st):cR P n (.loop c) Q st:=fun C a w N hn hs=>by
 refine wpIn_loop_rounds m ?_
 have key:∀ m st a w,nU C a w st->eV P n c Q m st->Code.roundsIn (fen n) N P c (fun e a' w'=>∃ st',nU C a' w' st'/\Q e st') m a w:=by
  intro m
  induction m with
  |zero=>intro st a w _ h;exact h.elim
  |succ m ih=>
   intro st a w hs h
   refine wpIn_mono (h C a w N hn hs) fun e a' w' ⟨s,h1,h2⟩=>?_
   cases e with
   |normal=>exact ih s a' w' h1 h2
   |_=>exact ⟨s,h1,h2⟩
 exact key m st a w hs h
theorem hC{P:Program}{n:Fr}{c:Code}{Q:Exit->PS->Prop}{st:PS}{m:Nat}(h:cR P n c (PThen (eV P n c Q m) Q) st):eV P n c Q (m+1) st:=h
theorem kS{P:Program}{n:Fr}{c:Code}{Q:Exit->PS->Prop}{s st:PS}{m:Nat}(hw:kP s st)(h:cR P n c (PThen (eV P n c Q m) Q) st):PThen (eV P n c Q (m+1)) Q .normal s :=
 show cR P n c (PThen (eV P n c Q m) Q) s from fun C a w N hn hs=>h C a w N hn (hw C a w hs)
section
variable {P:Program} {o:Oper} {S:Nat->SV}
theorem e_ixa{T E:TypeId}{x ix:Operand}{n s sz:Nat}{agg:Bool}{k:IntKind}{i:Int}{j:Nat}{cs:List jW}{y:SV}(ho:o.op=.index T x ix)(hx:ev S x=.d (.agg cs))(hT:arrB P T=some (n,E,s))(hs:kQ P E=some (agg,sz))(h1:agg=false->sz=1)
  (hi:ev S ix=.d (.val (.int k i))) (hj:i=(j:Int)) (hn:Nat.blt j n=true) (hle:Nat.ble (j*s+sz) cs.length=true) (hy:xJ agg (((cs.drop (j*s)).take sz).map .d)=y):qU P o S [] y:=by
 subst hj
 have hn':j<n:=Nat.le_of_ble_eq_true hn
 have h:=e_index_arr (P:=P) (i:=(j:Int)) (k:=k) ho hx hT hs h1 hi (by omega) (by omega) (by simpa using Nat.le_of_ble_eq_true hle)
 rw[show ((j:Int)).toNat=j from rfl] at h
 exact hy▸h
inductive nM (E:TypeId):jW->Prop
 |val (v:Value):nM E (.val v)
 |sl {t:TypeId} {s:Nat} {es:List jW} (h:t≠E) (hs:∀ (i:Nat) d,(flat es)[i]?=some d->nM E d):nM E (.sl t s es)
 |agg {cs:List jW} (hs:∀ (i:Nat) d,cs[i]?=some d->nM E d):nM E (.agg cs)
 |tup {cs:List jW} (hs:∀ (i:Nat) d,cs[i]?=some d->nM E d):nM E (.tup cs)
 |cptr {t:TypeId} {cs:List jW} {off:Nat} (h:t≠E) (hs:∀ (i:Nat) d,cs[i]?=some d->nM E d):nM E (.cptr t cs off)
 |clo {f:FuncId} {caps:List jW} (hs:∀ (i:Nat) d,caps[i]?=some d->nM E d):nM E (.clo f caps)
theorem nM.rep{E:TypeId}{w:World}{D D':kN}(hk:∀ t g o,t≠E->D t g o->D' t g o){v:Value}{r:jW}(ha:nM E r)(h:uC w D v r):uC w D' v r:=by
 induction h with
 |val v=>exact .val v
 |sl g off u hn hc hm hs hao hD hu h1 hr ih=>
  cases ha with
  |sl hne has=>exact .sl g off u hn hc hm hs hao (fun i hi=>hk _ _ _ hne (hD i hi)) hu h1 (fun i d hd=>ih i d hd (has i d hd))
 |agg vs hl h1 hr ih=>
  cases ha with
  |agg has=>exact .agg vs hl h1 (fun i v d hv hd=>ih i v d hv hd (has i d hd))
 |tup vs hl hr ih=>
  cases ha with
  |tup has=>exact .tup vs hl (fun i v d hv hd=>ih i v d hv hd (has i d hd))
 |cptr g o u hD hu h1 hr ih=>
  cases ha with
  |cptr hne has=>exact .cptr g o u (fun i hi=>hk _ _ _ hne (hD i hi)) hu h1 (fun i d hd=>ih i d hd (has i d hd))
 |clo vs hl hr ih=>
  cases ha with
  |clo has=>exact .clo vs hl (fun i v d hv hd=>ih i v d hv hd (has i d hd))
inductive nT (k:Nat) (E:TypeId) (s q m:Nat) (es:List jW):List SV->List jW->Prop
 |nil:nT k E s q m es [] []
 |d {x:jW} {zs:List SV} {ds:List jW} (h:nT k E s q m es zs ds):nT k E s q m es (.d x::zs) (x::ds)
 |v {zs:List SV} {ds:List jW} (h:nT k E s q m es zs ds):nT k E s q m es (.view k q m::zs) (.sl E s es::ds)
theorem nT.len{k E s q m:Nat}{es:List jW}{zs:List SV}{ds:List jW}(h:nT k E s q m es zs ds):zs.length=ds.length:=by
 induction h with
 |nil=>rfl
 |d h ih=>simp [ih]
 |v h ih=>simp [ih]
theorem nT.rep{k E s q m:Nat}{es:List jW}{w:World}{D D':kN}{β:kT}(h1:∀ v x,uC w D v x->uC w D' v x)(h2:∀ v,qF w D β v (.view k q m)->uC w D' v (.sl E s es)){zs:List SV}{ds:List jW}(h:nT k E s q m es zs ds) :
  ∀ {vs:List Value},vs.length=zs.length->(∀ (i:Nat) v x,vs[i]?=some v->zs[i]?=some x->qF w D β v x)->∀ (i:Nat) v d,vs[i]?=some v->ds[i]?=some d->uC w D' v d:=by
 induction h with
 |nil=>intro vs _ _ i v d _ hd;simp at hd
 |d h ih=>
  intro vs hl hr i v d' hv hd
  rcases vs with _ | ⟨v0,vs⟩
  ·simp at hl
  ·rcases i with _ | i
   ·simp at hv hd;subst hv;subst hd;exact h1 _ _ (hr 0 _ _ rfl rfl)
   ·exact ih (by simpa using hl) (fun i v x h3 h4=>hr (i+1) v x (by simpa using h3) (by simpa using h4)) i v d' (by simpa using hv) (by simpa using hd)
 |v h ih=>
  intro vs hl hr i v d' hv hd
  rcases vs with _ | ⟨v0,vs⟩
  ·simp at hl
  ·rcases i with _ | i
   ·simp at hv hd;subst hv;subst hd;exact h2 _ (hr 0 _ _ rfl rfl)
   ·exact ih (by simpa using hl) (fun i v x h3 h4=>hr (i+1) v x (by simpa using h3) (by simpa using h4)) i v d' (by simpa using hv) (by simpa using hd)
end
end Go.Fid
