/- Part 11 of a proof: rules, plain facts, and functions walked. -/
import Derived.Test.YteimogfidbkpnabGreatM9
import Derived.Test.YteimogfidbkpnabGreatM10
import Derived.Test.YteimogfidbkpnabGreatM7
import Derived.Test.YteimogfidbkpnabGreatChecked
set_option linter.all false
namespace Go.Fid
structure jB where
 a:Int
 b:Int
 c:Int
 d:Int
deriving DecidableEq
def qL(q:jB):List Int:=[q.a,q.b,q.c,q.d]
def nF(q:jB):Prop:=gD (qL q)≠0
def qn(q:jB):Int:=q.a*q.a+q.b*q.b+q.c*q.c+q.d*q.d
def jZ(p q:jB):jB:=⟨p.a*q.a-p.b*q.b-p.c*q.c-p.d*q.d,p.a*q.b+p.b*q.a+p.c*q.d-p.d*q.c,p.a*q.c-p.b*q.d+p.c*q.a+p.d*q.b,p.a*q.d+p.b*q.c-p.c*q.b+p.d*q.a⟩
def uL(q:jB):jB:=⟨q.a,-q.b,-q.c,-q.d⟩
def qsc(k:Int)(q:jB):jB:=⟨k*q.a,k*q.b,k*q.c,k*q.d⟩
def q1:jB:=⟨1,0,0,0⟩
def q0:jB:=⟨0,0,0,0⟩
def qdv(q:jB)(k:Int):jB:=⟨q.a.fdiv k,q.b.fdiv k,q.c.fdiv k,q.d.fdiv k⟩
def zL(q:jB):jB:=qdv q (dvL (qL q))
theorem qL_inj{p q:jB}(h:qL p=qL q):p=q:=by
 cases p;cases q;simp only[qL,List.cons.injEq,and_true] at h;obtain ⟨rfl,rfl,rfl,rfl⟩:=h;rfl
theorem qL_can(q:jB):qL (zL q)=redL (qL q):=rfl
theorem qL_sc(k:Int)(q:jB):qL (qsc k q)=(qL q).map (k*·):=rfl
theorem qnz_iff{q:jB}:nF q↔q≠q0:=by
 unfold nF
 rw[Ne,sgnL_zero]
 constructor
 ·intro h e;subst e;exact h (by simp [qL,q0])
 ·intro h e
  refine h (qL_inj ?_)
  simp only[qL,List.mem_cons,List.not_mem_nil,or_false,forall_eq_or_imp,forall_eq] at e
  obtain ⟨e1,e2,e3,e4⟩:=e
  simp [qL,q0,e1,e2,e3,e4]
theorem qn_nn(q:jB):0≤qn q:=by
 unfold qn
 have h:∀ x:Int,0≤x*x:=fun x=>by
  rcases Int.le_total 0 x with h | h
  ·exact Int.mul_nonneg h h
  ·exact Int.mul_nonneg_of_nonpos_of_nonpos h h
 have:=h q.a;have:=h q.b;have:=h q.c;have:=h q.d
 omega
theorem gM(x:Int):0≤x*x:=by
 rcases Int.le_total 0 x with h | h
 ·exact Int.mul_nonneg h h
 ·exact Int.mul_nonneg_of_nonpos_of_nonpos h h
theorem qsq_0{x:Int}(h:x*x=0):x=0:=by
 rcases Int.mul_eq_zero.1 h with h | h<;>exact h
theorem qn_0{q:jB}:qn q=0↔q=q0:=by
 constructor
 ·intro h
  unfold qn at h
  have h1:=gM q.a;have h2:=gM q.b;have h3:=gM q.c;have h4:=gM q.d
  have e1:=qsq_0 (x:=q.a) (by omega)
  have e2:=qsq_0 (x:=q.b) (by omega)
  have e3:=qsq_0 (x:=q.c) (by omega)
  have e4:=qsq_0 (x:=q.d) (by omega)
  exact qL_inj (by simp [qL,q0,e1,e2,e3,e4])
 ·intro h;subst h;rfl
theorem yN{q:jB}:nF q↔qn q≠0:=by rw[qnz_iff,Ne,Ne,qn_0]
theorem qn_mul(p q:jB):qn (jZ p q)=qn p*qn q:=by
 unfold qn jZ;grind
theorem vR{p q:jB}(hp:nF p)(hq:nF q):nF (jZ p q):=by
 rw[yN] at hp hq ⊢
 rw[qn_mul];exact Int.mul_ne_zero hp hq
theorem qn_cj(q:jB):qn (uL q)=qn q:=by unfold qn uL;grind
theorem zD{q:jB}(h:nF q):nF (uL q):=by rw[yN] at h ⊢;rwa [qn_cj]
theorem qcj_cj(q:jB):uL (uL q)=q:=by simp [uL]
theorem vH(p q r:jB):jZ (jZ p q) r=jZ p (jZ q r):=by
 unfold jZ;simp only[jB.mk.injEq];refine ⟨?_,?_,?_,?_⟩<;>grind
theorem qmul_cj(q:jB):jZ q (uL q)=qsc (qn q) q1:=by
 unfold jZ uL qsc qn q1;simp only[jB.mk.injEq];refine ⟨?_,?_,?_,?_⟩<;>grind
theorem qcj_mul(q:jB):jZ (uL q) q=qsc (qn q) q1:=by
 unfold jZ uL qsc qn q1;simp only[jB.mk.injEq];refine ⟨?_,?_,?_,?_⟩<;>grind
theorem qcj_qmul(p q:jB):uL (jZ p q)=jZ (uL q) (uL p):=by
 unfold jZ uL;simp only[jB.mk.injEq];refine ⟨?_,?_,?_,?_⟩<;>grind
theorem qmul_1(q:jB):jZ q q1=q:=by unfold jZ q1;cases q;simp
theorem q1_mul(q:jB):jZ q1 q=q:=by unfold jZ q1;cases q;simp
theorem hZ(k:Int)(p q:jB):jZ (qsc k p) q=qsc k (jZ p q):=by
 unfold jZ qsc;simp only[jB.mk.injEq];refine ⟨?_,?_,?_,?_⟩<;>grind
theorem gJ(k:Int)(p q:jB):jZ p (qsc k q)=qsc k (jZ p q):=by
 unfold jZ qsc;simp only[jB.mk.injEq];refine ⟨?_,?_,?_,?_⟩<;>grind
theorem qsc_sc(k l:Int)(q:jB):qsc k (qsc l q)=qsc (k*l) q:=by
 unfold qsc;simp only[jB.mk.injEq];refine ⟨?_,?_,?_,?_⟩<;>grind
theorem qsc_1(q:jB):qsc 1 q=q:=by unfold qsc;cases q;simp
theorem qcj_sc(k:Int)(q:jB):uL (qsc k q)=qsc k (uL q):=by
 unfold qsc uL;simp only[jB.mk.injEq];refine ⟨?_,?_,?_,?_⟩<;>grind
theorem qn_sc(k:Int)(q:jB):qn (qsc k q)=k*k*qn q:=by unfold qn qsc;grind
theorem qsc_nz{k:Int}{q:jB}(hk:k≠0)(h:nF q):nF (qsc k q):=by
 rw[yN] at h ⊢;rw[qn_sc];exact Int.mul_ne_zero (Int.mul_ne_zero hk hk) h
def xE(p q:jB):Prop:=∃ k l:Int,k≠0∧l≠0∧qsc k p=qsc l q
theorem xE.refl(p:jB):xE p p:=⟨1,1,by decide,by decide,rfl⟩
theorem xE.symm{p q:jB}(h:xE p q):xE q p:=by
 obtain ⟨k,l,h1,h2,h3⟩:=h;exact ⟨l,k,h2,h1,h3.symm⟩
theorem xE.trans{p q r:jB}(h:xE p q)(g:xE q r):xE p r:=by
 obtain ⟨k,l,h1,h2,h3⟩:=h
 obtain ⟨k',l',g1,g2,g3⟩:=g
 refine ⟨k'*k,l*l',Int.mul_ne_zero g1 h1,Int.mul_ne_zero h2 g2,?_⟩
 rw[← qsc_sc,h3,qsc_sc,Int.mul_comm k' l,← qsc_sc,g3,qsc_sc]
theorem xE.sc{k:Int}(hk:k≠0)(p:jB):xE (qsc k p) p:=⟨1,k,by decide,hk,by rw[qsc_1]⟩
theorem xE.mul{p p' q q':jB}(h:xE p p')(g:xE q q'):xE (jZ p q) (jZ p' q'):=by
 obtain ⟨k,l,h1,h2,h3⟩:=h
 obtain ⟨k',l',g1,g2,g3⟩:=g
 refine ⟨k*k',l*l',Int.mul_ne_zero h1 g1,Int.mul_ne_zero h2 g2,?_⟩
 rw[← qsc_sc,← gJ,← hZ,h3,g3,hZ,gJ,qsc_sc]
theorem xE.cj{p q:jB}(h:xE p q):xE (uL p) (uL q):=by
 obtain ⟨k,l,h1,h2,h3⟩:=h
 exact ⟨k,l,h1,h2,by rw[← qcj_sc,h3,qcj_sc]⟩
theorem xE.nz{p q:jB}(h:xE p q)(hp:nF p):nF q:=by
 obtain ⟨k,l,h1,h2,h3⟩:=h
 have hk:=qsc_nz h1 hp
 rw[h3,yN,qn_sc] at hk
 rw[yN];intro e;exact hk (by rw[e,Int.mul_zero])
theorem qcan_back{q:jB}(h:nF q):qsc (dvL (qL q)) (zL q)=q:=qL_inj (by rw[qL_sc,qL_can];exact redL_back h)
theorem fZ{q:jB}(h:nF q):xE (zL q) q:=⟨dvL (qL q),1,dvL_ne h,by decide,by rw[qcan_back h,qsc_1]⟩
theorem qcan_nz{q:jB}(h:nF q):nF (zL q):=(fZ h).symm.nz h
theorem qcan_sc{k:Int}(hk:k≠0){q:jB}(h:nF q):zL (qsc k q)=zL q:=qL_inj (by rw[qL_can,qL_sc,qL_can,redL_scale hk h])
theorem fE{p q:jB}(hp:nF p)(hq:nF q):zL p=zL q↔xE p q:=by
 constructor
 ·intro h
  have h1:=(fZ hp).symm
  rw[h] at h1
  exact h1.trans (fZ hq)
 ·rintro ⟨k,l,h1,h2,h3⟩
  rw[← qcan_sc h1 hp,h3,qcan_sc h2 hq]
theorem qcan_can{q:jB}(h:nF q):zL (zL q)=zL q:=(fE (qcan_nz h) h).2 (fZ h)
theorem fdiv_abs{x d:Int}(hd:d≠0)(h:d∣x):(x.fdiv d).natAbs≤x.natAbs:=by
 obtain ⟨e,rfl⟩:=h
 rw[Int.mul_fdiv_cancel_left _ hd,Int.natAbs_mul]
 exact Nat.le_mul_of_pos_left _ (Int.natAbs_pos.2 hd)
def inQ(z:Int):Prop:=-1048576≤z∧z≤1048576
instance {z:Int}:Decidable (inQ z):=by unfold inQ;infer_instance
def cC(q:jB):Prop:=inQ q.a∧inQ q.b∧inQ q.c∧inQ q.d
instance {q:jB}:Decidable (cC q):=by unfold cC;infer_instance
def dU(q:jB):Prop:=nF q∧cC q
def qV(q:jB):jB:=if cC (zL q) then zL q else q0
def qC(q:jB):Nat:=if cC (zL q) then 0 else 3
theorem qV_fit(q:jB):cC (qV q):=by
 unfold qV;split
 ·assumption
 ·decide
theorem qC_01(q:jB):qC q=0∨qC q=3:=by unfold qC;split<;>simp
theorem qC_0{q:jB}:qC q=0↔cC (zL q):=by unfold qC;split<;>simp_all
theorem qV_y{q:jB}(h:cC (zL q)):qV q=zL q:=if_pos h
theorem qV_n{q:jB}(h:¬ cC (zL q)):qV q=q0:=if_neg h
theorem qC_y{q:jB}(h:cC (zL q)):qC q=0:=if_pos h
theorem qC_n{q:jB}(h:¬ cC (zL q)):qC q=3:=if_neg h
theorem qV_c0{q:jB}(h:qC q=0):qV q=zL q:=qV_y (qC_0.1 h)
theorem qV_ok{q:jB}(hq:nF q)(h:qC q=0):dU (qV q):=⟨by rw[qV_c0 h];exact qcan_nz hq,qV_fit q⟩
theorem inQ_fdiv{x d:Int}(hd:d≠0)(h:d∣x)(hx:inQ x):inQ (x.fdiv d):=by
 have:=fdiv_abs hd h
 unfold inQ at hx ⊢;omega
theorem qcan_fit{q:jB}(h:dU q):cC (zL q):=by
 have hd:=dvL_ne h.1
 obtain ⟨h1,h2,h3,h4⟩:=h.2
 have hv:∀ z∈qL q,dvL (qL q)∣z:=dvL_dvd
 exact ⟨inQ_fdiv hd (hv _ (by simp [qL])) h1,inQ_fdiv hd (hv _ (by simp [qL])) h2,inQ_fdiv hd (hv _ (by simp [qL])) h3,inQ_fdiv hd (hv _ (by simp [qL])) h4⟩
theorem qcj_fit{q:jB}(h:cC q):cC (uL q):=by
 obtain ⟨h1,h2,h3,h4⟩:=h
 unfold cC uL inQ at *
 refine ⟨h1,?_,?_,?_⟩<;>dsimp only at *<;>omega
theorem qcj_ok{q:jB}(h:dU q):dU (uL q):=⟨zD h.1,qcj_fit h.2⟩
theorem qC_ok{q:jB}(h:dU q):qC q=0:=qC_0.2 (qcan_fit h)
theorem qC_cj{q:jB}(h:dU q):qC (uL q)=0:=qC_ok (qcj_ok h)
theorem nO{q:jB}:dU q↔gU q.a q.b q.c q.d=0:=by
 constructor
 ·rintro ⟨h,h1,h2,h3,h4⟩
  refine dN (fun e=>?_) ⟨h1,h2,h3,h4⟩
  obtain ⟨e1,e2,e3,e4⟩:=e
  exact qnz_iff.1 h (qL_inj (by simp [qL,q0,e1,e2,e3,e4]))
 ·intro h
  unfold gU at h
  split at h
  ·cases h
  ·rename_i hz
   split at h
   ·rename_i hf
    refine ⟨qnz_iff.2 fun e=>hz ?_,hf⟩
    subst e;simp [q0]
   ·cases h
theorem q1_ok:dU q1:=nO.2 (by decide)
theorem q1_can:zL q1=q1:=by decide
def Qcn(q:jB):Prop:=dU q∧zL q=q
theorem qV_cn{q:jB}(hq:nF q)(h:qC q=0):Qcn (qV q):=⟨qV_ok hq h,by rw[qV_c0 h,qcan_can hq]⟩
theorem qV_eq{q:jB}(hq:nF q)(h:qC q=0):xE (qV q) q:=by rw[qV_c0 h];exact fZ hq
theorem Qcn.ext{p q:jB}(hp:Qcn p)(hq:Qcn q)(h:xE p q):p=q:=by
 rw[← hp.2,← hq.2];exact (fE hp.1.1 hq.1.1).2 h
theorem q1_cn:Qcn q1:=⟨q1_ok,q1_can⟩
def nE(p q:jB):Int:=p.a*q.a+p.b*q.b+p.c*q.c+p.d*q.d
theorem qlagr(p q:jB):qn p*qn q-nE p q*nE p q=(p.a*q.b-p.b*q.a)*(p.a*q.b-p.b*q.a)+(p.a*q.c-p.c*q.a)*(p.a*q.c-p.c*q.a)+(p.a*q.d-p.d*q.a)*(p.a*q.d-p.d*q.a)+(p.b*q.c-p.c*q.b)*(p.b*q.c-p.c*q.b)+(p.b*q.d-p.d*q.b)*(p.b*q.d-p.d*q.b)+(p.c*q.d-p.d*q.c)*(p.c*q.d-p.d*q.c):=by
 unfold qn nE;grind
theorem qdot_sc(p q:jB)(h1:p.a*q.b=p.b*q.a)(h2:p.a*q.c=p.c*q.a)(h3:p.a*q.d=p.d*q.a)(h4:p.b*q.c=p.c*q.b)(h5:p.b*q.d=p.d*q.b)(h6:p.c*q.d=p.d*q.c):qsc (nE p q) p=qsc (qn p) q:=by
 unfold qsc nE qn;simp only[jB.mk.injEq];refine ⟨?_,?_,?_,?_⟩<;>grind
theorem qcs_eq{p q:jB}(hp:nF p)(hq:nF q):nE p q*nE p q=qn p*qn q↔xE p q:=by
 constructor
 ·intro h
  have hl:=qlagr p q
  have n1:=gM (p.a*q.b-p.b*q.a);have n2:=gM (p.a*q.c-p.c*q.a);have n3:=gM (p.a*q.d-p.d*q.a)
  have n4:=gM (p.b*q.c-p.c*q.b);have n5:=gM (p.b*q.d-p.d*q.b);have n6:=gM (p.c*q.d-p.d*q.c)
  have e1:=qsq_0 (x:=p.a*q.b-p.b*q.a) (by omega)
  have e2:=qsq_0 (x:=p.a*q.c-p.c*q.a) (by omega)
  have e3:=qsq_0 (x:=p.a*q.d-p.d*q.a) (by omega)
  have e4:=qsq_0 (x:=p.b*q.c-p.c*q.b) (by omega)
  have e5:=qsq_0 (x:=p.b*q.d-p.d*q.b) (by omega)
  have e6:=qsq_0 (x:=p.c*q.d-p.d*q.c) (by omega)
  refine ⟨nE p q,qn p,fun e=>?_,yN.1 hp,qdot_sc p q (by omega) (by omega) (by omega) (by omega) (by omega) (by omega)⟩
  rw[e] at h
  exact Int.mul_ne_zero (yN.1 hp) (yN.1 hq) (by omega)
 ·rintro ⟨k,l,hk,hl,h⟩
  have ha:k*p.a=l*q.a:=congrArg jB.a h
  have hb:k*p.b=l*q.b:=congrArg jB.b h
  have hc:k*p.c=l*q.c:=congrArg jB.c h
  have hd:k*p.d=l*q.d:=congrArg jB.d h
  have hl2:=qlagr p q
  have key:∀ x y x' y':Int,k*x=l*x'→k*y=l*y'→x*y'-y*x'=0:=fun x y x' y' e1 e2=>by
   have:k*l*(x*y'-y*x')=0:=by grind
   rcases Int.mul_eq_zero.1 this with h | h
   ·exact absurd h (Int.mul_ne_zero hk hl)
   ·exact h
  rw[key _ _ _ _ ha hb,key _ _ _ _ ha hc,key _ _ _ _ ha hd,key _ _ _ _ hb hc,key _ _ _ _ hb hd,key _ _ _ _ hc hd] at hl2
  omega
def chQ(p q:jB):Rat:=((1:Int):Rat)-((nE p q:Int):Rat)*((nE p q:Int):Rat) / (((qn p:Int):Rat)*((qn q:Int):Rat))
theorem chQ_0{p q:jB}(hp:nF p)(hq:nF q):chQ p q=0↔xE p q:=by
 rw[← qcs_eq hp hq]
 unfold chQ
 have hn:((qn p*qn q:Int):Rat)≠0:=by
  rw[Ne,Rat.intCast_eq_zero_iff];exact Int.mul_ne_zero (yN.1 hp) (yN.1 hq)
 rw[← Rat.intCast_mul,← Rat.intCast_mul]
 constructor
 ·intro h
  have e:((nE p q*nE p q:Int):Rat) / ((qn p*qn q:Int):Rat)=1:=by
   have e2:((1:Int):Rat)=1:=rfl
   rw[e2] at h;grind
  have e3:((nE p q*nE p q:Int):Rat)=((qn p*qn q:Int):Rat):=by
   have:=Rat.div_mul_cancel (a:=((nE p q*nE p q:Int):Rat)) hn
   rw[e,Rat.one_mul] at this;exact this.symm
  exact Rat.intCast_inj.1 e3
 ·intro h
  rw[h,Rat.div_def,Rat.mul_inv_cancel _ hn];decide +kernel
def cQ:List Int→Int
 |[]=>0
 |z::r=>if z=0 then cQ r else z
theorem cU:∀ zs:List Int,gD zs=kG (cQ zs)
 |[]=>rfl
 |z::r=>by
  unfold gD cQ
  split
  ·exact cU r
  ·rfl
theorem cP{z:Int}:kG z=0↔z=0:=⟨fun h=>Classical.byContradiction fun g=>fF g h,fun h=>by subst h;rfl⟩
theorem fst_0{a b c d:Int}(h:kG a≠0):a=cQ [a,b,c,d]:=by
 unfold cQ;rw[if_neg (fun e=>h (cP.2 e))]
theorem fst_1{a b c d:Int}(h1:kG a=0)(h:kG b≠0):b=cQ [a,b,c,d]:=by
 unfold cQ;rw[if_pos (cP.1 h1)];unfold cQ;rw[if_neg (fun e=>h (cP.2 e))]
theorem fst_2{a b c d:Int}(h1:kG a=0)(h2:kG b=0)(h:kG c≠0):c=cQ [a,b,c,d]:=by
 unfold cQ;rw[if_pos (cP.1 h1)];unfold cQ;rw[if_pos (cP.1 h2)];unfold cQ;rw[if_neg (fun e=>h (cP.2 e))]
theorem fst_3{a b c d:Int}(h1:kG a=0)(h2:kG b=0)(h3:kG c=0):d=cQ [a,b,c,d]:=by
 unfold cQ;rw[if_pos (cP.1 h1)];unfold cQ;rw[if_pos (cP.1 h2)];unfold cQ;rw[if_pos (cP.1 h3)];unfold cQ;split
 ·rename_i h;rw[h];rfl
 ·rfl
theorem dv_n{q:jB}{f:Int}(hf:f=cQ (qL q))(h:kG f<0):dvL (qL q)=-((gcdL (qL q):Nat):Int):=by
 unfold dvL;rw[cU,← hf,if_pos h]
theorem dv_p{q:jB}{f:Int}(hf:f=cQ (qL q))(h:¬ kG f<0):dvL (qL q)=((gcdL (qL q):Nat):Int):=by
 unfold dvL;rw[cU,← hf,if_neg h]
theorem dv_ns{q:jB}{s:Int}(hs:s=gD (qL q))(h:s<0):dvL (qL q)=-((gcdL (qL q):Nat):Int):=by
 unfold dvL;rw[← hs,if_pos h]
theorem dv_ps{q:jB}{s:Int}(hs:s=gD (qL q))(h:¬ s<0):dvL (qL q)=((gcdL (qL q):Nat):Int):=by
 unfold dvL;rw[← hs,if_neg h]
theorem gcd_n{q:jB}(h:nF q):((gcdL (qL q):Nat):Int)≠0:=fun e=>gcdL_ne h (by omega)
theorem fst_len{n:Nat}:∀ (zs:List Int),(∀ z∈zs,xJ z≤n)→xJ (cQ zs)≤n
 |[],_=>by
  have:xJ 0=0:=by decide +kernel
  unfold cQ;omega
 |z::r,h=>by
  unfold cQ;split
  ·exact fst_len r fun y hy=>h y (List.mem_cons_of_mem _ hy)
  ·exact h z (List.mem_cons_self ..)
theorem fst_iok{f:Int}{q:jB}{n:Nat}(hf:f=cQ (qL q))(h:∀ z∈qL q,xJ z≤n):zJ (jQ f) f n:=by subst hf;exact gP (fst_len _ h)
theorem q4_len{a b c d:Int}{n:Nat}(ha:zJ (jQ a) a n)(hb:zJ (jQ b) b n)(hc:zJ (jQ c) c n)(hd:zJ (jQ d) d n):∀ z∈qL ⟨a,b,c,d⟩,xJ z≤n:=by
 intro z hz
 simp only[qL,List.mem_cons,List.not_mem_nil,or_false] at hz
 rcases hz with rfl | rfl | rfl | rfl
 ·exact ha.ln
 ·exact hb.ln
 ·exact hc.ln
 ·exact hd.ln
theorem gcd_iok{q:jB}{n:Nat}(h:∀ z∈qL q,xJ z≤n):zJ (jQ ((gcdL (qL q):Nat):Int)) ((gcdL (qL q):Nat):Int) n:=gP (gcdL_len _ h)
def smB(x:Int):Bool:=(!(kW x)||decide (jM x < -1048576))||decide (1048576<jM x)
def smB'(x:Int):Bool:=(!(kW x)||decide (1048576<jM x))||decide (jM x < -1048576)
theorem smB_eq(x:Int):smB' x=smB x:=by unfold smB smB';rw[Bool.or_assoc,Bool.or_assoc,Bool.or_comm (decide _) (decide _)]
theorem smB_f{x:Int}(h:smB x=false):inQ x∧jM x=x:=by
 simp only[smB,Bool.or_eq_false_iff,Bool.not_eq_false',decide_eq_false_iff_not] at h
 obtain ⟨⟨h1,h2⟩,h3⟩:=h
 rw[eX h1] at h2 h3
 exact ⟨⟨by omega,by omega⟩,eX h1⟩
theorem smB_t{x:Int}(h:smB x=true):¬ inQ x:=fun hx=>by
 unfold inQ at hx
 have hf:kW x=true:=fits64_t (by omega) (by omega)
 simp only[smB,eX hf,hf,Bool.not_true,Bool.false_or,Bool.or_eq_true,decide_eq_true_eq] at h
 omega
theorem prim_n{q:jB}{d x:Int}(hd:dvL (qL q)=d)(hx:x=q.a∨x=q.b∨x=q.c∨x=q.d)(h:smB (x.fdiv d)=true):qC q=3∧qV q=⟨0,0,0,0⟩:=by
 have hn:¬ cC (zL q):=fun hf=>by
  refine smB_t h ?_
  subst hd
  obtain ⟨h1,h2,h3,h4⟩:=hf
  rcases hx with rfl | rfl | rfl | rfl
  ·exact h1
  ·exact h2
  ·exact h3
  ·exact h4
 exact ⟨qC_n hn,qV_n hn⟩
theorem prim_y{q:jB}{d:Int}(hd:dvL (qL q)=d)(h1:smB (q.a.fdiv d)=false)(h2:smB (q.b.fdiv d)=false)(h3:smB (q.c.fdiv d)=false)(h4:smB (q.d.fdiv d)=false) :
  qC q=0∧qV q=⟨jM (q.a.fdiv d),jM (q.b.fdiv d),jM (q.c.fdiv d),jM (q.d.fdiv d)⟩:=by
 subst hd
 obtain ⟨f1,e1⟩:=smB_f h1
 obtain ⟨f2,e2⟩:=smB_f h2
 obtain ⟨f3,e3⟩:=smB_f h3
 obtain ⟨f4,e4⟩:=smB_f h4
 have hf:cC (zL q):=⟨f1,f2,f3,f4⟩
 refine ⟨qC_y hf,?_⟩
 rw[qV_y hf,e1,e2,e3,e4];rfl
theorem cC.bd{q:jB}(h:cC q):(-1048576≤q.a∧q.a≤1048576)∧(-1048576≤q.b∧q.b≤1048576)∧(-1048576≤q.c∧q.c≤1048576)∧(-1048576≤q.d∧q.d≤1048576):=h
end Go.Fid
namespace Go.Fid
def svI(z:Int)(k:Nat):Int:=if z<0 then -((val ((ofNat z.natAbs).drop k):Nat):Int) else ((val ((ofNat z.natAbs).drop k):Nat):Int)
theorem sv_0(z:Int):svI z 0=z:=by
 unfold svI;rw[List.drop_zero,jX];split<;>omega
theorem sv_end(z:Int):svI z (ofNat z.natAbs).length=0:=by
 unfold svI;rw[List.drop_length];split<;>rfl
theorem sv_n{z:Int}{k:Nat}(h:(jQ z).neg=true):svI z k=svI z (k+1)*1000000000-(((ofNat z.natAbs).getD k 0:Nat):Int):=by
 rw[gz_neg] at h
 have h:=of_decide_eq_true h
 unfold svI;rw[if_pos h,if_pos h,uG];omega
theorem sv_p{z:Int}{k:Nat}(h:(jQ z).neg=false):svI z k=svI z (k+1)*1000000000+(((ofNat z.natAbs).getD k 0:Nat):Int):=by
 rw[gz_neg] at h
 have h:=of_decide_eq_false h
 unfold svI;rw[if_neg h,if_neg h,uG];omega
theorem sv_bd{z:Int}(h1:-9223372036854775808≤z)(h2:z≤9223372036854775807)(k:Nat):-9223372036854775808≤svI z k∧svI z k≤9223372036854775807:=by
 have h:=val_drop_le (ofNat z.natAbs) k
 rw[jX] at h
 unfold svI;split<;>omega
theorem sv_b2{z:Int}(h1:-9223372036854775808≤z)(h2:z≤9223372036854775807)(k:Nat):-9223372036854775808≤svI z (k+1)*1000000000∧svI z (k+1)*1000000000≤9223372036854775807:=by
 have h:=val_drop_le (ofNat z.natAbs) k
 rw[jX,uG] at h
 unfold svI;split<;>omega
theorem fit_of{z:Int}(h:(decide (qY z (-9223372036854775808)<0)||decide (0<qY z 9223372036854775807))=false):-9223372036854775808≤z∧z≤9223372036854775807:=by
 simp only[Bool.or_eq_false_iff,decide_eq_false_iff_not] at h
 refine ⟨eA (b:=-9223372036854775808) (by omega),?_⟩
 apply Classical.byContradiction
 intro hn
 have h3:=cO (a:=z) (b:=9223372036854775807) (by omega)
 omega
theorem fit_no{z:Int}(h:(decide (qY z (-9223372036854775808)<0)||decide (0<qY z 9223372036854775807))=true):kW z=false∧jM z=0:=by
 have hn:kW z=false:=by
  rw[← Bool.not_eq_true]
  intro hf
  obtain ⟨h1,h2⟩:=fits64_b hf
  simp only[Bool.or_eq_true,decide_eq_true_eq] at h
  unfold qY at h
  rcases h with h | h
  ·rw[if_neg (by omega)] at h;split at h<;>omega
  ·split at h
   ·omega
   ·rw[if_neg (by omega)] at h;omega
 exact ⟨hn,smallI_f hn⟩
theorem fit_yes{z:Int}(h:-9223372036854775808≤z∧z≤9223372036854775807):kW z=true∧jM z=z:=⟨fits64_t h.1 h.2,eX (fits64_t h.1 h.2)⟩
end Go.Fid
namespace Go.Fid
theorem sgs_0{a b c d:Int}(h:kG a≠0):kG a=gD (qL ⟨a,b,c,d⟩):=by rw[cU];exact congrArg kG (fst_0 h)
theorem sgs_1{a b c d:Int}(h1:kG a=0)(h:kG b≠0):kG b=gD (qL ⟨a,b,c,d⟩):=by rw[cU];exact congrArg kG (fst_1 h1 h)
theorem sgs_2{a b c d:Int}(h1:kG a=0)(h2:kG b=0)(h:kG c≠0):kG c=gD (qL ⟨a,b,c,d⟩):=by rw[cU];exact congrArg kG (fst_2 h1 h2 h)
theorem sgs_3{a b c d:Int}(h1:kG a=0)(h2:kG b=0)(h3:kG c=0):kG d=gD (qL ⟨a,b,c,d⟩):=by rw[cU];exact congrArg kG (fst_3 h1 h2 h3)
def sameQ(p q:jB):Bool:=decide (qL (qV p)=qL (qV q))
theorem sameQ_iff{p q:jB}(hp:dU p)(hq:dU q):sameQ p q=true↔xE p q:=by
 unfold sameQ
 rw[decide_eq_true_iff,qV_c0 (qC_ok hp),qV_c0 (qC_ok hq)]
 exact ⟨fun h=>(fE hp.1 hq.1).1 (qL_inj h),fun h=>congrArg qL ((fE hp.1 hq.1).2 h)⟩
theorem qdot_bd{p q:jB}(hp:dU p)(hq:dU q):-9223372036854775808≤nE p q∧nE p q≤9223372036854775807:=by
 obtain ⟨a1,a2,a3,a4⟩:=hp.2.bd
 obtain ⟨b1,b2,b3,b4⟩:=hq.2.bd
 have:=xA a1 b1;have:=xA a2 b2;have:=xA a3 b3;have:=xA a4 b4
 unfold nE;omega
theorem qn_bd{p:jB}(hp:dU p):1≤qn p∧qn p≤9223372036854775807:=by
 have h:=qdot_bd hp hp
 have h0:=qn_nn p
 have h1:=yN.1 hp.1
 have e:nE p p=qn p:=rfl
 omega
theorem ql_i{z:Int}(h1:-9223372036854775808≤z)(h2:z≤9223372036854775807):QL ((z:Int):Rat) 3:=ql_int (z:=z) (n:=3) (dL h1 h2) (by decide)
theorem ql_chQ{p q:jB}(hp:dU p)(hq:dU q):QL (chQ p q) 16:=by
 have h1:=qdot_bd hp hq
 have h2:=qn_bd hp
 have h3:=qn_bd hq
 have g1:=ql_i h1.1 h1.2
 have g2:=ql_i (z:=qn p) (by omega) h2.2
 have g3:=ql_i (z:=qn q) (by omega) h3.2
 unfold chQ
 exact ql_sub (k:=16) (ql_i (z:=1) (by decide) (by decide)) (ql_div (k:=12) (ql_mul (k:=6) g1 g1 (by decide)) (ql_mul (k:=6) g2 g3 (by decide)) (by decide)) (by decide)
theorem chQ_di(p q:jB):((1:Int):Rat)-Rat.divInt (nE p q*nE p q) (qn p*qn q)=chQ p q:=by
 unfold chQ;rw[← Rat.intCast_mul,← Rat.intCast_mul,Rat.divInt_eq_div]
structure jC where
 fr:Int
 to_:Int
 turn:jB
deriving DecidableEq
def e0:jC:=⟨0,0,⟨0,0,0,0⟩⟩
def edgC(n:Int)(x:jC):Nat :=
 if 0≤x.fr∧x.fr<n∧0≤x.to_∧x.to_<n then (if x.fr=x.to_ then 13 else gU x.turn.a x.turn.b x.turn.c x.turn.d) else 2
def edsC(n:Int):List jC→Nat
 |[]=>0
 |x::l=>if edgC n x=0 then edsC n l else edgC n x
def uP(n:Int)(es:List jC):Nat:=if n<1∨64<n∨256<es.length then 3 else edsC n es
structure EOkE (n:Nat) (x:jC):Prop where
 f0:0≤x.fr
 f1:x.fr<n
 t0:0≤x.to_
 t1:x.to_<n
 ne:x.fr≠x.to_
 q:dU x.turn
theorem edgC_ok{n:Nat}{x:jC}:edgC n x=0↔EOkE n x:=by
 unfold edgC
 constructor
 ·intro h
  split at h
  ·rename_i hr
   split at h
   ·cases h
   ·rename_i hn
    exact ⟨hr.1,hr.2.1,hr.2.2.1,hr.2.2.2,hn,nO.2 h⟩
  ·cases h
 ·intro h
  rw[if_pos ⟨h.f0,h.f1,h.t0,h.t1⟩,if_neg h.ne]
  exact nO.1 h.q
def xI(n:Nat)(es:List jC):Prop:=∀ x∈es,EOkE n x
theorem edsC_ok{n:Nat}:∀ {es:List jC},edsC n es=0↔xI n es
 |[]=>by simp [edsC,xI]
 |x::l=>by
  unfold edsC
  split
  ·rename_i h
   rw[edsC_ok (es:=l)]
   exact ⟨fun g=>List.forall_mem_cons.2 ⟨edgC_ok.1 h,g⟩,fun g=>(List.forall_mem_cons.1 g).2⟩
  ·rename_i h
   exact ⟨fun g=>absurd g h,fun g=>absurd (edgC_ok.2 (List.forall_mem_cons.1 g).1) h⟩
theorem edsC_at{n:Int}:∀ {es:List jC} {k:Nat},k<es.length→(∀ i,i<k→edgC n (es.getD i e0)=0)→edgC n (es.getD k e0)≠0→edsC n es=edgC n (es.getD k e0)
 |[],k,h,_,_=>by simp at h
 |x::l,0,h,_,h2=>by simp only[edsC,List.getD_cons_zero] at h2 ⊢;rw[if_neg h2]
 |x::l,k+1,h,h1,h2=>by
  have hx:=h1 0 (by omega)
  simp only[List.getD_cons_zero] at hx
  simp only[edsC,List.getD_cons_succ,hx,if_true] at h2 ⊢
  exact edsC_at (by simpa using h) (fun i hi=>by have:=h1 (i+1) (by omega);simpa using this) h2
theorem edsC_end{n:Int}:∀ {es:List jC},(∀ i,i<es.length→edgC n (es.getD i e0)=0)→edsC n es=0
 |[],_=>rfl
 |x::l,h=>by
  have hx:=h 0 (by simp)
  simp only[List.getD_cons_zero] at hx
  simp only[edsC,hx,if_true]
  exact edsC_end fun i hi=>by have:=h (i+1) (by simpa using hi);simpa using this
theorem lopC_lim{n:Int}{es:List jC}(h:n<1∨64<n∨256<es.length):uP n es=3:=if_pos h
theorem lopC_eds{n:Int}{es:List jC}(h1:¬ n<1)(h2:¬ 64<n)(h3:¬ 256<es.length):uP n es=edsC n es:=if_neg (fun h=>by rcases h with h | h | h<;>omega)
theorem lopC_0{n:Int}{es:List jC}(h:uP n es=0):1≤n∧n≤64∧es.length≤256∧xI n.toNat es:=by
 unfold uP at h
 split at h
 ·cases h
 ·rename_i hn
  have h1:1≤n:=by omega
  refine ⟨h1,by omega,by omega,?_⟩
  rw[show n=((n.toNat:Nat):Int) by omega] at h
  exact edsC_ok.1 h
theorem gR{n:Nat}{es:List jC}(h:xI n es){k:Nat}(hk:k<es.length):EOkE n (es.getD k e0):=by
 rw[List.getD_eq_getElem?_getD,List.getElem?_eq_getElem hk]
 exact h _ (List.getElem_mem hk)
def pA(p:List Int)(x:jC):Int:=p.getD x.fr.toNat 0
def pB(p:List Int)(x:jC):Int:=p.getD x.to_.toNat 0
def kp(g:Bool)(a b:Int):Int:=if g=true then min a b else a
def dp(g:Bool)(a b:Int):Int:=if g=true then max a b else b
def rl(k d q:Int):Int:=if q=d then k else q
def mrg(g:Bool)(a b:Int)(p:List Int):List Int:=p.map (rl (kp g a b) (dp g a b))
def kR(g:Bool)(n:Nat)(es:List jC):Nat→List Int
 |0=>(List.range n).map fun k=>((k:Nat):Int)
 |k+1=>if pA (kR g n es k) (es.getD k e0)=pB (kR g n es k) (es.getD k e0) then kR g n es k else mrg g (pA (kR g n es k) (es.getD k e0)) (pB (kR g n es k) (es.getD k e0)) (kR g n es k)
def yD(g:Bool)(n:Nat)(es:List jC):Nat→List Int
 |0=>[]
 |k+1=>if pA (kR g n es k) (es.getD k e0)=pB (kR g n es k) (es.getD k e0) then yD g n es k else yD g n es k++[((k:Nat):Int)]
theorem mA{g:Bool}{n:Nat}{es:List jC}{k:Nat}(h:pA (kR g n es k) (es.getD k e0)=pB (kR g n es k) (es.getD k e0)):kR g n es (k+1)=kR g n es k∧yD g n es (k+1)=yD g n es k:=⟨if_pos h,if_pos h⟩
theorem mJ{g:Bool}{n:Nat}{es:List jC}{k:Nat}(h:¬ pA (kR g n es k) (es.getD k e0)=pB (kR g n es k) (es.getD k e0)):kR g n es (k+1)=mrg g (pA (kR g n es k) (es.getD k e0)) (pB (kR g n es k) (es.getD k e0)) (kR g n es k)∧yD g n es (k+1)=yD g n es k++[((k:Nat):Int)]:=⟨if_neg h,if_neg h⟩
theorem mrg_len(g:Bool)(a b:Int)(p:List Int):(mrg g a b p).length=p.length:=by simp [mrg]
theorem yZ(g:Bool)(n:Nat)(es:List jC):∀ k,(kR g n es k).length=n
 |0=>by simp [kR]
 |k+1=>by
  unfold kR
  split
  ·exact yZ g n es k
  ·rw[mrg_len];exact yZ g n es k
theorem tTak_len(g:Bool)(n:Nat)(es:List jC):∀ k,(yD g n es k).length≤k
 |0=>by simp [yD]
 |k+1=>by
  have:=tTak_len g n es k
  unfold yD
  split
  ·omega
  ·rw[List.length_append];simp;omega
theorem eU{g:Bool}{n:Nat}{es:List jC}:∀ {k:Nat} {z:Int},z∈yD g n es k→∃ i:Nat,i<k∧z=i
 |0,z,h=>by simp [yD] at h
 |k+1,z,h=>by
  unfold yD at h
  split at h
  ·obtain ⟨i,h1,h2⟩:=eU h;exact ⟨i,by omega,h2⟩
  ·rcases List.mem_append.1 h with h | h
   ·obtain ⟨i,h1,h2⟩:=eU h;exact ⟨i,by omega,h2⟩
   ·exact ⟨k,by omega,by simpa using h⟩
theorem yJ{g:Bool}{a b:Int}{p:List Int}{i:Nat}(h:i<p.length):(mrg g a b p).getD i 0=rl (kp g a b) (dp g a b) (p.getD i 0):=by
 simp [mrg,List.getD_eq_getElem?_getD,List.getElem?_eq_getElem h]
theorem rl_iff{g:Bool}{a b u v:Int}(h:a≠b):rl (kp g a b) (dp g a b) u=rl (kp g a b) (dp g a b) v↔(u=v∨(u=a∧v=b)∨(u=b∧v=a)):=by
 unfold rl kp dp
 cases g<;>simp only[Bool.false_eq_true,if_false,if_true]<;>split<;>split<;>constructor<;>intro hh<;>omega
section
variable {n:Nat} {es:List jC}
theorem same_cls(h:xI n es):∀ {k:Nat},k≤es.length→∀ {i j:Nat},i<n→j<n→((kR true n es k).getD i 0=(kR true n es k).getD j 0↔(kR false n es k).getD i 0=(kR false n es k).getD j 0)
 |0,_,i,j,hi,hj=>by simp [kR]
 |k+1,hk,i,j,hi,hj=>by
  have ih:=fun {i j:Nat} (hi:i<n) (hj:j<n)=>same_cls h (k:=k) (by omega) hi hj
  have hx:=gR h (k:=k) (by omega)
  generalize he:es.getD k e0=x at hx
  have hf:x.fr.toNat<n:=by have:=hx.f0;have:=hx.f1;omega
  have ht:x.to_.toNat<n:=by have:=hx.t0;have:=hx.t1;omega
  have e1:=ih hf ht
  by_cases hab:pA (kR true n es k) (es.getD k e0)=pB (kR true n es k) (es.getD k e0)
  ·have hab2:pA (kR false n es k) (es.getD k e0)=pB (kR false n es k) (es.getD k e0):=by
    rw[he] at hab ⊢;exact e1.1 hab
   rw[(mA hab).1,(mA hab2).1];exact ih hi hj
  ·have hab2:¬ pA (kR false n es k) (es.getD k e0)=pB (kR false n es k) (es.getD k e0):=by
    rw[he] at hab ⊢;exact fun e=>hab (e1.2 e)
   rw[(mJ hab).1,(mJ hab2).1]
   rw[he] at hab hab2 ⊢
   have l1:=yZ true n es k
   have l2:=yZ false n es k
   rw[yJ (by omega),yJ (by omega),yJ (by omega),yJ (by omega),rl_iff hab,rl_iff hab2]
   unfold pA pB
   rw[ih hi hj,ih hi hf,ih hj ht,ih hi ht,ih hj hf]
theorem tTak_eq(h:xI n es):∀ {k:Nat},k≤es.length→yD true n es k=yD false n es k
 |0,_=>rfl
 |k+1,hk=>by
  have ih:=tTak_eq h (k:=k) (by omega)
  have hx:=gR h (k:=k) (by omega)
  have e1:=same_cls h (k:=k) (by omega) (i:=(es.getD k e0).fr.toNat) (j:=(es.getD k e0).to_.toNat) (by have:=hx.f0;have:=hx.f1;omega) (by have:=hx.t0;have:=hx.t1;omega)
  by_cases hab:pA (kR true n es k) (es.getD k e0)=pB (kR true n es k) (es.getD k e0)
  ·rw[(mA hab).2,(mA (e1.1 hab)).2,ih]
  ·rw[(mJ hab).2,(mJ (fun e=>hab (e1.2 e))).2,ih]
theorem dC(h:xI n es):∀ {k:Nat},k≤es.length→∀ {i:Nat},i<n→0≤(kR true n es k).getD i 0∧(kR true n es k).getD i 0≤i
 |0,_,i,hi=>by simp [kR,List.getD_eq_getElem?_getD,hi]
 |k+1,hk,i,hi=>by
  have ih:=fun {i:Nat} (hi:i<n)=>dC h (k:=k) (by omega) hi
  have hx:=gR h (k:=k) (by omega)
  by_cases hab:pA (kR true n es k) (es.getD k e0)=pB (kR true n es k) (es.getD k e0)
  ·rw[(mA hab).1];exact ih hi
  ·rw[(mJ hab).1,yJ (by rw[yZ];exact hi)]
   have hf:=ih (i:=(es.getD k e0).fr.toNat) (by have:=hx.f0;have:=hx.f1;omega)
   have ht:=ih (i:=(es.getD k e0).to_.toNat) (by have:=hx.t0;have:=hx.t1;omega)
   have hi2:=ih hi
   unfold rl kp dp pA pB
   simp only[if_true]
   split<;>omega
theorem tPar_root(h:xI n es):∀ {k:Nat},k≤es.length→∀ {i:Nat},i<n→(kR true n es k).getD ((kR true n es k).getD i 0).toNat 0=(kR true n es k).getD i 0
 |0,_,i,hi=>by simp [kR,List.getD_eq_getElem?_getD,hi]
 |k+1,hk,i,hi=>by
  have ih:=fun {i:Nat} (hi:i<n)=>tPar_root h (k:=k) (by omega) hi
  have rg:=fun {i:Nat} (hi:i<n)=>dC h (k:=k) (by omega) hi
  have hx:=gR h (k:=k) (by omega)
  by_cases hab:pA (kR true n es k) (es.getD k e0)=pB (kR true n es k) (es.getD k e0)
  ·rw[(mA hab).1];exact ih hi
  ·have l1:=yZ true n es k
   have hf:(es.getD k e0).fr.toNat<n:=by have:=hx.f0;have:=hx.f1;omega
   have ht:(es.getD k e0).to_.toNat<n:=by have:=hx.t0;have:=hx.t1;omega
   have rf:=rg hf;have rt:=rg ht;have ri:=rg hi
   have f1:=ih hf;have t1:=ih ht;have i1:=ih hi
   rw[(mJ hab).1]
   rw[yJ (i:=i) (by omega)]
   have e:∃ q,q=rl (kp true (pA (kR true n es k) (es.getD k e0)) (pB (kR true n es k) (es.getD k e0))) (dp true (pA (kR true n es k) (es.getD k e0)) (pB (kR true n es k) (es.getD k e0))) ((kR true n es k).getD i 0):=⟨_,rfl⟩
   obtain ⟨q,hq⟩:=e
   rw[← hq]
   have hq0:0≤q∧q<n∧(kR true n es k).getD q.toNat 0=q∧q≠max (pA (kR true n es k) (es.getD k e0)) (pB (kR true n es k) (es.getD k e0)):=by
    unfold rl kp dp at hq
    simp only[if_true] at hq
    unfold pA pB at *
    split at hq
    ·rcases Int.le_total ((kR true n es k).getD (es.getD k e0).fr.toNat 0) ((kR true n es k).getD (es.getD k e0).to_.toNat 0) with hm | hm
     ·rw[Int.min_eq_left hm] at hq;subst hq;exact ⟨by omega,by omega,f1,by omega⟩
     ·rw[Int.min_eq_right hm] at hq;subst hq;exact ⟨by omega,by omega,t1,by omega⟩
    ·subst hq;exact ⟨by omega,by omega,i1,by assumption⟩
   rw[yJ (by omega),hq0.2.2.1]
   unfold rl dp
   simp only[if_true]
   rw[if_neg hq0.2.2.2]
theorem eD(h:xI n es)(S:Nat→Prop):∀ {k:Nat},k≤es.length→(∀ i:Nat,(i:Int)∈yD true n es k→(S (es.getD i e0).fr.toNat↔S (es.getD i e0).to_.toNat))→∀ {i j:Nat},i<n→j<n→(kR true n es k).getD i 0=(kR true n es k).getD j 0→(S i↔S j)
 |0,_,_,i,j,hi,hj,e=>by
  simp [kR,List.getD_eq_getElem?_getD,hi,hj] at e
  rw[show i=j by omega]
 |k+1,hk,hS,i,j,hi,hj,e=>by
  by_cases hab:pA (kR true n es k) (es.getD k e0)=pB (kR true n es k) (es.getD k e0)
  ·rw[(mA hab).1] at e
   rw[(mA hab).2] at hS
   exact eD h S (by omega) hS hi hj e
  ·have hx:=gR h (k:=k) (by omega)
   have hf:(es.getD k e0).fr.toNat<n:=by have:=hx.f0;have:=hx.f1;omega
   have ht:(es.getD k e0).to_.toNat<n:=by have:=hx.t0;have:=hx.t1;omega
   rw[(mJ hab).2] at hS
   have ih:=fun {i j:Nat} (hi:i<n) (hj:j<n) e=>eD h S (k:=k) (by omega) (fun i hi=>hS i (List.mem_append_left _ hi)) (i:=i) (j:=j) hi hj e
   have hk1:=hS k (List.mem_append_right _ (by simp))
   have l1:=yZ true n es k
   rw[(mJ hab).1,yJ (by omega),yJ (by omega),rl_iff hab] at e
   rcases e with e | ⟨e1,e2⟩ | ⟨e1,e2⟩
   ·exact ih hi hj e
   ·exact (ih hi hf e1).trans (hk1.trans (ih ht hj e2.symm))
   ·exact (ih hi ht e1).trans (hk1.symm.trans (ih hf hj e2.symm))
theorem tPar_ends(h:xI n es):∀ {k:Nat},k≤es.length→∀ {i:Nat},i<k→(kR true n es k).getD (es.getD i e0).fr.toNat 0=(kR true n es k).getD (es.getD i e0).to_.toNat 0
 |0,_,i,hi=>by omega
 |k+1,hk,i,hi=>by
  have hx:=gR h (k:=i) (by omega)
  have hf:(es.getD i e0).fr.toNat<n:=by have:=hx.f0;have:=hx.f1;omega
  have ht:(es.getD i e0).to_.toNat<n:=by have:=hx.t0;have:=hx.t1;omega
  have l1:=yZ true n es k
  by_cases hik:i=k
  ·subst hik
   by_cases hab:pA (kR true n es i) (es.getD i e0)=pB (kR true n es i) (es.getD i e0)
   ·rw[(mA hab).1];exact hab
   ·rw[(mJ hab).1,yJ (by omega),yJ (by omega),rl_iff hab]
    exact .inr (.inl ⟨rfl,rfl⟩)
  ·have ih:=tPar_ends h (k:=k) (by omega) (i:=i) (by omega)
   by_cases hab:pA (kR true n es k) (es.getD k e0)=pB (kR true n es k) (es.getD k e0)
   ·rw[(mA hab).1];exact ih
   ·rw[(mJ hab).1,yJ (by omega),yJ (by omega),rl_iff hab];exact .inl ih
def tV(n:Nat)(es:List jC):Nat→Nat→jB
 |0,_=>q1
 |k+1,j=>
  if pA (kR true n es k) (es.getD k e0)=pB (kR true n es k) (es.getD k e0) then tV n es k j
  else if pA (kR true n es k) (es.getD k e0)<pB (kR true n es k) (es.getD k e0) then
   (if (kR true n es k).getD j 0=pB (kR true n es k) (es.getD k e0) then jZ (jZ (jZ (tV n es k (es.getD k e0).fr.toNat) (uL (es.getD k e0).turn)) (uL (tV n es k (es.getD k e0).to_.toNat))) (tV n es k j) else tV n es k j)
  else
   (if (kR true n es k).getD j 0=pA (kR true n es k) (es.getD k e0) then jZ (jZ (jZ (tV n es k (es.getD k e0).to_.toNat) (es.getD k e0).turn) (uL (tV n es k (es.getD k e0).fr.toNat))) (tV n es k j) else tV n es k j)
theorem tV_nz(h:xI n es):∀ {k:Nat},k≤es.length→∀ j,nF (tV n es k j)
 |0,_,j=>q1_ok.1
 |k+1,hk,j=>by
  have ih:=tV_nz h (k:=k) (by omega)
  have hx:=gR h (k:=k) (by omega)
  unfold tV
  split
  ·exact ih j
  ·split
   ·split
    ·exact vR (vR (vR (ih _) (zD hx.q.1)) (zD (ih _))) (ih _)
    ·exact ih j
   ·split
    ·exact vR (vR (vR (ih _) hx.q.1) (zD (ih _))) (ih _)
    ·exact ih j
theorem tV_root(h:xI n es):∀ {k:Nat},k≤es.length→∀ {j:Nat},j<n→(kR true n es k).getD j 0=j→tV n es k j=q1
 |0,_,j,_,_=>rfl
 |k+1,hk,j,hj,e=>by
  have hx:=gR h (k:=k) (by omega)
  have hf:(es.getD k e0).fr.toNat<n:=by have:=hx.f0;have:=hx.f1;omega
  have ht:(es.getD k e0).to_.toNat<n:=by have:=hx.t0;have:=hx.t1;omega
  have ih:=tV_root h (k:=k) (by omega) hj
  have l1:=yZ true n es k
  have rj:=dC h (k:=k) (by omega) hj
  have rf:=dC h (k:=k) (by omega) hf
  have rt:=dC h (k:=k) (by omega) ht
  by_cases hab:pA (kR true n es k) (es.getD k e0)=pB (kR true n es k) (es.getD k e0)
  ·rw[(mA hab).1] at e
   unfold tV;rw[if_pos hab];exact ih e
  ·rw[(mJ hab).1,yJ (by omega)] at e
   unfold tV;rw[if_neg hab]
   have hne:(kR true n es k).getD j 0≠max (pA (kR true n es k) (es.getD k e0)) (pB (kR true n es k) (es.getD k e0)):=fun e2=>by
    unfold rl kp dp at e
    simp only[if_true] at e
    rw[if_pos e2] at e
    unfold pA pB at *
    omega
   have e3:(kR true n es k).getD j 0=j:=by
    unfold rl dp at e
    simp only[if_true] at e
    rwa [if_neg hne] at e
   split
   ·rw[if_neg (fun e2=>hne (by omega))];exact ih e3
   ·rw[if_neg (fun e2=>hne (by omega))];exact ih e3
theorem tV_sat(h:xI n es):∀ {k:Nat},k≤es.length→∀ {i:Nat},(i:Int)∈yD true n es k→xE (tV n es k (es.getD i e0).fr.toNat) (jZ (tV n es k (es.getD i e0).to_.toNat) (es.getD i e0).turn)
 |0,_,i,hi=>by simp [yD] at hi
 |k+1,hk,i,hi=>by
  have nz:=tV_nz h (k:=k) (by omega)
  have hx:=gR h (k:=k) (by omega)
  by_cases hab:pA (kR true n es k) (es.getD k e0)=pB (kR true n es k) (es.getD k e0)
  ·rw[(mA hab).2] at hi
   unfold tV;simp only[if_pos hab]
   exact tV_sat h (by omega) hi
  ·rw[(mJ hab).2] at hi
   unfold tV;simp only[if_neg hab]
   rcases List.mem_append.1 hi with hi | hi
   ·have ih:=tV_sat h (k:=k) (by omega) hi
    obtain ⟨i',hi',e'⟩:=eU hi
    have hends:=tPar_ends h (k:=k) (by omega) (i:=i) (by omega)
    have hm:∀ m:jB,xE (jZ m (tV n es k (es.getD i e0).fr.toNat)) (jZ (jZ m (tV n es k (es.getD i e0).to_.toNat)) (es.getD i e0).turn):=fun m=>by
     rw[vH];exact (xE.refl m).mul ih
    rw[hends]
    split
    ·split
     ·exact hm _
     ·exact ih
    ·split
     ·exact hm _
     ·exact ih
   ·obtain rfl:i=k:=by simp at hi;omega
    have hA:(kR true n es i).getD (es.getD i e0).fr.toNat 0=pA (kR true n es i) (es.getD i e0):=rfl
    have hB:(kR true n es i).getD (es.getD i e0).to_.toNat 0=pB (kR true n es i) (es.getD i e0):=rfl
    rw[hA,hB]
    simp only[if_true,if_neg hab,if_neg (fun e=>hab (Eq.symm e))]
    split
    ·refine xE.symm ?_
     rw[vH _ (uL (tV n es i (es.getD i e0).to_.toNat)) _,qcj_mul,gJ,qmul_1,hZ,vH,qcj_mul,gJ,qmul_1,qsc_sc]
     exact xE.sc (Int.mul_ne_zero (yN.1 (nz _)) (yN.1 hx.q.1)) _
    ·rw[vH (jZ _ _),qcj_mul,gJ,qmul_1]
     exact xE.sc (yN.1 (nz _)) _
end
def aV(n:Nat)(es:List jC)(j:Nat):jB:=tV n es es.length j
def aFit(n:Nat)(es:List jC):Prop:=∀ j,j<n→cC (zL (aV n es j))
instance {n:Nat} {es:List jC}:Decidable (aFit n es):=by unfold aFit;infer_instance
def absL(n:Nat)(es:List jC):List jB:=if aFit n es then (List.range n).map fun j=>zL (aV n es j) else []
def absC(n:Nat)(es:List jC):Nat:=if aFit n es then 0 else 3
def jN(n:Nat)(es:List jC):List Int:=yD true n es es.length
end Go.Fid
namespace Go.Proofs.YteimogfidbkpnabGreat
open Go.Fid
def jJ(x:kJ):kF:=.agg [.val (.bool x.neg),.sl 103 1 (x.gs.map jD)]
def kN(x:uN):kF:=.agg [.val (.bool x.num.neg),.sl 103 1 (x.num.gs.map jD),.val (.bool x.den.neg),.sl 103 1 (x.den.gs.map jD)]
def jF(x:jB):kF:=.agg [.val (.int .i64 x.a),.val (.int .i64 x.b),.val (.int .i64 x.c),.val (.int .i64 x.d)]
def jP(x:jC):kF:=.agg [.val (.int .i64 x.fr),.val (.int .i64 x.to_),.val (.int .i64 x.turn.a),.val (.int .i64 x.turn.b),.val (.int .i64 x.turn.c),.val (.int .i64 x.turn.d)]
structure A2 (α:Type) where
 a0:α
 a1:α
structure A3 (α:Type) where
 a0:α
 a1:α
 a2:α
structure A4 (α:Type) where
 a0:α
 a1:α
 a2:α
 a3:α
def mB(x:A2 (Nat)):kF:=.agg [.val (.int .u8 ((x.a0:Nat):Int)),.val (.int .u8 ((x.a1:Nat):Int))]
def kT(x:A3 (Int)):kF:=.agg [.val (.int .i64 x.a0),.val (.int .i64 x.a1),.val (.int .i64 x.a2)]
def xX(x:A4 (Int)):kF:=.agg [.val (.int .i64 x.a0),.val (.int .i64 x.a1),.val (.int .i64 x.a2),.val (.int .i64 x.a3)]
def encA132(x:A4 (kJ)):kF:=.agg [.val (.bool x.a0.neg),.sl 103 1 (x.a0.gs.map jD),.val (.bool x.a1.neg),.sl 103 1 (x.a1.gs.map jD),.val (.bool x.a2.neg),.sl 103 1 (x.a2.gs.map jD),.val (.bool x.a3.neg),.sl 103 1 (x.a3.gs.map jD)]
theorem mo:Tryz.prog.follows .mixedOrders=true:=by kernel_rfl
end Go.Proofs.YteimogfidbkpnabGreat
namespace Go.Fid
abbrev vi (z:Int):SV:=.d (.val (.int .i64 z))
abbrev jT (n:Nat):SV:=.d (.val (.int .i64 (n:Int)))
abbrev xT (n:Nat):SV:=.d (.val (.int .u64 (n:Int)))
abbrev dD (n:Nat):SV:=.d (.val (.int .u32 (n:Int)))
abbrev vyn (n:Nat):SV:=.d (.val (.int .u8 (n:Int)))
abbrev vb (b:Bool):SV:=.d (.val (.bool b))
abbrev vl {α:Type} (E z:Nat) (F:α→kF) (L:List α):SV:=.d (.sl E z (L.map F))
abbrev bm {α:Type} (F:α→kF) (L:List α):List SV:=L.map (fun g=>SV.d (F g))
section
variable {P:Program} {n:Fr} {ops:Array Oper} {S S':SL} {B B':BS} {l:List Oper} {o:Oper} {news:List Nat} {acc0:List (List Nat × List Nat)}
end
theorem fillL_all{s:Nat}:∀ (ds:List kF) (k:Nat) (a z:List kF),a.length=k*s→z.length=ds.length*s→(∀ d∈ds,d.cells.length=s) →
  dW (fun i=>some (i*s,s)) (a++z) ((ds.zipIdx k).map fun p=>(p.2,p.1.cells))=some (a++flat ds)
 |[],k,a,z,ha,hz,_=>by
  have:z=[]:=List.eq_nil_of_length_eq_zero (by simpa using hz)
  subst this;simp [dW,flat]
 |d::ds,k,a,z,ha,hz,hs=>by
  have hd:=hs d (by simp)
  have hz':z.length=s+ds.length*s:=by rw[hz,List.length_cons,Nat.add_mul];omega
  rw[List.zipIdx_cons,List.map_cons]
  simp only[dW]
  have h1:(Nat.beq d.cells.length s&&Nat.ble (k*s+d.cells.length) (a++z).length)=true:=by
   rw[Bool.and_eq_true]
   refine ⟨by rw[hd];exact Nat.beq_refl s,Nat.ble_eq_true_of_le ?_⟩
   rw[List.length_append,ha,hd];omega
  rw[h1,cond_true]
  have h2:patch (a++z) (k*s) d.cells=(a++d.cells)++z.drop s:=by
   unfold patch
   rw[← ha,List.take_left,hd]
   congr 1
   rw[List.drop_append,List.drop_of_length_le (by omega),List.nil_append]
   congr 1;omega
  rw[h2,fillL_all ds (k+1) (a++d.cells) (z.drop s) (by rw[List.length_append,ha,hd,Nat.add_mul];omega) (by rw[List.length_drop];omega) (fun x hx=>hs x (by simp [hx])),nX,List.append_assoc]
theorem e_bldF{P:Program}{o:Oper}{S:Nat→SV}{T E:TypeId}{n s:Nat}{ps:List (Nat × Operand)}{ds:List kF}{zv:List Value}{zd:List kF}{y:kF}(ho:o.op=.build T ps.toArray)(hT:arrB P T=some (n,E,s))(hz:uZ P T=some zv)(hzd:mW zv zd)
  (hps:ps.map (fun p=>(p.1,ev S p.2))=ds.zipIdx.map (fun p=>(p.2,.d p.1))) (hok:ds.all (fun d=>d.ok1)=true) (hs:ds.all (fun d=>Nat.beq d.cells.length s)=true) (hl:Nat.beq zd.length (ds.length*s)=true) (hy:kF.agg (flat ds)=y):qW P o S [] (.d y):=by
 subst hy
 refine e_build_arr (pd:=ds.zipIdx.map fun p=>(p.2,p.1)) ho hT hz hzd (by rw[hps,List.map_map];rfl) ?_ ?_
 ·rw[List.all_eq_true] at hok ⊢
  intro p hp
  obtain ⟨q,hq,rfl⟩:=List.mem_map.1 hp
  exact hok _ (List.fst_mem_of_mem_zipIdx hq)
 ·have:=fillL_all ds 0 [] zd (by simp) (Nat.eq_of_beq_eq_true hl) (fun d hd=>Nat.eq_of_beq_eq_true (List.all_eq_true.1 hs d hd))
  rw[List.map_map]
  rw[List.nil_append,List.nil_append] at this
  exact this
theorem mE{α:Type}{s:Nat}(F:α→kF)(L:List α)(hF:∀ g,(F g).cells.length=s):∀ e∈L.map F,e.cells.length=s:=by
 intro e he
 obtain ⟨g,_,rfl⟩:=List.mem_map.1 he
 exact hF g
theorem eY{α:Type}{s:Nat}(F:α→kF)(L:List α)(hF:∀ g,(F g).cells.length=s){m:Nat}(h:L.length=m):(vX F L).take (m*s)=(flat (L.map F)).map .d:=by
 refine List.take_of_length_le ?_
 rw[List.length_map,eE F hF,h]
 exact Nat.le_refl _
end Go.Fid
