/- Part 24 of a proof: rules, plain facts, and functions walked. -/
import Derived.Test.YteimogfidbkpnabGreatM23
import Derived.Test.YteimogfidbkpnabGreatM11
import Derived.Test.YteimogfidbkpnabGreatM3
set_option linter.all false
set_option maxRecDepth 4000
namespace Go.Proofs.YteimogfidbkpnabGreat
open Go.Fid
theorem cb30:callB Tryz.prog 30=true:=by kernel_rfl
theorem cb40:callB Tryz.prog 40=true:=by kernel_rfl
theorem cb54:callB Tryz.prog 54=true:=by kernel_rfl
theorem l_mul(p:jB)(q:jB)(hp:dU p)(hq:dU q):kB Tryz.prog 54 [(jF p),(jF q)] (.tup [(jF (qV (jZ p q))),(.val (.int .i64 ((((qC (jZ p q)):Nat):Int))))]):=by
 obtain ⟨pa_,pb_,pc_,pd_⟩:=hp.2.bd
 obtain ⟨qa_,qb_,qc_,qd_⟩:=hq.2.bd
 have:=xA pa_ qa_
 have:=xA pa_ qb_
 have:=xA pa_ qc_
 have:=xA pa_ qd_
 have:=xA pb_ qa_
 have:=xA pb_ qb_
 have:=xA pb_ qc_
 have:=xA pb_ qd_
 have:=xA pc_ qa_
 have:=xA pc_ qb_
 have:=xA pc_ qc_
 have:=xA pc_ qd_
 have:=xA pd_ qa_
 have:=xA pd_ qb_
 have:=xA pd_ qc_
 have:=xA pd_ qd_
 refine jK Tryz.func54 rfl cb54 rfl ?_
 show qU _ _ _ _ ⟨[(0,(.d (jF p))),(1,(.d (jF q)))],[]⟩
 refine jA<|kx [(2,(.ref 0 0)),(3,(.ref 1 0)),(4,(.ref 2 0))] [(0,some (bx (jF p))),(1,some (bx (jF q))),(2,some (bx (jF (jB.mk 0 0 0 0))))] (zN (yC 0)<|zN (yC 1)<|zN (uQ 2 vK vL)<|zM<|zZ) ?_
 refine jA<|jA<|kx [(6,(vi 0))] [] (zR (kY kL)<|zR (kY kL)<|zE (oBs cI vK vL)<|zE (kE (l_chkd p q hp hq))<|zM<|zZ) ?_
 refine jA<|kx [(12,(vb false))] [] (zM<|zE (xR false fO)<|zZ) ?_
 refine qZ ?_
 refine jE<|jA<|kx [(5,(jT (qC (jB.mk ((((p.a*q.a)-(p.b*q.b))-(p.c*q.c))-(p.d*q.d)) ((((p.a*q.b)+(p.b*q.a))+(p.c*q.d))-(p.d*q.c)) ((((p.a*q.c)-(p.b*q.d))+(p.c*q.a))+(p.d*q.b)) ((((p.a*q.d)+(p.b*q.c))-(p.c*q.b))+(p.d*q.a))))))] [(2,some (bx (jF (qV (jB.mk ((((p.a*q.a)-(p.b*q.b))-(p.c*q.c))-(p.d*q.d)) ((((p.a*q.b)+(p.b*q.a))+(p.c*q.d))-(p.d*q.c)) ((((p.a*q.c)-(p.b*q.d))+(p.c*q.a))+(p.d*q.b)) ((((p.a*q.d)+(p.b*q.c))-(p.c*q.b))+(p.d*q.a)))))))] (zE (kV vO)<|zR (kP qF)<|zE (kV vO)<|zR (kP qF)<|zE (eS (p.a*q.a) (hr:=by exact (qJ rfl (by simp only[xL];omega) (by simp only[xM];omega))))<|zE (kV vP)<|zR (kP qF)<|zE (kV vP)<|zR (kP qF)<|zE (eS (p.b*q.b) (hr:=by exact (qJ rfl (by simp only[xL];omega) (by simp only[xM];omega))))<|zE (zSb ((p.a*q.a)-(p.b*q.b)) (hr:=by exact (qJ rfl (by simp only[xL];omega) (by simp only[xM];omega))))<|zE (kV vM)<|zR (kP qF)<|zE (kV vM)<|zR (kP qF)<|zE (eS (p.c*q.c) (hr:=by exact (qJ rfl (by simp only[xL];omega) (by simp only[xM];omega))))<|zE (zSb (((p.a*q.a)-(p.b*q.b))-(p.c*q.c)) (hr:=by exact (qJ rfl (by simp only[xL];omega) (by simp only[xM];omega))))<|zE (kV vN)<|zR (kP qF)<|zE (kV vN)<|zR (kP qF)<|zE (eS (p.d*q.d) (hr:=by exact (qJ rfl (by simp only[xL];omega) (by simp only[xM];omega))))<|zE (zSb ((((p.a*q.a)-(p.b*q.b))-(p.c*q.c))-(p.d*q.d)) (hr:=by exact (qJ rfl (by simp only[xL];omega) (by simp only[xM];omega))))<|zE (kV vO)<|zR (kP qF)<|zE (kV vP)<|zR (kP qF)<|zE (eS (p.a*q.b) (hr:=by exact (qJ rfl (by simp only[xL];omega) (by simp only[xM];omega))))<|zE (kV vP)<|zR (kP qF)<|zE (kV vO)<|zR (kP qF)<|zE (eS (p.b*q.a) (hr:=by exact (qJ rfl (by simp only[xL];omega) (by simp only[xM];omega))))<|zE (zAd ((p.a*q.b)+(p.b*q.a)) (hr:=by exact (qJ rfl (by simp only[xL];omega) (by simp only[xM];omega))))<|zE (kV vM)<|zR (kP qF)<|zE (kV vN)<|zR (kP qF)<|zE (eS (p.c*q.d) (hr:=by exact (qJ rfl (by simp only[xL];omega) (by simp only[xM];omega))))<|zE (zAd (((p.a*q.b)+(p.b*q.a))+(p.c*q.d)) (hr:=by exact (qJ rfl (by simp only[xL];omega) (by simp only[xM];omega))))<|zE (kV vN)<|zR (kP qF)<|zE (kV vM)<|zR (kP qF)<|zE (eS (p.d*q.c) (hr:=by exact (qJ rfl (by simp only[xL];omega) (by simp only[xM];omega))))<|zE (zSb ((((p.a*q.b)+(p.b*q.a))+(p.c*q.d))-(p.d*q.c)) (hr:=by exact (qJ rfl (by simp only[xL];omega) (by simp only[xM];omega))))<|zE (kV vO)<|zR (kP qF)<|zE (kV vM)<|zR (kP qF)<|zE (eS (p.a*q.c) (hr:=by exact (qJ rfl (by simp only[xL];omega) (by simp only[xM];omega))))<|zE (kV vP)<|zR (kP qF)<|zE (kV vN)<|zR (kP qF)<|zE (eS (p.b*q.d) (hr:=by exact (qJ rfl (by simp only[xL];omega) (by simp only[xM];omega))))<|zE (zSb ((p.a*q.c)-(p.b*q.d)) (hr:=by exact (qJ rfl (by simp only[xL];omega) (by simp only[xM];omega))))<|zE (kV vM)<|zR (kP qF)<|zE (kV vO)<|zR (kP qF)<|zE (eS (p.c*q.a) (hr:=by exact (qJ rfl (by simp only[xL];omega) (by simp only[xM];omega))))<|zE (zAd (((p.a*q.c)-(p.b*q.d))+(p.c*q.a)) (hr:=by exact (qJ rfl (by simp only[xL];omega) (by simp only[xM];omega))))<|zE (kV vN)<|zR (kP qF)<|zE (kV vP)<|zR (kP qF)<|zE (eS (p.d*q.b) (hr:=by exact (qJ rfl (by simp only[xL];omega) (by simp only[xM];omega))))<|zE (zAd ((((p.a*q.c)-(p.b*q.d))+(p.c*q.a))+(p.d*q.b)) (hr:=by exact (qJ rfl (by simp only[xL];omega) (by simp only[xM];omega))))<|zE (kV vO)<|zR (kP qF)<|zE (kV vN)<|zR (kP qF)<|zE (eS (p.a*q.d) (hr:=by exact (qJ rfl (by simp only[xL];omega) (by simp only[xM];omega))))<|zE (kV vP)<|zR (kP qF)<|zE (kV vM)<|zR (kP qF)<|zE (eS (p.b*q.c) (hr:=by exact (qJ rfl (by simp only[xL];omega) (by simp only[xM];omega))))<|zE (zAd ((p.a*q.d)+(p.b*q.c)) (hr:=by exact (qJ rfl (by simp only[xL];omega) (by simp only[xM];omega))))<|zE (kV vM)<|zR (kP qF)<|zE (kV vP)<|zR (kP qF)<|zE (eS (p.c*q.b) (hr:=by exact (qJ rfl (by simp only[xL];omega) (by simp only[xM];omega))))<|zE (zSb (((p.a*q.d)+(p.b*q.c))-(p.c*q.b)) (hr:=by exact (qJ rfl (by simp only[xL];omega) (by simp only[xM];omega))))<|zE (kV vN)<|zR (kP qF)<|zE (kV vO)<|zR (kP qF)<|zE (eS (p.d*q.a) (hr:=by exact (qJ rfl (by simp only[xL];omega) (by simp only[xM];omega))))<|zE (zAd ((((p.a*q.d)+(p.b*q.c))-(p.c*q.b))+(p.d*q.a)) (hr:=by exact (qJ rfl (by simp only[xL];omega) (by simp only[xM];omega))))<|zE (kE (l_red ((((p.a*q.a)-(p.b*q.b))-(p.c*q.c))-(p.d*q.d)) (by omega) (by omega) ((((p.a*q.b)+(p.b*q.a))+(p.c*q.d))-(p.d*q.c)) (by omega) (by omega) ((((p.a*q.c)-(p.b*q.d))+(p.c*q.a))+(p.d*q.b)) (by omega) (by omega) ((((p.a*q.d)+(p.b*q.c))-(p.c*q.b))+(p.d*q.a)) (by omega) (by omega) (vR hp.1 hq.1)))<|zE qQ<|zE qQ<|zT (qA kL)<|zM<|zZ) ?_
 refine jI ⟨_,(kQ (cs:=(bx (jF (qV (jB.mk ((((p.a*q.a)-(p.b*q.b))-(p.c*q.c))-(p.d*q.d)) ((((p.a*q.b)+(p.b*q.a))+(p.c*q.d))-(p.d*q.c)) ((((p.a*q.c)-(p.b*q.d))+(p.c*q.a))+(p.d*q.b)) ((((p.a*q.d)+(p.b*q.c))-(p.c*q.b))+(p.d*q.a))))))) (d:=(jF (qV (jB.mk ((((p.a*q.a)-(p.b*q.b))-(p.c*q.c))-(p.d*q.d)) ((((p.a*q.b)+(p.b*q.a))+(p.c*q.d))-(p.d*q.c)) ((((p.a*q.c)-(p.b*q.d))+(p.c*q.a))+(p.d*q.b)) ((((p.a*q.d)+(p.b*q.c))-(p.c*q.b))+(p.d*q.a)))))) rfl rfl kL rfl rfl (.tmp (d:=(.val (.int .i64 ((((qC (jB.mk ((((p.a*q.a)-(p.b*q.b))-(p.c*q.c))-(p.d*q.d)) ((((p.a*q.b)+(p.b*q.a))+(p.c*q.d))-(p.d*q.c)) ((((p.a*q.c)-(p.b*q.d))+(p.c*q.a))+(p.d*q.b)) ((((p.a*q.d)+(p.b*q.c))-(p.c*q.b))+(p.d*q.a)))):Nat):Int))))) rfl .nil)),?_⟩
 rfl
theorem l8_mul(p:jB)(q:jB)(hp:dU p)(hq:dU q):kB Tryz.prog 40 [(jF p),(jF q)] (.tup [(jF (qV (jZ p q))),(.val (.int .i64 ((((qC (jZ p q)):Nat):Int))))]):=by
 obtain ⟨pa_,pb_,pc_,pd_⟩:=hp.2.bd
 obtain ⟨qa_,qb_,qc_,qd_⟩:=hq.2.bd
 have:=xA pa_ qa_
 have:=xA pa_ qb_
 have:=xA pa_ qc_
 have:=xA pa_ qd_
 have:=xA pb_ qa_
 have:=xA pb_ qb_
 have:=xA pb_ qc_
 have:=xA pb_ qd_
 have:=xA pc_ qa_
 have:=xA pc_ qb_
 have:=xA pc_ qc_
 have:=xA pc_ qd_
 have:=xA pd_ qa_
 have:=xA pd_ qb_
 have:=xA pd_ qc_
 have:=xA pd_ qd_
 refine jK Tryz.func40 rfl cb40 rfl ?_
 show qU _ _ _ _ ⟨[(0,(.d (jF p))),(1,(.d (jF q)))],[]⟩
 refine jA<|kx [(2,(.ref 0 0)),(3,(.ref 1 0)),(4,(.ref 2 0))] [(0,some (bx (jF p))),(1,some (bx (jF q))),(2,some (bx (jF (jB.mk 0 0 0 0))))] (zN (yC 0)<|zN (yC 1)<|zN (uQ 2 vK vL)<|zM<|zZ) ?_
 refine jA<|kx [(6,(vi 0))] [] (zR (kY kL)<|zR (kY kL)<|zE (kE (l8_both p q hp hq))<|zM<|zZ) ?_
 refine jA<|jA<|kx [(11,(vb false))] [] (zM<|zE (xR false fO)<|zZ) ?_
 refine qZ ?_
 refine jE<|jA<|kx [(5,(jT (qC (jB.mk ((((p.a*q.a)-(p.b*q.b))-(p.c*q.c))-(p.d*q.d)) ((((p.a*q.b)+(p.b*q.a))+(p.c*q.d))-(p.d*q.c)) ((((p.a*q.c)-(p.b*q.d))+(p.c*q.a))+(p.d*q.b)) ((((p.a*q.d)+(p.b*q.c))-(p.c*q.b))+(p.d*q.a))))))] [(2,some (bx (jF (qV (jB.mk ((((p.a*q.a)-(p.b*q.b))-(p.c*q.c))-(p.d*q.d)) ((((p.a*q.b)+(p.b*q.a))+(p.c*q.d))-(p.d*q.c)) ((((p.a*q.c)-(p.b*q.d))+(p.c*q.a))+(p.d*q.b)) ((((p.a*q.d)+(p.b*q.c))-(p.c*q.b))+(p.d*q.a)))))))] (zE (kV vO)<|zR (kP qF)<|zE (kV vO)<|zR (kP qF)<|zE (eS (p.a*q.a) (hr:=by exact (qJ rfl (by simp only[xL];omega) (by simp only[xM];omega))))<|zE (kV vP)<|zR (kP qF)<|zE (kV vP)<|zR (kP qF)<|zE (eS (p.b*q.b) (hr:=by exact (qJ rfl (by simp only[xL];omega) (by simp only[xM];omega))))<|zE (zSb ((p.a*q.a)-(p.b*q.b)) (hr:=by exact (qJ rfl (by simp only[xL];omega) (by simp only[xM];omega))))<|zE (kV vM)<|zR (kP qF)<|zE (kV vM)<|zR (kP qF)<|zE (eS (p.c*q.c) (hr:=by exact (qJ rfl (by simp only[xL];omega) (by simp only[xM];omega))))<|zE (zSb (((p.a*q.a)-(p.b*q.b))-(p.c*q.c)) (hr:=by exact (qJ rfl (by simp only[xL];omega) (by simp only[xM];omega))))<|zE (kV vN)<|zR (kP qF)<|zE (kV vN)<|zR (kP qF)<|zE (eS (p.d*q.d) (hr:=by exact (qJ rfl (by simp only[xL];omega) (by simp only[xM];omega))))<|zE (zSb ((((p.a*q.a)-(p.b*q.b))-(p.c*q.c))-(p.d*q.d)) (hr:=by exact (qJ rfl (by simp only[xL];omega) (by simp only[xM];omega))))<|zE (kV vO)<|zR (kP qF)<|zE (kV vP)<|zR (kP qF)<|zE (eS (p.a*q.b) (hr:=by exact (qJ rfl (by simp only[xL];omega) (by simp only[xM];omega))))<|zE (kV vP)<|zR (kP qF)<|zE (kV vO)<|zR (kP qF)<|zE (eS (p.b*q.a) (hr:=by exact (qJ rfl (by simp only[xL];omega) (by simp only[xM];omega))))<|zE (zAd ((p.a*q.b)+(p.b*q.a)) (hr:=by exact (qJ rfl (by simp only[xL];omega) (by simp only[xM];omega))))<|zE (kV vM)<|zR (kP qF)<|zE (kV vN)<|zR (kP qF)<|zE (eS (p.c*q.d) (hr:=by exact (qJ rfl (by simp only[xL];omega) (by simp only[xM];omega))))<|zE (zAd (((p.a*q.b)+(p.b*q.a))+(p.c*q.d)) (hr:=by exact (qJ rfl (by simp only[xL];omega) (by simp only[xM];omega))))<|zE (kV vN)<|zR (kP qF)<|zE (kV vM)<|zR (kP qF)<|zE (eS (p.d*q.c) (hr:=by exact (qJ rfl (by simp only[xL];omega) (by simp only[xM];omega))))<|zE (zSb ((((p.a*q.b)+(p.b*q.a))+(p.c*q.d))-(p.d*q.c)) (hr:=by exact (qJ rfl (by simp only[xL];omega) (by simp only[xM];omega))))<|zE (kV vO)<|zR (kP qF)<|zE (kV vM)<|zR (kP qF)<|zE (eS (p.a*q.c) (hr:=by exact (qJ rfl (by simp only[xL];omega) (by simp only[xM];omega))))<|zE (kV vP)<|zR (kP qF)<|zE (kV vN)<|zR (kP qF)<|zE (eS (p.b*q.d) (hr:=by exact (qJ rfl (by simp only[xL];omega) (by simp only[xM];omega))))<|zE (zSb ((p.a*q.c)-(p.b*q.d)) (hr:=by exact (qJ rfl (by simp only[xL];omega) (by simp only[xM];omega))))<|zE (kV vM)<|zR (kP qF)<|zE (kV vO)<|zR (kP qF)<|zE (eS (p.c*q.a) (hr:=by exact (qJ rfl (by simp only[xL];omega) (by simp only[xM];omega))))<|zE (zAd (((p.a*q.c)-(p.b*q.d))+(p.c*q.a)) (hr:=by exact (qJ rfl (by simp only[xL];omega) (by simp only[xM];omega))))<|zE (kV vN)<|zR (kP qF)<|zE (kV vP)<|zR (kP qF)<|zE (eS (p.d*q.b) (hr:=by exact (qJ rfl (by simp only[xL];omega) (by simp only[xM];omega))))<|zE (zAd ((((p.a*q.c)-(p.b*q.d))+(p.c*q.a))+(p.d*q.b)) (hr:=by exact (qJ rfl (by simp only[xL];omega) (by simp only[xM];omega))))<|zE (kV vO)<|zR (kP qF)<|zE (kV vN)<|zR (kP qF)<|zE (eS (p.a*q.d) (hr:=by exact (qJ rfl (by simp only[xL];omega) (by simp only[xM];omega))))<|zE (kV vP)<|zR (kP qF)<|zE (kV vM)<|zR (kP qF)<|zE (eS (p.b*q.c) (hr:=by exact (qJ rfl (by simp only[xL];omega) (by simp only[xM];omega))))<|zE (zAd ((p.a*q.d)+(p.b*q.c)) (hr:=by exact (qJ rfl (by simp only[xL];omega) (by simp only[xM];omega))))<|zE (kV vM)<|zR (kP qF)<|zE (kV vP)<|zR (kP qF)<|zE (eS (p.c*q.b) (hr:=by exact (qJ rfl (by simp only[xL];omega) (by simp only[xM];omega))))<|zE (zSb (((p.a*q.d)+(p.b*q.c))-(p.c*q.b)) (hr:=by exact (qJ rfl (by simp only[xL];omega) (by simp only[xM];omega))))<|zE (kV vN)<|zR (kP qF)<|zE (kV vO)<|zR (kP qF)<|zE (eS (p.d*q.a) (hr:=by exact (qJ rfl (by simp only[xL];omega) (by simp only[xM];omega))))<|zE (zAd ((((p.a*q.d)+(p.b*q.c))-(p.c*q.b))+(p.d*q.a)) (hr:=by exact (qJ rfl (by simp only[xL];omega) (by simp only[xM];omega))))<|zE (kE (l8_red ((((p.a*q.a)-(p.b*q.b))-(p.c*q.c))-(p.d*q.d)) (by omega) (by omega) ((((p.a*q.b)+(p.b*q.a))+(p.c*q.d))-(p.d*q.c)) (by omega) (by omega) ((((p.a*q.c)-(p.b*q.d))+(p.c*q.a))+(p.d*q.b)) (by omega) (by omega) ((((p.a*q.d)+(p.b*q.c))-(p.c*q.b))+(p.d*q.a)) (by omega) (by omega) (vR hp.1 hq.1)))<|zE qQ<|zE qQ<|zT (qA kL)<|zM<|zZ) ?_
 refine jI ⟨_,(kQ (cs:=(bx (jF (qV (jB.mk ((((p.a*q.a)-(p.b*q.b))-(p.c*q.c))-(p.d*q.d)) ((((p.a*q.b)+(p.b*q.a))+(p.c*q.d))-(p.d*q.c)) ((((p.a*q.c)-(p.b*q.d))+(p.c*q.a))+(p.d*q.b)) ((((p.a*q.d)+(p.b*q.c))-(p.c*q.b))+(p.d*q.a))))))) (d:=(jF (qV (jB.mk ((((p.a*q.a)-(p.b*q.b))-(p.c*q.c))-(p.d*q.d)) ((((p.a*q.b)+(p.b*q.a))+(p.c*q.d))-(p.d*q.c)) ((((p.a*q.c)-(p.b*q.d))+(p.c*q.a))+(p.d*q.b)) ((((p.a*q.d)+(p.b*q.c))-(p.c*q.b))+(p.d*q.a)))))) rfl rfl kL rfl rfl (.tmp (d:=(.val (.int .i64 ((((qC (jB.mk ((((p.a*q.a)-(p.b*q.b))-(p.c*q.c))-(p.d*q.d)) ((((p.a*q.b)+(p.b*q.a))+(p.c*q.d))-(p.d*q.c)) ((((p.a*q.c)-(p.b*q.d))+(p.c*q.a))+(p.d*q.b)) ((((p.a*q.d)+(p.b*q.c))-(p.c*q.b))+(p.d*q.a)))):Nat):Int))))) rfl .nil)),?_⟩
 rfl
theorem l_chord(p:jB)(q:jB)(hp:dU p)(hq:dU q):kB Tryz.prog 30 [(jF p),(jF q)] (.tup [(kN (zB (chQ p q))),(.val (.int .i64 (0)))]):=by
 obtain ⟨pa_,pb_,pc_,pd_⟩:=hp.2.bd
 obtain ⟨qa_,qb_,qc_,qd_⟩:=hq.2.bd
 have:=xA pa_ qa_
 have:=xA pb_ qb_
 have:=xA pc_ qc_
 have:=xA pd_ qd_
 have hnp:1≤nq p.a p.b p.c p.d∧nq p.a p.b p.c p.d≤9223372036854775807:=qn_bd hp
 have hnq:1≤nq q.a q.b q.c q.d∧nq q.a q.b q.c q.d≤9223372036854775807:=qn_bd hq
 let y1:=(zB (Rat.divInt (((((p.a*q.a)+(p.b*q.b))+(p.c*q.c))+(p.d*q.d))*((((p.a*q.a)+(p.b*q.b))+(p.c*q.c))+(p.d*q.d))) ((nq p.a p.b p.c p.d)*(nq q.a q.b q.c q.d))))
 refine jK Tryz.func30 rfl cb30 rfl ?_
 show qU _ _ _ _ ⟨[(0,(.d (jF p))),(1,(.d (jF q)))],[]⟩
 refine jA<|kx [(2,(.ref 0 0)),(3,(.ref 1 0)),(4,(.ref 2 0))] [(0,some (bx (jF p))),(1,some (bx (jF q))),(2,some (bx (kN oZr)))] (zN (yC 0)<|zN (yC 1)<|zN (uQ 2 mX mS)<|zM<|zZ) ?_
 refine jA<|jA<|kx [(6,(vi 0))] [] (zR (kY kL)<|zR (kY kL)<|zE (oBs cI vK vL)<|zE (kE (l_chkd p q hp hq))<|zM<|zZ) ?_
 refine jA<|kx [(15,(vb false))] [] (zM<|zE (xR false fO)<|zZ) ?_
 refine qZ ?_
 refine jE<|jA ?_
 have bn1:zJ (jQ ((((p.a*q.a)+(p.b*q.b))+(p.c*q.c))+(p.d*q.d))) ((((p.a*q.a)+(p.b*q.b))+(p.c*q.c))+(p.d*q.d)) 3:=(yI (z:=((((p.a*q.a)+(p.b*q.b))+(p.c*q.c))+(p.d*q.d))) (by omega) (by omega))
 refine kx [(7,(.ref 3 0))] [(3,some (bx (jJ (jQ ((((p.a*q.a)+(p.b*q.b))+(p.c*q.c))+(p.d*q.d))))))] (zE (kV vO)<|zR (kP qF)<|zE (kV vO)<|zR (kP qF)<|zE (eS (p.a*q.a) (hr:=by exact (qJ rfl (by simp only[xL];omega) (by simp only[xM];omega))))<|zE (kV vP)<|zR (kP qF)<|zE (kV vP)<|zR (kP qF)<|zE (eS (p.b*q.b) (hr:=by exact (qJ rfl (by simp only[xL];omega) (by simp only[xM];omega))))<|zE (zAd ((p.a*q.a)+(p.b*q.b)) (hr:=by exact (qJ rfl (by simp only[xL];omega) (by simp only[xM];omega))))<|zE (kV vM)<|zR (kP qF)<|zE (kV vM)<|zR (kP qF)<|zE (eS (p.c*q.c) (hr:=by exact (qJ rfl (by simp only[xL];omega) (by simp only[xM];omega))))<|zE (zAd (((p.a*q.a)+(p.b*q.b))+(p.c*q.c)) (hr:=by exact (qJ rfl (by simp only[xL];omega) (by simp only[xM];omega))))<|zE (kV vN)<|zR (kP qF)<|zE (kV vN)<|zR (kP qF)<|zE (eS (p.d*q.d) (hr:=by exact (qJ rfl (by simp only[xL];omega) (by simp only[xM];omega))))<|zE (zAd ((((p.a*q.a)+(p.b*q.b))+(p.c*q.c))+(p.d*q.d)) (hr:=by exact (qJ rfl (by simp only[xL];omega) (by simp only[xM];omega))))<|zE (kE (t_of ((((p.a*q.a)+(p.b*q.b))+(p.c*q.c))+(p.d*q.d)) (by omega) (by omega)))<|zN (uQ 3 uH uI)<|zT (qA jL)<|zZ) ?_
 refine jA ?_
 have bn2:zJ (jQ (nq p.a p.b p.c p.d)) (nq p.a p.b p.c p.d) 3:=(yI (z:=(nq p.a p.b p.c p.d)) (by omega) (by omega))
 have bn3:zJ (jQ (nq q.a q.b q.c q.d)) (nq q.a q.b q.c q.d) 3:=(yI (z:=(nq q.a q.b q.c q.d)) (by omega) (by omega))
 have bn4:QL (Rat.divInt (((((p.a*q.a)+(p.b*q.b))+(p.c*q.c))+(p.d*q.d))*((((p.a*q.a)+(p.b*q.b))+(p.c*q.c))+(p.d*q.d))) ((nq p.a p.b p.c p.d)*(nq q.a q.b q.c q.d))) 6:=(mC (n:=6) (Nat.le_trans (zJ.ln (nL (k:=6) bn1 bn1 (by decide))) (by decide)) (Nat.le_trans (zJ.ln (nL (k:=6) bn2 bn3 (by decide))) (by decide)) (by decide))
 refine kd [(8,(.ref 4 0))] [(4,some (bx (kN y1)))] mo (wR (kY jL)<|wR (kY jL)<|wE (kE (s_mul bn1 bn1 (by decide) (by decide)))<|wR (kY kL)<|wE (kE (qr_norm p.a p.b p.c p.d (by omega) (by omega) (by omega) (by omega)))<|wE (kE (t_of (nq p.a p.b p.c p.d) (by omega) (by omega)))<|wR (kY kL)<|wE (kE (qr_norm q.a q.b q.c q.d (by omega) (by omega) (by omega) (by omega)))<|wE (kE (t_of (nq q.a q.b q.c q.d) (by omega) (by omega)))<|wE (kE (s_mul bn2 bn3 (by decide) (by decide)))<|wE (kE (f_newO (jQ (((((p.a*q.a)+(p.b*q.b))+(p.c*q.c))+(p.d*q.d))*((((p.a*q.a)+(p.b*q.b))+(p.c*q.c))+(p.d*q.d)))) (((((p.a*q.a)+(p.b*q.b))+(p.c*q.c))+(p.d*q.d))*((((p.a*q.a)+(p.b*q.b))+(p.c*q.c))+(p.d*q.d))) (xG (nL (k:=6) bn1 bn1 (by decide)) (by decide)) (jQ ((nq p.a p.b p.c p.d)*(nq q.a q.b q.c q.d))) ((nq p.a p.b p.c p.d)*(nq q.a q.b q.c q.d)) (xG (nL (k:=6) bn2 bn3 (by decide)) (by decide)) (Int.mul_ne_zero (yN.1 hp.1) (yN.1 hq.1))))<|wM<|wE qQ<|wE qQ<|wN (uQ 4 mX mS)<|wT (qA vB)<|wM<|wZ) ?_
 refine jA ?_
 have bn5:QL ((1:Int):Rat) 1:=(ql_int (z:=1) (lenZ_one (by decide)) (by decide))
 refine kd [(5,(jT 0))] [(2,some (bx (kN (zB (((1:Int):Rat)-(Rat.divInt (((((p.a*q.a)+(p.b*q.b))+(p.c*q.c))+(p.d*q.d))*((((p.a*q.a)+(p.b*q.b))+(p.c*q.c))+(p.d*q.d))) ((nq p.a p.b p.c p.d)*(nq q.a q.b q.c q.d))))))))] mo (wE (kE (f_whole 1 (by decide) (by decide)))<|wR (kY vB)<|wE (kE (f_sub (zB ((1:Int):Rat)) y1 ((1:Int):Rat) (Rat.divInt (((((p.a*q.a)+(p.b*q.b))+(p.c*q.c))+(p.d*q.d))*((((p.a*q.a)+(p.b*q.b))+(p.c*q.c))+(p.d*q.d))) ((nq p.a p.b p.c p.d)*(nq q.a q.b q.c q.d))) (cV (qok_of bn5) (by decide)) (cV (qok_of bn4) (by decide))))<|wT (qA vB)<|wM<|wZ) ?_
 refine jI ⟨_,(kQ (cs:=(bx (kN (zB (((1:Int):Rat)-(Rat.divInt (((((p.a*q.a)+(p.b*q.b))+(p.c*q.c))+(p.d*q.d))*((((p.a*q.a)+(p.b*q.b))+(p.c*q.c))+(p.d*q.d))) ((nq p.a p.b p.c p.d)*(nq q.a q.b q.c q.d)))))))) (d:=(kN (zB (((1:Int):Rat)-(Rat.divInt (((((p.a*q.a)+(p.b*q.b))+(p.c*q.c))+(p.d*q.d))*((((p.a*q.a)+(p.b*q.b))+(p.c*q.c))+(p.d*q.d))) ((nq p.a p.b p.c p.d)*(nq q.a q.b q.c q.d))))))) rfl rfl vB rfl rfl (.tmp (d:=(.val (.int .i64 (((0:Nat):Int))))) rfl .nil)),?_⟩
 rw[← chQ_di p q];rfl
end Go.Proofs.YteimogfidbkpnabGreat
namespace Go.Fid
def rngB(n:Int)(x:jC):Bool:=((decide (x.fr<0)||decide (n≤x.fr))||decide (x.to_<0))||decide (n≤x.to_)
theorem rngB_t{n:Int}{x:jC}(h:rngB n x=true):edgC n x=2:=by
 simp only[rngB,Bool.or_eq_true,decide_eq_true_eq] at h
 exact if_neg (by omega)
theorem rngB_f{n:Int}{x:jC}(h:rngB n x=false):0≤x.fr∧x.fr<n∧0≤x.to_∧x.to_<n:=by
 simp only[rngB,Bool.or_eq_false_iff,decide_eq_false_iff_not] at h
 omega
theorem edgC_d{n:Int}{x:jC}(h:rngB n x=false)(e:x.fr=x.to_):edgC n x=13:=by
 unfold edgC;rw[if_pos (rngB_f h),if_pos e]
theorem edgC_q{n:Int}{x:jC}(h:rngB n x=false)(e:x.fr≠x.to_):edgC n x=gU x.turn.a x.turn.b x.turn.c x.turn.d:=by
 unfold edgC;rw[if_pos (rngB_f h),if_neg e]
def limB(n:Int)(es:List jC):Bool:=(decide (n<1)||decide (64<n))||decide (256<((es.length:Nat):Int))
theorem limB_t{n:Int}{es:List jC}(h:limB n es=true):uP n es=3:=by
 simp only[limB,Bool.or_eq_true,decide_eq_true_eq] at h
 exact lopC_lim (by omega)
theorem limB_f{n:Int}{es:List jC}(h:limB n es=false):uP n es=edsC n es∧1≤n∧n≤64∧es.length≤256:=by
 simp only[limB,Bool.or_eq_false_iff,decide_eq_false_iff_not] at h
 exact ⟨lopC_eds (by omega) (by omega) (by omega),by omega,by omega,by omega⟩
def okUp(n:Int)(es:List jC)(k:Nat):Prop:=∀ i,i<k→edgC n (es.getD i e0)=0
theorem okUp_0(n:Int)(es:List jC):okUp n es 0:=fun i hi=>by omega
theorem okUp_s{n:Int}{es:List jC}{k:Nat}(h:okUp n es k)(h1:edgC n (es.getD k e0)=0):okUp n es (k+1):=fun i hi=>by
 by_cases e:i=k
 ·subst e;exact h1
 ·exact h i (by omega)
theorem lop_bad{n:Int}{es:List jC}{k c:Nat}(hl:limB n es=false)(hk:k<es.length)(hv:okUp n es k)(h:edgC n (es.getD k e0)=c)(hc:c≠0):uP n es=c:=by
 rw[(limB_f hl).1,edsC_at hk hv (by rw[h];exact hc),h]
theorem lop_end{n:Int}{es:List jC}{k:Nat}(hl:limB n es=false)(hk:k=es.length)(hv:okUp n es k):uP n es=0:=by
 subst hk;rw[(limB_f hl).1,edsC_end hv]
theorem eJ{a:Nat}(h:((a:Nat):Int)≠0):a≠0:=fun e=>h (by rw[e];rfl)
def Tok(es:List jC):Prop:=∀ x∈es,dU x.turn
theorem xI.tok{n:Nat}{es:List jC}(h:xI n es):Tok es:=fun x hx=>(h x hx).q
theorem Tok.at{es:List jC}(h:Tok es){k:Nat}(hk:k<es.length):dU (es.getD k e0).turn:=by
 rw[List.getD_eq_getElem?_getD,List.getElem?_eq_getElem hk]
 exact h _ (List.getElem_mem hk)
def sIx(k:Int):Nat:=if 0≤k then k.toNat else (-1-k).toNat
def stE(es:List jC)(k:Int):jC:=es.getD (sIx k) e0
def stF(es:List jC)(k:Int):Int:=if 0≤k then (stE es k).fr else (stE es k).to_
def stT(es:List jC)(k:Int):Int:=if 0≤k then (stE es k).to_ else (stE es k).fr
def stQ(es:List jC)(k:Int):jB:=if 0≤k then (stE es k).turn else qV (uL (stE es k).turn)
def inE(es:List jC)(k:Int):Prop:=-((es.length:Nat):Int)≤k∧k<((es.length:Nat):Int)
instance {es:List jC} {k:Int}:Decidable (inE es k):=by unfold inE;infer_instance
theorem sIx_lt{es:List jC}{k:Int}(h:inE es k):sIx k<es.length:=by
 unfold sIx;unfold inE at h;split<;>omega
theorem stQ_ok{es:List jC}{k:Int}(h:Tok es)(hk:inE es k):dU (stQ es k):=by
 have hq:=h.at (sIx_lt hk)
 unfold stQ;split
 ·exact hq
 ·exact qV_ok (zD hq.1) (qC_cj hq)
theorem st_p{es:List jC}{k:Int}(h:0≤k):stF es k=(es.getD k.toNat e0).fr∧stT es k=(es.getD k.toNat e0).to_∧stQ es k=(es.getD k.toNat e0).turn:=by
 unfold stF stT stQ stE sIx;exact ⟨by simp only[if_pos h],by simp only[if_pos h],by simp only[if_pos h]⟩
theorem st_n{es:List jC}{k:Int}(h:¬ 0≤k):stF es k=(es.getD (-1-k).toNat e0).to_∧stT es k=(es.getD (-1-k).toNat e0).fr∧stQ es k=qV (uL (es.getD (-1-k).toNat e0).turn):=by
 unfold stF stT stQ stE sIx;exact ⟨by simp only[if_neg h],by simp only[if_neg h],by simp only[if_neg h]⟩
def arV(es:List jC)(ws:List Int):Nat→jB
 |0=>q1
 |k+1=>qV (jZ (stQ es (ws.getD k 0)) (arV es ws k))
def arX(es:List jC)(ws:List Int)(k:Nat):Nat:=qC (jZ (stQ es (ws.getD k 0)) (arV es ws k))
def arOk(es:List jC)(ws:List Int):Prop:=∀ i,i<ws.length→arX es ws i=0
instance {es:List jC} {ws:List Int}:Decidable (arOk es ws):=by unfold arOk;infer_instance
def mZ(es:List jC)(ws:List Int):jB:=if arOk es ws then arV es ws ws.length else ⟨0,0,0,0⟩
def mK(es:List jC)(ws:List Int):Nat:=if arOk es ws then 0 else 3
def wIn(es:List jC)(ws:List Int):Prop:=∀ k∈ws,inE es k
theorem wIn_at{es:List jC}{ws:List Int}(h:wIn es ws){i:Nat}(hi:i<ws.length):inE es (ws.getD i 0):=by
 rw[List.getD_eq_getElem?_getD,List.getElem?_eq_getElem hi]
 exact h _ (List.getElem_mem hi)
def arUp(es:List jC)(ws:List Int)(k:Nat):Prop:=∀ i,i<k→arX es ws i=0
theorem arUp_0(es:List jC)(ws:List Int):arUp es ws 0:=fun i hi=>by omega
theorem arUp_s{es:List jC}{ws:List Int}{k:Nat}(h:arUp es ws k)(h1:arX es ws k=0):arUp es ws (k+1):=fun i hi=>by
 by_cases e:i=k
 ·subst e;exact h1
 ·exact h i (by omega)
theorem arV_ok{es:List jC}{ws:List Int}(ht:Tok es)(hw:wIn es ws):∀ {k:Nat},k≤ws.length→arUp es ws k→dU (arV es ws k)
 |0,_,_=>q1_ok
 |k+1,hk,h=>by
  have ih:=arV_ok ht hw (k:=k) (by omega) (fun i hi=>h i (by omega))
  exact qV_ok (vR (stQ_ok ht (wIn_at hw (by omega))).1 ih.1) (h k (by omega))
theorem aro_no{es:List jC}{ws:List Int}{k:Nat}(hk:k<ws.length)(h:arX es ws k≠0):mZ es ws=⟨0,0,0,0⟩∧mK es ws=3∧arX es ws k=3:=by
 have hn:¬ arOk es ws:=fun e=>h (e k hk)
 exact ⟨if_neg hn,if_neg hn,(qC_01 _).resolve_left h⟩
theorem aro_yes{es:List jC}{ws:List Int}{k:Nat}(hk:k=ws.length)(h:arUp es ws k):mZ es ws=arV es ws k∧mK es ws=0:=by
 subst hk
 exact ⟨if_pos h,if_pos h⟩
def clP(es:List jC)(ws:List Int):Prop:=∀ i,i<ws.length→stF es (ws.getD ((i+1) % ws.length) 0)=stT es (ws.getD i 0)
instance {es:List jC} {ws:List Int}:Decidable (clP es ws):=by unfold clP;infer_instance
theorem wk_nx{i N:Nat}(h:i<N):((i+N-1) % N+1) % N=i:=by
 by_cases h0:i=0
 ·subst h0
  rw[Nat.zero_add,Nat.mod_eq_of_lt (a:=N-1) (by omega),show N-1+1=N by omega,Nat.mod_self]
 ·rw[show i+N-1=(i-1)+N by omega,Nat.add_mod_right,Nat.mod_eq_of_lt (a:=i-1) (by omega),show i-1+1=i by omega,Nat.mod_eq_of_lt h]
theorem wk_pv{i N:Nat}(h:i<N):((i+1) % N+N-1) % N=i:=by
 by_cases h0:i+1=N
 ·rw[h0,Nat.mod_self,Nat.zero_add,Nat.mod_eq_of_lt (a:=N-1) (by omega)];omega
 ·rw[Nat.mod_eq_of_lt (a:=i+1) (by omega),show i+1+N-1=i+N by omega,Nat.add_mod_right,Nat.mod_eq_of_lt h]
theorem clP_back{es:List jC}{ws:List Int}:clP es ws↔∀ i,i<ws.length→stF es (ws.getD i 0)=stT es (ws.getD ((i+ws.length-1) % ws.length) 0):=by
 constructor
 ·intro h i hi
  have h1:=h ((i+ws.length-1) % ws.length) (Nat.mod_lt _ (by omega))
  rwa [wk_nx hi] at h1
 ·intro h i hi
  have h1:=h ((i+1) % ws.length) (Nat.mod_lt _ (by omega))
  rwa [wk_pv hi] at h1
instance {es:List jC} {ws:List Int}:Decidable (wIn es ws):=by unfold wIn;infer_instance
def ardC(es:List jC)(ws:List Int):Nat:=if 256<ws.length then 9 else if ¬ wIn es ws then 2 else if ¬ clP es ws then 5 else mK es ws
def ardV(es:List jC)(ws:List Int):jB:=if 256<ws.length∨¬ wIn es ws∨¬ clP es ws then ⟨0,0,0,0⟩ else mZ es ws
def arnC(n:Int)(es:List jC)(ws:List Int):Nat:=if uP n es=0 then ardC es ws else uP n es
def arnV(n:Int)(es:List jC)(ws:List Int):jB:=if uP n es=0 then ardV es ws else ⟨0,0,0,0⟩
theorem ard_9{es:List jC}{ws:List Int}(h:256<ws.length):ardC es ws=9∧ardV es ws=⟨0,0,0,0⟩:=⟨if_pos h,if_pos (.inl h)⟩
theorem ard_2{es:List jC}{ws:List Int}(h:¬ 256<ws.length)(h2:¬ wIn es ws):ardC es ws=2∧ardV es ws=⟨0,0,0,0⟩:=⟨by unfold ardC;rw[if_neg h,if_pos h2],if_pos (.inr (.inl h2))⟩
theorem ard_5{es:List jC}{ws:List Int}(h:¬ 256<ws.length)(h2:wIn es ws)(h3:¬ clP es ws):ardC es ws=5∧ardV es ws=⟨0,0,0,0⟩:=⟨by unfold ardC;rw[if_neg h,if_neg (fun e=>e h2),if_pos h3],if_pos (.inr (.inr h3))⟩
theorem ard_y{es:List jC}{ws:List Int}(h:¬ 256<ws.length)(h2:wIn es ws)(h3:clP es ws):ardC es ws=mK es ws∧ardV es ws=mZ es ws:=⟨by unfold ardC;rw[if_neg h,if_neg (fun e=>e h2),if_neg (fun e=>e h3)],if_neg (fun e=>by rcases e with e | e | e;exact h e;exact e h2;exact e h3)⟩
theorem arn_0{n:Int}{es:List jC}{ws:List Int}(h:uP n es=0):arnC n es ws=ardC es ws∧arnV n es ws=ardV es ws:=⟨if_pos h,if_pos h⟩
theorem arn_n{n:Int}{es:List jC}{ws:List Int}(h:uP n es≠0):arnC n es ws=uP n es∧arnV n es ws=⟨0,0,0,0⟩:=⟨if_neg h,if_neg h⟩
def inUp(es:List jC)(ws:List Int)(k:Nat):Prop:=∀ i,i<k→inE es (ws.getD i 0)
theorem inUp_s{es:List jC}{ws:List Int}{k:Nat}(h:inUp es ws k)(h1:inE es (ws.getD k 0)):inUp es ws (k+1):=fun i hi=>by
 by_cases e:i=k
 ·subst e;exact h1
 ·exact h i (by omega)
theorem inUp_end{es:List jC}{ws:List Int}{k:Nat}(hk:k=ws.length)(h:inUp es ws k):wIn es ws:=by
 subst hk
 intro z hz
 obtain ⟨i,hi,rfl⟩:=List.getElem_of_mem hz
 have:=h i hi
 rwa [List.getD_eq_getElem?_getD,List.getElem?_eq_getElem hi] at this
theorem inUp_no{es:List jC}{ws:List Int}{k:Nat}(hk:k<ws.length)(h:¬ inE es (ws.getD k 0)):¬ wIn es ws:=fun e=>h (wIn_at e hk)
def exB(es:List jC)(k:Int):Bool:=decide (((es.length:Nat):Int)≤k)||decide (k < -((es.length:Nat):Int))
theorem exB_t{es:List jC}{k:Int}(h:exB es k=true):¬ inE es k:=by
 simp only[exB,Bool.or_eq_true,decide_eq_true_eq] at h
 unfold inE;omega
theorem exB_f{es:List jC}{k:Int}(h:exB es k=false):inE es k:=by
 simp only[exB,Bool.or_eq_false_iff,decide_eq_false_iff_not] at h
 unfold inE;omega
def cbUp(es:List jC)(ws:List Int)(k:Nat):Prop:=∀ i,i<k→stF es (ws.getD i 0)=stT es (ws.getD ((i+ws.length-1) % ws.length) 0)
theorem up_s{P:Nat→Prop}{k:Nat}(h:∀ i,i<k→P i)(h1:P k):∀ i,i<k+1→P i:=fun i hi=>by
 by_cases e:i=k
 ·subst e;exact h1
 ·exact h i (by omega)
theorem cb_no{es:List jC}{ws:List Int}{k:Nat}(hk:k<ws.length)(h:stF es (ws.getD k 0)≠stT es (ws.getD ((k+ws.length-1) % ws.length) 0)):¬ clP es ws:=fun e=>h (clP_back.1 e k hk)
end Go.Fid
namespace Go.Fid
def ini(i:Nat):List Int:=(List.range i).map fun k=>((k:Nat):Int)
theorem ini_len(i:Nat):(ini i).length=i:=by simp [ini]
theorem ini_s(i:Nat):ini i++[((i:Nat):Int)]=ini (i+1):=by simp [ini,List.range_succ]
def RlUp(a b:Int)(p:List Int)(seen:List Nat)(q:List Int):Prop:=q.length=p.length∧∀ j,j<p.length→q.getD j 0=if j∈seen then rl a b (p.getD j 0) else p.getD j 0
theorem RlUp_0(a b:Int)(p:List Int):RlUp a b p [] p:=⟨rfl,fun j hj=>by simp⟩
theorem RlUp_y{a b:Int}{p q:List Int}{seen:List Nat}{k:Nat}(h:RlUp a b p seen q)(hk:k<p.length)(hn:k∉seen)(he:q.getD k 0=b):RlUp a b p (seen++[k]) (q.set k a):=by
 refine ⟨by rw[List.length_set];exact h.1,fun j hj=>?_⟩
 have h1:=h.2 j hj
 by_cases e:k=j
 ·subst e
  rw[List.getD_eq_getElem?_getD,List.getElem?_set_self (by rw[h.1];exact hk)]
  rw[h1,if_neg hn] at he
  simp only[List.mem_append,List.mem_singleton,or_true,if_true,Option.getD_some]
  unfold rl;rw[if_pos he]
 ·rw[List.getD_eq_getElem?_getD,List.getElem?_set_ne e,← List.getD_eq_getElem?_getD,h1]
  simp only[List.mem_append,List.mem_singleton,show ¬ j=k from fun x=>e x.symm,or_false]
theorem RlUp_n{a b:Int}{p q:List Int}{seen:List Nat}{k:Nat}(h:RlUp a b p seen q)(hk:k<p.length)(hn:k∉seen)(he:¬ q.getD k 0=b):RlUp a b p (seen++[k]) q:=by
 refine ⟨h.1,fun j hj=>?_⟩
 have h1:=h.2 j hj
 by_cases e:k=j
 ·subst e
  rw[h1,if_neg hn] at he
  rw[h1,if_neg hn]
  simp only[List.mem_append,List.mem_singleton,or_true,if_true]
  unfold rl;rw[if_neg he]
 ·rw[h1]
  simp only[List.mem_append,List.mem_singleton,show ¬ j=k from fun x=>e x.symm,or_false]
theorem RlUp_end{a b:Int}{p q:List Int}{seen:List Nat}(h:RlUp a b p seen q)(hs:∀ k,k<q.length→k∈seen):q=mrg false a b p:=by
 apply List.ext_getElem?
 intro j
 by_cases hj:j<p.length
 ·have h1:=h.2 j hj
  rw[if_pos (hs j (by rw[h.1];exact hj))] at h1
  have e2:=yJ (g:=false) (a:=a) (b:=b) hj
  rw[List.getD_eq_getElem?_getD,List.getElem?_eq_getElem (by rw[h.1];exact hj)] at h1
  rw[List.getD_eq_getElem?_getD,List.getElem?_eq_getElem (by rw[mrg_len];exact hj)] at e2
  rw[List.getElem?_eq_getElem (by rw[h.1];exact hj),List.getElem?_eq_getElem (by rw[mrg_len];exact hj)]
  simp only[Option.getD_some] at h1 e2
  rw[h1,e2];rfl
 ·rw[List.getElem?_eq_none (by rw[h.1];omega),List.getElem?_eq_none (by rw[mrg_len];omega)]
def unseen(n:Nat)(seen:List Nat):Nat:=(List.range n).countP fun j=>!(seen.contains j)
theorem unseen_lt{n k:Nat}{seen:List Nat}(hk:k<n)(hn:k∉seen):unseen n (seen++[k])<unseen n seen:=by
 unfold unseen
 refine countP_lt (i:=k) (fun x _ hx=>?_) (by simpa using hk) (by simpa using hn) (by simp)
 simp only[Bool.not_eq_true',List.contains_eq_mem,decide_eq_false_iff_not,List.mem_append,not_or] at hx ⊢
 exact hx.1
theorem pA_in{n:Nat}{es:List jC}{k:Nat}(h:xI n es)(hk:k<es.length)(g:Bool):0≤(es.getD k e0).fr∧(es.getD k e0).fr.toNat<(kR g n es k).length∧0≤(es.getD k e0).to_∧(es.getD k e0).to_.toNat<(kR g n es k).length:=by
 have h1:=gR h hk
 have h2:=h1.f0;have h3:=h1.f1;have h4:=h1.t0;have h5:=h1.t1
 rw[yZ];omega
end Go.Fid
namespace Go.Proofs.YteimogfidbkpnabGreat
open Go.Fid
theorem cb23:callB Tryz.prog 23=true:=by kernel_rfl
theorem cb36:callB Tryz.prog 36=true:=by kernel_rfl
theorem mI:uK Tryz.prog 31=some (36,6):=by kernel_rfl
theorem yH:yO Tryz.prog 36 0=some 0:=by kernel_rfl
theorem yQ:yO Tryz.prog 36 1=some 1:=by kernel_rfl
theorem fo36_2:yO Tryz.prog 36 2=some 2:=by kernel_rfl
theorem cX:kS Tryz.prog 36=some (true,6):=by kernel_rfl
theorem ze36:uZ Tryz.prog 36=some [.int .i64 0,.int .i64 0,.int .i64 0,.int .i64 0,.int .i64 0,.int .i64 0]:=by kernel_rfl
theorem zo36:mW [.int .i64 0,.int .i64 0,.int .i64 0,.int .i64 0,.int .i64 0,.int .i64 0] [.val (.int .i64 0),.val (.int .i64 0),.val (.int .i64 0),.val (.int .i64 0),.val (.int .i64 0),.val (.int .i64 0)]:=by simp [mW,Value.oneCell']
theorem l_check(n:Int)(es:List jC)(hb:es.length≤1000000):kB Tryz.prog 23 [(.val (.int .i64 (n))),(.sl 36 6 (List.map jP es))] (.val (.int .i64 ((((uP n es):Nat):Int)))):=by
 refine jK Tryz.func23 rfl cb23 rfl ?_
 show qU _ _ _ _ ⟨[(0,(vi n)),(1,(vl 36 6 jP es))],[]⟩
 refine jA<|kx [] [] (zM<|zZ) ?_
 refine jA<|jA<|kx [(18,(vb ((decide (n<1)||decide (64<n))||decide (256<((es.length:Nat):Int)))))] [] ?_ ?_
 ·refine zM<|zE uM<|zE (oV (vb (decide (n<1))) (kZ (by kernel_rfl)))<|?_
  rcases hb1:(decide (n<1)) with _ | _
  ·replace hb1:=uY hb1
   refine zM<|zE cK<|zE cF<|zE (oV (vb (false||decide (64<n))) (kZ (by kernel_rfl)))<|?_
   rcases hb2:(false||decide (64<n)) with _ | _
   ·replace hb2:=uY (p:=(64<n)) hb2
    exact zM<|zE (xD mI)<|zE cK<|zE cF<|zZ
   ·replace hb2:=uW (p:=(64<n)) hb2
    exact zK<|zK<|zK<|zE xC<|zZ
  ·replace hb1:=uW hb1
   exact zK<|zK<|zE xC<|zM<|zK<|zK<|zK<|zE xC<|zZ
 refine jG rfl (fun h3=>?_) (fun h3=>?_)
 ·refine jA<|kx [(4,(jT 3))] [] (zM<|zZ) ?_
  refine jI ⟨_,(.tmp (d:=(.val (.int .i64 (3)))) rfl .nil),?_⟩
  rw[limB_t h3];rfl
 ·refine jE<|jA<|jA<|kx [(19,(vl 36 6 jP es)),(20,(jT es.length)),(21,(jT 0))] [] (zM<|zE (xD mI)<|zM<|zZ) ?_
  refine jH<|kI (α:=Nat) (fun k=>⟨[(0,(vi n)),(19,(vl 36 6 jP es)),(20,(jT es.length)),(21,(jT k))],[]⟩) (fun k=>k≤es.length∧okUp n es k) (fun k=>es.length-k) 0 wk ⟨Nat.zero_le _,okUp_0 _ _⟩ ?_
  rintro k ⟨hk,hv⟩
  refine jA<|kx [(22,(vb (decide (((k:Nat):Int)<((es.length:Nat):Int)))))] [] (zE uM<|zZ) ?_
  refine jA<|jG rfl (fun h4=>?_) (fun h4=>?_)
  ·replace h4:=uW h4
   refine jE<|jA<|jH<|jA<|kx [(6,(.ref 0 0))] [(0,some (bx (jP (es.getD k (jC.mk 0 0 (jB.mk 0 0 0 0))))))] (zE (gV mI k (jC.mk 0 0 (jB.mk 0 0 0 0)))<|zE (oCa cX)<|zN (uQ 0 ze36 zo36)<|zT (qA cX)<|zZ) ?_
   refine jA<|jA<|kx [(44,(vb (((decide ((es.getD k (jC.mk 0 0 (jB.mk 0 0 0 0))).fr<0)||decide (n≤(es.getD k (jC.mk 0 0 (jB.mk 0 0 0 0))).fr))||decide ((es.getD k (jC.mk 0 0 (jB.mk 0 0 0 0))).to_<0))||decide (n≤(es.getD k (jC.mk 0 0 (jB.mk 0 0 0 0))).to_))))] [] ?_ ?_
   ·refine zE (kV yH)<|zR (kP qF)<|zE uM<|zE (oV (vb (decide ((es.getD k (jC.mk 0 0 (jB.mk 0 0 0 0))).fr<0))) (kZ (by kernel_rfl)))<|?_
    rcases hb5:(decide ((es.getD k (jC.mk 0 0 (jB.mk 0 0 0 0))).fr<0)) with _ | _
    ·replace hb5:=uY hb5
     refine zE (kV yH)<|zR (kP qF)<|zM<|zE oGe<|zE cF<|zE (oV (vb (false||decide (n≤(es.getD k (jC.mk 0 0 (jB.mk 0 0 0 0))).fr))) (kZ (by kernel_rfl)))<|?_
     rcases hb6:(false||decide (n≤(es.getD k (jC.mk 0 0 (jB.mk 0 0 0 0))).fr)) with _ | _
     ·replace hb6:=uY (p:=(n≤(es.getD k (jC.mk 0 0 (jB.mk 0 0 0 0))).fr)) hb6
      refine zE (kV yQ)<|zR (kP qF)<|zE uM<|zE cF<|zE (oV (vb (false||decide ((es.getD k (jC.mk 0 0 (jB.mk 0 0 0 0))).to_<0))) (kZ (by kernel_rfl)))<|?_
      rcases hb7:(false||decide ((es.getD k (jC.mk 0 0 (jB.mk 0 0 0 0))).to_<0)) with _ | _
      ·replace hb7:=uY (p:=((es.getD k (jC.mk 0 0 (jB.mk 0 0 0 0))).to_<0)) hb7
       exact zE (kV yQ)<|zR (kP qF)<|zM<|zE oGe<|zE cF<|zZ
      ·replace hb7:=uW (p:=((es.getD k (jC.mk 0 0 (jB.mk 0 0 0 0))).to_<0)) hb7
       exact zK<|zK<|zK<|zK<|zE xC<|zZ
     ·replace hb6:=uW (p:=(n≤(es.getD k (jC.mk 0 0 (jB.mk 0 0 0 0))).fr)) hb6
      exact zK<|zK<|zK<|zE xC<|zM<|zK<|zK<|zK<|zK<|zE xC<|zZ
    ·replace hb5:=uW hb5
     exact zK<|zK<|zK<|zK<|zE xC<|zM<|zK<|zK<|zK<|zE xC<|zM<|zK<|zK<|zK<|zK<|zE xC<|zZ
   refine jG rfl (fun h8=>?_) (fun h8=>?_)
   ·refine jA<|kx [(4,(jT 2))] [] (zM<|zZ) ?_
    refine jI ⟨_,(.tmp (d:=(.val (.int .i64 (2)))) rfl .nil),?_⟩
    rw[lop_bad (k:=k) h3 (by omega) hv (rngB_t h8) (by decide)];rfl
   ·refine jE<|jA<|jA<|kx [(49,(vb ((es.getD k (jC.mk 0 0 (jB.mk 0 0 0 0))).fr == (es.getD k (jC.mk 0 0 (jB.mk 0 0 0 0))).to_)))] [] (zE (kV yH)<|zR (kP qF)<|zE (kV yQ)<|zR (kP qF)<|zE gX<|zZ) ?_
    refine jG rfl (fun h9=>?_) (fun h9=>?_)
    ·replace h9:=eq_of_beq h9
     refine jA<|kx [(4,(jT 13))] [] (zM<|zZ) ?_
     refine jI ⟨_,(.tmp (d:=(.val (.int .i64 (13)))) rfl .nil),?_⟩
     rw[lop_bad (k:=k) h3 (by omega) hv (edgC_d h8 h9) (by decide)];rfl
    ·replace h9:=ne_of_beq_false h9
     refine jE<|jA<|kx [(7,(jT (gU (((es.getD k (jC.mk 0 0 (jB.mk 0 0 0 0))).turn).a) (((es.getD k (jC.mk 0 0 (jB.mk 0 0 0 0))).turn).b) (((es.getD k (jC.mk 0 0 (jB.mk 0 0 0 0))).turn).c) (((es.getD k (jC.mk 0 0 (jB.mk 0 0 0 0))).turn).d))))] [] (zE (kV fo36_2)<|zR (kY kL)<|zE (kE (q_chk (((es.getD k (jC.mk 0 0 (jB.mk 0 0 0 0))).turn).a) (((es.getD k (jC.mk 0 0 (jB.mk 0 0 0 0))).turn).b) (((es.getD k (jC.mk 0 0 (jB.mk 0 0 0 0))).turn).c) (((es.getD k (jC.mk 0 0 (jB.mk 0 0 0 0))).turn).d)))<|zM<|zZ) ?_
     refine jA<|kx [(54,(vb ((((gU (((es.getD k (jC.mk 0 0 (jB.mk 0 0 0 0))).turn).a) (((es.getD k (jC.mk 0 0 (jB.mk 0 0 0 0))).turn).b) (((es.getD k (jC.mk 0 0 (jB.mk 0 0 0 0))).turn).c) (((es.getD k (jC.mk 0 0 (jB.mk 0 0 0 0))).turn).d)):Nat):Int) != 0)))] [] (zM<|zE fO<|zZ) ?_
     refine jG rfl (fun h10=>?_) (fun h10=>?_)
     ·replace h10:=bne_iff_ne.1 h10
      refine jA<|kx [(4,(jT (gU (((es.getD k (jC.mk 0 0 (jB.mk 0 0 0 0))).turn).a) (((es.getD k (jC.mk 0 0 (jB.mk 0 0 0 0))).turn).b) (((es.getD k (jC.mk 0 0 (jB.mk 0 0 0 0))).turn).c) (((es.getD k (jC.mk 0 0 (jB.mk 0 0 0 0))).turn).d))))] [] (zM<|zM<|zZ) ?_
      refine jI ⟨_,(.tmp (d:=(.val (.int .i64 ((((gU (((es.getD k (jC.mk 0 0 (jB.mk 0 0 0 0))).turn).a) (((es.getD k (jC.mk 0 0 (jB.mk 0 0 0 0))).turn).b) (((es.getD k (jC.mk 0 0 (jB.mk 0 0 0 0))).turn).c) (((es.getD k (jC.mk 0 0 (jB.mk 0 0 0 0))).turn).d)):Nat):Int))))) rfl .nil),?_⟩
      rw[lop_bad (k:=k) h3 (by omega) hv (edgC_q h8 h9) (eJ h10)];rfl
     ·replace h10:=bne_eq_false_iff_eq.1 h10
      refine jE<|kx [(21,(jT (k+1)))] [] (zE (qS (k+1))<|zM<|zZ) ?_
      exact ⟨(k+1),wk,⟨by omega,okUp_s hv ((edgC_q h8 h9).trans (by omega))⟩,(by omega)⟩
  ·replace h4:=uY h4
   refine jW<|jA<|kx [(4,(jT 0))] [] (zM<|zZ) ?_
   refine jI ⟨_,(.tmp (d:=(.val (.int .i64 (0)))) rfl .nil),?_⟩
   rw[lop_end (k:=k) h3 (by omega) hv];rfl
theorem l_step(es:List jC)(k:Int)(hb:es.length≤1000000)(htk:Tok es)(hk:inE es k):kB Tryz.prog 36 [(.sl 36 6 (List.map jP es)),(.val (.int .i64 (k)))] (.tup [(.val (.int .i64 ((stF es k)))),(.val (.int .i64 ((stT es k)))),(jF (stQ es k)),(.val (.int .i64 (0)))]):=by
 have hk0:=hk
 unfold inE at hk
 refine jK Tryz.func36 rfl cb36 rfl ?_
 show qU _ _ _ _ ⟨[(0,(vl 36 6 jP es)),(1,(vi k))],[]⟩
 refine jA<|kx [(6,(.ref 0 0))] [(0,some (bx (jF (jB.mk 0 0 0 0))))] (zM<|zM<|zN (uQ 0 vK vL)<|zM<|zZ) ?_
 refine jA<|jA<|kx [(13,(vb (decide (0≤k))))] [] (zM<|zE oGe<|zZ) ?_
 refine jG (b:=decide (0≤k)) rfl (fun h1=>?_) (fun h1=>?_)
 ·replace h1:=uW h1
  refine jA<|kx [(8,(.ref 1 0))] [(1,some (bx (jP (es.getD ((k).toNat) (jC.mk 0 0 (jB.mk 0 0 0 0))))))] (zM<|zM<|zE (gV mI ((k).toNat) (jC.mk 0 0 (jB.mk 0 0 0 0)))<|zE (oCa cX)<|zN (uQ 1 ze36 zo36)<|zT (qA cX)<|zZ) ?_
  refine jA<|kd [(4,(vi ((es.getD ((k).toNat) (jC.mk 0 0 (jB.mk 0 0 0 0))).fr))),(5,(vi ((es.getD ((k).toNat) (jC.mk 0 0 (jB.mk 0 0 0 0))).to_))),(7,(jT 0))] [(0,some (bx (jF ((es.getD ((k).toNat) (jC.mk 0 0 (jB.mk 0 0 0 0))).turn))))] mo (wE (kV yH)<|wR (kP qF)<|wE (kV yQ)<|wR (kP qF)<|wE (kV fo36_2)<|wR (kY kL)<|wM<|wM<|wT (qA kL)<|wM<|wZ) ?_
  refine jI ⟨_,(.tmp (d:=(.val (.int .i64 ((es.getD ((k).toNat) (jC.mk 0 0 (jB.mk 0 0 0 0))).fr)))) rfl (.tmp (d:=(.val (.int .i64 ((es.getD ((k).toNat) (jC.mk 0 0 (jB.mk 0 0 0 0))).to_)))) rfl (kQ (cs:=(bx (jF ((es.getD ((k).toNat) (jC.mk 0 0 (jB.mk 0 0 0 0))).turn)))) (d:=(jF ((es.getD ((k).toNat) (jC.mk 0 0 (jB.mk 0 0 0 0))).turn))) rfl rfl kL rfl rfl (.tmp (d:=(.val (.int .i64 (0)))) rfl .nil)))),?_⟩
  obtain ⟨q1,q2,q3⟩:=st_p (es:=es) h1
  rw[q1,q2,q3];rfl
 ·replace h1:=uY h1
  have hq:=htk.at (k:=(-1-k).toNat) (by omega)
  refine jE<|jA<|kx [(9,(.ref 2 0))] [(2,some (bx (jP (es.getD ((-1-k).toNat) (jC.mk 0 0 (jB.mk 0 0 0 0))))))] (zM<|zM<|zE (oSb ((-1-k).toNat) (hr:=by exact (qJ (by first | omega | rfl | (dsimp only;omega)) (by simp only[xL];omega) (by simp only[xM];omega))))<|zE (gV mI ((-1-k).toNat) (jC.mk 0 0 (jB.mk 0 0 0 0)))<|zE (oCa cX)<|zN (uQ 2 ze36 zo36)<|zT (qA cX)<|zZ) ?_
  refine jA<|kx [(10,(.ref 3 0)),(11,(jT (qC (uL ((es.getD ((-1-k).toNat) (jC.mk 0 0 (jB.mk 0 0 0 0))).turn)))))] [(3,some (bx (jF (qV (uL ((es.getD ((-1-k).toNat) (jC.mk 0 0 (jB.mk 0 0 0 0))).turn))))))] (zE (kV fo36_2)<|zR (kY kL)<|zE (kE (l_conj ((es.getD ((-1-k).toNat) (jC.mk 0 0 (jB.mk 0 0 0 0))).turn) hq))<|zM<|zE qQ<|zE qQ<|zN (uQ 3 vK vL)<|zT (qA kL)<|zM<|zZ) ?_
  refine jA<|kd [(4,(vi ((es.getD ((-1-k).toNat) (jC.mk 0 0 (jB.mk 0 0 0 0))).to_))),(5,(vi ((es.getD ((-1-k).toNat) (jC.mk 0 0 (jB.mk 0 0 0 0))).fr))),(7,(jT (qC (uL ((es.getD ((-1-k).toNat) (jC.mk 0 0 (jB.mk 0 0 0 0))).turn)))))] [(0,some (bx (jF (qV (uL ((es.getD ((-1-k).toNat) (jC.mk 0 0 (jB.mk 0 0 0 0))).turn))))))] mo (wE (kV yQ)<|wR (kP qF)<|wE (kV yH)<|wR (kP qF)<|wR (kY kL)<|wM<|wM<|wM<|wT (qA kL)<|wM<|wZ) ?_
  refine jI ⟨_,(.tmp (d:=(.val (.int .i64 ((es.getD ((-1-k).toNat) (jC.mk 0 0 (jB.mk 0 0 0 0))).to_)))) rfl (.tmp (d:=(.val (.int .i64 ((es.getD ((-1-k).toNat) (jC.mk 0 0 (jB.mk 0 0 0 0))).fr)))) rfl (kQ (cs:=(bx (jF (qV (uL ((es.getD ((-1-k).toNat) (jC.mk 0 0 (jB.mk 0 0 0 0))).turn)))))) (d:=(jF (qV (uL ((es.getD ((-1-k).toNat) (jC.mk 0 0 (jB.mk 0 0 0 0))).turn))))) rfl rfl kL rfl rfl (.tmp (d:=(.val (.int .i64 ((((qC (uL ((es.getD ((-1-k).toNat) (jC.mk 0 0 (jB.mk 0 0 0 0))).turn))):Nat):Int))))) rfl .nil)))),?_⟩
  obtain ⟨q1,q2,q3⟩:=st_n (es:=es) h1
  rw[q1,q2,q3,show qC (uL (es.getD (-1-k).toNat (jC.mk 0 0 (jB.mk 0 0 0 0))).turn)=0 from qC_cj hq];rfl
theorem cb21:callB Tryz.prog 21=true:=by kernel_rfl
theorem cb29:callB Tryz.prog 29=true:=by kernel_rfl
theorem cb31:callB Tryz.prog 31=true:=by kernel_rfl
theorem l_one :kB Tryz.prog 31 [] (jF q1):=by
 refine jK Tryz.func31 rfl cb31 rfl ?_
 show qU _ _ _ _ ⟨[],[]⟩
 refine jA<|kx [(0,(.ref 0 0))] [(0,some (bx (jF (jB.mk 0 0 0 0))))] (zN (uQ 0 vK vL)<|zZ) ?_
 refine jA<|kx [] [(0,some (bx (jF (jB.mk 1 0 0 0))))] (zE (eQ cB vK vL)<|zT (qA kL)<|zZ) ?_
 refine jI ⟨_,(kQ (cs:=(bx (jF (jB.mk 1 0 0 0)))) (d:=(jF (jB.mk 1 0 0 0))) rfl rfl kL rfl rfl .nil),?_⟩
 rfl
theorem l_aro(es:List jC)(tau:Nat)(ws:List Int)(hb:es.length≤1000000)(hbw:ws.length≤1000000)(htk:Tok es)(hw:wIn es ws):kB Tryz.prog 29 [(.sl 36 6 (List.map jP es)),(.sl tau 1 (List.map jO ws))] (.tup [(jF (mZ es ws)),(.val (.int .i64 ((((mK es ws):Nat):Int))))]):=by
 refine jK Tryz.func29 rfl cb29 rfl ?_
 show qU _ _ _ _ ⟨[(0,(vl 36 6 jP es)),(1,(vl tau 1 jO ws))],[]⟩
 refine jA<|kx [(4,(.ref 0 0))] [(0,some (bx (jF (jB.mk 0 0 0 0))))] (zN (uQ 0 vK vL)<|zM<|zZ) ?_
 refine jA<|kx [(6,(.ref 1 0))] [(1,some (bx (jF q1)))] (zE (kE l_one)<|zN (uQ 1 vK vL)<|zT (qA kL)<|zZ) ?_
 refine jA<|jA<|kx [(14,(vl tau 1 jO ws)),(15,(jT ws.length)),(16,(jT 0))] [] (zM<|zE (xD vF)<|zM<|zZ) ?_
 refine jH<|kI (α:=Nat) (fun k=>⟨[(0,(vl 36 6 jP es)),(4,(.ref 0 0)),(6,(.ref 1 0)),(14,(vl tau 1 jO ws)),(15,(jT ws.length)),(16,(jT k))],[(0,some (bx (jF (jB.mk 0 0 0 0)))),(1,some (bx (jF (arV es ws k))))]⟩) (fun k=>k≤ws.length∧arUp es ws k) (fun k=>ws.length-k) 0 wk ⟨Nat.zero_le _,arUp_0 _ _⟩ ?_
 rintro k ⟨hk,hv⟩
 refine jA<|kx [(17,(vb (decide (((k:Nat):Int)<((ws.length:Nat):Int)))))] [] (zE uM<|zZ) ?_
 refine jA<|jG rfl (fun h1=>?_) (fun h1=>?_)
 ·replace h1:=uW h1
  refine jE<|jA<|jH<|jA<|kx [(8,(vi (ws.getD k 0)))] [] (zE (gV vF k (0:Int))<|zE (nG qF)<|zM<|zZ) ?_
  refine jA<|kx [(11,(.ref 2 0)),(12,(vi 0))] [(2,some (bx (jF (stQ es (ws.getD k 0)))))] (zM<|zM<|zE (kE (l_step es (ws.getD k 0) hb htk (wIn_at hw (by omega))))<|zM<|zE qQ<|zE qQ<|zE qQ<|zE qQ<|zN (uQ 2 vK vL)<|zM<|zM<|zT (qA kL)<|zM<|zZ) ?_
  refine jA<|jA<|kx [(29,(vb true))] [] (zM<|zE (xR true gX)<|zZ) ?_
  refine qI ?_
  refine kx [(12,(jT (qC (jZ (stQ es (ws.getD k 0)) (arV es ws k)))))] [(1,some (bx (jF (qV (jZ (stQ es (ws.getD k 0)) (arV es ws k))))))] (zR (kY kL)<|zR (kY kL)<|zE (kE (l_mul (stQ es (ws.getD k 0)) (arV es ws k) (stQ_ok htk (wIn_at hw (by omega))) (arV_ok htk hw (by omega) hv)))<|zM<|zE qQ<|zE qQ<|zT (qA kL)<|zM<|zZ) ?_
  refine jA<|kx [(37,(vb ((((qC (jZ (stQ es (ws.getD k 0)) (arV es ws k))):Nat):Int) != ((0:Nat):Int))))] [] (zM<|zE fO<|zZ) ?_
  refine jG rfl (fun h2=>?_) (fun h2=>?_)
  ·replace h2:=bne_iff_ne.1 h2
   refine jA<|kx [(5,(jT (qC (jZ (stQ es (ws.getD k 0)) (arV es ws k)))))] [(0,some (bx (jF (jB.mk 0 0 0 0))))] (zE (eQ cB vK vL)<|zM<|zT (qA kL)<|zM<|zZ) ?_
   refine jI ⟨_,(kQ (cs:=(bx (jF (jB.mk 0 0 0 0)))) (d:=(jF (jB.mk 0 0 0 0))) rfl rfl kL rfl rfl (.tmp (d:=(.val (.int .i64 ((((qC (jZ (stQ es (ws.getD k 0)) (arV es ws k))):Nat):Int))))) rfl .nil)),?_⟩
   obtain ⟨q1,q2,q3⟩:=aro_no (k:=k) (by omega) (eJ h2)
   rw[q1,q2,show qC (jZ (stQ es (ws.getD k 0)) (arV es ws k))=3 from q3];rfl
  ·replace h2:=bne_eq_false_iff_eq.1 h2
   refine jE<|kx [(16,(jT (k+1)))] [] (zE (qS (k+1))<|zM<|zZ) ?_
   exact ⟨(k+1),wk,⟨by omega,arUp_s hv (show qC _=0 by omega)⟩,(by omega)⟩
 ·replace h1:=uY h1
  refine jW<|jA<|kx [(5,(jT 0))] [(0,some (bx (jF (arV es ws k))))] (zR (kY kL)<|zT (qA kL)<|zM<|zZ) ?_
  refine jI ⟨_,(kQ (cs:=(bx (jF (arV es ws k)))) (d:=(jF (arV es ws k))) rfl rfl kL rfl rfl (.tmp (d:=(.val (.int .i64 (((0:Nat):Int))))) rfl .nil)),?_⟩
  obtain ⟨q1,q2⟩:=aro_yes (by omega) hv
  rw[q1,q2];rfl
theorem l8_under(p:jB)(q:jB)(hp:dU p)(hq:dU q):kB Tryz.prog 21 [(jF p),(jF q)] (.tup [(jF (qV (jZ (qV (uL p)) q))),(.val (.int .i64 ((((qC (jZ (qV (uL p)) q)):Nat):Int))))]):=by
 refine jK Tryz.func21 rfl cb21 rfl ?_
 show qU _ _ _ _ ⟨[(0,(.d (jF p))),(1,(.d (jF q)))],[]⟩
 refine jA<|kx [(2,(.ref 0 0)),(3,(.ref 1 0)),(4,(.ref 2 0))] [(0,some (bx (jF p))),(1,some (bx (jF q))),(2,some (bx (jF (jB.mk 0 0 0 0))))] (zN (yC 0)<|zN (yC 1)<|zN (uQ 2 vK vL)<|zM<|zZ) ?_
 refine jA<|kx [(6,(.ref 3 0)),(7,(jT (qC (uL p))))] [(3,some (bx (jF (qV (uL p)))))] (zR (kY kL)<|zE (kE (l8_conj p hp))<|zM<|zE qQ<|zE qQ<|zN (uQ 3 vK vL)<|zT (qA kL)<|zM<|zZ) ?_
 refine jA<|jA<|kx [(14,(vb false))] [] (zM<|zE (xR false fO (by exact bne_eq_false_iff_eq.2 (by rw[show (qC (uL p))=0 from (qC_cj hp)]<;>rfl)))<|zZ) ?_
 refine qZ ?_
 refine jE<|jA<|kx [(5,(jT (qC (jZ (qV (uL p)) q))))] [(2,some (bx (jF (qV (jZ (qV (uL p)) q)))))] (zR (kY kL)<|zR (kY kL)<|zE (kE (l8_mul (qV (uL p)) q (qV_ok (zD hp.1) (qC_cj hp)) hq))<|zE qQ<|zE qQ<|zT (qA kL)<|zM<|zZ) ?_
 refine jI ⟨_,(kQ (cs:=(bx (jF (qV (jZ (qV (uL p)) q))))) (d:=(jF (qV (jZ (qV (uL p)) q)))) rfl rfl kL rfl rfl (.tmp (d:=(.val (.int .i64 ((((qC (jZ (qV (uL p)) q)):Nat):Int))))) rfl .nil)),?_⟩
 rfl
end Go.Proofs.YteimogfidbkpnabGreat
