/- Part 28 of a proof: rules, plain facts, and functions walked. -/
import Derived.Test.YtnajallgoaiahaaGreatDoorM27
import Derived.Test.YtnajallgoaiahaaGreatDoorM10
import Derived.Test.YtnajallgoaiahaaGreatDoorM18
import Derived.Test.YtnajallgoaiahaaGreatDoorM22
import Derived.Test.YtnajallgoaiahaaGreatDoorM19
set_option linter.all false
set_option maxRecDepth 4000
namespace Go.Proofs.YtnajallgoaiahaaGreatDoor
open Go.Fid
theorem cb230:callB Tryz.prog 230=true:=by kernel_rfl
theorem cb232:callB Tryz.prog 232=true:=by kernel_rfl
theorem d_floor(x:Rat)(hx:QL x 200):jP Tryz.prog 232 [(jK (jQ x))] (jO (kH (mY x))):=by
 refine jI Tryz.func232 rfl cb232 rfl ?_
 show qJ _ _ _ _ ⟨[(0,(.d (jK (jQ x))))],[]⟩
 refine jB<|kx [(1,(.ref 0 0)),(2,(.ref 1 0))] [(0,some (bx (jK (jQ x)))),(1,some (bx (jO (kU.mk false []))))] (zN (vW 0)<|zN (uF 1 yN yL)<|zZ) ?_
 refine jB<|kx [] [(0,some (bx (jK (jQ x))))] (zR (kM jT)<|zE (jX (dG (jQ x) x (jV (kG hx) (by decide))))<|zT (qK jT)<|zZ) ?_
 refine jB ?_
 have bn1:gC (kH (x.num.fdiv (x.den:Int))) (x.num.fdiv (x.den:Int)) 201:=(iok_fdiv (k:=201) (uK hx) (uC hx) (by decide))
 refine kx [(3,(.ref 2 0))] [(2,some (bx (jO (kH (x.num.fdiv (x.den:Int)))))),(3,none)] (zE (qE zG)<|zR (kM jY)<|zE (qE xE)<|zR (kM jY)<|zE (jX (s_divide (uK hx) (uC hx) (by decide) (by decide) (by have:=x.den_nz;omega)))<|zM<|zE xD<|zE xD<|zE xD<|zN (uF 2 yN yL)<|zN (uF 3 yN yL)<|zT (qK jY)<|zT (qK jY)<|zM<|zZ) ?_
 refine jB<|kx [] [(1,some (bx (jO (kH (x.num.fdiv (x.den:Int))))))] (zR (kM jY)<|zT (qK jY)<|zZ) ?_
 refine jE ⟨_,(kN (cs:=(bx (jO (kH (x.num.fdiv (x.den:Int)))))) (d:=(jO (kH (x.num.fdiv (x.den:Int))))) rfl rfl jY rfl rfl .nil),?_⟩
 rfl
theorem d_scaled(x:Rat)(hx:QL x 100)(k:Nat)(hk:k≤512):jP Tryz.prog 230 [(jK (jQ x)),(.val (.int .i64 (((k:Nat):Int))))] (.tup [(jK (jQ (x*(xV k)))),(jO (kH ((2 ^ k:Nat):Int))),(.val (.int .i64 (0)))]):=by
 refine jI Tryz.func230 rfl cb230 rfl ?_
 show qJ _ _ _ _ ⟨[(0,(.d (jK (jQ x)))),(1,(jR k))],[]⟩
 refine jB<|kx [(2,(.ref 0 0)),(4,(.ref 1 0)),(5,(.ref 2 0))] [(0,some (bx (jK (jQ x)))),(1,some (bx (jK qH))),(2,some (bx (jO (kU.mk false []))))] (zN (vW 0)<|zN (uF 1 uG uQ)<|zN (uF 2 yN yL)<|zM<|zZ) ?_
 refine jB<|jB<|kx [(14,(vb false))] [] (zM<|zE (vZ false xG (by exact decide_eq_false (show ¬ ((k:Nat):Int)<0 by omega)))<|zM<|zM<|zE (vZ false mA (by exact decide_eq_false (show ¬ 512<((k:Nat):Int) by omega)))<|zE xN<|zZ) ?_
 refine kS ?_
 refine jD<|jB<|kx [(7,(.ref 3 0))] [(3,some (bx (jO (kH ((2 ^ k:Nat):Int)))))] (zE (jX (t_of 2 (by decide) (by decide)))<|zM<|zE (jX (d_pow k (by omega)))<|zM<|zE xD<|zE xD<|zN (uF 3 yN yL)<|zT (qK jY)<|zM<|zZ) ?_
 refine jB ?_
 have bn1:QL (x*(xV k)) 120:=(qP (k:=120) hx (eJ (k:=k) (by omega)) (by decide))
 refine kd [(6,(jR 0))] [(1,some (bx (jK (jQ (x*(xV k)))))),(2,some (bx (jO (kH ((2 ^ k:Nat):Int)))))] mo (wR (kM jT)<|wR (kM jY)<|wE (jX (t_of 1 (by decide) (by decide)))<|wE (oQd (jK (jN.mk (kH ((2 ^ k:Nat):Int)) (kH 1))) (jK (jQ (xV k))) (bY pl45 uG uQ) (by exact rfl))<|wE (jX (eN (jQ x) (jQ (xV k)) x (xV k) (jV (kG hx) (by decide)) (jV (kG (eJ (k:=k) (by omega))) (by decide))))<|wR (kM jY)<|wT (qK jT)<|wT (qK jY)<|wM<|wZ) ?_
 refine jE ⟨_,(kN (cs:=(bx (jK (jQ (x*(xV k)))))) (d:=(jK (jQ (x*(xV k))))) rfl rfl jT rfl rfl (kN (cs:=(bx (jO (kH ((2 ^ k:Nat):Int))))) (d:=(jO (kH ((2 ^ k:Nat):Int)))) rfl rfl jY rfl rfl (.tmp (d:=(.val (.int .i64 (((0:Nat):Int))))) rfl .nil))),?_⟩
 rfl
end Go.Proofs.YtnajallgoaiahaaGreatDoor
namespace Go.Fid
def stnP(x y z u v f:Int):Prop:=(-1048576≤x∧x≤1048576)∧(-1048576≤y∧y≤1048576)∧(-1048576≤z∧z≤1048576)∧(-1048576≤u∧u≤1048576)∧(-1048576≤v∧v≤1048576)∧(1≤f∧f≤1048576)
instance {x y z u v f:Int}:Decidable (stnP x y z u v f):=by unfold stnP;infer_instance
def nq(a b c d:Int):Int:=(((a*a)+(b*b))+(c*c))+(d*d)
def N4(a b c d:Int):Rat:=((nq a b c d:Int):Rat)
def r02(a b c d:Int):Int:=2*((b*d)+(a*c))
def R02(a b c d:Int):Rat:=((r02 a b c d:Int):Rat)
def r12(a b c d:Int):Int:=2*((c*d)-(a*b))
def R12(a b c d:Int):Rat:=((r12 a b c d:Int):Rat)
def r22(a b c d:Int):Int:=(((a*a)-(b*b))-(c*c))+(d*d)
def R22(a b c d:Int):Rat:=((r22 a b c d:Int):Rat)
theorem sq_nn(a:Int):0≤a*a:=by
 rcases Int.le_total 0 a with h | h
 ·exact Int.mul_nonneg h h
 ·exact Int.mul_nonneg_of_nonpos_of_nonpos h h
theorem ql_eqz{x y:Rat}{n:Nat}(h:x=y)(hy:QL y n):QL x n:=h▸hy
def gcd3(a b c:Rat):Int:=((Int.gcd a.num ((Int.gcd b.num c.num:Nat):Int):Nat):Int)
def redK(a b c:Rat):Rat:=Rat.divInt 1 (gcd3 a b c)
def dq0(a b c d p q r s:Int):Rat:=(R02 a b c d*N4 p q r s)+(R02 p q r s*N4 a b c d)
def dq1(a b c d p q r s:Int):Rat:=(R12 a b c d*N4 p q r s)+(R12 p q r s*N4 a b c d)
def dq2(a b c d p q r s:Int):Rat:=(R22 a b c d*N4 p q r s)+(R22 p q r s*N4 a b c d)
def RFr(lx ly lz la lb lc ld rx ry rz ra rb rc rd:Int)(b0 b1 b2 e00 e01 e02 e10 e11 e12 e20 e21 e22:Rat):Prop :=
 (((rx-lx):Int):Rat)=b0 ∧
 (((ry-ly):Int):Rat)=b1 ∧
 (((rz-lz):Int):Rat)=b2 ∧
 b0*redK b0 b1 b2=e00 ∧
 b1*redK b0 b1 b2=e01 ∧
 b2*redK b0 b1 b2=e02 ∧
 (((dq1 la lb lc ld ra rb rc rd)*e02)-((dq2 la lb lc ld ra rb rc rd)*e01))*redK (((dq1 la lb lc ld ra rb rc rd)*e02)-((dq2 la lb lc ld ra rb rc rd)*e01)) (((dq2 la lb lc ld ra rb rc rd)*e00)-((dq0 la lb lc ld ra rb rc rd)*e02)) (((dq0 la lb lc ld ra rb rc rd)*e01)-((dq1 la lb lc ld ra rb rc rd)*e00))=e10 ∧
 (((dq2 la lb lc ld ra rb rc rd)*e00)-((dq0 la lb lc ld ra rb rc rd)*e02))*redK (((dq1 la lb lc ld ra rb rc rd)*e02)-((dq2 la lb lc ld ra rb rc rd)*e01)) (((dq2 la lb lc ld ra rb rc rd)*e00)-((dq0 la lb lc ld ra rb rc rd)*e02)) (((dq0 la lb lc ld ra rb rc rd)*e01)-((dq1 la lb lc ld ra rb rc rd)*e00))=e11 ∧
 (((dq0 la lb lc ld ra rb rc rd)*e01)-((dq1 la lb lc ld ra rb rc rd)*e00))*redK (((dq1 la lb lc ld ra rb rc rd)*e02)-((dq2 la lb lc ld ra rb rc rd)*e01)) (((dq2 la lb lc ld ra rb rc rd)*e00)-((dq0 la lb lc ld ra rb rc rd)*e02)) (((dq0 la lb lc ld ra rb rc rd)*e01)-((dq1 la lb lc ld ra rb rc rd)*e00))=e12 ∧
 ((e01*e12)-(e02*e11))*redK ((e01*e12)-(e02*e11)) ((e02*e10)-(e00*e12)) ((e00*e11)-(e01*e10))=e20 ∧
 ((e02*e10)-(e00*e12))*redK ((e01*e12)-(e02*e11)) ((e02*e10)-(e00*e12)) ((e00*e11)-(e01*e10))=e21 ∧
 ((e00*e11)-(e01*e10))*redK ((e01*e12)-(e02*e11)) ((e02*e10)-(e00*e12)) ((e00*e11)-(e01*e10))=e22
instance {lx ly lz la lb lc ld rx ry rz ra rb rc rd:Int} {b0 b1 b2 e00 e01 e02 e10 e11 e12 e20 e21 e22:Rat}:Decidable (RFr lx ly lz la lb lc ld rx ry rz ra rb rc rd b0 b1 b2 e00 e01 e02 e10 e11 e12 e20 e21 e22):=by unfold RFr;infer_instance
section
variable {lx ly lz la lb lc ld rx ry rz ra rb rc rd:Int} {b0 b1 b2 e00 e01 e02 e10 e11 e12 e20 e21 e22:Rat}
end
end Go.Fid
namespace Go.Proofs.YtnajallgoaiahaaGreatDoor
open Go.Fid
theorem cb151:callB Tryz.prog 151=true:=by kernel_rfl
theorem d_froot(x:Rat)(hx:QL x 100)(k:Nat)(hk:k≤512)(hx0:0≤x):jP Tryz.prog 151 [(jK (jQ x)),(.val (.int .i64 (((k:Nat):Int))))] (.tup [(jK (jQ (Rat.divInt (qU (mY (x*((xV k)*(xV k))))) ((2 ^ k:Nat):Int)))),(jK (jQ (Rat.divInt (upI (x*((xV k)*(xV k)))) ((2 ^ k:Nat):Int)))),(.val (.int .i64 (0)))]):=by
 have hp0:((2 ^ k:Nat):Int)≠0:=Int.ne_of_gt (two_pos k)
 let y5:=(kH (qU (mY (x*((xV k)*(xV k))))))
 let y4:=(jK (jQ (Rat.divInt (qU (mY (x*((xV k)*(xV k))))) ((2 ^ k:Nat):Int))))
 let y3:=(bx y4)
 let y2:=(jK (jQ (Rat.divInt ((qU (mY (x*((xV k)*(xV k)))))+1) ((2 ^ k:Nat):Int))))
 let y1:=(jQ (((qU (mY (x*((xV k)*(xV k)))))*(qU (mY (x*((xV k)*(xV k))))):Int):Rat))
 refine jI Tryz.func151 rfl cb151 rfl ?_
 show qJ _ _ _ _ ⟨[(0,(.d (jK (jQ x)))),(1,(jR k))],[]⟩
 refine jB<|kx [(2,(.ref 0 0)),(4,(.ref 1 0)),(5,(.ref 2 0))] [(0,some (bx (jK (jQ x)))),(1,some (bx (jK qH))),(2,some (bx (jK qH)))] (zN (vW 0)<|zN (uF 1 uG uQ)<|zN (uF 2 uG uQ)<|zM<|zZ) ?_
 refine jB ?_
 have bn1:QL (x*(xV k)) 120:=(qP (k:=120) hx (eJ (k:=k) (by omega)) (by decide))
 refine kx [(6,(vi 0)),(7,(.ref 3 0)),(8,(.ref 4 0))] [(3,some (bx (jK (jQ (x*(xV k)))))),(4,some (bx (jO (kH ((2 ^ k:Nat):Int)))))] (zR (kM jT)<|zM<|zE (jX (d_scaled x hx k (by omega)))<|zM<|zE xD<|zE xD<|zE xD<|zN (uF 3 uG uQ)<|zN (uF 4 yN yL)<|zT (qK jT)<|zT (qK jY)<|zM<|zZ) ?_
 refine jB<|jB<|kx [(25,(vb false))] [] (zM<|zE (vZ false mC)<|zM<|zR (kM jT)<|zE (jX (f_sign (jQ x) x (jV (kG hx) (by decide))))<|zE (vZ false xG (by exact decide_eq_false (sgn_nn hx0)))<|zE xN<|zZ) ?_
 refine kS ?_
 refine jD<|jB ?_
 have bn2:QL (x*((xV k)*(xV k))) 140:=(ql_eqz (Eq.symm (Rat.mul_assoc _ _ _)) (qP (k:=140) bn1 (eJ (k:=k) (by omega)) (by decide)))
 refine kd [] [(3,some (bx (jK (jQ (x*((xV k)*(xV k)))))))] mo (wR (kM jT)<|wR (kM jY)<|wE (jX (t_of 1 (by decide) (by decide)))<|wE (oQd (jK (jN.mk (kH ((2 ^ k:Nat):Int)) (kH 1))) (jK (jQ (xV k))) (bY pl45 uG uQ) (by exact rfl))<|wE (jX (by have h:=eN (jQ (x*(xV k))) (jQ (xV k)) (x*(xV k)) (xV k) (jV (kG bn1) (by decide)) (jV (kG (eJ (k:=k) (by omega))) (by decide));rw[(Rat.mul_assoc _ _ _)] at h;exact h))<|wT (qK jT)<|wZ) ?_
 refine jB ?_
 have bn3:gC (kH (qU (mY (x*((xV k)*(xV k)))))) (qU (mY (x*((xV k)*(xV k))))) 141:=(iok_root (fl_nn (aO hx0)) (fX (k:=141) bn2 (by decide)))
 refine kx [(9,(.ref 5 0))] [(5,some (bx (jO y5)))] (zR (kM jT)<|zE (jX (d_floor (x*((xV k)*(xV k))) (qu bn2)))<|zE (jX (d_root (mY (x*((xV k)*(xV k)))) (nH (fX (k:=141) bn2 (by decide)) (by decide)) (fl_nn (aO hx0))))<|zM<|zE xD<|zE xD<|zN (uF 5 yN yL)<|zT (qK jY)<|zM<|zZ) ?_
 refine jB<|kx [(11,(.ref 6 0))] [(6,some (bx (jO y5)))] (zR (kM jY)<|zN (uF 6 yN yL)<|zT (qK jY)<|zZ) ?_
 refine jB<|jB<|kd [(47,(vb (decide ((yW (((qU (mY (x*((xV k)*(xV k)))))*(qU (mY (x*((xV k)*(xV k))))):Int):Rat) (x*((xV k)*(xV k))))<((0:Nat):Int)))))] [] mo (wR (kM jY)<|wR (kM jY)<|wE (jX (s_mul bn3 bn3 (by decide) (by decide)))<|wE (jX (t_of 1 (by decide) (by decide)))<|wE (oQd (jK (jN.mk (kH ((qU (mY (x*((xV k)*(xV k)))))*(qU (mY (x*((xV k)*(xV k))))))) (kH 1))) (jK y1) (bY pl45 uG uQ) (by exact rfl))<|wR (kM jT)<|wE (jX (cQ y1 (jQ (x*((xV k)*(xV k)))) (((qU (mY (x*((xV k)*(xV k)))))*(qU (mY (x*((xV k)*(xV k))))):Int):Rat) (x*((xV k)*(xV k))) (jV (kG (gQ (z:=((qU (mY (x*((xV k)*(xV k)))))*(qU (mY (x*((xV k)*(xV k))))))) (n:=282) (gC.ln (yO (k:=282) bn3 bn3 (by decide))) (by decide))) (by decide)) (jV (kG bn2) (by decide))))<|wE xG<|wZ) ?_
 refine jF rfl (fun h1=>?_) (fun h1=>?_)
 ·replace h1:=uW h1
  have hup:=upI_t h1
  have bn4:gC (kH ((qU (mY (x*((xV k)*(xV k)))))+1)) ((qU (mY (x*((xV k)*(xV k)))))+1) 142:=(iok_add (k:=142) bn3 (bJ (z:=1) (by decide)) (by decide))
  refine kd [] [(6,some (bx (jO (kH ((qU (mY (x*((xV k)*(xV k)))))+1)))))] mo (wR (kM jY)<|wE (jX (t_of 1 (by decide) (by decide)))<|wE (jX (s_add bn3 (bJ (z:=1) (by decide)) (by decide) (by decide)))<|wT (qK jY)<|wZ) ?_
  refine jB ?_
  have bn5:QL (Rat.divInt (qU (mY (x*((xV k)*(xV k))))) ((2 ^ k:Nat):Int)) 141:=(yH (n:=141) (Nat.le_trans (gC.ln bn3) (by decide)) (Nat.le_trans (gC.ln (cW (k:=k) (by omega))) (by decide)) (by decide))
  have bn6:QL (Rat.divInt ((qU (mY (x*((xV k)*(xV k)))))+1) ((2 ^ k:Nat):Int)) 142:=(yH (n:=142) (Nat.le_trans (gC.ln bn4) (by decide)) (Nat.le_trans (gC.ln (cW (k:=k) (by omega))) (by decide)) (by decide))
  refine kd [(6,(jR 0))] [(1,some y3),(2,some (bx y2))] mo (wR (kM jY)<|wR (kM jY)<|wE (jX (cM y5 (kH ((2 ^ k:Nat):Int)) (qU (mY (x*((xV k)*(xV k))))) ((2 ^ k:Nat):Int) (iu bn3) (nH (cW (k:=k) (by omega)) (by decide)) (by assumption)))<|wR (kM jY)<|wR (kM jY)<|wE (jX (cM (kH ((qU (mY (x*((xV k)*(xV k)))))+1)) (kH ((2 ^ k:Nat):Int)) ((qU (mY (x*((xV k)*(xV k)))))+1) ((2 ^ k:Nat):Int) (iu bn4) (nH (cW (k:=k) (by omega)) (by decide)) (by assumption)))<|wT (qK jT)<|wT (qK jT)<|wM<|wZ) ?_
  refine jE ⟨_,(kN (cs:=y3) (d:=y4) rfl rfl jT rfl rfl (kN (cs:=(bx y2)) (d:=y2) rfl rfl jT rfl rfl (.tmp (d:=(.val (.int .i64 (((0:Nat):Int))))) rfl .nil))),?_⟩
  rw[hup];rfl
 ·replace h1:=uX h1
  have hup:=upI_f h1
  refine jD<|jB ?_
  have bn7:QL (Rat.divInt (qU (mY (x*((xV k)*(xV k))))) ((2 ^ k:Nat):Int)) 141:=(yH (n:=141) (Nat.le_trans (gC.ln bn3) (by decide)) (Nat.le_trans (gC.ln (cW (k:=k) (by omega))) (by decide)) (by decide))
  refine kd [(6,(jR 0))] [(1,some y3),(2,some y3)] mo (wR (kM jY)<|wR (kM jY)<|wE (jX (cM y5 (kH ((2 ^ k:Nat):Int)) (qU (mY (x*((xV k)*(xV k))))) ((2 ^ k:Nat):Int) (iu bn3) (nH (cW (k:=k) (by omega)) (by decide)) (by assumption)))<|wR (kM jY)<|wR (kM jY)<|wE (jX (cM y5 (kH ((2 ^ k:Nat):Int)) (qU (mY (x*((xV k)*(xV k))))) ((2 ^ k:Nat):Int) (iu bn3) (nH (cW (k:=k) (by omega)) (by decide)) (by assumption)))<|wT (qK jT)<|wT (qK jT)<|wM<|wZ) ?_
  refine jE ⟨_,(kN (cs:=y3) (d:=y4) rfl rfl jT rfl rfl (kN (cs:=y3) (d:=y4) rfl rfl jT rfl rfl (.tmp (d:=(.val (.int .i64 (((0:Nat):Int))))) rfl .nil))),?_⟩
  rw[hup];rfl
theorem cb91:callB Tryz.prog 91=true:=by kernel_rfl
theorem di_root(p:Rat)(q:Rat)(hp:QL p 100)(hq:QL q 100)(hpq:p≤q)(k:Nat)(hk:k≤512)(hp0_:0≤p):jP Tryz.prog 91 [(jJ (jZ.mk (jQ p) (jQ q))),(.val (.int .i64 (((k:Nat):Int))))] (.tup [(jJ (jZ.mk (jQ (Rat.divInt (qU (mY (p*((xV k)*(xV k))))) ((2 ^ k:Nat):Int))) (jQ (Rat.divInt (upI (q*((xV k)*(xV k)))) ((2 ^ k:Nat):Int))))),(.val (.int .i64 (0)))]):=by
 let y2:=(jJ (jZ.mk (jQ (Rat.divInt (qU (mY (p*((xV k)*(xV k))))) ((2 ^ k:Nat):Int))) (jQ (Rat.divInt (upI (q*((xV k)*(xV k)))) ((2 ^ k:Nat):Int)))))
 let y1:=(bx y2)
 refine jI Tryz.func91 rfl cb91 rfl ?_
 show qJ _ _ _ _ ⟨[(0,(.d (jJ (jZ.mk (jQ p) (jQ q))))),(1,(jR k))],[]⟩
 refine jB<|kx [(2,(.ref 0 0)),(4,(.ref 1 0))] [(0,some (bx (jJ (jZ.mk (jQ p) (jQ q))))),(1,some (bx (jJ (jZ.mk qH qH))))] (zN (vW 0)<|zN (uF 1 uH uR)<|zM<|zZ) ?_
 refine jB<|jB<|kx [(14,(vb false))] [] (zR (kM kI)<|zE (jX (by have h:=bS (jZ.mk (jQ p) (jQ q)) (gZ (⟨qQ (jV (kG hp) (by decide:100≤100)),qQ (jV (kG hq) (by decide:100≤100))⟩) (by decide));rw[show uO (jZ.mk (jQ p) (jQ q))=true from zL hpq] at h;exact h))<|zE nY<|zZ) ?_
 refine kS ?_
 refine jD<|jB<|jB<|kx [(27,(vb false))] [] (zM<|zE (vZ false xG (by exact decide_eq_false (show ¬ ((k:Nat):Int)<0 by omega)))<|zM<|zM<|zE (vZ false mA (by exact decide_eq_false (show ¬ 512<((k:Nat):Int) by omega)))<|zE xN<|zM<|zE (qE zB)<|zR (kM jT)<|zE (jX (f_sign (jQ p) p (jV (kG hp) (by decide))))<|zE (vZ false xG (by exact decide_eq_false (sgn_nn hp0_)))<|zE xN<|zZ) ?_
 refine kS ?_
 refine jD<|jB ?_
 have bn1:QL (Rat.divInt (qU (mY (p*((xV k)*(xV k))))) ((2 ^ k:Nat):Int)) 141:=(yH (n:=141) (Nat.le_trans (gC.ln (iok_root (fl_nn (aO hp0_)) (fX (k:=141) (qP (k:=140) hp (qP (k:=40) (eJ (k:=k) (by omega)) (eJ (k:=k) (by omega)) (by decide)) (by decide)) (by decide)))) (by decide)) (Nat.le_trans (gC.ln (cW (k:=k) (by omega))) (by decide)) (by decide))
 have bn2:QL (Rat.divInt (upI (p*((xV k)*(xV k)))) ((2 ^ k:Nat):Int)) 142:=(yH (n:=142) (Nat.le_trans (gC.ln (iok_upI (k:=142) (fl_nn (aO hp0_)) (fX (k:=141) (qP (k:=140) hp (qP (k:=40) (eJ (k:=k) (by omega)) (eJ (k:=k) (by omega)) (by decide)) (by decide)) (by decide)) (by decide) (by decide))) (by decide)) (Nat.le_trans (gC.ln (cW (k:=k) (by omega))) (by decide)) (by decide))
 refine kx [(6,(.ref 2 0))] [(2,some (bx (jK (jQ (Rat.divInt (qU (mY (p*((xV k)*(xV k))))) ((2 ^ k:Nat):Int)))))),(3,none)] (zE (qE zB)<|zR (kM jT)<|zM<|zE (jX (d_froot p hp k (by omega) hp0_))<|zM<|zE xD<|zE xD<|zE xD<|zN (uF 2 uG uQ)<|zN (uF 3 uG uQ)<|zT (qK jT)<|zT (qK jT)<|zM<|zZ) ?_
 refine jB ?_
 have bn3:QL (Rat.divInt (qU (mY (q*((xV k)*(xV k))))) ((2 ^ k:Nat):Int)) 141:=(yH (n:=141) (Nat.le_trans (gC.ln (iok_root (fl_nn (aO (Rat.le_trans hp0_ hpq))) (fX (k:=141) (qP (k:=140) hq (qP (k:=40) (eJ (k:=k) (by omega)) (eJ (k:=k) (by omega)) (by decide)) (by decide)) (by decide)))) (by decide)) (Nat.le_trans (gC.ln (cW (k:=k) (by omega))) (by decide)) (by decide))
 have bn4:QL (Rat.divInt (upI (q*((xV k)*(xV k)))) ((2 ^ k:Nat):Int)) 142:=(yH (n:=142) (Nat.le_trans (gC.ln (iok_upI (k:=142) (fl_nn (aO (Rat.le_trans hp0_ hpq))) (fX (k:=141) (qP (k:=140) hq (qP (k:=40) (eJ (k:=k) (by omega)) (eJ (k:=k) (by omega)) (by decide)) (by decide)) (by decide)) (by decide) (by decide))) (by decide)) (Nat.le_trans (gC.ln (cW (k:=k) (by omega))) (by decide)) (by decide))
 refine kx [(10,(.ref 5 0))] [(5,some (bx (jK (jQ (Rat.divInt (upI (q*((xV k)*(xV k)))) ((2 ^ k:Nat):Int)))))),(4,none)] (zE (qE yC)<|zR (kM jT)<|zM<|zE (jX (d_froot q hq k (by omega) (Rat.le_trans hp0_ hpq)))<|zM<|zE xD<|zE xD<|zE xD<|zN (uF 4 uG uQ)<|zN (uF 5 uG uQ)<|zT (qK jT)<|zT (qK jT)<|zM<|zZ) ?_
 refine jB<|kx [(5,(jR 0))] [(1,some y1)] (zR (kM jT)<|zR (kM jT)<|zE (bY pl61 uH uR)<|zT (qK kI)<|zM<|zZ) ?_
 refine jE ⟨_,(kN (cs:=y1) (d:=y2) rfl rfl kI rfl rfl (.tmp (d:=(.val (.int .i64 (((0:Nat):Int))))) rfl .nil)),?_⟩
 rfl
theorem cb14:callB Tryz.prog 14=true:=by kernel_rfl
theorem cb27:callB Tryz.prog 27=true:=by kernel_rfl
theorem m_vlist(l:List jN)(hl:uJ 1048576 l):jP Tryz.prog 14 [(.sl 45 4 (List.map jK l))] (.val (.bool ((yA l)))):=by
 have hb:=hl.2
 refine jI Tryz.func14 rfl cb14 rfl ?_
 show qJ _ _ _ _ ⟨[(0,(vl 45 4 jK l))],[]⟩
 refine jB<|kx [] [] (zM<|zZ) ?_
 refine jB<|jB<|kx [(3,(jR 0))] [] (zM<|zZ) ?_
 refine jH<|kB (α:=Nat) (fun i=>⟨[(0,(vl 45 4 jK l)),(3,(jR i))],[]⟩) (fun i=>i≤l.length∧(l.take i).all kL=true) (fun i=>l.length-i) 0 wk ⟨Nat.zero_le _,by simp⟩ ?_
 rintro i ⟨hi,hal⟩
 refine jB<|jB<|kx [(7,(vb (decide (((i:Nat):Int)<((l.length:Nat):Int)))))] [] (zM<|zM<|zE (uE qY)<|zE xG<|zZ) ?_
 refine jF rfl (fun h1=>?_) (fun h1=>?_)
 ·replace h1:=uW h1
  refine jD<|jB<|jH<|jB<|kx [(15,(vb (!(kL (l.getD i qH)))))] [] (zM<|zM<|zE (xJ qY i qH)<|zE (nR jT)<|zE (jX (aA (l.getD i qH) (qM (l.getD i qH)) (jV (vM hl.1 (show i<l.length by omega)) (by decide))))<|zE nY<|zZ) ?_
  refine jF rfl (fun h2=>?_) (fun h2=>?_)
  ·refine jB<|kx [(2,(vb false))] [] (zM<|zZ) ?_
   refine jE ⟨_,(.tmp (d:=(.val (.bool (false)))) rfl .nil),?_⟩
   rw[show yA l=false from all_not (f:=kL) (l:=l) (i:=i) (d:=qH) (by omega) (by simpa using h2)];rfl
  ·refine jD<|kx [(3,(jR (i+1)))] [] (zM<|zE (vT (i+1))<|zM<|zZ) ?_
   exact ⟨(i+1),wk,⟨by omega,all_take (d:=qH) (by omega) hal (by simpa using h2)⟩,(by first|omega|(dsimp only;omega))⟩
 ·replace h1:=uX h1
  have hie:i=l.length:=by omega
  rw[hie,List.take_length] at hal
  refine kC<|jB<|kx [(2,(vb true))] [] (zM<|zZ) ?_
  refine jE ⟨_,(.tmp (d:=(.val (.bool (true)))) rfl .nil),?_⟩
  rw[show yA l=true from hal];rfl
theorem p_cov(x:jN)(p:Rat)(hx:mI x p 200)(a:jN)(q:Rat)(ha:mI a q 200)(b:jN)(r:Rat)(hb:mI b r 200)(y:jN)(s:Rat)(hy:mI y s 200)(gx:kL x=true)(ga:kL a=true)(gb:kL b=true)(gy:kL y=true)(hq:¬ (gI q)<0)(hr:¬ (gI r)<0):jP Tryz.prog 27 [(jK x),(jK a),(jK b),(jK y)] (.tup [(.val (.bool ((decide ((yW ((s-p)*(s-p)) (q*r))≤0))))),(.val (.int .i64 (((0:Nat):Int))))]):=by
 refine jI Tryz.func27 rfl cb27 rfl ?_
 show qJ _ _ _ _ ⟨[(0,(.d (jK x))),(1,(.d (jK a))),(2,(.d (jK b))),(3,(.d (jK y)))],[]⟩
 refine jB<|kx [(4,(.ref 0 0)),(5,(.ref 1 0)),(6,(.ref 2 0)),(7,(.ref 3 0))] [(0,some (bx (jK x))),(1,some (bx (jK a))),(2,some (bx (jK b))),(3,some (bx (jK y)))] (zN (vW 0)<|zN (vW 1)<|zN (vW 2)<|zN (vW 3)<|zM<|zM<|zZ) ?_
 refine jB<|jB<|kx [(17,(vl 45 4 jK [x,a,b,y])),(18,(jR 4)),(19,(jR 0))] [] (zR (kM jT)<|zR (kM jT)<|zR (kM jT)<|zR (kM jT)<|zE (eC qY uG uQ)<|zE (oLn qY 4)<|zM<|zZ) ?_
 refine jH<|pwp_rounds 5 ?_
 refine pwp_round<|jB<|kx [(20,(vb true))] [] (zE (vZ true xG)<|zZ) ?_
 refine jB<|xT ?_
 refine jD<|jB<|jH<|jB<|kx [(11,(.ref 4 0))] [(4,some (bx (jK x)))] (zE (oXs qY 0)<|zE (nR jT)<|zN (uF 4 uG uQ)<|zT (qK jT)<|zZ) ?_
 refine jB<|kx [(25,(vb false))] [] (zR (kM jT)<|zE (vZ true (jX (cK x p (jV hx (by decide)))) (by exact gx))<|zE nY<|zZ) ?_
 refine kS ?_
 refine jD<|kx [(19,(jR 1))] [] (zE (vT 1 (hr:=by decide))<|zM<|zZ) ?_
 refine pwp_again (uZ.refl _) ?_
 refine jB<|kx [(20,(vb true))] [] (zE (vZ true xG)<|zZ) ?_
 refine jB<|xT ?_
 refine jD<|jB<|jH<|jB<|kx [(11,(.ref 5 0))] [(5,some (bx (jK a)))] (zE (oXs qY 1)<|zE (nR jT)<|zN (uF 5 uG uQ)<|zT (qK jT)<|zZ) ?_
 refine jB<|kx [(25,(vb false))] [] (zR (kM jT)<|zE (vZ true (jX (cK a q (jV ha (by decide)))) (by exact ga))<|zE nY<|zZ) ?_
 refine kS ?_
 refine jD<|kx [(19,(jR 2))] [] (zE (vT 2 (hr:=by decide))<|zM<|zZ) ?_
 refine pwp_again (uZ.refl _) ?_
 refine jB<|kx [(20,(vb true))] [] (zE (vZ true xG)<|zZ) ?_
 refine jB<|xT ?_
 refine jD<|jB<|jH<|jB<|kx [(11,(.ref 6 0))] [(6,some (bx (jK b)))] (zE (oXs qY 2)<|zE (nR jT)<|zN (uF 6 uG uQ)<|zT (qK jT)<|zZ) ?_
 refine jB<|kx [(25,(vb false))] [] (zR (kM jT)<|zE (vZ true (jX (cK b r (jV hb (by decide)))) (by exact gb))<|zE nY<|zZ) ?_
 refine kS ?_
 refine jD<|kx [(19,(jR 3))] [] (zE (vT 3 (hr:=by decide))<|zM<|zZ) ?_
 refine pwp_again (uZ.refl _) ?_
 refine jB<|kV (wk (l:=[(4,(.ref 0 0)),(5,(.ref 1 0)),(6,(.ref 2 0)),(7,(.ref 3 0)),(17,(vl 45 4 jK [x,a,b,y])),(18,(jR 4)),(19,(jR 3))]) (b:=[(0,some (bx (jK x))),(1,some (bx (jK a))),(2,some (bx (jK b))),(3,some (bx (jK y)))])) ?_
 refine kx [(20,(vb true))] [] (zE (vZ true xG)<|zZ) ?_
 refine jB<|xT ?_
 refine jD<|jB<|jH<|jB<|kx [(11,(.ref 7 0))] [(7,some (bx (jK y)))] (zE (oXs qY 3)<|zE (nR jT)<|zN (uF 7 uG uQ)<|zT (qK jT)<|zZ) ?_
 refine jB<|kx [(25,(vb false))] [] (zR (kM jT)<|zE (vZ true (jX (cK y s (jV hy (by decide)))) (by exact gy))<|zE nY<|zZ) ?_
 refine kS ?_
 refine jD<|kx [(19,(jR 4))] [] (zE (vT 4 (hr:=by decide))<|zM<|zZ) ?_
 refine pwp_again (uZ.refl _) ?_
 refine jB<|kx [(20,(vb false))] [] (zE (vZ false xG)<|zZ) ?_
 refine jB<|kS ?_
 refine kC<|jB<|jB<|kx [(34,(vb false))] [] (zR (kM jT)<|zE (jX (f_sign a q (jV ha (by decide))))<|zE (vZ false xG (by exact decide_eq_false hq))<|zM<|zR (kM jT)<|zE (jX (f_sign b r (jV hb (by decide))))<|zE (vZ false xG (by exact decide_eq_false hr))<|zE xN<|zZ) ?_
 refine kS ?_
 refine jD<|jB<|kx [(12,(.ref 8 0))] [(8,some (bx (jK (jQ (s-p)))))] (zR (kM jT)<|zR (kM jT)<|zE (jX (f_sub y x s p (jV hy (by decide)) (jV hx (by decide))))<|zN (uF 8 uG uQ)<|zT (qK jT)<|zZ) ?_
 refine jB<|kd [(8,(vb (decide ((yW ((s-p)*(s-p)) (r*q))≤((0:Nat):Int))))),(9,(jR 0))] [] mo (wR (kM jT)<|wR (kM jT)<|wE (jX (eN (jQ (s-p)) (jQ (s-p)) (s-p) (s-p) (jV (kG (aK (k:=401) hy.ql hx.ql (by decide))) (by decide)) (jV (kG (aK (k:=401) hy.ql hx.ql (by decide))) (by decide))))<|wR (kM jT)<|wR (kM jT)<|wE (jX (eN b a r q (jV hb (by decide)) (jV ha (by decide))))<|wE (jX (cQ (jQ ((s-p)*(s-p))) (jQ (r*q)) ((s-p)*(s-p)) (r*q) (jV (kG (qP (k:=802) (aK (k:=401) hy.ql hx.ql (by decide)) (aK (k:=401) hy.ql hx.ql (by decide)) (by decide))) (by decide)) (jV (kG (qP (k:=400) hb.ql ha.ql (by decide))) (by decide))))<|wE oLe<|wM<|wM<|wZ) ?_
 refine jE ⟨_,(.tmp (d:=(.val (.bool (decide ((yW ((s-p)*(s-p)) (r*q))≤((0:Nat):Int)))))) rfl (.tmp (d:=(.val (.int .i64 (((0:Nat):Int))))) rfl .nil)),?_⟩
 rw[Rat.mul_comm q r];rfl
end Go.Proofs.YtnajallgoaiahaaGreatDoor
namespace Go.Fid
def bU:Nat→List (List jS)→BS
 |_,[]=>[]
 |k,r::rs=>(k,some ((kY r).map .d))::bU (k+1) rs
theorem fH:∀ (k:Nat) (rows:List (List jS)) (i:Nat),jW (bU k rows) i=if k≤i then (rows[i-k]?).map (fun r=>(kY r).map SV.d) else none
 |k,[],i=>by simp [bU,jW]
 |k,r::rs,i=>by
  simp only[bU]
  rw[jM,fH (k+1) rs i]
  by_cases h:k=i
  ·subst h;simp
  ·rw[if_neg h]
   by_cases h2:k+1≤i
   ·rw[if_pos h2,if_pos (by omega),show i-k=(i-(k+1))+1 by omega,List.getElem?_cons_succ]
   ·rw[if_neg h2,if_neg (by omega)]
theorem tabB_names{k q i:Nat}{rows:List (List jS)}{c:List SV}(h:jW (bU k rows) i=some c):qG q c=false:=by
 rw[fH] at h
 split at h
 ·rw[Option.map_eq_some_iff] at h
  obtain ⟨r,_,rfl⟩:=h
  exact yQ q id _
 ·cases h
abbrev gN (E s:Nat) (rows:List (List jS)):BS:=(0,some (cC E s 2 rows))::bU 2 rows
theorem tabA_row{E s:Nat}{rows:List (List jS)}{j:Nat}{r:List jS}(h:rows[j]?=some r):jW (gN E s rows) (j+2)=some ((kY r).map .d):=by
 show jW ((0,_)::bU 2 rows) (j+2)=_
 rw[jM,if_neg (by omega),fH,if_pos (by omega),show j+2-2=j by omega,h];rfl
theorem tabA_clr1{E s:Nat}{rows:List (List jS)}:Clr 1 (gN E s rows):=fun j c hj h=>by
 have h:jW ((0,some (cC E s 2 rows))::bU 2 rows) j=some c:=h
 rw[jM] at h
 split at h
 ·injection h with h;subst h;exact rowC_names (.inl (by decide))
 ·exact tabB_names h
theorem tabA_fr1{E s:Nat}{rows:List (List jS)}:jW (gN E s rows) 1=none:=by
 show jW ((0,_)::bU 2 rows) 1=none
 rw[jM,if_neg (by omega),fH,if_neg (by omega)]
theorem tab_frb{k:Nat}:∀ (rows:List (List jS)) (j:Nat),k<j→FrB k (bU j rows)
 |[],j,h=>frb_nil k
 |r::rs,j,h=>frb_d (by rw[← Bool.not_eq_true];exact fun e=>by have:=Nat.eq_of_beq_eq_true e;omega) (tab_frb rs (j+1) (by omega))
theorem tabA_frb{E s:Nat}{rows:List (List jS)}:FrB 1 (gN E s rows):=frb_cs rfl (rowC_names (.inl (by decide))) (tab_frb rows 2 (by decide))
theorem tabA_clr{E s:Nat}{rows:List (List jS)}{c:Option (List SV)}:Clr 1 ((1,c)::gN E s rows):=fun j d hj h=>by
 rw[jM,if_neg (fun e=>hj e.symm)] at h
 exact tabA_clr1 j d hj h
theorem tabA_clr0{E s:Nat}{rows:List (List jS)}{l:List jS}:∀ j c,j≠0→jW ((1,some (l.map SV.d))::gN E s rows) j=some c→qG 0 c=false:=fun j c hj h=>by
 rw[jM] at h
 split at h
 ·injection h with h;subst h;exact yQ 0 id l
 ·have h:jW ((0,some (cC E s 2 rows))::bU 2 rows) j=some c:=h
  rw[jM,if_neg (fun e=>hj e.symm)] at h
  exact tabB_names h
theorem bget_dup{k:Nat}{x y:Option (List SV)}{B:BS}:∀ i c,jW ((k,x)::B) i=some c→jW ((k,x)::(k,y)::B) i=some c:=fun i c h=>by
 rw[jM] at h ⊢
 split
 ·rename_i e;rw[if_pos e] at h;exact h
 ·rename_i e;rw[if_neg e] at h;rw[jM,if_neg e];exact h
theorem tabA_rows{E s:Nat}{rows:List (List jS)}{x y:Option (List SV)}:∀ (j:Nat) r,rows[j]?=some r→jW ((0,x)::(1,y)::gN E s rows) (j+2)=some ((kY r).map .d):=fun j r h=>by
 rw[jM,if_neg (by omega),jM,if_neg (by omega)];exact tabA_row h
section
variable {P:Program} {N:Fr} {c:Code} {Q:Exit→PS→Prop} {S:SL} {B:BS}
theorem pwp_fixS(t:Nat){k T s n:Nat}(ht:kF S t=.own k T s n)(h:∀ ao cap,qJ P N c Q ⟨(t,.ownx k T s n (.slice ao n cap))::S,B⟩):qJ P N c Q ⟨S,B⟩:=fun C a w M hn ⟨D,β,hs⟩=>by
 have hr:=hs.slots t
 dsimp only at hr
 rw[ht] at hr
 obtain ⟨ao,cap,hv⟩:∃ ao cap,a.tmps.getD t undef=.slice ao n cap:=by
  rcases hr with ⟨_,h2,h3⟩ | ⟨b,cap,vs,_,h3,_⟩
  ·exact ⟨_,_,by rw[h3,h2]⟩
  ·exact ⟨_,_,h3⟩
 refine h ao cap C a w M hn ⟨D,β,hs.base,hs.mem,hs.high,fun u=>?_⟩
 show kZ w D β _ (kF ((t,_)::S) u)
 rw[qW]
 split
 ·rename_i e;subst e;exact ⟨hv,hr⟩
 ·exact hs.slots u
theorem oMvx{o:Oper}{k T s n:Nat}{u:Value}(h:mvK o=true:=by kernel_rfl)(hx:mvV S o=.ownx k T s n u:=by kernel_rfl):uY P o (kF S) [] (.d (.val u)) :=
 (hx▸kR h).weaken fun w D β v hv=>by
  have e:v=u:=hv.1
  subst e
  exact vE.val v
theorem tab_app{o:Oper}{T E1 t':TypeId}{x y:Operand}{bytes E s m:Nat}{zv:List Value}{rows:List (List jS)}{d:jS}{M:Fr}(ho:o.op=.call { callee:=.builtin .append,args:=#[x,y],argTypes:=#[T,T] })
  (hd:gL M o.dst=true) (hT:vF P T=some (E1,1)) (hz:xX P E1=some zv) (hzl:zv.length=1) (hby:yE P E1=some bytes) (hx:ev (kF S) x=.own 0 E1 1 m) (hm:m=rows.length) (hb:jW B 0=some (cC E s 2 rows))
  (hB:∀ j c,j≠0→jW B j=some c→qG 0 c=false)
  (hy:ev (kF S) y=.d (.sl t' 1 [d])) (hd1:d.cells=[d]) (hbig:rows.length+1≤maxLen) (hbig':(rows.length+1)*bytes≤140737488355328) {m2:Nat} (hm2:rows.length+1=m2)
  (C:bH) (a:Act) (w:World) (Q:Exit→Act→World→Prop) (hn:C.n=M) (hs:cO C a w ⟨S,B⟩) :
  o.wp P a w (fun a' w'=>cO C a' w' ⟨eU o.dst (.own 0 E1 1 m2) (nF 0 S),(0,some (cC E s 2 rows++[.d d]))::B⟩) Q:=by
 subst hm
 subst hm2
 have h:=app_soundG (P:=P) (st:=⟨S,B⟩) (k:=0) (cs:=cC E s 2 rows) (es':=[d]) (N:=M) ho hd hT hz hzl hby hx hb (rowC_names (.inl (by decide))) (by rw[fL,Nat.mul_one]) hy hbig hbig' hB C a w Q hn hs
 rw[show (kY [d]).map SV.d=[.d d] by rw[mO,flat_nil,hd1];rfl] at h
 exact h
theorem names2_sget{p q:Nat}{S:SL}(h:(S.all fun e=>!e.2.names p&&!e.2.names q)=true)(t:Nat):(kF S t).names p=false∧(kF S t).names q=false:=by
 induction S with
 |nil=>exact ⟨rfl,rfl⟩
 |cons e S ih=>
  obtain ⟨j,x⟩:=e
  simp only[List.all_cons,Bool.and_eq_true,Bool.not_eq_true'] at h
  rw[qW]
  split
  ·exact h.1
  ·exact ih (by simpa using h.2)
theorem tab_push{S':SL}{E s cap m:Nat}{ao:Option Addr}{rows:List (List jS)}{r:List jS}(t:Nat)(hm:r.length=m)(ht:kF S t=.ownx 1 E s m (.slice ao m cap))(h0:jW B 0=some (cC E s 2 rows++[.d (.val (.slice ao m cap))]))
  (h1:jW B 1=some ((kY r).map .d)) (hr:∀ (j:Nat) r',rows[j]?=some r'→jW B (j+2)=some ((kY r').map .d)) (hs1:S'.map (fun p=>kF S p.1)=S'.map (·.2)) (hn:(S'.all fun p=>!p.2.names (rows.length+2)&&!p.2.names 1)=true) :
  uZ ⟨S,B⟩ ⟨S',gN E s (rows++[r])⟩:=fun C a w ⟨D,β,hs⟩=>by
 subst hm
 have hβ:∀ j,j≠rows.length+2→(fun i=>if i=rows.length+2 then β 1 else β i:qC) j=β j:=fun j hj=>by simp [hj]
 have hβ0:(fun i=>if i=rows.length+2 then β 1 else β i:qC) (rows.length+2)=β 1:=by simp
 generalize (fun i=>if i=rows.length+2 then β 1 else β i:qC)=β' at hβ hβ0
 have tgt:∀ {i c},jW (gN E s (rows++[r])) i=some c→(i=0∧c=cC E s 2 (rows++[r]))∨(∃ j r',i=j+2∧rows[j]?=some r'∧c=(kY r').map SV.d)∨(i=rows.length+2∧c=(kY r).map SV.d):=fun {i c} hi=>by
  have hi:jW ((0,some (cC E s 2 (rows++[r])))::bU 2 (rows++[r])) i=some c:=hi
  rw[jM] at hi
  split at hi
  ·rename_i e;injection hi with hi;exact .inl ⟨e.symm,hi.symm⟩
  ·rw[fH] at hi
   split at hi
   ·rw[Option.map_eq_some_iff] at hi
    obtain ⟨r',hr',rfl⟩:=hi
    by_cases hlt:i-2<rows.length
    ·rw[List.getElem?_append_left hlt] at hr'
     exact .inr (.inl ⟨i-2,r',by omega,hr',rfl⟩)
    ·have hl:=(List.getElem?_eq_some_iff.1 hr').1
     simp only[List.length_append,List.length_cons,List.length_nil] at hl
     have e:i-2=rows.length:=by omega
     rw[e] at hr'
     simp at hr'
     subst hr'
     exact .inr (.inr ⟨by omega,rfl⟩)
   ·cases hi
 -- where a block of the new state lay
 have src:∀ {i c},jW (gN E s (rows++[r])) i=some c→∃ q c',jW B q=some c'∧β' i=β q∧(i=rows.length+2→q=1)∧(i≠rows.length+2→q=i)∧q≠rows.length+2:=fun {i c} hi=>by
  rcases tgt hi with ⟨rfl,_⟩ | ⟨j,r',rfl,hr',_⟩ | ⟨rfl,_⟩
  ·exact ⟨0,_,h0,hβ _ (by omega),fun e=>by omega,fun _=>rfl,by omega⟩
  ·have hlt:=(List.getElem?_eq_some_iff.1 hr').1
   exact ⟨j+2,_,hr j r' hr',hβ _ (by omega),fun e=>by omega,fun _=>rfl,by omega⟩
  ·exact ⟨1,_,h1,hβ0,fun _=>rfl,fun e=>absurd rfl e,by omega⟩
 have hne1:∀ {i c},jW (gN E s (rows++[r])) i=some c→i≠1:=fun {i c} hi e=>by
  rcases tgt hi with ⟨h,_⟩ | ⟨j,r',h,_,_⟩ | ⟨h,_⟩<;>omega
 refine ⟨D,β',hs.base,⟨fun i c hi=>?_,fun i1 i2 c1 c2 q1 q2 b e1 e2=>?_⟩,fun i c hi b e=>?_,fun u=>?_⟩
 ·rcases tgt hi with ⟨rfl,rfl⟩ | ⟨j,r',rfl,hr',rfl⟩ | ⟨rfl,rfl⟩
  ·rcases hs.mem.ok 0 _ h0 with ⟨_,h⟩ | ⟨b,vs,T,g1,g2,g3,g4,g5⟩
   ·simp at h
   ·refine .inr ⟨b,vs,T,(hβ 0 (by omega)).trans g1,g2,by rw[fL];simpa [fL] using g3,fun i x hx=>?_,g5⟩
    rw[rowC_get,Option.map_eq_some_iff] at hx
    obtain ⟨r',hr',rfl⟩:=hx
    by_cases hlt:i<rows.length
    ·rw[List.getElem?_append_left hlt] at hr'
     obtain ⟨u,e1,e2,e3⟩:=g4 i (.own (2+i) E s r'.length) (by rw[List.getElem?_append_left (by rw[fL];exact hlt),rowC_get,hr'];rfl)
     exact ⟨u,e1,e2,e3.frame hβ (by simp only[SV.names];rw[← Bool.not_eq_true];exact fun e=>by have:=Nat.eq_of_beq_eq_true e;omega)⟩
    ·have hl:=(List.getElem?_eq_some_iff.1 hr').1
     simp only[List.length_append,List.length_cons,List.length_nil] at hl
     have e:i=rows.length:=by omega
     subst e
     simp at hr'
     subst hr'
     obtain ⟨u,e1,e2,e3⟩:=g4 rows.length (.d (.val (.slice ao r.length cap))) (by rw[List.getElem?_append_right (by rw[fL];omega),fL,Nat.sub_self];rfl)
     have eu:=vI e3
     have hrep:=hs.slots t
     dsimp only at hrep
     rw[ht] at hrep
     obtain ⟨ev,hrep⟩:=hrep
     rw[ev,← eu] at hrep
     refine ⟨u,e1,e2,?_⟩
     show kZ w D β' u (.own (2+rows.length) E s r.length)
     rw[Nat.add_comm]
     rcases hrep with ⟨k1,k2,k3⟩ | ⟨b',cap',vs',k1,k2⟩
     ·exact .inl ⟨hβ0.trans k1,k2,k3⟩
     ·exact .inr ⟨b',cap',vs',hβ0.trans k1,k2⟩
  ·have hlt:=(List.getElem?_eq_some_iff.1 hr').1
   exact (hs.mem.ok _ _ (hr j r' hr')).frame hβ (by omega) (yQ _ id _)
  ·rcases hs.mem.ok 1 _ h1 with ⟨g1,g2⟩ | ⟨b,vs,T,g1,g2,g3,g4,g5⟩
   ·exact .inl ⟨hβ0.trans g1,g2⟩
   ·refine .inr ⟨b,vs,T,hβ0.trans g1,g2,g3,fun i x hx=>?_,g5⟩
    obtain ⟨u,e1,e2,e3⟩:=g4 i x hx
    rw[List.getElem?_map,Option.map_eq_some_iff] at hx
    obtain ⟨d,_,rfl⟩:=hx
    exact ⟨u,e1,e2,e3⟩
 ·obtain ⟨p1,d1,g1,b1,n1,m1,_⟩:=src q1
  obtain ⟨p2,d2,g2,b2,n2,m2,_⟩:=src q2
  have hp:=hs.mem.inj p1 p2 d1 d2 g1 g2 b (b1.symm.trans e1) (b2.symm.trans e2)
  have w1:=hne1 q1
  have w2:=hne1 q2
  by_cases x1:i1=rows.length+2<;>by_cases x2:i2=rows.length+2
  ·omega
  ·have:=n1 x1;have:=m2 x2;omega
  ·have:=m1 x1;have:=n2 x2;omega
  ·have:=m1 x1;have:=m2 x2;omega
 ·obtain ⟨p1,d1,g1,b1,_⟩:=src hi
  exact hs.high _ _ g1 b (b1.symm.trans e)
 ·obtain ⟨hnm,_⟩:=names2_sget hn u
  show kZ w D β' _ (kF S' u)
  rcases uB hs1 u with h | h
  ·rw[h];trivial
  ·have h2:=hs.slots u
   rw[h] at hnm ⊢
   exact h2.frame hβ hnm
end
theorem sg_range{N k:Nat}(h:k<N):sg (List.range N) N k=k:=by unfold sg;rw[List.getElem?_range h];rfl
theorem nd_of{M:Nat}:∀ {ks:List Nat},ks.Nodup→(∀ k∈ks,k<M)→ndB M ks=true
 |[],_,_=>rfl
 |k::ks,h1,h2=>by
  rw[List.nodup_cons] at h1
  simp only[ndB,Bool.and_eq_true,Bool.not_eq_true',Nat.blt_eq]
  refine ⟨⟨h2 k (by simp),?_⟩,nd_of h1.2 fun j hj=>h2 j (by simp [hj])⟩
  rw[← Bool.not_eq_true,zU]
  exact h1.1
theorem nd_range(N:Nat):ndB N (List.range N)=true:=nd_of List.nodup_range fun k hk=>List.mem_range.1 hk
theorem rb_tabB{N:Nat}:∀ (rows:List (List jS)) (k:Nat),k+rows.length≤N→RB (List.range N) N (bU k rows) (bU k rows)
 |[],k,h=>.nil
 |r::rs,k,h=>by
  simp only[List.length_cons] at h
  exact .cons (List.getElem?_range (by omega)) (ren_dat _ _) (rb_tabB rs (k+1) (by omega))
theorem rowC_ren{N E s:Nat}:∀ (rows:List (List jS)) (k:Nat),k+rows.length≤N→(cC E s k rows).map (SV.ren (sg (List.range N) N))=cC E s k rows
 |[],k,h=>rfl
 |r::rs,k,h=>by
  simp only[List.length_cons] at h
  simp only[cC,List.map_cons]
  rw[rowC_ren rs (k+1) (by omega)]
  show SV.own (sg (List.range N) N k) E s r.length::_=_
  rw[sg_range (by omega)]
theorem rb_tab{E s:Nat}(rows:List (List jS)):RB (List.range (rows.length+2)) (rows.length+2) (gN E s rows) (gN E s rows) :=
 .cons (List.getElem?_range (by omega)) (rowC_ren rows 2 (by omega)) (rb_tabB rows 2 (by omega))
section
variable {P:Program} {n:Fr} {ops:Array Oper} {K:SL→BS→Prop} {S:SL} {l:List Oper} {o:Oper}
def SV.isD:SV→Bool
 |.d _=>true
 |_=>false
theorem isD_okV{S:SL}(h:(S.all fun p=>p.2.isD)=true)(ks:List Nat)(M t:Nat):okV ks M [] [] (kF S t)=true:=by
 induction S with
 |nil=>rfl
 |cons p S ih=>
  obtain ⟨j,x⟩:=p
  simp only[List.all_cons,Bool.and_eq_true] at h
  rw[qW]
  split
  ·cases x with
   |d x=>rfl
   |_=>cases h.1
  ·exact ih h.2
theorem bget_app2{X Z:BS}{j:Nat}{c:List SV}(_:True):jW X j=some c→jW (X++Z) j=some c:=by
 induction X with
 |nil=>intro h;simp [jW] at h
 |cons p X ih=>
  obtain ⟨q,x⟩:=p
  intro h
  show jW ((q,x)::(X++Z)) j=_
  rw[jM] at h ⊢
  split
  ·rename_i e;rw[if_pos e] at h;exact h
  ·rename_i e;rw[if_neg e] at h;exact ih h
theorem zTab{f:FuncId}{y:Operand}{args:List Operand}{ats:Array TypeId}{ds:List jS}{Eo E s m:Nat}{rows:List (List jS)}(hf:vR P f (ds.map SV.d) [] (.own 0 Eo 1 rows.length) (gN E s rows))(hm:rows.length=m)
  (r:SK P n ops K ((dO o,.own 0 Eo 1 m)::S) (gN E s rows) l) (ho:o.op=.call { callee:=.value y,args:=args.toArray,argTypes:=ats }:=by exact rfl) (hy:ev (kF S) y=.d (.val (.func (.func f) #[] #[])):=by kernel_rfl) (g:goK n ops S o=true:=by kernel_rfl)
  (hx:args.map (ev (kF S))=ds.map SV.d:=by kernel_rfl) (hS:(S.all fun p=>p.2.isD)=true:=by kernel_rfl):SK P n ops K S [] (o::l):=by
 subst hm
 obtain ⟨hd,hg,hdB⟩:=yD g
 have hok:∀ (ks:List Nat) (M:Nat) (t:Nat),kF (cutS ks M [] [] S) t=kF S t:=fun ks M t=>by
  rw[sget_cut,isD_okV hS ks M t];rfl
 refine zX (S1:=(dO o,.own 0 Eo 1 rows.length)::S) (B1:=gN E s rows) (fun C a w Q hn' hs=>?_) hg r
 have hcall:=call_op (C:=C) (a:=a) (w:=w) (Q:=Q) (S0:=S) (B0:=[]) (ks:=List.range (rows.length+2)) (F:=[]) (M:=rows.length+2) (ex:=[]) (o:=o) hf ho (.fn hy) (by
   rw[List.append_nil,hx,List.map_map];rfl) (by rw[hn',hd];exact hdB) (nd_range _) .nil (rb_tab rows) rfl .nil rfl (fun j c _ h=>by cases h) hs
 rw[hd] at hcall
 refine Oper.wp_mono (fun a' w' h=>?_) hcall
 refine xC (fun t=>?_) (fun k c hk=>?_) C a' w' h
 ·show kF ((dO o,_)::S) t=.junk∨kF ((dO o,_)::S) t=kF ((dO o,_)::cutS _ _ _ _ S) t
  rw[qW,qW]
  split
  ·refine .inr ?_
   show _=SV.own (sg (List.range (rows.length+2)) (rows.length+2) 0) Eo 1 rows.length
   rw[sg_range (by omega)]
  ·rw[hok];exact .inr rfl
 ·exact bget_app2 trivial hk
end
theorem rowC_set{E s:Nat}:∀ (rows:List (List jS)) (k j:Nat) (r:List jS),r.length=(rows.getD j []).length→cC E s k (rows.set j r)=cC E s k rows
 |[],k,j,r,h=>rfl
 |x::rs,k,0,r,h=>by
  have h:r.length=x.length:=h
  simp only[List.set_cons_zero,cC,h]
 |x::rs,k,j+1,r,h=>by
  simp only[List.set_cons_succ,cC]
  rw[rowC_set rs (k+1) j r h]
theorem tab_set{S S':SL}{E s:Nat}{rows:List (List jS)}{j:Nat}{r:List jS}(hr:r.length=(rows.getD j []).length)(hj:j<rows.length)(hs:S'.map (fun p=>kF S p.1)=S'.map (·.2)) :
  uZ ⟨S,(j+2,some ((kY r).map .d))::gN E s rows⟩ ⟨S',gN E s (rows.set j r)⟩:=by
 refine xC (uB hs) fun i c hi=>?_
 have hi:jW ((0,some (cC E s 2 (rows.set j r)))::bU 2 (rows.set j r)) i=some c:=hi
 rw[jM] at hi ⊢
 by_cases h0:0=i
 ·rw[if_pos h0,rowC_set rows 2 j r hr] at hi
  rw[if_neg (by omega)]
  show jW ((0,some (cC E s 2 rows))::bU 2 rows) i=some c
  rw[jM,if_pos h0];exact hi
 ·rw[if_neg h0,fH] at hi
  split at hi
  ·rename_i h2
   rw[List.getElem?_set] at hi
   by_cases h3:j+2=i
   ·rw[if_pos h3]
    rw[if_pos (by omega),if_pos (by omega)] at hi
    exact hi
   ·rw[if_neg h3]
    rw[if_neg (by omega)] at hi
    show jW ((0,some (cC E s 2 rows))::bU 2 rows) i=some c
    rw[jM,if_neg h0,fH,if_pos h2];exact hi
  ·cases hi
section
variable {P:Program} {n:Fr} {ops:Array Oper} {K:SL→BS→Prop} {S S0 S1:SL} {B B0 B1:BS} {l:List Oper} {o:Oper} {news:List Nat} {acc0:List (List Nat × List Nat)}
theorem kdr{id:Nat}{Q:Exit→PS→Prop}(S1:SL)(B1:BS)(hm:P.follows .mixedOrders=true)(h:DK P n l.toArray (KI S1 B1) [] [] S0 B0 l)(hq:Q .normal ⟨S1,B1⟩)(hb:backB l.toArray=true:=by kernel_rfl)(hp:l.all gY=true:=by kernel_rfl):qJ P n (.region id l.toArray true) Q ⟨S0,B0⟩:=fun C a w N hn hs=>by
 obtain ⟨st1,acc,h1,h0,h2⟩:=h
 subst hn
 exact wpIn_region_any hm (draw_sound (C:=C) rfl (by simpa using h1) (by simpa using h0) hb (by simpa using hp) (fun a' w' hs'=>⟨_,h2 C a' w' hs',hq⟩) hs)
theorem wI(h:uZ ⟨S,B⟩ ⟨S1,B1⟩)(h7:orderB ops acc0=true:=by kernel_rfl):DK P n ops (KI S1 B1) news acc0 S B []:=⟨⟨S,B⟩,[],.nil,by simpa using h7,h⟩
theorem tab_ld{T E s:TypeId}{x:Operand}{rows:List (List jS)}{j:Nat}{m:Nat}(hs:qO P T=some (false,1))(hj:j<rows.length)(hm:(rows.getD j []).length=m)(ho:o.op=.load T x:=by exact rfl)(hx:ev (kF S) x=.ref 0 j:=by exact rfl):ROk P o S (gN E s rows) 0 (.own (j+2) E s m) :=
 ⟨cC E s 2 rows,e_ld1 ho hx hs (by
  subst hm
  rw[rowC_get,List.getElem?_eq_getElem hj]
  simp only[Option.map_some,List.getD_eq_getElem?_getD,List.getElem?_eq_getElem hj,Option.getD_some]
  rw[Nat.add_comm]),by show jW ((0,_)::bU 2 rows) 0=_;rw[jM,if_pos rfl]⟩
end
theorem flat_lenS{s:Nat}:∀ (r:List jS),(∀ e∈r,e.cells.length=s)→(kY r).length=r.length*s
 |[],_=>by simp [flat_nil]
 |e::r,h=>by
  rw[mO,List.length_append,h e (by simp),List.length_cons,Nat.add_mul,flat_lenS r (fun x hx=>h x (by simp [hx]))]
  omega
theorem tab_pubs{S:SL}{E s:Nat}:∀ (rows:List (List jS)) (k:Nat) (done:List SV) (B:BS),0<k→(∀ r∈rows,∀ e∈r,e.cells.length=s)→jW B 0=some (done++cC E s k rows)→(∀ (j:Nat) (r:List jS),rows[j]?=some r→jW B (k+j)=some ((kY r).map .d)) →
  uZ ⟨S,B⟩ ⟨S,[(0,some (done++rows.map fun r=>.d (.sl E s r)))]⟩
 |[],k,done,B,hk,hc,h0,hb=>by
  simp only[cC,List.append_nil] at h0
  simp only[List.map_nil,List.append_nil]
  refine xC (fun t=>.inr rfl) fun i c hi=>?_
  rw[jM] at hi
  split at hi
  ·rename_i e;subst e;rw[h0];exact hi
  ·cases hi
 |r::rs,k,done,B,hk,hc,h0,hb=>by
  have hr:=hc r (by simp)
  have hl:((kY r).map SV.d).length=r.length*s:=by rw[List.length_map,flat_lenS r hr]
  have h1:=bL (st:=⟨S,B⟩) (j:=0) (k:=k) (s:=s) (m:=r.length) (T:=E) (pre:=done) (post:=cC E s (k+1) rs) (cs:=(kY r).map .d) (es:=r) h0 (by omega) (by have:=hb 0 r rfl;simpa using this) hr rfl (by rw[← hl,List.take_length])
  have h2:=tab_pubs (S:=S) rs (k+1) (done++[.d (.sl E s r)]) ((0,some (done++.d (.sl E s r)::cC E s (k+1) rs))::(k,none)::B) (by omega) (fun x hx=>hc x (by simp [hx])) (by rw[jM,if_pos rfl,List.append_assoc];rfl) (fun j x hx=>by
   rw[jM,if_neg (by omega),jM,if_neg (by omega),show k+1+j=k+(j+1) by omega]
   exact hb (j+1) x (by simpa using hx))
  rw[List.append_assoc] at h2
  exact h1.trans h2
theorem tab_pub{S:SL}{E s:Nat}(rows:List (List jS))(hc:∀ r∈rows,∀ e∈r,e.cells.length=s):uZ ⟨S,gN E s rows⟩ ⟨S,[(0,some (rows.map fun r=>.d (.sl E s r)))]⟩ :=
 tab_pubs rows 2 [] (gN E s rows) (by decide) hc (by show jW ((0,_)::bU 2 rows) 0=_;rw[jM,if_pos rfl];rfl) fun j r h=>by
  rw[Nat.add_comm];exact tabA_row h
end Go.Fid
namespace Go.Proofs.YtnajallgoaiahaaGreatDoor
open Go.Fid
def zQ(zs:List Int):List Rat:=zs.map fun z:Int=>(z:Rat)
theorem zQ_ql{zs:List Int}(h:∀ z∈zs,-9223372036854775808≤z∧z≤9223372036854775807):∀ q∈zQ zs,QL q 3:=fun q hq=>by
 obtain ⟨z,hz,rfl⟩:=List.mem_map.1 hq
 exact gQ (mJ (h z hz).1 (h z hz).2) (by decide)
theorem zQ_row{zs:List Int}{n:Nat}(h:∀ z∈zs,-9223372036854775808≤z∧z≤9223372036854775807)(hn:3≤n)(hl:zs.length≤1000000):uJ n (List.map jQ (zQ zs)):=pts_row (fun q hq=>vC (zQ_ql h q hq) hn) (by unfold zQ;rw[List.length_map];exact hl)
def kT:List kW:=[⟨1,0,0,zr⟩,⟨1,1,0,zr⟩,⟨4,0,1,zr⟩]
def kX:List Rat:=zQ [2,3]
def kQ:List (List jN):=[List.map jQ (zQ [1,0]),List.map jQ (zQ [0,4])]
def kE:List (List jN):=[List.map jQ (zQ [5,4]),List.map jQ (zQ [4,5])]
theorem kX_ql:∀ q∈kX,QL q 1048576:=fun q hq=>vC (zQ_ql (by decide) q hq) (by decide)
theorem kT_ok:∀ x∈kT,mI x.n (qM x.n) 1048576:=fun x hx=>by
 have:x.n=zr:=by
  unfold kT at hx
  simp only[List.mem_cons,List.not_mem_nil,or_false] at hx
  rcases hx with rfl | rfl | rfl<;>rfl
 rw[this]
 exact ⟨rfl,by decide,by decide,by decide⟩
theorem kQ_ok:qS 1048576 kQ:=⟨fun r hr=>by
 unfold kQ at hr
 simp only[List.mem_cons,List.not_mem_nil,or_false] at hr
 rcases hr with rfl | rfl<;>exact zQ_row (by decide) (by decide) (by decide),by decide⟩
theorem kE_ok:qS 6 kE:=⟨fun r hr=>by
 unfold kE at hr
 simp only[List.mem_cons,List.not_mem_nil,or_false] at hr
 rcases hr with rfl | rfl<;>exact zQ_row (by decide) (by decide) (by decide),by decide⟩
theorem vrow_of(l:List Rat):yA (List.map jQ l)=true:=by
 unfold yA
 rw[List.all_eq_true]
 intro a ha
 obtain ⟨r,h1,rfl⟩:=List.mem_map.1 ha
 exact nO _
theorem kQ_rect:yI kQ kQ.length kX.length:=⟨rfl,fun l hl=>by
 unfold kQ at hl
 simp only[List.mem_cons,List.not_mem_nil,or_false] at hl
 rcases hl with rfl | rfl<;>exact ⟨rfl,vrow_of _⟩,by decide,by decide,by decide,by decide⟩
theorem kE_rect:yI kE 2 2:=⟨rfl,fun l hl=>by
 unfold kE at hl
 simp only[List.mem_cons,List.not_mem_nil,or_false] at hl
 rcases hl with rfl | rfl<;>exact ⟨rfl,vrow_of _⟩,by decide,by decide,by decide,by decide⟩
theorem kE_chk:yF kE=0:=rect_chk kE_rect
theorem eqm2{a b c d:Rat}(h:b=c):symB [[jQ a,jQ b],[jQ c,jQ d]]=true:=by
 refine sym_yes fun i hi j hj=>?_
 match i,j,hi,hj with
 |1,0,_,_=>exact decide_eq_true (by subst h;rfl)
theorem kQ_fit:dJ kQ kX.length=0:=fit_ok ⟨rfl,rfl⟩ (eqm2 rfl)
theorem kE_fit:dJ kE kE.length=0:=fit_ok ⟨rfl,rfl⟩ (eqm2 rfl)
instance (n:Nat) (a:R2):Decidable (GL n a):=by unfold GL QL;infer_instance
theorem kT_run:bI (List.map mH kX) kT:=by
 refine ⟨by decide +kernel,fun k hk=>?_,fun k hk=>?_⟩
 ·match k,hk with
  |0,_=>exact ⟨by decide +kernel,by decide +kernel,rfl⟩
  |1,_=>exact ⟨by decide +kernel,by decide +kernel,rfl⟩
  |2,_=>exact ⟨by decide +kernel,by decide +kernel,rfl⟩
 ·match k,hk with
  |0,_=>intro h;revert h;decide
  |1,_=>intro h;revert h;decide
  |2,_=>intro h;revert h;decide
theorem kGr:xY kX kT=[jQ 3,jQ 2]:=by
 unfold xY
 rw[show (hP (List.map mH kX) kT).g=[(3,3),(2,2)] by decide +kernel]
 rfl
theorem kVar:dT kQ (xY kX kT) (xY kX kT)=25:=by
 rw[kGr]
 show 0+qM (jQ 3)*qM (jQ (0+qM (jQ 1)*qM (jQ 3)+qM (jQ 0)*qM (jQ 2)))+qM (jQ 2)*qM (jQ (0+qM (jQ 0)*qM (jQ 3)+qM (jQ 4)*qM (jQ 2)))=25
 simp only[zP]
 decide +kernel
theorem kEa:qM ((kE.getD 0 []).getD 0 qH)=5:=by
 show qM (jQ ((5:Int):Rat))=5
 rw[zP];rfl
theorem kEb:qM ((kE.getD 1 []).getD 1 qH)=5:=by
 show qM (jQ ((5:Int):Rat))=5
 rw[zP];rfl
theorem kEc:qM ((kE.getD 0 []).getD 1 qH)=4:=by
 show qM (jQ ((4:Int):Rat))=4
 rw[zP];rfl
theorem zs_at{zs:List Int}(h:∀ z∈zs,-9223372036854775808≤z∧z≤9223372036854775807){i:Nat}(hi:i<zs.length):-9223372036854775808≤zs.getD i 0∧zs.getD i 0≤9223372036854775807:=by
 rw[List.getD_eq_getElem?_getD,List.getElem?_eq_getElem hi];exact h _ (List.getElem_mem _)
theorem rng2{a b c d:Rat}(h1:a=c)(h2:b=d):jZ.mk (jQ a) (jQ b)=jZ.mk (jQ c) (jQ d):=by rw[h1,h2]
end Go.Proofs.YtnajallgoaiahaaGreatDoor
