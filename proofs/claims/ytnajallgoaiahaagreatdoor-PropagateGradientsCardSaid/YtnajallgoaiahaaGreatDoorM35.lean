/- Part 35 of a proof: rules, plain facts, and functions walked. -/
import Derived.Test.YtnajallgoaiahaaGreatDoorM34
import Derived.Test.YtnajallgoaiahaaGreatDoorM19
import Derived.Test.YtnajallgoaiahaaGreatDoorM28
import Derived.Test.YtnajallgoaiahaaGreatDoorM20
import Derived.Test.YtnajallgoaiahaaGreatDoorM11
import Derived.Test.YtnajallgoaiahaaGreatDoorM30
set_option linter.unusedVariables false
set_option linter.unusedSimpArgs false
set_option maxRecDepth 4000
namespace Go.Fid
def nq(a b c d:Int):Int:=(((a*a)+(b*b))+(c*c))+(d*d)
def N4(a b c d:Int):Rat:=((nq a b c d:Int):Rat)
def r02(a b c d:Int):Int:=2*((b*d)+(a*c))
def R02(a b c d:Int):Rat:=((r02 a b c d:Int):Rat)
def r12(a b c d:Int):Int:=2*((c*d)-(a*b))
def R12(a b c d:Int):Rat:=((r12 a b c d:Int):Rat)
def r22(a b c d:Int):Int:=(((a*a)-(b*b))-(c*c))+(d*d)
def R22(a b c d:Int):Rat:=((r22 a b c d:Int):Rat)
theorem ql_eqz{x y:Rat}{n:Nat}(h:x=y)(hy:QL y n):QL x n:=h▸hy
def gcd3(a b c:Rat):Int:=((Int.gcd a.num ((Int.gcd b.num c.num:Nat):Int):Nat):Int)
def redK(a b c:Rat):Rat:=Rat.divInt 1 (gcd3 a b c)
def dq0(a b c d p q r s:Int):Rat:=(R02 a b c d*N4 p q r s)+(R02 p q r s*N4 a b c d)
def dq1(a b c d p q r s:Int):Rat:=(R12 a b c d*N4 p q r s)+(R12 p q r s*N4 a b c d)
def dq2(a b c d p q r s:Int):Rat:=(R22 a b c d*N4 p q r s)+(R22 p q r s*N4 a b c d)
def RFr(lx ly lz la lb lc ld rx ry rz ra rb rc rd:Int)(b0 b1 b2 e00 e01 e02 e10 e11 e12 e20 e21 e22:Rat):Prop :=
 (((rx-lx):Int):Rat)=b0 ∧
 (((ry-ly):Int):Rat)=b1 ∧
 (((rz-lz):Int):Rat)=b2 ∧
 b0*redK b0 b1 b2=e00 ∧
 b1*redK b0 b1 b2=e01 ∧
 b2*redK b0 b1 b2=e02 ∧
 (((dq1 la lb lc ld ra rb rc rd)*e02)-((dq2 la lb lc ld ra rb rc rd)*e01))*redK (((dq1 la lb lc ld ra rb rc rd)*e02)-((dq2 la lb lc ld ra rb rc rd)*e01)) (((dq2 la lb lc ld ra rb rc rd)*e00)-((dq0 la lb lc ld ra rb rc rd)*e02)) (((dq0 la lb lc ld ra rb rc rd)*e01)-((dq1 la lb lc ld ra rb rc rd)*e00))=e10 ∧
 (((dq2 la lb lc ld ra rb rc rd)*e00)-((dq0 la lb lc ld ra rb rc rd)*e02))*redK (((dq1 la lb lc ld ra rb rc rd)*e02)-((dq2 la lb lc ld ra rb rc rd)*e01)) (((dq2 la lb lc ld ra rb rc rd)*e00)-((dq0 la lb lc ld ra rb rc rd)*e02)) (((dq0 la lb lc ld ra rb rc rd)*e01)-((dq1 la lb lc ld ra rb rc rd)*e00))=e11 ∧
 (((dq0 la lb lc ld ra rb rc rd)*e01)-((dq1 la lb lc ld ra rb rc rd)*e00))*redK (((dq1 la lb lc ld ra rb rc rd)*e02)-((dq2 la lb lc ld ra rb rc rd)*e01)) (((dq2 la lb lc ld ra rb rc rd)*e00)-((dq0 la lb lc ld ra rb rc rd)*e02)) (((dq0 la lb lc ld ra rb rc rd)*e01)-((dq1 la lb lc ld ra rb rc rd)*e00))=e12 ∧
 ((e01*e12)-(e02*e11))*redK ((e01*e12)-(e02*e11)) ((e02*e10)-(e00*e12)) ((e00*e11)-(e01*e10))=e20 ∧
 ((e02*e10)-(e00*e12))*redK ((e01*e12)-(e02*e11)) ((e02*e10)-(e00*e12)) ((e00*e11)-(e01*e10))=e21 ∧
 ((e00*e11)-(e01*e10))*redK ((e01*e12)-(e02*e11)) ((e02*e10)-(e00*e12)) ((e00*e11)-(e01*e10))=e22
instance {lx ly lz la lb lc ld rx ry rz ra rb rc rd:Int} {b0 b1 b2 e00 e01 e02 e10 e11 e12 e20 e21 e22:Rat}:Decidable (RFr lx ly lz la lb lc ld rx ry rz ra rb rc rd b0 b1 b2 e00 e01 e02 e10 e11 e12 e20 e21 e22):=by unfold RFr;infer_instance
section
variable {lx ly lz la lb lc ld rx ry rz ra rb rc rd:Int} {b0 b1 b2 e00 e01 e02 e10 e11 e12 e20 e21 e22:Rat}
end
end Go.Fid
namespace Go.Proofs.YtnajallgoaiahaaGreatDoor
open Go.Fid
theorem cb151:callB Tryz.prog 151=true:=by kernel_rfl
theorem d_froot(x:Rat)(hx:QL x 100)(k:Nat)(hk:k≤512)(hx0:0≤x):jS Tryz.prog 151 [(jL (jM x)),(.val (.int .i64 (((k:Nat):Int))))] (.tup [(jL (jM (Rat.divInt (qV (nR (x*((vX k)*(vX k))))) ((2 ^ k:Nat):Int)))),(jL (jM (Rat.divInt (upI (x*((vX k)*(vX k)))) ((2 ^ k:Nat):Int)))),(.val (.int .i64 (0)))]):=by
 have hp0:((2 ^ k:Nat):Int)≠0:=Int.ne_of_gt (two_pos k)
 let y3:=(kS (qV (nR (x*((vX k)*(vX k))))))
 let y2:=(bx (jL (jM (Rat.divInt (qV (nR (x*((vX k)*(vX k))))) ((2 ^ k:Nat):Int)))))
 let y1:=(jM (((qV (nR (x*((vX k)*(vX k)))))*(qV (nR (x*((vX k)*(vX k))))):Int):Rat))
 refine jJ Tryz.func151 rfl cb151 rfl ?_
 show qM _ _ _ _ ⟨[(0,(.d (jL (jM x)))),(1,(jK k))],[]⟩
 refine jB<|kx [(2,(.ref 0 0)),(4,(.ref 1 0)),(5,(.ref 2 0))] [(0,some (bx (jL (jM x)))),(1,some (bx (jL kR))),(2,some (bx (jL kR)))] (zN (uY 0)<|zN (qW 1 uH uN)<|zN (qW 2 uH uN)<|zM<|zZ) ?_
 refine jB ?_
 have bn1:QL (x*(vX k)) 120:=(uC (k:=120) hx (eL (k:=k) (by omega)) (by decide))
 refine kx [(6,(vi 0)),(7,(.ref 3 0)),(8,(.ref 4 0))] [(3,some (bx (jL (jM (x*(vX k)))))),(4,some (bx (jT (kS ((2 ^ k:Nat):Int)))))] (zR (kP jW)<|zM<|zE (kA (d_scaled x hx k (by omega)))<|zM<|zE vI<|zE vI<|zE vI<|zN (qW 3 uH uN)<|zN (qW 4 gC gA)<|zT (qF jW)<|zT (qF kD)<|zM<|zZ) ?_
 refine jB<|jB<|kx [(25,(vb false))] [] (zM<|zE (uR false cR)<|zM<|zR (kP jW)<|zE (kA (f_sign (jM x) x (jQ (kB hx) (by decide))))<|zE (uR false xY (by exact decide_eq_false (sgn_nn hx0)))<|zE gE<|zZ) ?_
 refine kI ?_
 refine jF<|jB ?_
 have bn2:QL (x*((vX k)*(vX k))) 140:=(ql_eqz (Eq.symm (Rat.mul_assoc _ _ _)) (uC (k:=140) bn1 (eL (k:=k) (by omega)) (by decide)))
 refine kd [] [(3,some (bx (jL (jM (x*((vX k)*(vX k)))))))] mo (wR (kP jW)<|wR (kP kD)<|wE (kA (t_of 1 (by decide) (by decide)))<|wE (oQd (jL (kF.mk (kS ((2 ^ k:Nat):Int)) (kS 1))) (jL (jM (vX k))) (cS pl45 uH uN) (by exact rfl))<|wE (kA (by have h:=eS (jM (x*(vX k))) (jM (vX k)) (x*(vX k)) (vX k) (jQ (kB bn1) (by decide)) (jQ (kB (eL (k:=k) (by omega))) (by decide));rw[(Rat.mul_assoc _ _ _)] at h;exact h))<|wT (qF jW)<|wZ) ?_
 refine jB ?_
 have bn3:gR (kS (qV (nR (x*((vX k)*(vX k)))))) (qV (nR (x*((vX k)*(vX k))))) 141:=(iok_root (fl_nn (aN hx0)) (aK (k:=141) bn2 (by decide)))
 refine kx [(9,(.ref 5 0))] [(5,some (bx (jT y3)))] (zR (kP jW)<|zE (kA (d_floor (x*((vX k)*(vX k))) (qu bn2)))<|zE (kA (d_root (nR (x*((vX k)*(vX k)))) (nA (aK (k:=141) bn2 (by decide)) (by decide)) (fl_nn (aN hx0))))<|zM<|zE vI<|zE vI<|zN (qW 5 gC gA)<|zT (qF kD)<|zM<|zZ) ?_
 refine jB<|kx [(11,(.ref 6 0))] [(6,some (bx (jT y3)))] (zR (kP kD)<|zN (qW 6 gC gA)<|zT (qF kD)<|zZ) ?_
 refine jB<|jB<|kd [(47,(vb (decide ((yE (((qV (nR (x*((vX k)*(vX k)))))*(qV (nR (x*((vX k)*(vX k))))):Int):Rat) (x*((vX k)*(vX k))))<((0:Nat):Int)))))] [] mo (wR (kP kD)<|wR (kP kD)<|wE (kA (s_mul bn3 bn3 (by decide) (by decide)))<|wE (kA (t_of 1 (by decide) (by decide)))<|wE (oQd (jL (kF.mk (kS ((qV (nR (x*((vX k)*(vX k)))))*(qV (nR (x*((vX k)*(vX k))))))) (kS 1))) (jL y1) (cS pl45 uH uN) (by exact rfl))<|wR (kP jW)<|wE (kA (cL y1 (jM (x*((vX k)*(vX k)))) (((qV (nR (x*((vX k)*(vX k)))))*(qV (nR (x*((vX k)*(vX k))))):Int):Rat) (x*((vX k)*(vX k))) (jQ (kB (zB (z:=((qV (nR (x*((vX k)*(vX k)))))*(qV (nR (x*((vX k)*(vX k))))))) (n:=282) (gR.ln (yJ (k:=282) bn3 bn3 (by decide))) (by decide))) (by decide)) (jQ (kB bn2) (by decide))))<|wE xY<|wZ) ?_
 refine jH rfl (fun h1=>?_) (fun h1=>?_)
 ·replace h1:=vJ h1
  have hup:=upI_t h1
  have bn4:gR (kS ((qV (nR (x*((vX k)*(vX k)))))+1)) ((qV (nR (x*((vX k)*(vX k)))))+1) 142:=(iok_add (k:=142) bn3 (bI (z:=1) (by decide)) (by decide))
  refine kd [] [(6,some (bx (jT (kS ((qV (nR (x*((vX k)*(vX k)))))+1)))))] mo (wR (kP kD)<|wE (kA (t_of 1 (by decide) (by decide)))<|wE (kA (s_add bn3 (bI (z:=1) (by decide)) (by decide) (by decide)))<|wT (qF kD)<|wZ) ?_
  refine jB ?_
  have bn5:QL (Rat.divInt (qV (nR (x*((vX k)*(vX k))))) ((2 ^ k:Nat):Int)) 141:=(yP (n:=141) (Nat.le_trans (gR.ln bn3) (by decide)) (Nat.le_trans (gR.ln (dN (k:=k) (by omega))) (by decide)) (by decide))
  have bn6:QL (Rat.divInt ((qV (nR (x*((vX k)*(vX k)))))+1) ((2 ^ k:Nat):Int)) 142:=(yP (n:=142) (Nat.le_trans (gR.ln bn4) (by decide)) (Nat.le_trans (gR.ln (dN (k:=k) (by omega))) (by decide)) (by decide))
  refine kd [(6,(jK 0))] [(1,some y2),(2,some (bx (jL (jM (Rat.divInt ((qV (nR (x*((vX k)*(vX k)))))+1) ((2 ^ k:Nat):Int))))))] mo (wR (kP kD)<|wR (kP kD)<|wE (kA (cM y3 (kS ((2 ^ k:Nat):Int)) (qV (nR (x*((vX k)*(vX k))))) ((2 ^ k:Nat):Int) (iu bn3) (nA (dN (k:=k) (by omega)) (by decide)) (by assumption)))<|wR (kP kD)<|wR (kP kD)<|wE (kA (cM (kS ((qV (nR (x*((vX k)*(vX k)))))+1)) (kS ((2 ^ k:Nat):Int)) ((qV (nR (x*((vX k)*(vX k)))))+1) ((2 ^ k:Nat):Int) (iu bn4) (nA (dN (k:=k) (by omega)) (by decide)) (by assumption)))<|wT (qF jW)<|wT (qF jW)<|wM<|wZ) ?_
  refine jG ⟨_,(kJ (cs:=(bx (jL (jM (Rat.divInt (qV (nR (x*((vX k)*(vX k))))) ((2 ^ k:Nat):Int)))))) (d:=(jL (jM (Rat.divInt (qV (nR (x*((vX k)*(vX k))))) ((2 ^ k:Nat):Int))))) rfl rfl jW rfl rfl (kJ (cs:=(bx (jL (jM (Rat.divInt ((qV (nR (x*((vX k)*(vX k)))))+1) ((2 ^ k:Nat):Int)))))) (d:=(jL (jM (Rat.divInt ((qV (nR (x*((vX k)*(vX k)))))+1) ((2 ^ k:Nat):Int))))) rfl rfl jW rfl rfl (.tmp (d:=(.val (.int .i64 (((0:Nat):Int))))) rfl .nil))),?_⟩
  rw[hup];rfl
 ·replace h1:=vM h1
  have hup:=upI_f h1
  refine jF<|jB ?_
  have bn7:QL (Rat.divInt (qV (nR (x*((vX k)*(vX k))))) ((2 ^ k:Nat):Int)) 141:=(yP (n:=141) (Nat.le_trans (gR.ln bn3) (by decide)) (Nat.le_trans (gR.ln (dN (k:=k) (by omega))) (by decide)) (by decide))
  refine kd [(6,(jK 0))] [(1,some y2),(2,some y2)] mo (wR (kP kD)<|wR (kP kD)<|wE (kA (cM y3 (kS ((2 ^ k:Nat):Int)) (qV (nR (x*((vX k)*(vX k))))) ((2 ^ k:Nat):Int) (iu bn3) (nA (dN (k:=k) (by omega)) (by decide)) (by assumption)))<|wR (kP kD)<|wR (kP kD)<|wE (kA (cM y3 (kS ((2 ^ k:Nat):Int)) (qV (nR (x*((vX k)*(vX k))))) ((2 ^ k:Nat):Int) (iu bn3) (nA (dN (k:=k) (by omega)) (by decide)) (by assumption)))<|wT (qF jW)<|wT (qF jW)<|wM<|wZ) ?_
  refine jG ⟨_,(kJ (cs:=(bx (jL (jM (Rat.divInt (qV (nR (x*((vX k)*(vX k))))) ((2 ^ k:Nat):Int)))))) (d:=(jL (jM (Rat.divInt (qV (nR (x*((vX k)*(vX k))))) ((2 ^ k:Nat):Int))))) rfl rfl jW rfl rfl (kJ (cs:=(bx (jL (jM (Rat.divInt (qV (nR (x*((vX k)*(vX k))))) ((2 ^ k:Nat):Int)))))) (d:=(jL (jM (Rat.divInt (qV (nR (x*((vX k)*(vX k))))) ((2 ^ k:Nat):Int))))) rfl rfl jW rfl rfl (.tmp (d:=(.val (.int .i64 (((0:Nat):Int))))) rfl .nil))),?_⟩
  rw[hup];rfl
theorem cb91:callB Tryz.prog 91=true:=by kernel_rfl
theorem di_root(p:Rat)(q:Rat)(hp:QL p 100)(hq:QL q 100)(hpq:p≤q)(k:Nat)(hk:k≤512)(hp0_:0≤p):jS Tryz.prog 91 [(jD (jO.mk (jM p) (jM q))),(.val (.int .i64 (((k:Nat):Int))))] (.tup [(jD (jO.mk (jM (Rat.divInt (qV (nR (p*((vX k)*(vX k))))) ((2 ^ k:Nat):Int))) (jM (Rat.divInt (upI (q*((vX k)*(vX k)))) ((2 ^ k:Nat):Int))))),(.val (.int .i64 (0)))]):=by
 refine jJ Tryz.func91 rfl cb91 rfl ?_
 show qM _ _ _ _ ⟨[(0,(.d (jD (jO.mk (jM p) (jM q))))),(1,(jK k))],[]⟩
 refine jB<|kx [(2,(.ref 0 0)),(4,(.ref 1 0))] [(0,some (bx (jD (jO.mk (jM p) (jM q))))),(1,some (bx (jD (jO.mk kR kR))))] (zN (uY 0)<|zN (qW 1 qL qR)<|zM<|zZ) ?_
 refine jB<|jB<|kx [(14,(vb false))] [] (zR (kP jY)<|zE (kA (by have h:=fZ (jO.mk (jM p) (jM q)) (gV (⟨uA (jQ (kB hp) (by decide:100≤100)),uA (jQ (kB hq) (by decide:100≤100))⟩) (by decide));rw[show vA (jO.mk (jM p) (jM q))=true from zI hpq] at h;exact h))<|zE mT<|zZ) ?_
 refine kI ?_
 refine jF<|jB<|jB<|kx [(27,(vb false))] [] (zM<|zE (uR false xY (by exact decide_eq_false (show ¬ ((k:Nat):Int)<0 by omega)))<|zM<|zM<|zE (uR false gD (by exact decide_eq_false (show ¬ 512<((k:Nat):Int) by omega)))<|zE gE<|zM<|zE (qA vT)<|zR (kP jW)<|zE (kA (f_sign (jM p) p (jQ (kB hp) (by decide))))<|zE (uR false xY (by exact decide_eq_false (sgn_nn hp0_)))<|zE gE<|zZ) ?_
 refine kI ?_
 refine jF<|jB ?_
 have bn1:QL (Rat.divInt (qV (nR (p*((vX k)*(vX k))))) ((2 ^ k:Nat):Int)) 141:=(yP (n:=141) (Nat.le_trans (gR.ln (iok_root (fl_nn (aN hp0_)) (aK (k:=141) (uC (k:=140) hp (uC (k:=40) (eL (k:=k) (by omega)) (eL (k:=k) (by omega)) (by decide)) (by decide)) (by decide)))) (by decide)) (Nat.le_trans (gR.ln (dN (k:=k) (by omega))) (by decide)) (by decide))
 have bn2:QL (Rat.divInt (upI (p*((vX k)*(vX k)))) ((2 ^ k:Nat):Int)) 142:=(yP (n:=142) (Nat.le_trans (gR.ln (iok_upI (k:=142) (fl_nn (aN hp0_)) (aK (k:=141) (uC (k:=140) hp (uC (k:=40) (eL (k:=k) (by omega)) (eL (k:=k) (by omega)) (by decide)) (by decide)) (by decide)) (by decide) (by decide))) (by decide)) (Nat.le_trans (gR.ln (dN (k:=k) (by omega))) (by decide)) (by decide))
 refine kx [(6,(.ref 2 0))] [(2,some (bx (jL (jM (Rat.divInt (qV (nR (p*((vX k)*(vX k))))) ((2 ^ k:Nat):Int)))))),(3,none)] (zE (qA vT)<|zR (kP jW)<|zM<|zE (kA (d_froot p hp k (by omega) hp0_))<|zM<|zE vI<|zE vI<|zE vI<|zN (qW 2 uH uN)<|zN (qW 3 uH uN)<|zT (qF jW)<|zT (qF jW)<|zM<|zZ) ?_
 refine jB ?_
 have bn3:QL (Rat.divInt (qV (nR (q*((vX k)*(vX k))))) ((2 ^ k:Nat):Int)) 141:=(yP (n:=141) (Nat.le_trans (gR.ln (iok_root (fl_nn (aN (Rat.le_trans hp0_ hpq))) (aK (k:=141) (uC (k:=140) hq (uC (k:=40) (eL (k:=k) (by omega)) (eL (k:=k) (by omega)) (by decide)) (by decide)) (by decide)))) (by decide)) (Nat.le_trans (gR.ln (dN (k:=k) (by omega))) (by decide)) (by decide))
 have bn4:QL (Rat.divInt (upI (q*((vX k)*(vX k)))) ((2 ^ k:Nat):Int)) 142:=(yP (n:=142) (Nat.le_trans (gR.ln (iok_upI (k:=142) (fl_nn (aN (Rat.le_trans hp0_ hpq))) (aK (k:=141) (uC (k:=140) hq (uC (k:=40) (eL (k:=k) (by omega)) (eL (k:=k) (by omega)) (by decide)) (by decide)) (by decide)) (by decide) (by decide))) (by decide)) (Nat.le_trans (gR.ln (dN (k:=k) (by omega))) (by decide)) (by decide))
 refine kx [(10,(.ref 5 0))] [(5,some (bx (jL (jM (Rat.divInt (upI (q*((vX k)*(vX k)))) ((2 ^ k:Nat):Int)))))),(4,none)] (zE (qA xF)<|zR (kP jW)<|zM<|zE (kA (d_froot q hq k (by omega) (Rat.le_trans hp0_ hpq)))<|zM<|zE vI<|zE vI<|zE vI<|zN (qW 4 uH uN)<|zN (qW 5 uH uN)<|zT (qF jW)<|zT (qF jW)<|zM<|zZ) ?_
 refine jB<|kx [(5,(jK 0))] [(1,some (bx (jD (jO.mk (jM (Rat.divInt (qV (nR (p*((vX k)*(vX k))))) ((2 ^ k:Nat):Int))) (jM (Rat.divInt (upI (q*((vX k)*(vX k)))) ((2 ^ k:Nat):Int)))))))] (zR (kP jW)<|zR (kP jW)<|zE (cS pl61 qL qR)<|zT (qF jY)<|zM<|zZ) ?_
 refine jG ⟨_,(kJ (cs:=(bx (jD (jO.mk (jM (Rat.divInt (qV (nR (p*((vX k)*(vX k))))) ((2 ^ k:Nat):Int))) (jM (Rat.divInt (upI (q*((vX k)*(vX k)))) ((2 ^ k:Nat):Int))))))) (d:=(jD (jO.mk (jM (Rat.divInt (qV (nR (p*((vX k)*(vX k))))) ((2 ^ k:Nat):Int))) (jM (Rat.divInt (upI (q*((vX k)*(vX k)))) ((2 ^ k:Nat):Int)))))) rfl rfl jY rfl rfl (.tmp (d:=(.val (.int .i64 (((0:Nat):Int))))) rfl .nil)),?_⟩
 rfl
theorem cb14:callB Tryz.prog 14=true:=by kernel_rfl
theorem cb27:callB Tryz.prog 27=true:=by kernel_rfl
theorem m_vlist(l:List kF)(hl:zU 1048576 l):jS Tryz.prog 14 [(.sl 45 4 (List.map jL l))] (.val (.bool ((cQ l)))):=by
 have hb:=hl.2
 refine jJ Tryz.func14 rfl cb14 rfl ?_
 show qM _ _ _ _ ⟨[(0,(vl 45 4 jL l))],[]⟩
 refine jB<|kx [] [] (zM<|zZ) ?_
 refine jB<|jB<|kx [(3,(jK 0))] [] (zM<|zZ) ?_
 refine jI<|kM (α:=Nat) (fun i=>⟨[(0,(vl 45 4 jL l)),(3,(jK i))],[]⟩) (fun i=>i≤l.length∧(l.take i).all kW=true) (fun i=>l.length-i) 0 wk ⟨Nat.zero_le _,by simp⟩ ?_
 rintro i ⟨hi,hal⟩
 refine jB<|jB<|kx [(7,(vb (decide (((i:Nat):Int)<((l.length:Nat):Int)))))] [] (zM<|zM<|zE (zD vE)<|zE xY<|zZ) ?_
 refine jH rfl (fun h1=>?_) (fun h1=>?_)
 ·replace h1:=vJ h1
  refine jF<|jB<|jI<|jB<|kx [(15,(vb (!(kW (l.getD i kR)))))] [] (zM<|zM<|zE (nE vE i kR)<|zE (gN jW)<|zE (kA (iA (l.getD i kR) (qN (l.getD i kR)) (jQ (xZ hl.1 (show i<l.length by omega)) (by decide))))<|zE mT<|zZ) ?_
  refine jH rfl (fun h2=>?_) (fun h2=>?_)
  ·refine jB<|kx [(2,(vb false))] [] (zM<|zZ) ?_
   refine jG ⟨_,(.tmp (d:=(.val (.bool (false)))) rfl .nil),?_⟩
   rw[show cQ l=false from all_not (f:=kW) (l:=l) (i:=i) (d:=kR) (by omega) (by simpa using h2)];rfl
  ·refine jF<|kx [(3,(jK (i+1)))] [] (zM<|zE (xE (i+1))<|zM<|zZ) ?_
   exact ⟨(i+1),wk,⟨by omega,all_take (d:=kR) (by omega) hal (by simpa using h2)⟩,(by first|omega|(dsimp only;omega))⟩
 ·replace h1:=vM h1
  have hie:i=l.length:=by omega
  rw[hie,List.take_length] at hal
  refine kL<|jB<|kx [(2,(vb true))] [] (zM<|zZ) ?_
  refine jG ⟨_,(.tmp (d:=(.val (.bool (true)))) rfl .nil),?_⟩
  rw[show cQ l=true from hal];rfl
theorem p_cov(x:kF)(p:Rat)(hx:gX x p 200)(a:kF)(q:Rat)(ha:gX a q 200)(b:kF)(r:Rat)(hb:gX b r 200)(y:kF)(s:Rat)(hy:gX y s 200)(gx:kW x=true)(ga:kW a=true)(gb:kW b=true)(gy:kW y=true)(hq:¬ (mB q)<0)(hr:¬ (mB r)<0):jS Tryz.prog 27 [(jL x),(jL a),(jL b),(jL y)] (.tup [(.val (.bool ((decide ((yE ((s-p)*(s-p)) (q*r))≤0))))),(.val (.int .i64 (((0:Nat):Int))))]):=by
 refine jJ Tryz.func27 rfl cb27 rfl ?_
 show qM _ _ _ _ ⟨[(0,(.d (jL x))),(1,(.d (jL a))),(2,(.d (jL b))),(3,(.d (jL y)))],[]⟩
 refine jB<|kx [(4,(.ref 0 0)),(5,(.ref 1 0)),(6,(.ref 2 0)),(7,(.ref 3 0))] [(0,some (bx (jL x))),(1,some (bx (jL a))),(2,some (bx (jL b))),(3,some (bx (jL y)))] (zN (uY 0)<|zN (uY 1)<|zN (uY 2)<|zN (uY 3)<|zM<|zM<|zZ) ?_
 refine jB<|jB<|kx [(17,(vl 45 4 jL [x,a,b,y])),(18,(jK 4)),(19,(jK 0))] [] (zR (kP jW)<|zR (kP jW)<|zR (kP jW)<|zR (kP jW)<|zE (mC vE uH uN)<|zE (oLn vE 4)<|zM<|zZ) ?_
 refine jI<|pwp_rounds 5 ?_
 refine pwp_round<|jB<|kx [(20,(vb true))] [] (zE (uR true xY)<|zZ) ?_
 refine jB<|uD ?_
 refine jF<|jB<|jI<|jB<|kx [(11,(.ref 4 0))] [(4,some (bx (jL x)))] (zE (oXs vE 0)<|zE (gN jW)<|zN (qW 4 uH uN)<|zT (qF jW)<|zZ) ?_
 refine jB<|kx [(25,(vb false))] [] (zR (kP jW)<|zE (uR true (kA (cE x p (jQ hx (by decide)))) (by exact gx))<|zE mT<|zZ) ?_
 refine kI ?_
 refine jF<|kx [(19,(jK 1))] [] (zE (xE 1 (hr:=by decide))<|zM<|zZ) ?_
 refine fD (xU.refl _) ?_
 refine jB<|kx [(20,(vb true))] [] (zE (uR true xY)<|zZ) ?_
 refine jB<|uD ?_
 refine jF<|jB<|jI<|jB<|kx [(11,(.ref 5 0))] [(5,some (bx (jL a)))] (zE (oXs vE 1)<|zE (gN jW)<|zN (qW 5 uH uN)<|zT (qF jW)<|zZ) ?_
 refine jB<|kx [(25,(vb false))] [] (zR (kP jW)<|zE (uR true (kA (cE a q (jQ ha (by decide)))) (by exact ga))<|zE mT<|zZ) ?_
 refine kI ?_
 refine jF<|kx [(19,(jK 2))] [] (zE (xE 2 (hr:=by decide))<|zM<|zZ) ?_
 refine fD (xU.refl _) ?_
 refine jB<|kx [(20,(vb true))] [] (zE (uR true xY)<|zZ) ?_
 refine jB<|uD ?_
 refine jF<|jB<|jI<|jB<|kx [(11,(.ref 6 0))] [(6,some (bx (jL b)))] (zE (oXs vE 2)<|zE (gN jW)<|zN (qW 6 uH uN)<|zT (qF jW)<|zZ) ?_
 refine jB<|kx [(25,(vb false))] [] (zR (kP jW)<|zE (uR true (kA (cE b r (jQ hb (by decide)))) (by exact gb))<|zE mT<|zZ) ?_
 refine kI ?_
 refine jF<|kx [(19,(jK 3))] [] (zE (xE 3 (hr:=by decide))<|zM<|zZ) ?_
 refine fD (xU.refl _) ?_
 refine jB<|jV (wk (l:=[(4,(.ref 0 0)),(5,(.ref 1 0)),(6,(.ref 2 0)),(7,(.ref 3 0)),(17,(vl 45 4 jL [x,a,b,y])),(18,(jK 4)),(19,(jK 3))]) (b:=[(0,some (bx (jL x))),(1,some (bx (jL a))),(2,some (bx (jL b))),(3,some (bx (jL y)))])) ?_
 refine kx [(20,(vb true))] [] (zE (uR true xY)<|zZ) ?_
 refine jB<|uD ?_
 refine jF<|jB<|jI<|jB<|kx [(11,(.ref 7 0))] [(7,some (bx (jL y)))] (zE (oXs vE 3)<|zE (gN jW)<|zN (qW 7 uH uN)<|zT (qF jW)<|zZ) ?_
 refine jB<|kx [(25,(vb false))] [] (zR (kP jW)<|zE (uR true (kA (cE y s (jQ hy (by decide)))) (by exact gy))<|zE mT<|zZ) ?_
 refine kI ?_
 refine jF<|kx [(19,(jK 4))] [] (zE (xE 4 (hr:=by decide))<|zM<|zZ) ?_
 refine fD (xU.refl _) ?_
 refine jB<|kx [(20,(vb false))] [] (zE (uR false xY)<|zZ) ?_
 refine jB<|kI ?_
 refine kL<|jB<|jB<|kx [(34,(vb false))] [] (zR (kP jW)<|zE (kA (f_sign a q (jQ ha (by decide))))<|zE (uR false xY (by exact decide_eq_false hq))<|zM<|zR (kP jW)<|zE (kA (f_sign b r (jQ hb (by decide))))<|zE (uR false xY (by exact decide_eq_false hr))<|zE gE<|zZ) ?_
 refine kI ?_
 refine jF<|jB<|kx [(12,(.ref 8 0))] [(8,some (bx (jL (jM (s-p)))))] (zR (kP jW)<|zR (kP jW)<|zE (kA (f_sub y x s p (jQ hy (by decide)) (jQ hx (by decide))))<|zN (qW 8 uH uN)<|zT (qF jW)<|zZ) ?_
 refine jB<|kd [(8,(vb (decide ((yE ((s-p)*(s-p)) (r*q))≤((0:Nat):Int))))),(9,(jK 0))] [] mo (wR (kP jW)<|wR (kP jW)<|wE (kA (eS (jM (s-p)) (jM (s-p)) (s-p) (s-p) (jQ (kB (aP (k:=401) hy.ql hx.ql (by decide))) (by decide)) (jQ (kB (aP (k:=401) hy.ql hx.ql (by decide))) (by decide))))<|wR (kP jW)<|wR (kP jW)<|wE (kA (eS b a r q (jQ hb (by decide)) (jQ ha (by decide))))<|wE (kA (cL (jM ((s-p)*(s-p))) (jM (r*q)) ((s-p)*(s-p)) (r*q) (jQ (kB (uC (k:=802) (aP (k:=401) hy.ql hx.ql (by decide)) (aP (k:=401) hy.ql hx.ql (by decide)) (by decide))) (by decide)) (jQ (kB (uC (k:=400) hb.ql ha.ql (by decide))) (by decide))))<|wE oLe<|wM<|wM<|wZ) ?_
 refine jG ⟨_,(.tmp (d:=(.val (.bool (decide ((yE ((s-p)*(s-p)) (r*q))≤((0:Nat):Int)))))) rfl (.tmp (d:=(.val (.int .i64 (((0:Nat):Int))))) rfl .nil)),?_⟩
 rw[Rat.mul_comm q r];rfl
def zQ(zs:List Int):List Rat:=zs.map fun z:Int=>(z:Rat)
theorem zQ_ql{zs:List Int}(h:∀ z∈zs,-9223372036854775808≤z∧z≤9223372036854775807):∀ q∈zQ zs,QL q 3:=fun q hq=>by
 obtain ⟨z,hz,rfl⟩:=List.mem_map.1 hq
 exact zB (mM (h z hz).1 (h z hz).2) (by decide)
theorem zQ_row{zs:List Int}{n:Nat}(h:∀ z∈zs,-9223372036854775808≤z∧z≤9223372036854775807)(hn:3≤n)(hl:zs.length≤1000000):zU n (List.map jM (zQ zs)):=iK (fun q hq=>xW (zQ_ql h q hq) hn) (by unfold zQ;rw[List.length_map];exact hl)
def kT:List qC:=[⟨1,0,0,zr⟩,⟨1,1,0,zr⟩,⟨4,0,1,zr⟩]
def kX:List Rat:=zQ [2,3]
def kQ:List (List kF):=[List.map jM (zQ [1,0]),List.map jM (zQ [0,4])]
def kE:List (List kF):=[List.map jM (zQ [5,4]),List.map jM (zQ [4,5])]
theorem kX_ql:∀ q∈kX,QL q 1048576:=fun q hq=>xW (zQ_ql (by decide) q hq) (by decide)
theorem kT_ok:∀ x∈kT,gX x.n (qN x.n) 1048576:=fun x hx=>by
 have:x.n=zr:=by
  unfold kT at hx
  simp only[List.mem_cons,List.not_mem_nil,or_false] at hx
  rcases hx with rfl | rfl | rfl<;>rfl
 rw[this]
 exact ⟨rfl,by decide,by decide,by decide⟩
theorem kQ_ok:mO 1048576 kQ:=⟨fun r hr=>by
 unfold kQ at hr
 simp only[List.mem_cons,List.not_mem_nil,or_false] at hr
 rcases hr with rfl | rfl<;>exact zQ_row (by decide) (by decide) (by decide),by decide⟩
theorem kE_ok:mO 6 kE:=⟨fun r hr=>by
 unfold kE at hr
 simp only[List.mem_cons,List.not_mem_nil,or_false] at hr
 rcases hr with rfl | rfl<;>exact zQ_row (by decide) (by decide) (by decide),by decide⟩
theorem vrow_of(l:List Rat):cQ (List.map jM l)=true:=by
 unfold cQ
 rw[List.all_eq_true]
 intro a ha
 obtain ⟨r,h1,rfl⟩:=List.mem_map.1 ha
 exact cK _
theorem kQ_rect:eO kQ kQ.length kX.length:=⟨rfl,fun l hl=>by
 unfold kQ at hl
 simp only[List.mem_cons,List.not_mem_nil,or_false] at hl
 rcases hl with rfl | rfl<;>exact ⟨rfl,vrow_of _⟩,by decide,by decide,by decide,by decide⟩
theorem kE_rect:eO kE 2 2:=⟨rfl,fun l hl=>by
 unfold kE at hl
 simp only[List.mem_cons,List.not_mem_nil,or_false] at hl
 rcases hl with rfl | rfl<;>exact ⟨rfl,vrow_of _⟩,by decide,by decide,by decide,by decide⟩
theorem kE_chk:mchk kE=0:=rect_chk kE_rect
theorem eqm2{a b c d:Rat}(h:b=c):symB [[jM a,jM b],[jM c,jM d]]=true:=by
 refine sym_yes fun i hi j hj=>?_
 match i,j,hi,hj with
 |1,0,_,_=>exact decide_eq_true (by subst h;rfl)
theorem kQ_fit:fitC kQ kX.length=0:=fit_ok ⟨rfl,rfl⟩ (eqm2 rfl)
theorem kE_fit:fitC kE kE.length=0:=fit_ok ⟨rfl,rfl⟩ (eqm2 rfl)
instance (n:Nat) (a:R2):Decidable (GL n a):=by unfold GL QL;infer_instance
theorem kT_run:JRun (List.map xV kX) kT:=by
 refine ⟨by decide +kernel,fun k hk=>?_,fun k hk=>?_⟩
 ·match k,hk with
  |0,_=>exact ⟨by decide +kernel,by decide +kernel,rfl⟩
  |1,_=>exact ⟨by decide +kernel,by decide +kernel,rfl⟩
  |2,_=>exact ⟨by decide +kernel,by decide +kernel,rfl⟩
 ·match k,hk with
  |0,_=>intro h;revert h;decide
  |1,_=>intro h;revert h;decide
  |2,_=>intro h;revert h;decide
theorem kGr:gU kX kT=[jM 3,jM 2]:=by
 unfold gU
 rw[show (xJ (List.map xV kX) kT).g=[(3,3),(2,2)] by decide +kernel]
 rfl
theorem kVar:covR kQ (gU kX kT) (gU kX kT)=25:=by
 rw[kGr]
 show 0+qN (jM 3)*qN (jM (0+qN (jM 1)*qN (jM 3)+qN (jM 0)*qN (jM 2)))+qN (jM 2)*qN (jM (0+qN (jM 0)*qN (jM 3)+qN (jM 4)*qN (jM 2)))=25
 simp only[hH]
 decide +kernel
theorem kEa:qN ((kE.getD 0 []).getD 0 kR)=5:=by
 show qN (jM ((5:Int):Rat))=5
 rw[hH];rfl
theorem kEb:qN ((kE.getD 1 []).getD 1 kR)=5:=by
 show qN (jM ((5:Int):Rat))=5
 rw[hH];rfl
theorem kEc:qN ((kE.getD 0 []).getD 1 kR)=4:=by
 show qN (jM ((4:Int):Rat))=4
 rw[hH];rfl
theorem zs_at{zs:List Int}(h:∀ z∈zs,-9223372036854775808≤z∧z≤9223372036854775807){i:Nat}(hi:i<zs.length):-9223372036854775808≤zs.getD i 0∧zs.getD i 0≤9223372036854775807:=by
 rw[List.getD_eq_getElem?_getD,List.getElem?_eq_getElem hi];exact h _ (List.getElem_mem _)
theorem rng2{a b c d:Rat}(h1:a=c)(h2:b=d):jO.mk (jM a) (jM b)=jO.mk (jM c) (jM d):=by rw[h1,h2]
theorem rng_all{f:Nat→Bool}{n:Nat}(h:∀ a,a<n→f a=true):(List.range n).all f=true:=List.all_eq_true.2 fun a ha=>h a (List.mem_range.1 ha)
theorem rng_no{f:Nat→Bool}{n i:Nat}(hi:i<n)(h:f i=false):(List.range n).all f=false:=by
 cases hb:(List.range n).all f with
 |false=>rfl
 |true=>rw[List.all_eq_true.1 hb i (List.mem_range.2 hi)] at h;cases h
theorem up_all{f:Nat→Bool}{i:Nat}(h:∀ a,a<i→f a=true)(hi:f i=true):∀ a,a<i+1→f a=true:=fun a ha=>by
 rcases Nat.lt_or_ge a i with h1 | h1
 ·exact h a h1
 ·obtain rfl:a=i:=by omega
  exact hi
def sameL(l k:List kF):Bool:=decide (l.length=k.length)&&(List.range l.length).all fun i=>mH (l.getD i kR) (k.getD i kR)
theorem sameL_len{l k:List kF}(h:((l.length:Nat):Int)≠((k.length:Nat):Int)):sameL l k=false:=by unfold sameL;rw[decide_eq_false (by omega),Bool.false_and]
theorem sameL_no{l k:List kF}{i:Nat}(hi:i<l.length)(h:mH (l.getD i kR) (k.getD i kR)=false):sameL l k=false:=by unfold sameL;rw[rng_no hi h,Bool.and_false]
theorem sameL_yes{l k:List kF}(h0:((l.length:Nat):Int)=((k.length:Nat):Int))(h:∀ a,a<l.length→mH (l.getD a kR) (k.getD a kR)=true):sameL l k=true:=by unfold sameL;rw[decide_eq_true (by omega),rng_all h];rfl
theorem same_valid{x y:kF}(hx:kW x=true)(hy:kW y=true):mH x y=decide (qN x=qN y):=by
 rw[← ofQ_toQ hx,← ofQ_toQ hy,sameR_of,hH,hH]
def brX(x:kF):Bool:=if (decide (1<((x.num.gs.length:Nat):Int))||decide (1<((x.den.gs.length:Nat):Int)))=true then false else
 ((((x.num.gs.length:Nat):Int) == 0)||decide (((x.num.gs.getD 0 0:Nat):Int)<100000))&&((((x.den.gs.length:Nat):Int) == 0)||decide (((x.den.gs.getD 0 0:Nat):Int)≤100))
def shX(n:Nat)(x:kF):Bool:=!(decide (((n:Nat):Int)<((digR x:Nat):Int))||(decide (((n:Nat):Int)≤6)&&!(brX x)))
theorem shX_t{n:Nat}{x:kF}(h:(decide (((n:Nat):Int)<((digR x:Nat):Int))||(decide (((n:Nat):Int)≤6)&&!(brX x)))=true):shX n x=false:=by unfold shX;rw[h];rfl
theorem shX_f{n:Nat}{x:kF}(h:(decide (((n:Nat):Int)<((digR x:Nat):Int))||(decide (((n:Nat):Int)≤6)&&!(brX x)))=false):shX n x=true:=by unfold shX;rw[h];rfl
theorem shX_le{n:Nat}{x:kF}(h:shX n x=true):digR x≤n:=by
 unfold shX at h
 rw[Bool.not_eq_true',Bool.or_eq_false_iff,decide_eq_false_iff_not] at h
 omega
def shR(c n:Nat)(l:List kF):Bool:=decide (l.length≤c)&&l.all (shX n)
theorem all_up{α:Type}{f:α→Bool}{l:List α}{i:Nat}{d:α}(h:i<l.length)(ha:(l.take i).all f=true)(hf:f (l.getD i d)=true):(l.take (i+1)).all f=true:=by
 rw[take_all (d:=d) h,ha,hf];rfl
theorem all_no{α:Type}{f:α→Bool}{l:List α}{i:Nat}{d:α}(h:i<l.length)(hf:f (l.getD i d)=false):l.all f=false:=by
 cases hb:l.all f with
 |false=>rfl
 |true=>
  rw[List.getD_eq_getElem?_getD,List.getElem?_eq_getElem h,Option.getD_some,List.all_eq_true.1 hb _ (List.getElem_mem h)] at hf;cases hf
theorem shR_long{c n:Nat}{l:List kF}(h:((c:Nat):Int)<((l.length:Nat):Int)):shR c n l=false:=by unfold shR;rw[decide_eq_false (by omega)];rfl
theorem shR_no{c n:Nat}{l:List kF}(h:(l.all (shX n))=false):shR c n l=false:=by unfold shR;rw[h,Bool.and_false]
theorem shR_yes{c n:Nat}{l:List kF}(h0:¬ ((c:Nat):Int)<((l.length:Nat):Int))(h:(l.all (shX n))=true):shR c n l=true:=by unfold shR;rw[decide_eq_true (by omega),h];rfl
section
variable {A B C r l:Rat}
end
theorem cb16:callB Tryz.prog 16=true:=by kernel_rfl
theorem s_list(l:List kF)(hl:zU 1048576 l)(k:List kF)(hk:zU 1048576 k):jS Tryz.prog 16 [(.sl 45 4 (List.map jL l)),(.sl 45 4 (List.map jL k))] (.val (.bool ((sameL l k)))):=by
 have hlb:=hl.2
 have hkb:=hk.2
 let y1:=kR
 refine jJ Tryz.func16 rfl cb16 rfl ?_
 show qM _ _ _ _ ⟨[(0,(vl 45 4 jL l)),(1,(vl 45 4 jL k))],[]⟩
 refine jB<|kx [] [] (zM<|zZ) ?_
 refine jB<|jB<|kx [(10,(vb (((l.length:Nat):Int) != ((k.length:Nat):Int))))] [] (zM<|zE (zD vE)<|zM<|zE (zD vE)<|zE cR<|zZ) ?_
 refine jH rfl (fun h1=>?_) (fun h1=>?_)
 ·replace h1:=bne_iff_ne.1 h1
  refine jB<|kx [(4,(vb false))] [] (zM<|zZ) ?_
  refine jG ⟨_,(.tmp (d:=(.val (.bool (false)))) rfl .nil),?_⟩
  rw[sameL_len h1];rfl
 ·replace h1:=bne_eq_false_iff_eq.1 h1
  have hlk:=h1
  refine jF<|jB<|jB<|kx [(5,(jK 0))] [] (zM<|zZ) ?_
  refine jI<|kM (α:=Nat) (fun i=>⟨[(0,(vl 45 4 jL l)),(1,(vl 45 4 jL k)),(5,(jK i))],[]⟩) (fun i=>i≤l.length∧∀ a,a<i→mH (l.getD a y1) (k.getD a y1)=true) (fun i=>l.length-i) 0 wk ⟨Nat.zero_le _,fun a h=>by omega⟩ ?_
  rintro i ⟨hi,he⟩
  refine jB<|jB<|kx [(14,(vb (decide (((i:Nat):Int)<((l.length:Nat):Int)))))] [] (zM<|zM<|zE (zD vE)<|zE xY<|zZ) ?_
  refine jH rfl (fun h2=>?_) (fun h2=>?_)
  ·replace h2:=vJ h2
   refine jF<|jB<|jI<|jB<|kd [(26,(vb (!(mH (l.getD i y1) (k.getD i y1)))))] [] mo (wM<|wM<|wE (nE vE i y1)<|wE (gN jW)<|wM<|wM<|wE (nE vE i y1)<|wE (gN jW)<|wE (kA (g_same (l.getD i y1) (k.getD i y1) (qN (l.getD i y1)) (qN (k.getD i y1)) (jQ (xZ hl.1 (show i<l.length by omega)) (by decide)) (jQ (xZ hk.1 (show i<k.length by omega)) (by decide))))<|wE mT<|wZ) ?_
   refine jH rfl (fun h3=>?_) (fun h3=>?_)
   ·refine jB<|kx [(4,(vb false))] [] (zM<|zZ) ?_
    refine jG ⟨_,(.tmp (d:=(.val (.bool (false)))) rfl .nil),?_⟩
    rw[sameL_no (i:=i) (by omega) (by simpa using h3)];rfl
   ·refine jF<|kx [(5,(jK (i+1)))] [] (zM<|zE (xE (i+1))<|zM<|zZ) ?_
    exact ⟨i+1,wk,⟨by omega,up_all he (by simpa using h3)⟩,(by first|omega|(dsimp only;omega))⟩
  ·replace h2:=vM h2
   have hie:i=l.length:=by omega
   subst hie
   refine kL<|jB<|kx [(4,(vb true))] [] (zM<|zZ) ?_
   refine jG ⟨_,(.tmp (d:=(.val (.bool (true)))) rfl .nil),?_⟩
   rw[sameL_yes hlk he];rfl
theorem cb46:callB Tryz.prog 46=true:=by kernel_rfl
theorem cb104:callB Tryz.prog 104=true:=by kernel_rfl
theorem u_brief(x:kF)(p:Rat)(hx:gX x p 140737488355328):jS Tryz.prog 104 [(jL x)] (.val (.bool ((brX x)))):=by
 refine jJ Tryz.func104 rfl cb104 rfl ?_
 show qM _ _ _ _ ⟨[(0,(.d (jL x)))],[]⟩
 refine jB<|kx [(1,(.ref 0 0))] [(0,some (bx (jL x)))] (zN (uY 0)<|zM<|zZ) ?_
 refine jB<|kd [(3,(vl 140 1 jE x.num.gs)),(4,(vl 140 1 jE x.den.gs))] [] mo (wE (qA yA)<|wE (qA xN)<|wR (qX yH)<|wE (qA xS)<|wE (qA xN)<|wR (qX yH)<|wM<|wM<|wZ) ?_
 refine jB<|jB<|kx [(18,(vb (decide (1<((x.num.gs.length:Nat):Int))||decide (1<((x.den.gs.length:Nat):Int)))))] [] ?_ ?_
 ·refine zM<|zE (zD kV)<|zE gD<|zE (oV (vb (decide (1<((x.num.gs.length:Nat):Int)))) (qQ (by kernel_rfl)))<|?_
  rcases hb1:(decide (1<((x.num.gs.length:Nat):Int))) with _ | _
  ·replace hb1:=vM hb1
   exact zM<|zE (zD kV)<|zE gD<|zE fU<|zZ
  ·replace hb1:=vJ hb1
   exact zK<|zK<|zK<|zE nY<|zZ
 refine jH rfl (fun h2=>?_) (fun h2=>?_)
 ·refine jB<|kx [(2,(vb false))] [] (zM<|zZ) ?_
  refine jG ⟨_,(.tmp (d:=(.val (.bool (false)))) rfl .nil),?_⟩
  unfold brX;rw[if_pos h2];rfl
 ·refine jF<|jB<|kx [(2,(vb (((((x.num.gs.length:Nat):Int) == 0)||decide ((((x.num.gs.getD 0 0):Nat):Int)<100000))&&((((x.den.gs.length:Nat):Int) == 0)||decide ((((x.den.gs.getD 0 0):Nat):Int)≤100)))))] [] ?_ ?_
  ·refine zM<|zE (zD kV)<|zE xR<|zE (oV (vb (((x.num.gs.length:Nat):Int) == 0)) (qQ (by kernel_rfl)))<|?_
   rcases hb3:(((x.num.gs.length:Nat):Int) == 0) with _ | _
   ·replace hb3:=ne_of_beq_false hb3
    refine zM<|zE (nE kV 0 (0:Nat))<|zE (nC uG)<|zE xY<|zE fU<|zE (oV (vb (false||decide ((((x.num.gs.getD 0 0):Nat):Int)<100000))) (qQ (by kernel_rfl)))<|?_
    rcases hb4:(false||decide ((((x.num.gs.getD 0 0):Nat):Int)<100000)) with _ | _
    ·exact zK<|zK<|zK<|zK<|zK<|zK<|zK<|zK<|zK<|zE gE<|zM<|zZ
    ·refine zM<|zE (zD kV)<|zE xR<|zE (oV (vb (((x.den.gs.length:Nat):Int) == 0)) (qQ (by kernel_rfl)))<|?_
     rcases hb5:(((x.den.gs.length:Nat):Int) == 0) with _ | _
     ·replace hb5:=ne_of_beq_false hb5
      exact zM<|zE (nE kV 0 (0:Nat))<|zE (nC uG)<|zE oLe<|zE fU<|zE fA<|zM<|zZ
     ·replace hb5:=eq_of_beq hb5
      exact zK<|zK<|zK<|zK<|zE nY<|zE nY<|zM<|zZ
   ·replace hb3:=eq_of_beq hb3
    refine zK<|zK<|zK<|zK<|zE nY<|zM<|zM<|zE (zD kV)<|zE xR<|zE (oV (vb (((x.den.gs.length:Nat):Int) == 0)) (qQ (by kernel_rfl)))<|?_
    rcases hb6:(((x.den.gs.length:Nat):Int) == 0) with _ | _
    ·replace hb6:=ne_of_beq_false hb6
     exact zM<|zE (nE kV 0 (0:Nat))<|zE (nC uG)<|zE oLe<|zE fU<|zE fA<|zM<|zZ
    ·replace hb6:=eq_of_beq hb6
     exact zK<|zK<|zK<|zK<|zE nY<|zE nY<|zM<|zZ
  refine jG ⟨_,(.tmp (d:=(.val (.bool ((((((x.num.gs.length:Nat):Int) == 0)||decide ((((x.num.gs.getD 0 0):Nat):Int)<100000))&&((((x.den.gs.length:Nat):Int) == 0)||decide ((((x.den.gs.getD 0 0):Nat):Int)≤100))))))) rfl .nil),?_⟩
  unfold brX;rw[if_neg (by rw[h2];decide)];rfl
theorem u_short(l:List kF)(hl:zU 140737488355328 l)(c:Nat)(hc:c≤1000)(n:Nat)(hn:n≤1000):jS Tryz.prog 46 [(.sl 45 4 (List.map jL l)),(.val (.int .i64 (((c:Nat):Int)))),(.val (.int .i64 (((n:Nat):Int))))] (.val (.bool ((shR c n l)))):=by
 have hb:=hl.2
 let y1:=kR
 refine jJ Tryz.func46 rfl cb46 rfl ?_
 show qM _ _ _ _ ⟨[(0,(vl 45 4 jL l)),(1,(jK c)),(2,(jK n))],[]⟩
 refine jB<|kx [] [] (zM<|zZ) ?_
 refine jB<|jB<|kx [(11,(vb (decide (((c:Nat):Int)<((l.length:Nat):Int)))))] [] (zM<|zE (zD vE)<|zM<|zE gD<|zZ) ?_
 refine jH rfl (fun h1=>?_) (fun h1=>?_)
 ·replace h1:=vJ h1
  refine jB<|kx [(6,(vb false))] [] (zM<|zZ) ?_
  refine jG ⟨_,(.tmp (d:=(.val (.bool (false)))) rfl .nil),?_⟩
  rw[shR_long (by omega)];rfl
 ·replace h1:=vM h1
  have hlk:=h1
  refine jF<|jB<|jB<|kx [(7,(jK 0))] [] (zM<|zZ) ?_
  refine jI<|kM (α:=Nat) (fun i=>⟨[(0,(vl 45 4 jL l)),(2,(jK n)),(7,(jK i))],[]⟩) (fun i=>i≤l.length∧(l.take i).all (shX n)=true) (fun i=>l.length-i) 0 wk ⟨Nat.zero_le _,by simp⟩ ?_
  rintro i ⟨hi,hal⟩
  refine jB<|jB<|kx [(15,(vb (decide (((i:Nat):Int)<((l.length:Nat):Int)))))] [] (zM<|zM<|zE (zD vE)<|zE xY<|zZ) ?_
  refine jH rfl (fun h2=>?_) (fun h2=>?_)
  ·replace h2:=vJ h2
   refine jF<|jB<|jI<|jB<|kx [(36,(vb (decide (((n:Nat):Int)<(((digR (l.getD i y1)):Nat):Int))||(decide (((n:Nat):Int)≤6)&&!(brX (l.getD i y1))))))] [] ?_ ?_
   ·refine zM<|zM<|zE (nE vE i y1)<|zE (gN jW)<|zE (kA (g_digits (l.getD i y1) (qN (l.getD i y1)) (xZ hl.1 (show i<l.length by omega))))<|zM<|zE gD<|zE (oV (vb (decide (((n:Nat):Int)<(((digR (l.getD i y1)):Nat):Int)))) (qQ (by kernel_rfl)))<|?_
    rcases hb3:(decide (((n:Nat):Int)<(((digR (l.getD i kR)):Nat):Int))) with _ | _
    ·replace hb3:=vM hb3
     refine zM<|zE oLe<|zE (oV (vb (decide (((n:Nat):Int)≤6))) (qQ (by kernel_rfl)))<|?_
     rcases hb4:(decide (((n:Nat):Int)≤6)) with _ | _
     ·replace hb4:=vM hb4
      exact zK<|zK<|zK<|zK<|zK<|zK<|zE gE<|zE gE<|zZ
     ·replace hb4:=vJ hb4
      exact zM<|zM<|zE (nE vE i y1)<|zE (gN jW)<|zE (kA (u_brief (l.getD i y1) (qN (l.getD i y1)) (xZ hl.1 (show i<l.length by omega))))<|zE mT<|zE fA<|zE fU<|zZ
    ·replace hb3:=vJ hb3
     exact zK<|zK<|zK<|zK<|zK<|zK<|zK<|zK<|zK<|zK<|zE nY<|zZ
   refine jH rfl (fun h5=>?_) (fun h5=>?_)
   ·refine jB<|kx [(6,(vb false))] [] (zM<|zZ) ?_
    refine jG ⟨_,(.tmp (d:=(.val (.bool (false)))) rfl .nil),?_⟩
    rw[shR_no (all_no (i:=i) (d:=kR) (by omega) (shX_t h5))];rfl
   ·have hfi:shX n (l.getD i kR)=true:=shX_f h5
    refine jF<|kx [(7,(jK (i+1)))] [] (zM<|zE (xE (i+1))<|zM<|zZ) ?_
    exact ⟨(i+1),wk,⟨by omega,all_up (d:=kR) (by omega) hal hfi⟩,(by omega)⟩
  ·replace h2:=vM h2
   have hie:i=l.length:=by omega
   rw[hie,List.take_length] at hal
   refine kL<|jB<|kx [(6,(vb true))] [] (zM<|zZ) ?_
   refine jG ⟨_,(.tmp (d:=(.val (.bool (true)))) rfl .nil),?_⟩
   rw[shR_yes hlk hal];rfl
def dgB(x:qC):Bool:=decide (digR x.n≤8)
def szB(m:Nat)(s:Int):Bool:=decide (s≤(m:Int))
def eQ(n m:Nat)(t:List qC):Bool:=decide (t.length≤n)&&(t.all dgB&&(decide (gQ 8 t≠0)||(tmL 8 t).all (szB m)))
theorem fewT_long{n m:Nat}{t:List qC}(h:((n:Nat):Int)<((t.length:Nat):Int)):eQ n m t=false:=by unfold eQ;rw[decide_eq_false (by omega)];rfl
theorem fewT_dig{n m:Nat}{t:List qC}(h:t.all dgB=false):eQ n m t=false:=by unfold eQ;rw[h,Bool.false_and,Bool.and_false]
theorem fewT_code{n m:Nat}{t:List qC}(h0:¬ ((n:Nat):Int)<((t.length:Nat):Int))(h:t.all dgB=true)(hc:((gQ 8 t:Nat):Int)≠0):eQ n m t=true:=by
 unfold eQ;rw[decide_eq_true (by omega),h,decide_eq_true (by omega)];rfl
theorem tmL_len{z:Int}{t:List qC}(h:((gQ z t:Nat):Int)=0):(tmL z t).length=t.length:=by
 unfold tmL;rw[if_pos (by omega),nH]
theorem fewT_big{n m:Nat}{t:List qC}(hc:((gQ 8 t:Nat):Int)=0)(h:(tmL 8 t).all (szB m)=false):eQ n m t=false:=by
 unfold eQ;rw[h,Bool.or_false,show decide (gQ 8 t≠0)=false from decide_eq_false (by omega),Bool.and_false,Bool.and_false]
theorem fewT_yes{n m:Nat}{t:List qC}(h0:¬ ((n:Nat):Int)<((t.length:Nat):Int))(h:t.all dgB=true)(hs:(tmL 8 t).all (szB m)=true):eQ n m t=true:=by
 unfold eQ;rw[decide_eq_true (by omega),h,hs,Bool.or_true];rfl
theorem dgB_y{x:qC}(h:¬ ((8:Nat):Int)<((digR x.n:Nat):Int)):dgB x=true:=decide_eq_true (by omega)
theorem dgB_n{x:qC}(h:((8:Nat):Int)<((digR x.n:Nat):Int)):dgB x=false:=decide_eq_false (by omega)
theorem dg_ok{t:List qC}(h:t.all dgB=true):∀ x∈t,gX x.n (qN x.n) 8:=fun x hx=>by
 have h1:=List.all_eq_true.1 h x hx
 unfold dgB digR at h1
 rw[decide_eq_true_eq] at h1
 exact qok_raw (by decide) (by omega) (by omega)
theorem few_of{n m:Nat}{t:List qC}(h:eQ n m t=true):t.length≤n∧(∀ x∈t,gX x.n (qN x.n) 8)∧(gQ 8 t=0→∀ s∈tmL 8 t,s≤(m:Int)):=by
 unfold eQ at h
 rw[Bool.and_eq_true,Bool.and_eq_true,Bool.or_eq_true,decide_eq_true_eq,decide_eq_true_eq] at h
 refine ⟨h.1,dg_ok h.2.1,fun hc s hs=>?_⟩
 rcases h.2.2 with h1 | h1
 ·exact absurd hc h1
 ·have:=List.all_eq_true.1 h1 s hs
  unfold szB at this
  rwa [decide_eq_true_eq] at this
theorem tame_of{n m:Nat}{bx:List R2}{t:List qC}(h:eQ n m t=true)(hm:m≤200)(h8:bx.length≤8)(hb:∀ y∈bx,GL 8 y)(hc:gQ ((bx.length:Nat):Int) t=0):cJ bx t:=by
 obtain ⟨_,h2,h3⟩:=few_of h
 have hc8:gQ 8 t=0:=tm_mono (by omega) (by decide) hc
 refine ⟨hc,h2,hb,fun k hk=>?_⟩
 have h4:=h3 hc8 (szN (mZ t k) (t.getD k tz)) (by unfold tmL;rw[if_pos hc8];exact szU_mem hk)
 omega
theorem gpt_8{xs:List Rat}(h:∀ q∈xs,QL q 8):∀ y∈List.map xV xs,GL 8 y:=fun y hy=>by
 obtain ⟨q,hq,rfl⟩:=List.mem_map.1 hy
 exact gl_pt (h q hq)
theorem shR_len{c n:Nat}{l:List kF}(h:shR c n l=true):l.length≤c:=by
 unfold shR at h;rw[Bool.and_eq_true,decide_eq_true_eq] at h;exact h.1
theorem shR_ok{c n:Nat}{l:List kF}(h:shR c n l=true)(h1:1≤n):∀ x∈l,gX x (qN x) n:=fun x hx=>by
 unfold shR at h;rw[Bool.and_eq_true] at h
 have h3:=shX_le (List.all_eq_true.1 h.2 x hx)
 unfold digR at h3
 exact qok_raw h1 (by omega) (by omega)
theorem vrow_map:∀ {l:List kF},cQ l=true→List.map jM (List.map qN l)=l
 |[],_=>rfl
 |x::l,h=>by
  unfold cQ at h
  rw[List.all_cons,Bool.and_eq_true] at h
  rw[List.map_cons,List.map_cons,vrow_map (l:=l) h.2,ofQ_toQ h.1]
theorem row_form{c n:Nat}{l:List kF}(h:shR c n l=true)(h1:1≤n)(hv:cQ l=true):∃ xs:List Rat,l=List.map jM xs∧(∀ q∈xs,QL q n)∧xs.length≤c:=by
 refine ⟨l.map qN,?_,fun q hq=>?_,by rw[List.length_map];exact shR_len h⟩
 ·exact (vrow_map hv).symm
 ·obtain ⟨x,hx,rfl⟩:=List.mem_map.1 hq
  exact (shR_ok h h1 x hx).ql
theorem sameL_v{l:List kF}(h:cQ l=true):sameL l l=true:=sameL_yes rfl fun a ha=>by
 have hv:=valid_get (d:=kF.mk (qG.mk false []) (qG.mk false [])) h ha
 rw[same_valid hv hv,decide_eq_true rfl]
theorem grQ_same(xs:List Rat)(t:List qC):sameL (gU xs t) (gU xs t)=true:=sameL_v grQ_v
end Go.Proofs.YtnajallgoaiahaaGreatDoor
