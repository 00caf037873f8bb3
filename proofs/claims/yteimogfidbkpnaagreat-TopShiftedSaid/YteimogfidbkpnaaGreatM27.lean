/- Part 27 of a proof: rules, plain facts, and functions walked. -/
import Derived.Test.YteimogfidbkpnaaGreatM26
import Derived.Test.YteimogfidbkpnaaGreatM12
import Derived.Test.YteimogfidbkpnaaGreatM13
import Derived.Test.YteimogfidbkpnaaGreatM5
set_option linter.all false
set_option maxRecDepth 4000
namespace Go.Proofs.YteimogfidbkpnaaGreat
open Go.Fid
theorem cb25:callB Tryz.prog 25=true:=by kernel_rfl
theorem eqs49:eqsB Tryz.prog 49=some 3:=by kernel_rfl
theorem fo55_0:uA Tryz.prog 55 0=some 0:=by kernel_rfl
theorem fo55_1:uA Tryz.prog 55 1=some 10:=by kernel_rfl
theorem fo82_2:uA Tryz.prog 82 2=some 20:=by kernel_rfl
theorem fo82_3:uA Tryz.prog 82 3=some 32:=by kernel_rfl
theorem pl82:yR Tryz.prog 82=some [(0,10),(10,10),(20,12),(32,36)]:=by kernel_rfl
theorem sh49:kZ Tryz.prog 49=some (true,3):=by kernel_rfl
theorem sh53:kZ Tryz.prog 53=some (true,10):=by kernel_rfl
theorem ze49:uL Tryz.prog 49=some [.int .i64 0,.int .i64 0,.int .i64 0]:=by kernel_rfl
theorem ze82:uL Tryz.prog 82=some [.int .i64 0,.int .i64 0,.int .i64 0,.int .i64 0,.int .i64 0,.int .i64 0,.int .i64 0,.int .i64 0,.int .i64 0,.int .i64 0,.int .i64 0,.int .i64 0,.int .i64 0,.int .i64 0,.int .i64 0,.int .i64 0,.int .i64 0,.int .i64 0,.int .i64 0,.int .i64 0,.bool false,.slice none 0 0,.bool false,.slice none 0 0,.bool false,.slice none 0 0,.bool false,.slice none 0 0,.bool false,.slice none 0 0,.bool false,.slice none 0 0,.bool false,.slice none 0 0,.bool false,.slice none 0 0,.bool false,.slice none 0 0,.bool false,.slice none 0 0,.bool false,.slice none 0 0,.bool false,.slice none 0 0,.bool false,.slice none 0 0,.bool false,.slice none 0 0,.bool false,.slice none 0 0,.bool false,.slice none 0 0,.bool false,.slice none 0 0,.bool false,.slice none 0 0,.bool false,.slice none 0 0,.bool false,.slice none 0 0,.bool false,.slice none 0 0,.bool false,.slice none 0 0,.bool false,.slice none 0 0,.bool false,.slice none 0 0]:=by kernel_rfl
theorem zo49:gD [.int .i64 0,.int .i64 0,.int .i64 0] [.val (.int .i64 0),.val (.int .i64 0),.val (.int .i64 0)]:=by simp [gD,Value.oneCell']
theorem zo82:gD [.int .i64 0,.int .i64 0,.int .i64 0,.int .i64 0,.int .i64 0,.int .i64 0,.int .i64 0,.int .i64 0,.int .i64 0,.int .i64 0,.int .i64 0,.int .i64 0,.int .i64 0,.int .i64 0,.int .i64 0,.int .i64 0,.int .i64 0,.int .i64 0,.int .i64 0,.int .i64 0,.bool false,.slice none 0 0,.bool false,.slice none 0 0,.bool false,.slice none 0 0,.bool false,.slice none 0 0,.bool false,.slice none 0 0,.bool false,.slice none 0 0,.bool false,.slice none 0 0,.bool false,.slice none 0 0,.bool false,.slice none 0 0,.bool false,.slice none 0 0,.bool false,.slice none 0 0,.bool false,.slice none 0 0,.bool false,.slice none 0 0,.bool false,.slice none 0 0,.bool false,.slice none 0 0,.bool false,.slice none 0 0,.bool false,.slice none 0 0,.bool false,.slice none 0 0,.bool false,.slice none 0 0,.bool false,.slice none 0 0,.bool false,.slice none 0 0,.bool false,.slice none 0 0,.bool false,.slice none 0 0,.bool false,.slice none 0 0] [.val (.int .i64 0),.val (.int .i64 0),.val (.int .i64 0),.val (.int .i64 0),.val (.int .i64 0),.val (.int .i64 0),.val (.int .i64 0),.val (.int .i64 0),.val (.int .i64 0),.val (.int .i64 0),.val (.int .i64 0),.val (.int .i64 0),.val (.int .i64 0),.val (.int .i64 0),.val (.int .i64 0),.val (.int .i64 0),.val (.int .i64 0),.val (.int .i64 0),.val (.int .i64 0),.val (.int .i64 0),.val (.bool false),.sl 121 1 [],.val (.bool false),.sl 121 1 [],.val (.bool false),.sl 121 1 [],.val (.bool false),.sl 121 1 [],.val (.bool false),.sl 121 1 [],.val (.bool false),.sl 121 1 [],.val (.bool false),.sl 121 1 [],.val (.bool false),.sl 121 1 [],.val (.bool false),.sl 121 1 [],.val (.bool false),.sl 121 1 [],.val (.bool false),.sl 121 1 [],.val (.bool false),.sl 121 1 [],.val (.bool false),.sl 121 1 [],.val (.bool false),.sl 121 1 [],.val (.bool false),.sl 121 1 [],.val (.bool false),.sl 121 1 [],.val (.bool false),.sl 121 1 [],.val (.bool false),.sl 121 1 [],.val (.bool false),.sl 121 1 [],.val (.bool false),.sl 121 1 [],.val (.bool false),.sl 121 1 [],.val (.bool false),.sl 121 1 [],.val (.bool false),.sl 121 1 [],.val (.bool false),.sl 121 1 []]:=by simp [gD,Value.oneCell']
theorem q_rec(lx ly lz la lb lc ld lf lu lv rx ry rz ra rb rc rd rf ru rv:Int)(b0 b1 b2 e00 e01 e02 e10 e11 e12 e20 e21 e22:Rat)(hF:RFr lx ly lz la lb lc ld rx ry rz ra rb rc rd b0 b1 b2 e00 e01 e02 e10 e11 e12 e20 e21 e22)(hqb0:QL b0 3)(hqb1:QL b1 3)(hqb2:QL b2 3)(hqe00:QL e00 400)(hqe01:QL e01 400)(hqe02:QL e02 400)(hqe10:QL e10 400)(hqe11:QL e11 400)(hqe12:QL e12 400)(hqe20:QL e20 400)(hqe21:QL e21 400)(hqe22:QL e22 400)(hl:nW lx ly lz lu lv lf la lb lc ld=0)(hr:nW rx ry rz ru rv rf ra rb rc rd=0)(hup:upV la lb lc ld ra rb rc rd b0 b1 b2=false):jR Tryz.prog 25 [(gO (mC.mk (xN.mk (uG.mk lx ly lz) (kK.mk la lb lc ld) lf (qI.mk lu lv)) (xN.mk (uG.mk rx ry rz) (kK.mk ra rb rc rd) rf (qI.mk ru rv))))] (.tup [(.cptr 1000001 (jQ.cells (encRp (RRp.mk (xN.mk (uG.mk lx ly lz) (kK.mk la lb lc ld) lf (qI.mk lu lv)) (xN.mk (uG.mk rx ry rz) (kK.mk ra rb rc rd) rf (qI.mk ru rv)) (A3.mk (jF b0) (jF b1) (jF b2)) (A3.mk (A3.mk (jF e00) (jF e01) (jF e02)) (A3.mk (jF e10) (jF e11) (jF e12)) (A3.mk (jF e20) (jF e21) (jF e22)))))) 0),(.val (.int .i64 (0)))]):=by
 have hbl:=stnC_ok hl
 have hbr:=stnC_ok hr
 obtain ⟨hlx,hly,hlz,hlu,hlv,hlf,hlq⟩:=hbl
 obtain ⟨hrx,hry,hrz,hru,hrv,hrf,hrq⟩:=hbr
 obtain ⟨hla,hlb,hlc,hld,-⟩:=rotC_ok hlq
 obtain ⟨hra,hrb,hrc,hrd,-⟩:=rotC_ok hrq
 have hnl:=nq_b hla hlb hlc hld
 have hnr:=nq_b hra hrb hrc hrd
 have hF2:=hF
 unfold RFr at hF2
 obtain ⟨hb0,hb1,hb2,he00,he01,he02,he10,he11,he12,he20,he21,he22⟩:=hF2
 have hzb:=fr_zb hF hup
 have hzs:=fr_zs hF hup
 have hzt:=fr_zt hF hup
 let y6:=(A3.mk nT nT nT)
 let y5:=(gO (mC.mk (xN.mk (uG.mk lx ly lz) (kK.mk la lb lc ld) lf (qI.mk lu lv)) (xN.mk (uG.mk rx ry rz) (kK.mk ra rb rc rd) rf (qI.mk ru rv))))
 let y4:=(bx (kH (A3.mk (jF (((dq1 la lb lc ld ra rb rc rd)*e02)-((dq2 la lb lc ld ra rb rc rd)*e01))) (jF (((dq2 la lb lc ld ra rb rc rd)*e00)-((dq0 la lb lc ld ra rb rc rd)*e02))) (jF (((dq0 la lb lc ld ra rb rc rd)*e01)-((dq1 la lb lc ld ra rb rc rd)*e00))))))
 let y3:=(encRp (RRp.mk (xN.mk (uG.mk lx ly lz) (kK.mk la lb lc ld) lf (qI.mk lu lv)) (xN.mk (uG.mk rx ry rz) (kK.mk ra rb rc rd) rf (qI.mk ru rv)) (A3.mk (jF b0) (jF b1) (jF b2)) (A3.mk (A3.mk (jF e00) (jF e01) (jF e02)) (A3.mk (jF e10) (jF e11) (jF e12)) (A3.mk (jF e20) (jF e21) (jF e22)))))
 let y2:=(A3.mk y6 y6 y6)
 let y1:=(bx (encRp (RRp.mk (xN.mk (uG.mk lx ly lz) (kK.mk la lb lc ld) lf (qI.mk lu lv)) (xN.mk (uG.mk rx ry rz) (kK.mk ra rb rc rd) rf (qI.mk ru rv)) (A3.mk (jF b0) (jF b1) (jF b2)) (A3.mk (A3.mk (jF e00) (jF e01) (jF e02)) y6 y6))))
 refine jH Tryz.func25 rfl cb25 rfl ?_
 show qS _ _ _ _ ⟨[(0,(.d y5))],[]⟩
 refine jA<|kx [(1,(.ref 0 0))] [(0,some (bx y5))] (zN (vL 0)<|zM<|zM<|zZ) ?_
 refine jA<|jA<|kx [(4,(jL (nW lx ly lz lu lv lf la lb lc ld)))] [] (zE (kJ fo55_0)<|zR (kI sh53)<|zE (jX (q_stn lx ly lz la lb lc ld lf lu lv))<|zM<|zZ) ?_
 refine jA<|kx [(17,(vb false))] [] (zM<|zE (vG false oNe (by exact bne_eq_false_iff_eq.2 (by rw[show (nW lx ly lz lu lv lf la lb lc ld)=0 from hl]<;>rfl)))<|zZ) ?_
 refine kY ?_
 refine jC<|jA<|jA<|kx [(5,(jL (nW rx ry rz ru rv rf ra rb rc rd)))] [] (zE (kJ fo55_1)<|zR (kI sh53)<|zE (jX (q_stn rx ry rz ra rb rc rd rf ru rv))<|zM<|zZ) ?_
 refine jA<|kx [(23,(vb false))] [] (zM<|zE (vG false oNe (by exact bne_eq_false_iff_eq.2 (by rw[show (nW rx ry rz ru rv rf ra rb rc rd)=0 from hr]<;>rfl)))<|zZ) ?_
 refine kY ?_
 refine jC<|jA<|kx [(6,(.ref 1 0))] [(1,some (bx (encRp (RRp.mk (xN.mk (uG.mk lx ly lz) (kK.mk la lb lc ld) lf (qI.mk lu lv)) (xN.mk (uG.mk rx ry rz) (kK.mk ra rb rc rd) rf (qI.mk ru rv)) y6 y2))))] (zE (kJ fo55_0)<|zR (kI sh53)<|zE (kJ fo55_1)<|zR (kI sh53)<|zE (oBd pl82 ze82 zo82)<|zN (vL 1)<|zM<|zZ) ?_
 refine jA<|kd [(7,(.ref 2 0)),(8,(.ref 3 0))] [(2,some (bx (eQ (uG.mk lx ly lz)))),(3,some (bx (eQ (uG.mk rx ry rz))))] mo (wE (kJ fo55_0)<|wE (kJ fo53_0)<|wR (kI sh49)<|wE (kJ fo55_1)<|wE (kJ fo53_0)<|wR (kI sh49)<|wN (uX 2 ze49 zo49)<|wN (uX 3 ze49 zo49)<|wT (qF sh49)<|wT (qF sh49)<|wZ) ?_
 refine jA ?_
 have bn1:QL b0 3:=(vS (Eq.symm hb0) (qi (rx-lx)))
 have bn2:QL b1 3:=(vS (Eq.symm hb1) (qi (ry-ly)))
 have bn3:QL b2 3:=(vS (Eq.symm hb2) (qi (rz-lz)))
 refine kx [] [(1,some (bx (encRp (RRp.mk (xN.mk (uG.mk lx ly lz) (kK.mk la lb lc ld) lf (qI.mk lu lv)) (xN.mk (uG.mk rx ry rz) (kK.mk ra rb rc rd) rf (qI.mk ru rv)) (A3.mk (jF b0) (jF b1) (jF b2)) y2))))] (zM<|zE (kJ fo49_0)<|zR (kX qC)<|zE (kJ fo49_0)<|zR (kX qC)<|zE (cN (rx-lx) (hr:=by exact (qV rfl (by simp only[xZ];omega) (by simp only[zD];omega))))<|zE (kJ fo49_1)<|zR (kX qC)<|zE (kJ fo49_1)<|zR (kX qC)<|zE (cN (ry-ly) (hr:=by exact (qV rfl (by simp only[xZ];omega) (by simp only[zD];omega))))<|zE (kJ fo49_2)<|zR (kX qC)<|zE (kJ fo49_2)<|zR (kX qC)<|zE (cN (rz-lz) (hr:=by exact (qV rfl (by simp only[xZ];omega) (by simp only[zD];omega))))<|zE (jX (by have h:=q_whole (rx-lx) (by omega) (by omega) (ry-ly) (by omega) (by omega) (rz-lz) (by omega) (by omega);rw[hb0,hb1,hb2] at h;exact h))<|zE oNc<|zE (kJ fo82_2)<|zT (qF zB)<|zZ) ?_
 refine jA<|jA<|kx [(58,(vb (decide ([lx,ly,lz]=[rx,ry,rz]))))] [] (zR (kI sh49)<|zR (kI sh49)<|zE (oEs eqs49 .i64 [lx,ly,lz] [rx,ry,rz])<|zZ) ?_
 refine jG (b:=(decide ([lx,ly,lz]=[rx,ry,rz]))) rfl (fun h1=>?_) (fun h1=>?_)
 ·replace h1:=vM h1
  exact absurd (zb_eq hb0 hb1 hb2 h1) (by rw[hzb];decide)
 ·replace h1:=vK h1
  refine jC<|jA ?_
  have bn4:QL (R00 la lb lc ld) 3:=(kR00)
  have bn5:QL (R01 la lb lc ld) 3:=(kR01)
  have bn6:QL (R02 la lb lc ld) 3:=(kR02)
  have bn7:QL (R10 la lb lc ld) 3:=(kR10)
  have bn8:QL (R11 la lb lc ld) 3:=(kR11)
  have bn9:QL (R12 la lb lc ld) 3:=(kR12)
  have bn10:QL (R20 la lb lc ld) 3:=(kR20)
  have bn11:QL (R21 la lb lc ld) 3:=(kR21)
  have bn12:QL (R22 la lb lc ld) 3:=(kR22)
  have bn13:QL (R00 ra rb rc rd) 3:=(kR00)
  have bn14:QL (R01 ra rb rc rd) 3:=(kR01)
  have bn15:QL (R02 ra rb rc rd) 3:=(kR02)
  have bn16:QL (R10 ra rb rc rd) 3:=(kR10)
  have bn17:QL (R11 ra rb rc rd) 3:=(kR11)
  have bn18:QL (R12 ra rb rc rd) 3:=(kR12)
  have bn19:QL (R20 ra rb rc rd) 3:=(kR20)
  have bn20:QL (R21 ra rb rc rd) 3:=(kR21)
  have bn21:QL (R22 ra rb rc rd) 3:=(kR22)
  refine kd [(9,(.ref 4 0)),(10,(.ref 5 0))] [(4,some (bx (vU (A3.mk (A3.mk (jF (R00 la lb lc ld)) (jF (R10 la lb lc ld)) (jF (R20 la lb lc ld))) (A3.mk (jF (R01 la lb lc ld)) (jF (R11 la lb lc ld)) (jF (R21 la lb lc ld))) (A3.mk (jF (R02 la lb lc ld)) (jF (R12 la lb lc ld)) (jF (R22 la lb lc ld))))))),(5,some (bx (vU (A3.mk (A3.mk (jF (R00 ra rb rc rd)) (jF (R10 ra rb rc rd)) (jF (R20 ra rb rc rd))) (A3.mk (jF (R01 ra rb rc rd)) (jF (R11 ra rb rc rd)) (jF (R21 ra rb rc rd))) (A3.mk (jF (R02 ra rb rc rd)) (jF (R12 ra rb rc rd)) (jF (R22 ra rb rc rd)))))))] mo (wE (kJ fo55_0)<|wE (kJ fo53_1)<|wR (kI fG)<|wE (jX (q_turn la lb lc ld (by omega) (by omega) (by omega) (by omega) hlq))<|wE (jX (q_transp (R00 la lb lc ld) (R01 la lb lc ld) (R02 la lb lc ld) (R10 la lb lc ld) (R11 la lb lc ld) (R12 la lb lc ld) (R20 la lb lc ld) (R21 la lb lc ld) (R22 la lb lc ld) (qu bn4) (qu bn5) (qu bn6) (qu bn7) (qu bn8) (qu bn9) (qu bn10) (qu bn11) (qu bn12)))<|wE (kJ fo55_1)<|wE (kJ fo53_1)<|wR (kI fG)<|wE (jX (q_turn ra rb rc rd (by omega) (by omega) (by omega) (by omega) hrq))<|wE (jX (q_transp (R00 ra rb rc rd) (R01 ra rb rc rd) (R02 ra rb rc rd) (R10 ra rb rc rd) (R11 ra rb rc rd) (R12 ra rb rc rd) (R20 ra rb rc rd) (R21 ra rb rc rd) (R22 ra rb rc rd) (qu bn13) (qu bn14) (qu bn15) (qu bn16) (qu bn17) (qu bn18) (qu bn19) (qu bn20) (qu bn21)))<|wN (uX 4 ze80 zo80)<|wN (uX 5 ze80 zo80)<|wT (qF sh80)<|wT (qF sh80)<|wZ) ?_
  refine jA ?_
  have bn22:QL (N4 ra rb rc rd) 3:=(vS (Eq.symm (show ((nq ra rb rc rd:Int):Rat)=(N4 ra rb rc rd) from rfl)) (kN (z:=(nq ra rb rc rd)) (jM (by omega) (by omega)) (by decide)))
  have bn23:QL (N4 la lb lc ld) 3:=(vS (Eq.symm (show ((nq la lb lc ld:Int):Rat)=(N4 la lb lc ld) from rfl)) (kN (z:=(nq la lb lc ld)) (jM (by omega) (by omega)) (by decide)))
  have bn24:QL (dq0 la lb lc ld ra rb rc rd) 13:=(vS (Eq.symm (dq0_eq la lb lc ld ra rb rc rd)) (fA (k:=13) (kR (k:=6) bn6 bn22 (by decide)) (kR (k:=6) bn15 bn23 (by decide)) (by decide)))
  have bn25:QL (dq1 la lb lc ld ra rb rc rd) 13:=(vS (Eq.symm (dq1_eq la lb lc ld ra rb rc rd)) (fA (k:=13) (kR (k:=6) bn9 bn22 (by decide)) (kR (k:=6) bn18 bn23 (by decide)) (by decide)))
  have bn26:QL (dq2 la lb lc ld ra rb rc rd) 13:=(vS (Eq.symm (dq2_eq la lb lc ld ra rb rc rd)) (fA (k:=13) (kR (k:=6) bn12 bn22 (by decide)) (kR (k:=6) bn21 bn23 (by decide)) (by decide)))
  refine kd [(11,(.ref 6 0))] [(6,some (bx (kH (A3.mk (jF (dq0 la lb lc ld ra rb rc rd)) (jF (dq1 la lb lc ld ra rb rc rd)) (jF (dq2 la lb lc ld ra rb rc rd))))))] mo (wE (zW gS 2)<|wR (kI zB)<|wE (kJ fo55_1)<|wE (kJ fo53_1)<|wR (kI fG)<|wE (jX (q_norm ra rb rc rd (by omega) (by omega) (by omega) (by omega)))<|wE (jX (by have h:=hO (nq ra rb rc rd) (by omega) (by omega);rw[(show ((nq ra rb rc rd:Int):Rat)=(N4 ra rb rc rd) from rfl)] at h;exact h))<|wE (jX (eE (R02 la lb lc ld) (R12 la lb lc ld) (R22 la lb lc ld) (qu bn6) (qu bn9) (qu bn12) (N4 ra rb rc rd) (qu bn22)))<|wE (zW gS 2)<|wR (kI zB)<|wE (kJ fo55_0)<|wE (kJ fo53_1)<|wR (kI fG)<|wE (jX (q_norm la lb lc ld (by omega) (by omega) (by omega) (by omega)))<|wE (jX (by have h:=hO (nq la lb lc ld) (by omega) (by omega);rw[(show ((nq la lb lc ld:Int):Rat)=(N4 la lb lc ld) from rfl)] at h;exact h))<|wE (jX (eE (R02 ra rb rc rd) (R12 ra rb rc rd) (R22 ra rb rc rd) (qu bn15) (qu bn18) (qu bn21) (N4 la lb lc ld) (qu bn23)))<|wE (jX (by have h:=q_sum ((R02 la lb lc ld)*(N4 ra rb rc rd)) ((R12 la lb lc ld)*(N4 ra rb rc rd)) ((R22 la lb lc ld)*(N4 ra rb rc rd)) (xO (kR (k:=6) bn6 bn22 (by decide)) (by decide)) (xO (kR (k:=6) bn9 bn22 (by decide)) (by decide)) (xO (kR (k:=6) bn12 bn22 (by decide)) (by decide)) ((R02 ra rb rc rd)*(N4 la lb lc ld)) ((R12 ra rb rc rd)*(N4 la lb lc ld)) ((R22 ra rb rc rd)*(N4 la lb lc ld)) (xO (kR (k:=6) bn15 bn23 (by decide)) (by decide)) (xO (kR (k:=6) bn18 bn23 (by decide)) (by decide)) (xO (kR (k:=6) bn21 bn23 (by decide)) (by decide));rw[(dq0_eq la lb lc ld ra rb rc rd),(dq1_eq la lb lc ld ra rb rc rd),(dq2_eq la lb lc ld ra rb rc rd)] at h;exact h))<|wN (uX 6 ze78 zo78)<|wT (qF zB)<|wZ) ?_
  refine jA ?_
  have bn27:QL e00 6:=(vS (Eq.symm he00) (kR (k:=6) bn1 (mW (n:=3) (k:=3) bn1 bn2 bn3 (by decide) (by decide)) (by decide)))
  have bn28:QL e01 6:=(vS (Eq.symm he01) (kR (k:=6) bn2 (mW (n:=3) (k:=3) bn1 bn2 bn3 (by decide) (by decide)) (by decide)))
  have bn29:QL e02 6:=(vS (Eq.symm he02) (kR (k:=6) bn3 (mW (n:=3) (k:=3) bn1 bn2 bn3 (by decide) (by decide)) (by decide)))
  refine kd [] [(1,some y1)] mo (wM<|wM<|wE oNc<|wE (kJ fo82_2)<|wR (kI zB)<|wE (jX (by have h:=q_red b0 b1 b2 (qu bn1) (qu bn2) (qu bn3) hzb;rw[he00,he01,he02] at h;exact h))<|wE oNc<|wE (kJ fo82_3)<|wE (zW gS 0)<|wT (qF zB)<|wZ) ?_
  refine jA ?_
  have bn30:QL (((dq1 la lb lc ld ra rb rc rd)*e02)-((dq2 la lb lc ld ra rb rc rd)*e01)) 39:=(dQ (k:=39) (kR (k:=19) bn25 bn29 (by decide)) (kR (k:=19) bn26 bn28 (by decide)) (by decide))
  have bn31:QL (((dq2 la lb lc ld ra rb rc rd)*e00)-((dq0 la lb lc ld ra rb rc rd)*e02)) 39:=(dQ (k:=39) (kR (k:=19) bn26 bn27 (by decide)) (kR (k:=19) bn24 bn29 (by decide)) (by decide))
  have bn32:QL (((dq0 la lb lc ld ra rb rc rd)*e01)-((dq1 la lb lc ld ra rb rc rd)*e00)) 39:=(dQ (k:=39) (kR (k:=19) bn24 bn28 (by decide)) (kR (k:=19) bn25 bn27 (by decide)) (by decide))
  refine kd [(12,(.ref 7 0))] [(7,some y4)] mo (wR (kI zB)<|wM<|wE oNc<|wE (kJ fo82_3)<|wE (zW gS 0)<|wR (kI zB)<|wE (jX (q_cross (dq0 la lb lc ld ra rb rc rd) (dq1 la lb lc ld ra rb rc rd) (dq2 la lb lc ld ra rb rc rd) (qu bn24) (qu bn25) (qu bn26) e00 e01 e02 (qu bn27) (qu bn28) (qu bn29)))<|wN (uX 7 ze78 zo78)<|wT (qF zB)<|wZ) ?_
  refine jA<|jA<|kx [(103,(vb false))] [] (zR (kI zB)<|zE (vG false (jX (q_isz (((dq1 la lb lc ld ra rb rc rd)*e02)-((dq2 la lb lc ld ra rb rc rd)*e01)) (((dq2 la lb lc ld ra rb rc rd)*e00)-((dq0 la lb lc ld ra rb rc rd)*e02)) (((dq0 la lb lc ld ra rb rc rd)*e01)-((dq1 la lb lc ld ra rb rc rd)*e00)) (qu bn30) (qu bn31) (qu bn32))) (by exact hzs))<|zZ) ?_
  refine kY ?_
  refine jC<|jA<|kE (wk (l:=[(6,(.ref 1 0)),(12,(.ref 7 0)),(103,(vb false))]) (b:=[(1,some y1),(7,some y4)])) ?_
  have bn33:QL e10 78:=(vS (Eq.symm he10) (kR (k:=78) bn30 (mW (n:=39) (k:=39) bn30 bn31 bn32 (by decide) (by decide)) (by decide)))
  have bn34:QL e11 78:=(vS (Eq.symm he11) (kR (k:=78) bn31 (mW (n:=39) (k:=39) bn30 bn31 bn32 (by decide) (by decide)) (by decide)))
  have bn35:QL e12 78:=(vS (Eq.symm he12) (kR (k:=78) bn32 (mW (n:=39) (k:=39) bn30 bn31 bn32 (by decide) (by decide)) (by decide)))
  refine kd [] [(1,some (bx (encRp (RRp.mk (xN.mk (uG.mk lx ly lz) (kK.mk la lb lc ld) lf (qI.mk lu lv)) (xN.mk (uG.mk rx ry rz) (kK.mk ra rb rc rd) rf (qI.mk ru rv)) (A3.mk (jF b0) (jF b1) (jF b2)) (A3.mk (A3.mk (jF e00) (jF e01) (jF e02)) (A3.mk (jF e10) (jF e11) (jF e12)) y6)))))] mo (wM<|wR (kI zB)<|wE (jX (by have h:=q_red (((dq1 la lb lc ld ra rb rc rd)*e02)-((dq2 la lb lc ld ra rb rc rd)*e01)) (((dq2 la lb lc ld ra rb rc rd)*e00)-((dq0 la lb lc ld ra rb rc rd)*e02)) (((dq0 la lb lc ld ra rb rc rd)*e01)-((dq1 la lb lc ld ra rb rc rd)*e00)) (qu bn30) (qu bn31) (qu bn32) hzs;rw[he10,he11,he12] at h;exact h))<|wE oNc<|wE (kJ fo82_3)<|wE (zW gS 1)<|wT (qF zB)<|wZ) ?_
  refine jA ?_
  have bn36:QL ((e01*e12)-(e02*e11)) 169:=(dQ (k:=169) (kR (k:=84) bn28 bn35 (by decide)) (kR (k:=84) bn29 bn34 (by decide)) (by decide))
  have bn37:QL ((e02*e10)-(e00*e12)) 169:=(dQ (k:=169) (kR (k:=84) bn29 bn33 (by decide)) (kR (k:=84) bn27 bn35 (by decide)) (by decide))
  have bn38:QL ((e00*e11)-(e01*e10)) 169:=(dQ (k:=169) (kR (k:=84) bn27 bn34 (by decide)) (kR (k:=84) bn28 bn33 (by decide)) (by decide))
  have bn39:QL e20 338:=(vS (Eq.symm he20) (kR (k:=338) bn36 (mW (n:=169) (k:=169) bn36 bn37 bn38 (by decide) (by decide)) (by decide)))
  have bn40:QL e21 338:=(vS (Eq.symm he21) (kR (k:=338) bn37 (mW (n:=169) (k:=169) bn36 bn37 bn38 (by decide) (by decide)) (by decide)))
  have bn41:QL e22 338:=(vS (Eq.symm he22) (kR (k:=338) bn38 (mW (n:=169) (k:=169) bn36 bn37 bn38 (by decide) (by decide)) (by decide)))
  refine kd [] [(1,some (bx y3))] mo (wM<|wM<|wE oNc<|wE (kJ fo82_3)<|wE (zW gS 0)<|wR (kI zB)<|wM<|wE oNc<|wE (kJ fo82_3)<|wE (zW gS 1)<|wR (kI zB)<|wE (jX (q_cross e00 e01 e02 (qu bn27) (qu bn28) (qu bn29) e10 e11 e12 (qu bn33) (qu bn34) (qu bn35)))<|wE (jX (by have h:=q_red ((e01*e12)-(e02*e11)) ((e02*e10)-(e00*e12)) ((e00*e11)-(e01*e10)) (qu bn36) (qu bn37) (qu bn38) hzt;rw[he20,he21,he22] at h;exact h))<|wE oNc<|wE (kJ fo82_3)<|wE (zW gS 2)<|wT (qF zB)<|wZ) ?_
  refine jA<|kE (publishP (t:=6) (k:=1) (o:=0) (T:=1000001) (cs:=(jQ.cells y3)) rfl rfl) ?_
  refine kx [(2,(.d (.cptr 1000001 (jQ.cells y3) 0))),(3,(jL 0))] [] (zM<|zM<|zM<|zZ) ?_
  refine jE ⟨_,(.tmp (d:=(.cptr 1000001 (jQ.cells (encRp (RRp.mk (xN.mk (uG.mk lx ly lz) (kK.mk la lb lc ld) lf (qI.mk lu lv)) (xN.mk (uG.mk rx ry rz) (kK.mk ra rb rc rd) rf (qI.mk ru rv)) (A3.mk (jF b0) (jF b1) (jF b2)) (A3.mk (A3.mk (jF e00) (jF e01) (jF e02)) (A3.mk (jF e10) (jF e11) (jF e12)) (A3.mk (jF e20) (jF e21) (jF e22)))))) 0)) rfl (.tmp (d:=(.val (.int .i64 (((0:Nat):Int))))) rfl .nil)),?_⟩
  rfl
theorem cb26:callB Tryz.prog 26=true:=by kernel_rfl
theorem pl45:yR Tryz.prog 45=some [(0,4),(4,4)]:=by kernel_rfl
theorem sh45:kZ Tryz.prog 45=some (true,8):=by kernel_rfl
theorem ze45:uL Tryz.prog 45=some [.bool false,.slice none 0 0,.bool false,.slice none 0 0,.bool false,.slice none 0 0,.bool false,.slice none 0 0]:=by kernel_rfl
theorem zo45:gD [.bool false,.slice none 0 0,.bool false,.slice none 0 0,.bool false,.slice none 0 0,.bool false,.slice none 0 0] [.val (.bool false),.sl 121 1 [],.val (.bool false),.sl 121 1 [],.val (.bool false),.sl 121 1 [],.val (.bool false),.sl 121 1 []]:=by simp [gD,Value.oneCell']
theorem q_coo(lx ly lz la lb lc ld lf lu lv rx ry rz ra rb rc rd rf ru rv:Int)(b0 b1 b2 e00 e01 e02 e10 e11 e12 e20 e21 e22:Rat)(hqb0:QL b0 3)(hqb1:QL b1 3)(hqb2:QL b2 3)(hqe00:QL e00 400)(hqe01:QL e01 400)(hqe02:QL e02 400)(hqe10:QL e10 400)(hqe11:QL e11 400)(hqe12:QL e12 400)(hqe20:QL e20 400)(hqe21:QL e21 400)(hqe22:QL e22 400)(w0 w1 w2:Rat)(hw0:QL w0 1000000)(hw1:QL w1 1000000)(hw2:QL w2 1000000)(hd:¬ (eN (kS e20 e21 e22 w0 w1 w2))≤0):jR Tryz.prog 26 [(.cptr 1000001 (jQ.cells (encRp (RRp.mk (xN.mk (uG.mk lx ly lz) (kK.mk la lb lc ld) lf (qI.mk lu lv)) (xN.mk (uG.mk rx ry rz) (kK.mk ra rb rc rd) rf (qI.mk ru rv)) (A3.mk (jF b0) (jF b1) (jF b2)) (A3.mk (A3.mk (jF e00) (jF e01) (jF e02)) (A3.mk (jF e10) (jF e11) (jF e12)) (A3.mk (jF e20) (jF e21) (jF e22)))))) 0),(kH (A3.mk (jF w0) (jF w1) (jF w2)))] (.tup [(yV (nY.mk (jF ((kS e00 e01 e02 w0 w1 w2) / (kS e20 e21 e22 w0 w1 w2))) (jF ((kS e10 e11 e12 w0 w1 w2) / (kS e20 e21 e22 w0 w1 w2))))),(jI (jF (kS e20 e21 e22 w0 w1 w2))),(.val (.bool (true)))]):=by
 refine jH Tryz.func26 rfl cb26 rfl ?_
 show qS _ _ _ _ ⟨[(0,(.d (.cptr 1000001 (jQ.cells (encRp (RRp.mk (xN.mk (uG.mk lx ly lz) (kK.mk la lb lc ld) lf (qI.mk lu lv)) (xN.mk (uG.mk rx ry rz) (kK.mk ra rb rc rd) rf (qI.mk ru rv)) (A3.mk (jF b0) (jF b1) (jF b2)) (A3.mk (A3.mk (jF e00) (jF e01) (jF e02)) (A3.mk (jF e10) (jF e11) (jF e12)) (A3.mk (jF e20) (jF e21) (jF e22)))))) 0))),(1,(.d (kH (A3.mk (jF w0) (jF w1) (jF w2)))))],[]⟩
 refine jA<|kx [(3,(.ref 0 0)),(4,(.ref 1 0)),(5,(.ref 2 0))] [(0,some (bx (kH (A3.mk (jF w0) (jF w1) (jF w2))))),(1,some (bx (yV (nY.mk nT nT)))),(2,some (bx (jI nT)))] (zN (vL 0)<|zN (uX 1 ze45 zo45)<|zN (uX 2 qW uI)<|zM<|zZ) ?_
 refine jA ?_
 have bn1:QL (kS e00 e01 e02 w0 w1 w2) 6000002:=(xJ (n:=1000000) (k:=6000002) (qu hqe00) (qu hqe01) (qu hqe02) hw0 hw1 hw2 (by decide))
 have bn2:QL (kS e10 e11 e12 w0 w1 w2) 6000002:=(xJ (n:=1000000) (k:=6000002) (qu hqe10) (qu hqe11) (qu hqe12) hw0 hw1 hw2 (by decide))
 have bn3:QL (kS e20 e21 e22 w0 w1 w2) 6000002:=(xJ (n:=1000000) (k:=6000002) (qu hqe20) (qu hqe21) (qu hqe22) hw0 hw1 hw2 (by decide))
 refine kd [(7,(.ref 3 0))] [(3,some (bx (kH (A3.mk (jF (kS e00 e01 e02 w0 w1 w2)) (jF (kS e10 e11 e12 w0 w1 w2)) (jF (kS e20 e21 e22 w0 w1 w2))))))] mo (wM<|wE oNd<|wE (mZ fo82_3)<|wE (oCa sh80)<|wR (kI zB)<|wE (jX (q_times e00 e01 e02 e10 e11 e12 e20 e21 e22 (qu hqe00) (qu hqe01) (qu hqe02) (qu hqe10) (qu hqe11) (qu hqe12) (qu hqe20) (qu hqe21) (qu hqe22) w0 w1 w2 (qu hw0) (qu hw1) (qu hw2)))<|wN (uX 3 ze78 zo78)<|wT (qF zB)<|wZ) ?_
 refine jA<|jA<|kx [(21,(vb false))] [] (zE (zW vJ 2)<|zR (kI jP)<|zE (jX (f_sign (jF (kS e20 e21 e22 w0 w1 w2)) (kS e20 e21 e22 w0 w1 w2) (kO (kQ bn3) (by decide))))<|zE (vG false oLe (by exact decide_eq_false hd))<|zZ) ?_
 refine kY ?_
 refine jC<|jA<|kx [(8,(.ref 4 0))] [(4,some (bx (jI (jF ((kS e00 e01 e02 w0 w1 w2) / (kS e20 e21 e22 w0 w1 w2))))))] (zE (zW vJ 0)<|zR (kI jP)<|zE (zW vJ 2)<|zR (kI jP)<|zE (jX (by have h:=f_divide (jF (kS e00 e01 e02 w0 w1 w2)) (jF (kS e20 e21 e22 w0 w1 w2)) (kS e00 e01 e02 w0 w1 w2) (kS e20 e21 e22 w0 w1 w2) (kO (kQ bn1) (by decide)) (kO (kQ bn3) (by decide));rw[divR_ne (sgn_ne hd),divC_ne (sgn_ne hd)] at h;exact h))<|zM<|zE vQ<|zE vQ<|zN (uX 4 qW uI)<|zT (qF jP)<|zM<|zZ) ?_
 refine jA<|kx [(10,(.ref 5 0))] [(5,some (bx (jI (jF ((kS e10 e11 e12 w0 w1 w2) / (kS e20 e21 e22 w0 w1 w2))))))] (zE (zW vJ 1)<|zR (kI jP)<|zE (zW vJ 2)<|zR (kI jP)<|zE (jX (by have h:=f_divide (jF (kS e10 e11 e12 w0 w1 w2)) (jF (kS e20 e21 e22 w0 w1 w2)) (kS e10 e11 e12 w0 w1 w2) (kS e20 e21 e22 w0 w1 w2) (kO (kQ bn2) (by decide)) (kO (kQ bn3) (by decide));rw[divR_ne (sgn_ne hd),divC_ne (sgn_ne hd)] at h;exact h))<|zM<|zE vQ<|zE vQ<|zN (uX 5 qW uI)<|zT (qF jP)<|zM<|zZ) ?_
 refine jA<|kd [(6,(vb true))] [(1,some (bx (yV (nY.mk (jF ((kS e00 e01 e02 w0 w1 w2) / (kS e20 e21 e22 w0 w1 w2))) (jF ((kS e10 e11 e12 w0 w1 w2) / (kS e20 e21 e22 w0 w1 w2))))))),(2,some (bx (jI (jF (kS e20 e21 e22 w0 w1 w2)))))] mo (wR (kI jP)<|wR (kI jP)<|wE (oBd pl45 ze45 zo45)<|wE (zW vJ 2)<|wR (kI jP)<|wT (qF sh45)<|wT (qF jP)<|wM<|wZ) ?_
 refine jE ⟨_,(kV (cs:=(bx (yV (nY.mk (jF ((kS e00 e01 e02 w0 w1 w2) / (kS e20 e21 e22 w0 w1 w2))) (jF ((kS e10 e11 e12 w0 w1 w2) / (kS e20 e21 e22 w0 w1 w2))))))) (d:=(yV (nY.mk (jF ((kS e00 e01 e02 w0 w1 w2) / (kS e20 e21 e22 w0 w1 w2))) (jF ((kS e10 e11 e12 w0 w1 w2) / (kS e20 e21 e22 w0 w1 w2)))))) rfl rfl sh45 rfl rfl (kV (cs:=(bx (jI (jF (kS e20 e21 e22 w0 w1 w2))))) (d:=(jI (jF (kS e20 e21 e22 w0 w1 w2)))) rfl rfl jP rfl rfl (.tmp (d:=(.val (.bool (true)))) rfl .nil))),?_⟩
 rfl
theorem cb10:callB Tryz.prog 10=true:=by kernel_rfl
theorem fo82_0:uA Tryz.prog 82 0=some 0:=by kernel_rfl
theorem sh55:kZ Tryz.prog 55=some (true,20):=by kernel_rfl
theorem q_prj(lx ly lz la lb lc ld lf lu lv rx ry rz ra rb rc rd rf ru rv:Int)(px py pz:Int)(hpx:-1048576≤px∧px≤1048576)(hpy:-1048576≤py∧py≤1048576)(hpz:-1048576≤pz∧pz≤1048576)(b0 b1 b2 e00 e01 e02 e10 e11 e12 e20 e21 e22:Rat)(hF:RFr lx ly lz la lb lc ld rx ry rz ra rb rc rd b0 b1 b2 e00 e01 e02 e10 e11 e12 e20 e21 e22)(hqb0:QL b0 3)(hqb1:QL b1 3)(hqb2:QL b2 3)(hqe00:QL e00 400)(hqe01:QL e01 400)(hqe02:QL e02 400)(hqe10:QL e10 400)(hqe11:QL e11 400)(hqe12:QL e12 400)(hqe20:QL e20 400)(hqe21:QL e21 400)(hqe22:QL e22 400)(r0:Rat)(hr0:((px-lx:Int):Rat)=r0)(r1:Rat)(hr1:((py-ly:Int):Rat)=r1)(r2:Rat)(hr2:((pz-lz:Int):Rat)=r2)(hl:nW lx ly lz lu lv lf la lb lc ld=0)(hr:nW rx ry rz ru rv rf ra rb rc rd=0)(hup:upV la lb lc ld ra rb rc rd b0 b1 b2=false)(hd:¬ (eN (kS e20 e21 e22 r0 r1 r2))≤0):jR Tryz.prog 10 [(gO (mC.mk (xN.mk (uG.mk lx ly lz) (kK.mk la lb lc ld) lf (qI.mk lu lv)) (xN.mk (uG.mk rx ry rz) (kK.mk ra rb rc rd) rf (qI.mk ru rv)))),(eQ (uG.mk px py pz))] (.tup [(yV (nY.mk (jF ((kS e00 e01 e02 r0 r1 r2) / (kS e20 e21 e22 r0 r1 r2))) (jF ((kS e10 e11 e12 r0 r1 r2) / (kS e20 e21 e22 r0 r1 r2))))),(jI (jF ((kS e00 e01 e02 b0 b1 b2) / (kS e20 e21 e22 r0 r1 r2)))),(.val (.int .i64 (0)))]):=by
 have hbl:=stnC_ok hl
 have hbr:=stnC_ok hr
 obtain ⟨hlx,hly,hlz,hlu,hlv,hlf,hlq⟩:=hbl
 obtain ⟨hrx,hry,hrz,hru,hrv,hrf,hrq⟩:=hbr
 obtain ⟨hla,hlb,hlc,hld,-⟩:=rotC_ok hlq
 obtain ⟨hra,hrb,hrc,hrd,-⟩:=rotC_ok hrq
 have hnl:=nq_b hla hlb hlc hld
 have hnr:=nq_b hra hrb hrc hrd
 have hz0:=fr_z0 hF hup
 have hz1:=fr_z1 hF hup
 have hz2:=fr_z2 hF hup
 let y3:=nT
 let y2:=(gO (mC.mk (xN.mk (uG.mk lx ly lz) (kK.mk la lb lc ld) lf (qI.mk lu lv)) (xN.mk (uG.mk rx ry rz) (kK.mk ra rb rc rd) rf (qI.mk ru rv))))
 let y1:=(encRp (RRp.mk (xN.mk (uG.mk lx ly lz) (kK.mk la lb lc ld) lf (qI.mk lu lv)) (xN.mk (uG.mk rx ry rz) (kK.mk ra rb rc rd) rf (qI.mk ru rv)) (A3.mk (jF b0) (jF b1) (jF b2)) (A3.mk (A3.mk (jF e00) (jF e01) (jF e02)) (A3.mk (jF e10) (jF e11) (jF e12)) (A3.mk (jF e20) (jF e21) (jF e22)))))
 refine jH Tryz.func10 rfl cb10 rfl ?_
 show qS _ _ _ _ ⟨[(0,(.d y2)),(1,(.d (eQ (uG.mk px py pz))))],[]⟩
 refine jA<|kx [(2,(.ref 0 0)),(3,(.ref 1 0)),(4,(.ref 2 0)),(5,(.ref 3 0))] [(0,some (bx y2)),(1,some (bx (eQ (uG.mk px py pz)))),(2,some (bx (yV (nY.mk y3 y3)))),(3,some (bx (jI y3)))] (zN (vL 0)<|zN (vL 1)<|zN (uX 2 ze45 zo45)<|zN (uX 3 qW uI)<|zM<|zZ) ?_
 refine jA<|kx [(7,(.d (.cptr 1000001 (jQ.cells y1) 0))),(8,(vi 0))] [] (zR (kI sh55)<|zE (jX (q_rec lx ly lz la lb lc ld lf lu lv rx ry rz ra rb rc rd rf ru rv b0 b1 b2 e00 e01 e02 e10 e11 e12 e20 e21 e22 hF hqb0 hqb1 hqb2 hqe00 hqe01 hqe02 hqe10 hqe11 hqe12 hqe20 hqe21 hqe22 hl hr hup))<|zM<|zE vQ<|zE vQ<|zM<|zM<|zZ) ?_
 refine jA<|jA<|kx [(23,(vb false))] [] (zM<|zE (vG false oNe)<|zZ) ?_
 refine kY ?_
 refine jC<|jA<|jA<|kx [(33,(vl 3 1 jT [px,py,pz])),(34,(jL 3)),(35,(jL 0))] [] (zE (kJ fo49_0)<|zR (kX qC)<|zE (kJ fo49_1)<|zR (kX qC)<|zE (kJ fo49_2)<|zR (kX qC)<|zE (oBs vI ze3 zo3)<|zE (oLn vI 3)<|zM<|zZ) ?_
 refine jD<|uD 20 ?_
 refine uU<|jA<|kx [(36,(vb true))] [] (zE (vG true uE)<|zZ) ?_
 refine jA<|qB ?_
 refine jC<|jA<|jD<|jA<|kx [(10,(vi px))] [] (zE (dP vI 0)<|zE (xE qC)<|zM<|zZ) ?_
 refine jA<|kx [(44,(vb false))] [] (zM<|zE (vG false uE (by exact decide_eq_false (by omega)))<|zM<|zM<|zE (vG false gF (by exact decide_eq_false (by omega)))<|zE cB<|zZ) ?_
 refine kY ?_
 refine jC<|kx [(35,(jL 1))] [] (zE (qP 1 (hr:=by decide))<|zM<|zZ) ?_
 refine kA (kB.refl _) ?_
 refine jA<|kx [(36,(vb true))] [] (zE (vG true uE)<|zZ) ?_
 refine jA<|qB ?_
 refine jC<|jA<|jD<|jA<|kx [(10,(vi py))] [] (zE (dP vI 1)<|zE (xE qC)<|zM<|zZ) ?_
 refine jA<|kx [(44,(vb false))] [] (zM<|zE (vG false uE (by exact decide_eq_false (by omega)))<|zM<|zM<|zE (vG false gF (by exact decide_eq_false (by omega)))<|zE cB<|zZ) ?_
 refine kY ?_
 refine jC<|kx [(35,(jL 2))] [] (zE (qP 2 (hr:=by decide))<|zM<|zZ) ?_
 refine kA (kB.refl _) ?_
 refine jA<|kx [(36,(vb true))] [] (zE (vG true uE)<|zZ) ?_
 refine jA<|qB ?_
 refine jC<|jA<|jD<|jA<|kx [(10,(vi pz))] [] (zE (dP vI 2)<|zE (xE qC)<|zM<|zZ) ?_
 refine jA<|kE (wk (l:=[(3,(.ref 1 0)),(4,(.ref 2 0)),(5,(.ref 3 0)),(7,(.d (.cptr 1000001 (jQ.cells y1) 0))),(10,(vi pz)),(33,(vl 3 1 jT [px,py,pz])),(34,(jL 3)),(35,(jL 2))]) (b:=[(1,some (bx (eQ (uG.mk px py pz)))),(2,some (bx (yV (nY.mk y3 y3)))),(3,some (bx (jI y3)))])) ?_
 refine kx [(44,(vb false))] [] (zM<|zE (vG false uE (by exact decide_eq_false (by omega)))<|zM<|zM<|zE (vG false gF (by exact decide_eq_false (by omega)))<|zE cB<|zZ) ?_
 refine kY ?_
 refine jC<|kx [(35,(jL 3))] [] (zE (qP 3 (hr:=by decide))<|zM<|zZ) ?_
 refine kA (kB.refl _) ?_
 refine jA<|kx [(36,(vb false))] [] (zE (vG false uE)<|zZ) ?_
 refine jA<|kY ?_
 refine jV<|jA<|kx [(11,(.ref 4 0))] [(4,some (bx (eQ (uG.mk lx ly lz))))] (zM<|zE oNd<|zE (mZ fo82_0)<|zE (mZ fo53_0)<|zE (oCa sh49)<|zN (uX 4 ze49 zo49)<|zT (qF sh49)<|zZ) ?_
 refine jA ?_
 have bn1:QL r0 3:=(vS (Eq.symm hr0) (qi (px-lx)))
 have bn2:QL r1 3:=(vS (Eq.symm hr1) (qi (py-ly)))
 have bn3:QL r2 3:=(vS (Eq.symm hr2) (qi (pz-lz)))
 have bn4:QL ((kS e00 e01 e02 r0 r1 r2) / (kS e20 e21 e22 r0 r1 r2)) 4804:=(ql_div (k:=4804) (xJ (n:=400) (k:=2402) hqe00 hqe01 hqe02 (qu bn1) (qu bn2) (qu bn3) (by decide)) (xJ (n:=400) (k:=2402) hqe20 hqe21 hqe22 (qu bn1) (qu bn2) (qu bn3) (by decide)) (by decide))
 have bn5:QL ((kS e10 e11 e12 r0 r1 r2) / (kS e20 e21 e22 r0 r1 r2)) 4804:=(ql_div (k:=4804) (xJ (n:=400) (k:=2402) hqe10 hqe11 hqe12 (qu bn1) (qu bn2) (qu bn3) (by decide)) (xJ (n:=400) (k:=2402) hqe20 hqe21 hqe22 (qu bn1) (qu bn2) (qu bn3) (by decide)) (by decide))
 have bn6:QL (kS e20 e21 e22 r0 r1 r2) 2402:=(xJ (n:=400) (k:=2402) hqe20 hqe21 hqe22 (qu bn1) (qu bn2) (qu bn3) (by decide))
 refine kx [(12,(.ref 5 0)),(13,(.ref 6 0)),(14,(vb true))] [(5,some (bx (yV (nY.mk (jF ((kS e00 e01 e02 r0 r1 r2) / (kS e20 e21 e22 r0 r1 r2))) (jF ((kS e10 e11 e12 r0 r1 r2) / (kS e20 e21 e22 r0 r1 r2))))))),(6,some (bx (jI (jF (kS e20 e21 e22 r0 r1 r2)))))] (zM<|zE (kJ fo49_0)<|zR (kX qC)<|zE (kJ fo49_0)<|zR (kX qC)<|zE (cN (px-lx) (hr:=by exact (qV rfl (by simp only[xZ];omega) (by simp only[zD];omega))))<|zE (kJ fo49_1)<|zR (kX qC)<|zE (kJ fo49_1)<|zR (kX qC)<|zE (cN (py-ly) (hr:=by exact (qV rfl (by simp only[xZ];omega) (by simp only[zD];omega))))<|zE (kJ fo49_2)<|zR (kX qC)<|zE (kJ fo49_2)<|zR (kX qC)<|zE (cN (pz-lz) (hr:=by exact (qV rfl (by simp only[xZ];omega) (by simp only[zD];omega))))<|zE (jX (by have h:=q_whole (px-lx) (by omega) (by omega) (py-ly) (by omega) (by omega) (pz-lz) (by omega) (by omega);rw[hr0,hr1,hr2] at h;exact h))<|zE (jX (q_coo lx ly lz la lb lc ld lf lu lv rx ry rz ra rb rc rd rf ru rv b0 b1 b2 e00 e01 e02 e10 e11 e12 e20 e21 e22 hqb0 hqb1 hqb2 hqe00 hqe01 hqe02 hqe10 hqe11 hqe12 hqe20 hqe21 hqe22 r0 r1 r2 (qu bn1) (qu bn2) (qu bn3) hd))<|zM<|zE vQ<|zE vQ<|zE vQ<|zN (uX 5 ze45 zo45)<|zN (uX 6 qW uI)<|zT (qF sh45)<|zT (qF jP)<|zM<|zZ) ?_
 refine jA<|jA<|kx [(76,(vb false))] [] (zM<|zE oNt<|zZ) ?_
 refine kY ?_
 refine jC<|jA ?_
 have bn7:QL (kS e00 e01 e02 b0 b1 b2) 2402:=(xJ (n:=400) (k:=2402) hqe00 hqe01 hqe02 (qu hqb0) (qu hqb1) (qu hqb2) (by decide))
 refine kd [(15,(.ref 7 0))] [(7,some (bx (jI (jF ((kS e00 e01 e02 b0 b1 b2) / (kS e20 e21 e22 r0 r1 r2))))))] mo (wM<|wE oNd<|wE (mZ fo82_3)<|wE (oXc gS 0)<|wE (oCa zB)<|wM<|wE oNd<|wE (mZ fo82_2)<|wE (oCa zB)<|wE (jX (q_dot e00 e01 e02 (qu hqe00) (qu hqe01) (qu hqe02) b0 b1 b2 (qu hqb0) (qu hqb1) (qu hqb2)))<|wR (kI jP)<|wE (jX (by have h:=f_divide (jF (kS e00 e01 e02 b0 b1 b2)) (jF (kS e20 e21 e22 r0 r1 r2)) (kS e00 e01 e02 b0 b1 b2) (kS e20 e21 e22 r0 r1 r2) (kO (kQ bn7) (by decide)) (kO (kQ bn6) (by decide));rw[divR_ne (sgn_ne hd),divC_ne (sgn_ne hd)] at h;exact h))<|wM<|wE vQ<|wE vQ<|wN (uX 7 qW uI)<|wT (qF jP)<|wM<|wZ) ?_
 refine jA<|kd [(6,(jL 0))] [(2,some (bx (yV (nY.mk (jF ((kS e00 e01 e02 r0 r1 r2) / (kS e20 e21 e22 r0 r1 r2))) (jF ((kS e10 e11 e12 r0 r1 r2) / (kS e20 e21 e22 r0 r1 r2))))))),(3,some (bx (jI (jF ((kS e00 e01 e02 b0 b1 b2) / (kS e20 e21 e22 r0 r1 r2))))))] mo (wR (kI sh45)<|wR (kI jP)<|wT (qF sh45)<|wT (qF jP)<|wM<|wZ) ?_
 refine jE ⟨_,(kV (cs:=(bx (yV (nY.mk (jF ((kS e00 e01 e02 r0 r1 r2) / (kS e20 e21 e22 r0 r1 r2))) (jF ((kS e10 e11 e12 r0 r1 r2) / (kS e20 e21 e22 r0 r1 r2))))))) (d:=(yV (nY.mk (jF ((kS e00 e01 e02 r0 r1 r2) / (kS e20 e21 e22 r0 r1 r2))) (jF ((kS e10 e11 e12 r0 r1 r2) / (kS e20 e21 e22 r0 r1 r2)))))) rfl rfl sh45 rfl rfl (kV (cs:=(bx (jI (jF ((kS e00 e01 e02 b0 b1 b2) / (kS e20 e21 e22 r0 r1 r2)))))) (d:=(jI (jF ((kS e00 e01 e02 b0 b1 b2) / (kS e20 e21 e22 r0 r1 r2))))) rfl rfl jP rfl rfl (.tmp (d:=(.val (.int .i64 (((0:Nat):Int))))) rfl .nil))),?_⟩
 rfl
end Go.Proofs.YteimogfidbkpnaaGreat
namespace Go.Fid
theorem fb_b{a b:Int}(ha:1≤a∧a≤1048576)(hb:1≤b∧b≤1048576):0≤a*b∧a*b≤1099511627776:=by
 have h1:0≤a*b:=Int.mul_nonneg (by omega) (by omega)
 have h2:a*b≤1048576*1048576:=Int.mul_le_mul ha.2 hb.2 (by omega) (by omega)
 omega
end Go.Fid
