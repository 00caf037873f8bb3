/- Part 36 of a proof: rules, plain facts, and functions walked. -/
import Derived.Test.YtnajallgoaiahaaGreatDoorM34
import Derived.Test.YtnajallgoaiahaaGreatDoorM35
import Derived.Test.YtnajallgoaiahaaGreatDoorM19
import Derived.Test.YtnajallgoaiahaaGreatDoorM17
import Derived.Test.YtnajallgoaiahaaGreatDoorM23
import Derived.Test.YtnajallgoaiahaaGreatDoorM10
import Derived.Test.YtnajallgoaiahaaGreatDoorM18
set_option linter.unusedVariables false
set_option linter.unusedSimpArgs false
set_option maxRecDepth 4000
namespace Go.Proofs.YtnajallgoaiahaaGreatDoor
open Go.Fid
theorem cb12:callB Tryz.prog 12=true:=by kernel_rfl
theorem cb45:callB Tryz.prog 45=true:=by kernel_rfl
theorem u_few(t:List qC)(ht:yI 140737488355328 t)(n:Nat)(hn:n≤1000)(m:Nat)(hm:m≤1000)(htl:t.length≤140737488355328):jS Tryz.prog 45 [(.sl 83 7 (List.map kG t)),(.val (.int .i64 (((n:Nat):Int)))),(.val (.int .i64 (((m:Nat):Int))))] (.val (.bool ((eQ n m t)))):=by
 refine jJ Tryz.func45 rfl cb45 rfl ?_
 show qM _ _ _ _ ⟨[(0,(vl 83 7 kG t)),(1,(jK n)),(2,(jK m))],[]⟩
 refine jB<|kx [] [] (zM<|zZ) ?_
 refine jB<|jB<|kx [(16,(vb (decide (((n:Nat):Int)<((t.length:Nat):Int)))))] [] (zM<|zE (zD bD)<|zM<|zE gD<|zZ) ?_
 refine jH rfl (fun h1=>?_) (fun h1=>?_)
 ·replace h1:=vJ h1
  refine jB<|kx [(6,(vb false))] [] (zM<|zZ) ?_
  refine jG ⟨_,(.tmp (d:=(.val (.bool (false)))) rfl .nil),?_⟩
  rw[fewT_long h1];rfl
 ·replace h1:=vM h1
  have hlk:=h1
  refine jF<|jB<|jB<|kx [(17,(vl 83 7 kG t)),(18,(jK t.length)),(19,(jK 0))] [] (zM<|zE (zD bD)<|zM<|zZ) ?_
  refine jI<|kM (α:=Nat) (fun i=>⟨[(0,(vl 83 7 kG t)),(2,(jK m)),(17,(vl 83 7 kG t)),(18,(jK t.length)),(19,(jK i))],[]⟩) (fun i=>i≤t.length∧(t.take i).all dgB=true) (fun i=>t.length-i) 0 wk ⟨Nat.zero_le _,by simp⟩ ?_
  rintro i ⟨hi,hal⟩
  refine jB<|kx [(20,(vb (decide (((i:Nat):Int)<((t.length:Nat):Int)))))] [] (zE xY<|zZ) ?_
  refine jB<|jH rfl (fun h2=>?_) (fun h2=>?_)
  ·replace h2:=vJ h2
   refine jF<|jB<|jI<|jB<|kx [(8,(.ref 0 0))] [(0,some (bx (kG (t.getD i tz))))] (zE (nE bD i (tz:qC))<|zE (gN bL)<|zN (qW 0 ze83 zo83)<|zT (qF bL)<|zZ) ?_
   refine jB<|kx [(26,(vb (decide (8<(((digR ((t.getD i tz).n)):Nat):Int)))))] [] (zE (qA dP)<|zR (kP jW)<|zE (kA (g_digits ((t.getD i tz).n) (qN (t.getD i tz).n) (tn_get ht (show i<t.length by omega))))<|zE gD<|zZ) ?_
   refine jH rfl (fun h3=>?_) (fun h3=>?_)
   ·replace h3:=vJ h3
    refine jB<|kx [(6,(vb false))] [] (zM<|zZ) ?_
    refine jG ⟨_,(.tmp (d:=(.val (.bool (false)))) rfl .nil),?_⟩
    rw[fewT_dig (all_no (i:=i) (d:=tz) (by omega) (dgB_n h3))];rfl
   ·replace h3:=vM h3
    refine jF<|kx [(19,(jK (i+1)))] [] (zE (xE (i+1))<|zM<|zZ) ?_
    exact ⟨(i+1),wk,⟨by omega,all_up (d:=tz) (by omega) hal (dgB_y h3)⟩,(by first|omega|(dsimp only;omega))⟩
  ·replace h2:=vM h2
   have hie:i=t.length:=by omega
   rw[hie,List.take_length] at hal
   have hT8:yI 8 t:=dg_ok hal
   refine kL<|jB<|kx [(9,(vl 3 1 qE (tmL 8 t))),(10,(jK (gQ 8 t)))] [] (zM<|zE (kA (u_sizes t (tn_up hT8 (by decide)) 8))<|zM<|zE vI<|zE vI<|zM<|zM<|zZ) ?_
   refine jB<|jB<|kx [(34,(vb ((((gQ 8 t):Nat):Int) != 0)))] [] (zM<|zE cR<|zZ) ?_
   refine jH (b:=((((gQ 8 t):Nat):Int) != 0)) rfl (fun h4=>?_) (fun h4=>?_)
   ·replace h4:=bne_iff_ne.1 h4
    refine jB<|kx [(6,(vb true))] [] (zM<|zZ) ?_
    refine jG ⟨_,(.tmp (d:=(.val (.bool (true)))) rfl .nil),?_⟩
    rw[fewT_code hlk hal h4];rfl
   ·replace h4:=bne_eq_false_iff_eq.1 h4
    have hc0:=h4
    have hll:=tmL_len hc0
    refine jF<|jB<|jB<|kx [(35,(vl 3 1 qE (tmL 8 t))),(36,(jK ((tmL 8 t).length))),(37,(jK 0))] [] (zM<|zE (zD yU (L:=(tmL 8 t)))<|zM<|zZ) ?_
    refine jI<|kM (α:=Nat) (fun j=>⟨[(2,(jK m)),(35,(vl 3 1 qE (tmL 8 t))),(36,(jK ((tmL 8 t).length))),(37,(jK j))],[]⟩) (fun j=>j≤(tmL 8 t).length∧((tmL 8 t).take j).all (szB m)=true) (fun j=>(tmL 8 t).length-j) 0 wk ⟨Nat.zero_le _,by simp⟩ ?_
    rintro j ⟨hj,hal2⟩
    refine jB<|kx [(38,(vb (decide (((j:Nat):Int)<(((tmL 8 t).length:Nat):Int)))))] [] (zE xY<|zZ) ?_
    refine jB<|jH rfl (fun h5=>?_) (fun h5=>?_)
    ·replace h5:=vJ h5
     refine jF<|jB<|jI<|jB<|kx [(12,(vi ((tmL 8 t).getD j 0)))] [] (zE (nE yU j (0:Int) (L:=(tmL 8 t)))<|zE (nC gI)<|zM<|zZ) ?_
     refine jB<|kx [(43,(vb (decide (((m:Nat):Int)<((tmL 8 t).getD j 0)))))] [] (zM<|zM<|zE gD<|zZ) ?_
     refine jH rfl (fun h6=>?_) (fun h6=>?_)
     ·replace h6:=vJ h6
      refine jB<|kx [(6,(vb false))] [] (zM<|zZ) ?_
      refine jG ⟨_,(.tmp (d:=(.val (.bool (false)))) rfl .nil),?_⟩
      rw[fewT_big hc0 (all_no (i:=j) (d:=0) (by omega) (by unfold szB;exact decide_eq_false (by omega)))];rfl
     ·replace h6:=vM h6
      refine jF<|kx [(37,(jK (j+1)))] [] (zE (xE (j+1))<|zM<|zZ) ?_
      exact ⟨(j+1),wk,⟨by omega,all_up (d:=0) (by omega) hal2 (by unfold szB;exact decide_eq_true (by omega))⟩,(by first|omega|(dsimp only;omega))⟩
    ·replace h5:=vM h5
     have hje:j=(tmL 8 t).length:=by omega
     rw[hje,List.take_length] at hal2
     refine kL<|jB<|kx [(6,(vb true))] [] (zM<|zZ) ?_
     refine jG ⟨_,(.tmp (d:=(.val (.bool (true)))) rfl .nil),?_⟩
     rw[fewT_yes hlk hal hal2];rfl
theorem u_small(t:List qC)(ht:yI 140737488355328 t)(l:List kF)(hl:zU 140737488355328 l)(htl:t.length≤140737488355328):jS Tryz.prog 12 [(.sl 83 7 (List.map kG t)),(.sl 45 4 (List.map jL l))] (.val (.bool ((eQ 16 10 t&&shR 4 6 l)))):=by
 refine jJ Tryz.func12 rfl cb12 rfl ?_
 show qM _ _ _ _ ⟨[(0,(vl 83 7 kG t)),(1,(vl 45 4 jL l))],[]⟩
 refine jB<|kx [] [] (zM<|zZ) ?_
 refine jB<|kx [(4,(vb ((eQ 16 10 t)&&(shR 4 6 l))))] [] ?_ ?_
 ·refine zM<|zE (kA (u_few t ht 16 (by omega) 10 (by omega) htl))<|zE (oV (vb (eQ 16 10 t)) (qQ (by kernel_rfl)))<|?_
  rcases hb1:(eQ 16 10 t) with _ | _
  ·exact zK<|zK<|zE gE<|zM<|zZ
  ·exact zM<|zE (kA (u_short l hl 4 (by omega) 6 (by omega)))<|zE fA<|zM<|zZ
 refine jG ⟨_,(.tmp (d:=(.val (.bool (((eQ 16 10 t)&&(shR 4 6 l)))))) rfl .nil),?_⟩
 rfl
theorem tame_fail{bv:List R2}{t:List qC}(h:cJ bv t)(hd:dzT bv t=true):∃ k,JFailP bv t k:=by
 obtain ⟨k,hk⟩:=dz_fst hd
 exact ⟨k,fail_p h hk⟩
end Go.Proofs.YtnajallgoaiahaaGreatDoor
namespace Go.Fid
theorem den_pos(u:Rat):((u.den:Nat):Int)≠0:=by have:=u.den_pos;omega
end Go.Fid
namespace Go.Proofs.YtnajallgoaiahaaGreatDoor
open Go.Fid
theorem cb148:callB Tryz.prog 148=true:=by kernel_rfl
theorem cb228:callB Tryz.prog 228=true:=by kernel_rfl
theorem f_counted(x:qG)(a:Int)(hx:gR x a 68719476736):jS Tryz.prog 228 [(jT x)] (jT (kS a)):=by
 refine jJ Tryz.func228 rfl cb228 rfl ?_
 show qM _ _ _ _ ⟨[(0,(.d (jT x)))],[]⟩
 refine jB<|kx [(1,(.ref 0 0)),(2,(.ref 1 0))] [(0,some (bx (jT x))),(1,some (bx (jT (qG.mk false []))))] (zN (uY 0)<|zN (qW 1 gC gA)<|zZ) ?_
 refine jB<|jB<|kx [(4,(vb (vC x)))] [] (zR (kP kD)<|zE (kA (t_valid x (Nat.le_trans hx.l (by decide))))<|zZ) ?_
 refine jH (b:=(vC x)) rfl (fun h1=>?_) (fun h1=>?_)
 ·refine jB<|kx [] [(1,some (bx (jT x)))] (zR (kP kD)<|zT (qF kD)<|zZ) ?_
  refine jG ⟨_,(kJ (cs:=(bx (jT x))) (d:=(jT x)) rfl rfl kD rfl rfl .nil),?_⟩
  rw[← hx.v,ofZ_toZ h1];rfl
 ·refine jF<|jB<|kx [] [(1,some (bx (jT (kS 0))))] (zE (kA (t_of 0 (by decide) (by decide)))<|zT (qF kD)<|zZ) ?_
  refine jG ⟨_,(kJ (cs:=(bx (jT (kS 0)))) (d:=(jT (kS 0))) rfl rfl kD rfl rfl .nil),?_⟩
  rw[← hx.v,toZ_bad h1,ofZ_zero];rfl
theorem f_newO(num:qG)(a:Int)(fR:gR num a 68719476736)(den:qG)(b:Int)(eB:gR den b 68719476736)(hb:b≠0):jS Tryz.prog 148 [(jT num),(jT den)] (.tup [(jL (jM (Rat.divInt a b))),(.val (.int .i64 (0)))]):=by
 refine jJ Tryz.func148 rfl cb148 rfl ?_
 show qM _ _ _ _ ⟨[(0,(.d (jT num))),(1,(.d (jT den)))],[]⟩
 refine jB<|kx [(2,(.ref 0 0)),(3,(.ref 1 0)),(4,(.ref 2 0))] [(0,some (bx (jT num))),(1,some (bx (jT den))),(2,some (bx (jL kR)))] (zN (uY 0)<|zN (uY 1)<|zN (qW 2 uH uN)<|zM<|zZ) ?_
 refine jB<|kd [] [(0,some (bx (jT (kS a)))),(1,some (bx (jT (kS b))))] mo (wR (kP kD)<|wE (kA (f_counted num a fR))<|wR (kP kD)<|wE (kA (f_counted den b eB))<|wT (qF kD)<|wT (qF kD)<|wZ) ?_
 refine jB<|jB<|kx [(12,(vb false))] [] (zR (kP kD)<|zE (kA (s_sign (mX (gR.ln eB)) (by decide)))<|zE (uR false xR (by exact beq_eq_false_iff_ne.2 (signI_ne hb)))<|zZ) ?_
 refine kI ?_
 refine jF<|jB<|kx [(5,(jK 0))] [(2,some (bx (jL (jM (Rat.divInt a b)))))] (zR (kP kD)<|zR (kP kD)<|zE (kA (cM (kS a) (kS b) a b (mX (gR.ln fR)) (mX (gR.ln eB)) (by assumption)))<|zT (qF jW)<|zM<|zZ) ?_
 refine jG ⟨_,(kJ (cs:=(bx (jL (jM (Rat.divInt a b))))) (d:=(jL (jM (Rat.divInt a b)))) rfl rfl jW rfl rfl (.tmp (d:=(.val (.int .i64 (0)))) rfl .nil)),?_⟩
 rfl
theorem cb32:callB Tryz.prog 32=true:=by kernel_rfl
theorem cb88:callB Tryz.prog 88=true:=by kernel_rfl
theorem i_ptC(p:Rat)(hp:QL p 200):jS Tryz.prog 89 [(jL (jM p))] (.tup [(jD (jO.mk (jM p) (jM p))),(.val (.int .i64 (((0:Nat):Int))))]):=by
 refine jJ Tryz.func89 rfl cb89 rfl ?_
 show qM _ _ _ _ ⟨[(0,(.d (jL (jM p))))],[]⟩
 refine jB<|kx [(1,(.ref 0 0)),(2,(.ref 1 0))] [(0,some (bx (jL (jM p)))),(1,some (bx (jD (jO.mk kR kR))))] (zN (uY 0)<|zN (qW 1 qL qR)<|zM<|zZ) ?_
 refine jB<|kx [(3,(vi 0))] [(1,some (bx (jD (jO.mk (jM p) (jM p)))))] (zR (kP jW)<|zR (kP jW)<|zE (kA (i_makeO (jM p) p (jQ (kB hp) (by decide)) (jM p) p (jQ (kB hp) (by decide)) (by rw[cK];rfl) (Rat.le_refl (a:=p))))<|zE vI<|zE vI<|zT (qF jY)<|zM<|zZ) ?_
 refine jG ⟨_,(kJ (cs:=(bx (jD (jO.mk (jM p) (jM p))))) (d:=(jD (jO.mk (jM p) (jM p)))) rfl rfl jY rfl rfl (.tmp (d:=(.val (.int .i64 (0)))) rfl .nil)),?_⟩
 rfl
theorem p_of(n:Int)(hnl:-9223372036854775808≤n)(hnh:n≤9223372036854775807)(d:Int)(hdl:-9223372036854775808≤d)(hdh:d≤9223372036854775807)(hd:d≠0):jS Tryz.prog 88 [(.val (.int .i64 (n))),(.val (.int .i64 (d)))] (.tup [(jL (jM (Rat.divInt n d))),(.val (.int .i64 (0)))]):=by
 refine jJ Tryz.func88 rfl cb88 rfl ?_
 show qM _ _ _ _ ⟨[(0,(vi n)),(1,(vi d))],[]⟩
 refine jB<|kx [(4,(.ref 0 0))] [(0,some (bx (jL kR)))] (zN (qW 0 uH uN)<|zM<|zZ) ?_
 refine jB<|kx [(5,(vi 0))] [(0,some (bx (jL (jM (Rat.divInt n d)))))] (zM<|zE (kA (t_of n (by omega) (by omega)))<|zM<|zE (kA (t_of d (by omega) (by omega)))<|zE (kA (f_newO (kS n) n (nA (iok_int (z:=n) (by omega) (by omega)) (by decide)) (kS d) d (nA (iok_int (z:=d) (by omega) (by omega)) (by decide)) hd))<|zE vI<|zE vI<|zT (qF jW)<|zM<|zZ) ?_
 refine jG ⟨_,(kJ (cs:=(bx (jL (jM (Rat.divInt n d))))) (d:=(jL (jM (Rat.divInt n d)))) rfl rfl jW rfl rfl (.tmp (d:=(.val (.int .i64 (0)))) rfl .nil)),?_⟩
 rfl
theorem p_ellO(m:List (List kF))(hm:mO 6 m)(i:Nat)(j:Nat)(k:Nat)(hk:k≤512)(hc:mchk m=0)(hf:fitC m m.length=0)(hi:i<m.length)(hj:j<m.length)(hij:i≠j):jS Tryz.prog 32 [(.sl 24 1 (List.map kC m)),(.val (.int .i64 (((i:Nat):Int)))),(.val (.int .i64 (((j:Nat):Int)))),(.val (.int .i64 (((k:Nat):Int))))] (.tup [(jD (jO.mk (jM (((Rat.divInt 1 2)*((qN ((m.getD i []).getD i kR))+(qN ((m.getD j []).getD j kR))))+(Rat.divInt (qV (nR (((((Rat.divInt 1 2)*((qN ((m.getD i []).getD i kR))-(qN ((m.getD j []).getD j kR))))*((Rat.divInt 1 2)*((qN ((m.getD i []).getD i kR))-(qN ((m.getD j []).getD j kR)))))+((qN ((m.getD i []).getD j kR))*(qN ((m.getD i []).getD j kR))))*((vX k)*(vX k))))) ((2 ^ k:Nat):Int)))) (jM (((Rat.divInt 1 2)*((qN ((m.getD i []).getD i kR))+(qN ((m.getD j []).getD j kR))))+(Rat.divInt (upI (((((Rat.divInt 1 2)*((qN ((m.getD i []).getD i kR))-(qN ((m.getD j []).getD j kR))))*((Rat.divInt 1 2)*((qN ((m.getD i []).getD i kR))-(qN ((m.getD j []).getD j kR)))))+((qN ((m.getD i []).getD j kR))*(qN ((m.getD i []).getD j kR))))*((vX k)*(vX k)))) ((2 ^ k:Nat):Int)))))),(jD (jO.mk (jM (((Rat.divInt 1 2)*((qN ((m.getD i []).getD i kR))+(qN ((m.getD j []).getD j kR))))-(Rat.divInt (upI (((((Rat.divInt 1 2)*((qN ((m.getD i []).getD i kR))-(qN ((m.getD j []).getD j kR))))*((Rat.divInt 1 2)*((qN ((m.getD i []).getD i kR))-(qN ((m.getD j []).getD j kR)))))+((qN ((m.getD i []).getD j kR))*(qN ((m.getD i []).getD j kR))))*((vX k)*(vX k)))) ((2 ^ k:Nat):Int)))) (jM (((Rat.divInt 1 2)*((qN ((m.getD i []).getD i kR))+(qN ((m.getD j []).getD j kR))))-(Rat.divInt (qV (nR (((((Rat.divInt 1 2)*((qN ((m.getD i []).getD i kR))-(qN ((m.getD j []).getD j kR))))*((Rat.divInt 1 2)*((qN ((m.getD i []).getD i kR))-(qN ((m.getD j []).getD j kR)))))+((qN ((m.getD i []).getD j kR))*(qN ((m.getD i []).getD j kR))))*((vX k)*(vX k))))) ((2 ^ k:Nat):Int)))))),(.val (.int .i64 (((0:Nat):Int))))]):=by
 have hmb:=hm.2
 have hrc:=mchk_rect hc
 have hf2:=fit_of hf
 have hri:=(hrc.at hi).1
 have hrj:=(hrc.at hj).1
 have hm64:=hrc.r64
 let y24:=kR
 let y23:=(qN ((m.getD i []).getD j y24))
 let y22:=(qN ((m.getD j []).getD j y24))
 let y21:=(qN ((m.getD i []).getD i y24))
 let y20:=(bx (jD (jO.mk y24 y24)))
 let y19:=(y21+y22)
 let y18:=(y23*y23)
 let y17:=(y21-y22)
 let y16:=((Rat.divInt 1 2)*y19)
 let y15:=((Rat.divInt 1 2)*y17)
 let y14:=(jM y16)
 let y13:=(jM y15)
 let y12:=(y15*y15)
 let y11:=(y12+y18)
 let y10:=(jM y11)
 let y9:=(y11*((vX k)*(vX k)))
 let y8:=(Rat.divInt (upI y9) ((2 ^ k:Nat):Int))
 let y7:=(Rat.divInt (qV (nR y9)) ((2 ^ k:Nat):Int))
 let y6:=(y16-y8)
 let y5:=(y16+y8)
 let y4:=(y16-y7)
 let y3:=(y16+y7)
 let y2:=(bx (jD (jO.mk (jM y6) (jM y4))))
 let y1:=(bx (jD (jO.mk (jM y3) (jM y5))))
 refine jJ Tryz.func32 rfl cb32 rfl ?_
 show qM _ _ _ _ ⟨[(0,(vl 24 1 kC m)),(1,(jK i)),(2,(jK j)),(3,(jK k))],[]⟩
 refine jB<|kx [(8,(.ref 0 0)),(9,(.ref 1 0))] [(0,some y20),(1,some y20)] (zN (qW 0 qL qR)<|zN (qW 1 qL qR)<|zM<|zZ) ?_
 refine jB<|jB<|kx [(31,(vb false))] [] (zM<|zE (kA (m_chk m (mat_up hm (by decide))))<|zE (uR false cR (by exact bne_eq_false_iff_eq.2 (by rw[show (mchk m)=0 from hc]<;>rfl)))<|zZ) ?_
 refine kI ?_
 refine jF<|jB<|kx [(11,(jK m.length))] [] (zM<|zE (zD eY)<|zM<|zZ) ?_
 refine jB<|jB<|kx [(12,(jK (fitC m m.length)))] [] (zM<|zM<|zE (kA (p_fit m (mat_up hm (by decide)) m.length (by assumption)))<|zM<|zZ) ?_
 refine jB<|kx [(40,(vb false))] [] (zM<|zE (uR false cR (by exact bne_eq_false_iff_eq.2 (by rw[show (fitC m m.length)=0 from hf]<;>rfl)))<|zZ) ?_
 refine kI ?_
 refine jF<|jB<|jB<|kx [(72,(vb false))] [] (zM<|zE (uR false xY (by exact decide_eq_false (show ¬ ((i:Nat):Int)<0 by omega)))<|zM<|zM<|zM<|zE (uR false oGe (by exact decide_eq_false (show ¬ ((m.length:Nat):Int)≤((i:Nat):Int) by omega)))<|zE gE<|zM<|zM<|zE (uR false xY (by exact decide_eq_false (show ¬ ((j:Nat):Int)<0 by omega)))<|zE gE<|zM<|zM<|zM<|zE (uR false oGe (by exact decide_eq_false (show ¬ ((m.length:Nat):Int)≤((j:Nat):Int) by omega)))<|zE gE<|zM<|zM<|zM<|zE (uR false xR (by exact beq_eq_false_iff_ne.2 (show ((i:Nat):Int)≠((j:Nat):Int) by omega)))<|zE gE<|zM<|zM<|zE (uR false xY (by exact decide_eq_false (show ¬ ((k:Nat):Int)<0 by omega)))<|zE gE<|zM<|zM<|zE (uR false gD (by exact decide_eq_false (show ¬ 512<((k:Nat):Int) by omega)))<|zE gE<|zZ) ?_
 refine kI ?_
 refine jF<|jB ?_
 have bn1:QL (Rat.divInt 1 2) 3:=(yP (n:=3) (mM (by omega) (by omega)) (mM (by omega) (by omega)) (by decide))
 refine kx [(13,(.ref 2 0))] [(2,some (bx (jL (jM (Rat.divInt 1 2)))))] (zE (kA (p_of ((1:Nat):Int) (by omega) (by omega) ((2:Nat):Int) (by omega) (by omega) (by decide)))<|zM<|zE vI<|zE vI<|zN (qW 2 uH uN)<|zT (qF jW)<|zM<|zZ) ?_
 refine jB<|kd [(15,(.ref 3 0)),(16,(.ref 4 0)),(17,(.ref 5 0))] [(3,some (bx (jL ((m.getD i []).getD i y24)))),(4,some (bx (jL ((m.getD i []).getD j y24)))),(5,some (bx (jL ((m.getD j []).getD j y24))))] mo (wM<|wM<|wE (nE eY i ([]:List (kF)))<|wE (nC sh24)<|wM<|wE (nE vE i y24 (L:=(m.getD i [])))<|wE (gN jW)<|wM<|wM<|wE (nE eY i ([]:List (kF)))<|wE (nC sh24)<|wM<|wE (nE vE j y24 (L:=(m.getD i [])))<|wE (gN jW)<|wM<|wM<|wE (nE eY j ([]:List (kF)))<|wE (nC sh24)<|wM<|wE (nE vE j y24 (L:=(m.getD j [])))<|wE (gN jW)<|wN (qW 3 uH uN)<|wN (qW 4 uH uN)<|wN (qW 5 uH uN)<|wT (qF jW)<|wT (qF jW)<|wT (qF jW)<|wZ) ?_
 refine jB ?_
 have bn2:QL y17 13:=(aP (k:=13) (xZ (yK (d:=[]) hm (show i<m.length by omega)).1 (show i<(m.getD i []).length by omega)).ql (xZ (yK (d:=[]) hm (show j<m.length by omega)).1 (show j<(m.getD j []).length by omega)).ql (by decide))
 refine kd [(18,(.ref 6 0))] [(6,some (bx (jL y13)))] mo (wR (kP jW)<|wR (kP jW)<|wR (kP jW)<|wE (kA (f_sub ((m.getD i []).getD i y24) ((m.getD j []).getD j y24) y21 y22 (jQ (xZ (yK (d:=[]) hm (show i<m.length by omega)).1 (show i<(m.getD i []).length by omega)) (by decide)) (jQ (xZ (yK (d:=[]) hm (show j<m.length by omega)).1 (show j<(m.getD j []).length by omega)) (by decide))))<|wE (kA (eS (jM (Rat.divInt 1 2)) (jM y17) (Rat.divInt 1 2) y17 (jQ (kB bn1) (by decide)) (jQ (kB bn2) (by decide))))<|wN (qW 6 uH uN)<|wT (qF jW)<|wZ) ?_
 refine jB ?_
 have bn3:QL y12 32:=(uC (k:=32) (uC (k:=16) bn1 bn2 (by decide)) (uC (k:=16) bn1 bn2 (by decide)) (by decide))
 have bn4:QL y18 12:=(uC (k:=12) (xZ (yK (d:=[]) hm (show i<m.length by omega)).1 (show j<(m.getD i []).length by omega)).ql (xZ (yK (d:=[]) hm (show i<m.length by omega)).1 (show j<(m.getD i []).length by omega)).ql (by decide))
 refine kd [(19,(.ref 7 0))] [(7,some (bx (jD (jO.mk y10 y10))))] mo (wR (kP jW)<|wR (kP jW)<|wE (kA (eS y13 y13 y15 y15 (jQ (kB (uC (k:=16) bn1 bn2 (by decide))) (by decide)) (jQ (kB (uC (k:=16) bn1 bn2 (by decide))) (by decide))))<|wR (kP jW)<|wR (kP jW)<|wE (kA (eS ((m.getD i []).getD j y24) ((m.getD i []).getD j y24) y23 y23 (jQ (xZ (yK (d:=[]) hm (show i<m.length by omega)).1 (show j<(m.getD i []).length by omega)) (by decide)) (jQ (xZ (yK (d:=[]) hm (show i<m.length by omega)).1 (show j<(m.getD i []).length by omega)) (by decide))))<|wE (kA (f_add (jM y12) (jM y18) y12 y18 (jQ (kB bn3) (by decide)) (jQ (kB bn4) (by decide))))<|wE (kA (i_ptC y11 (xW (dF (k:=45) bn3 bn4 (by decide)) (by decide))))<|wM<|wE vI<|wE vI<|wN (qW 7 qL qR)<|wT (qF jY)<|wM<|wZ) ?_
 refine jB ?_
 have bn5:QL y7 86:=(yP (n:=86) (Nat.le_trans (gR.ln (iok_root (fl_nn (aN (sq2_nn y15 y23))) (aK (k:=86) (uC (k:=85) (dF (k:=45) bn3 bn4 (by decide)) (uC (k:=40) (eL (k:=k) (by omega)) (eL (k:=k) (by omega)) (by decide)) (by decide)) (by decide)))) (by decide)) (Nat.le_trans (gR.ln (dN (k:=k) (by omega))) (by decide)) (by decide))
 have bn6:QL y8 87:=(yP (n:=87) (Nat.le_trans (gR.ln (iok_upI (k:=87) (fl_nn (aN (Rat.le_trans (sq2_nn y15 y23) Rat.le_refl))) (aK (k:=86) (uC (k:=85) (dF (k:=45) bn3 bn4 (by decide)) (uC (k:=40) (eL (k:=k) (by omega)) (eL (k:=k) (by omega)) (by decide)) (by decide)) (by decide)) (by decide) (by decide))) (by decide)) (Nat.le_trans (gR.ln (dN (k:=k) (by omega))) (by decide)) (by decide))
 refine kx [(21,(.ref 8 0))] [(8,some (bx (jD (jO.mk (jM y7) (jM y8)))))] (zR (kP jY)<|zM<|zE (kA (di_root y11 y11 (xW (dF (k:=45) bn3 bn4 (by decide)) (by decide)) (xW (dF (k:=45) bn3 bn4 (by decide)) (by decide)) Rat.le_refl k (by omega) (sq2_nn y15 y23)))<|zM<|zE vI<|zE vI<|zN (qW 8 qL qR)<|zT (qF jY)<|zM<|zZ) ?_
 refine jB ?_
 have bn7:QL y19 13:=(dF (k:=13) (xZ (yK (d:=[]) hm (show i<m.length by omega)).1 (show i<(m.getD i []).length by omega)).ql (xZ (yK (d:=[]) hm (show j<m.length by omega)).1 (show j<(m.getD j []).length by omega)).ql (by decide))
 refine kd [(23,(.ref 9 0))] [(9,some (bx (jD (jO.mk y14 y14))))] mo (wR (kP jW)<|wR (kP jW)<|wR (kP jW)<|wE (kA (f_add ((m.getD i []).getD i y24) ((m.getD j []).getD j y24) y21 y22 (jQ (xZ (yK (d:=[]) hm (show i<m.length by omega)).1 (show i<(m.getD i []).length by omega)) (by decide)) (jQ (xZ (yK (d:=[]) hm (show j<m.length by omega)).1 (show j<(m.getD j []).length by omega)) (by decide))))<|wE (kA (eS (jM (Rat.divInt 1 2)) (jM y19) (Rat.divInt 1 2) y19 (jQ (kB bn1) (by decide)) (jQ (kB bn7) (by decide))))<|wE (kA (i_ptC y16 (xW (uC (k:=16) bn1 bn7 (by decide)) (by decide))))<|wM<|wE vI<|wE vI<|wN (qW 9 qL qR)<|wT (qF jY)<|wM<|wZ) ?_
 refine jB ?_
 have bn8:QL y3 104:=(dF (k:=104) (uC (k:=16) bn1 bn7 (by decide)) bn5 (by decide))
 have bn9:QL y5 104:=(dF (k:=104) (uC (k:=16) bn1 bn7 (by decide)) bn6 (by decide))
 refine kx [(25,(.ref 10 0))] [(10,some y1)] (zR (kP jY)<|zR (kP jY)<|zE (kA (i_add y16 y16 y7 y8 (xW (uC (k:=16) bn1 bn7 (by decide)) (by decide)) (xW (uC (k:=16) bn1 bn7 (by decide)) (by decide)) (qu bn5) (qu bn6) Rat.le_refl (rt_valid k (sq2_nn y15 y23) Rat.le_refl)))<|zM<|zE vI<|zE vI<|zN (qW 10 qL qR)<|zT (qF jY)<|zM<|zZ) ?_
 refine jB ?_
 have bn10:QL y6 104:=(aP (k:=104) (uC (k:=16) bn1 bn7 (by decide)) bn6 (by decide))
 have bn11:QL y4 104:=(aP (k:=104) (uC (k:=16) bn1 bn7 (by decide)) bn5 (by decide))
 refine kx [(27,(.ref 11 0))] [(11,some y2)] (zR (kP jY)<|zR (kP jY)<|zE (kA (i_sub y16 y16 y7 y8 (xW (uC (k:=16) bn1 bn7 (by decide)) (by decide)) (xW (uC (k:=16) bn1 bn7 (by decide)) (by decide)) (qu bn5) (qu bn6) Rat.le_refl (rt_valid k (sq2_nn y15 y23) Rat.le_refl)))<|zM<|zE vI<|zE vI<|zN (qW 11 qL qR)<|zT (qF jY)<|zM<|zZ) ?_
 refine jB<|jV (wk (l:=[(8,(.ref 0 0)),(9,(.ref 1 0)),(25,(.ref 10 0)),(27,(.ref 11 0))]) (b:=[(0,some y20),(1,some y20),(10,some y1),(11,some y2)])) ?_
 refine kd [(10,(jK 0))] [(0,some y1),(1,some y2)] mo (wR (kP jY)<|wR (kP jY)<|wT (qF jY)<|wT (qF jY)<|wM<|wZ) ?_
 refine jG ⟨_,(kJ (cs:=(bx (jD (jO.mk (jM (((Rat.divInt 1 2)*((qN ((m.getD i []).getD i kR))+(qN ((m.getD j []).getD j kR))))+(Rat.divInt (qV (nR (((((Rat.divInt 1 2)*((qN ((m.getD i []).getD i kR))-(qN ((m.getD j []).getD j kR))))*((Rat.divInt 1 2)*((qN ((m.getD i []).getD i kR))-(qN ((m.getD j []).getD j kR)))))+((qN ((m.getD i []).getD j kR))*(qN ((m.getD i []).getD j kR))))*((vX k)*(vX k))))) ((2 ^ k:Nat):Int)))) (jM (((Rat.divInt 1 2)*((qN ((m.getD i []).getD i kR))+(qN ((m.getD j []).getD j kR))))+(Rat.divInt (upI (((((Rat.divInt 1 2)*((qN ((m.getD i []).getD i kR))-(qN ((m.getD j []).getD j kR))))*((Rat.divInt 1 2)*((qN ((m.getD i []).getD i kR))-(qN ((m.getD j []).getD j kR)))))+((qN ((m.getD i []).getD j kR))*(qN ((m.getD i []).getD j kR))))*((vX k)*(vX k)))) ((2 ^ k:Nat):Int)))))))) (d:=(jD (jO.mk (jM (((Rat.divInt 1 2)*((qN ((m.getD i []).getD i kR))+(qN ((m.getD j []).getD j kR))))+(Rat.divInt (qV (nR (((((Rat.divInt 1 2)*((qN ((m.getD i []).getD i kR))-(qN ((m.getD j []).getD j kR))))*((Rat.divInt 1 2)*((qN ((m.getD i []).getD i kR))-(qN ((m.getD j []).getD j kR)))))+((qN ((m.getD i []).getD j kR))*(qN ((m.getD i []).getD j kR))))*((vX k)*(vX k))))) ((2 ^ k:Nat):Int)))) (jM (((Rat.divInt 1 2)*((qN ((m.getD i []).getD i kR))+(qN ((m.getD j []).getD j kR))))+(Rat.divInt (upI (((((Rat.divInt 1 2)*((qN ((m.getD i []).getD i kR))-(qN ((m.getD j []).getD j kR))))*((Rat.divInt 1 2)*((qN ((m.getD i []).getD i kR))-(qN ((m.getD j []).getD j kR)))))+((qN ((m.getD i []).getD j kR))*(qN ((m.getD i []).getD j kR))))*((vX k)*(vX k)))) ((2 ^ k:Nat):Int))))))) rfl rfl jY rfl rfl (kJ (cs:=(bx (jD (jO.mk (jM (((Rat.divInt 1 2)*((qN ((m.getD i []).getD i kR))+(qN ((m.getD j []).getD j kR))))-(Rat.divInt (upI (((((Rat.divInt 1 2)*((qN ((m.getD i []).getD i kR))-(qN ((m.getD j []).getD j kR))))*((Rat.divInt 1 2)*((qN ((m.getD i []).getD i kR))-(qN ((m.getD j []).getD j kR)))))+((qN ((m.getD i []).getD j kR))*(qN ((m.getD i []).getD j kR))))*((vX k)*(vX k)))) ((2 ^ k:Nat):Int)))) (jM (((Rat.divInt 1 2)*((qN ((m.getD i []).getD i kR))+(qN ((m.getD j []).getD j kR))))-(Rat.divInt (qV (nR (((((Rat.divInt 1 2)*((qN ((m.getD i []).getD i kR))-(qN ((m.getD j []).getD j kR))))*((Rat.divInt 1 2)*((qN ((m.getD i []).getD i kR))-(qN ((m.getD j []).getD j kR)))))+((qN ((m.getD i []).getD j kR))*(qN ((m.getD i []).getD j kR))))*((vX k)*(vX k))))) ((2 ^ k:Nat):Int)))))))) (d:=(jD (jO.mk (jM (((Rat.divInt 1 2)*((qN ((m.getD i []).getD i kR))+(qN ((m.getD j []).getD j kR))))-(Rat.divInt (upI (((((Rat.divInt 1 2)*((qN ((m.getD i []).getD i kR))-(qN ((m.getD j []).getD j kR))))*((Rat.divInt 1 2)*((qN ((m.getD i []).getD i kR))-(qN ((m.getD j []).getD j kR)))))+((qN ((m.getD i []).getD j kR))*(qN ((m.getD i []).getD j kR))))*((vX k)*(vX k)))) ((2 ^ k:Nat):Int)))) (jM (((Rat.divInt 1 2)*((qN ((m.getD i []).getD i kR))+(qN ((m.getD j []).getD j kR))))-(Rat.divInt (qV (nR (((((Rat.divInt 1 2)*((qN ((m.getD i []).getD i kR))-(qN ((m.getD j []).getD j kR))))*((Rat.divInt 1 2)*((qN ((m.getD i []).getD i kR))-(qN ((m.getD j []).getD j kR)))))+((qN ((m.getD i []).getD j kR))*(qN ((m.getD i []).getD j kR))))*((vX k)*(vX k))))) ((2 ^ k:Nat):Int))))))) rfl rfl jY rfl rfl (.tmp (d:=(.val (.int .i64 (((0:Nat):Int))))) rfl .nil))),?_⟩
 rfl
theorem cb11:callB Tryz.prog 11=true:=by kernel_rfl
theorem cb65:callB Tryz.prog 65=true:=by kernel_rfl
theorem p_whole(zs:List Int)(hz:∀ z∈zs,-9223372036854775808≤z∧z≤9223372036854775807)(hzl:zs.length≤1000000):jS Tryz.prog 65 [(.sl 3 1 (List.map qE zs))] (.sl 45 4 (List.map jL (List.map jM (zQ zs)))):=by
 refine jJ Tryz.func65 rfl cb65 rfl ?_
 show qM _ _ _ _ ⟨[(0,(vl 3 1 qE zs))],[]⟩
 refine jB<|kx [] [] (zE (cP 45 4)<|zZ) ?_
 refine jB<|kx [(3,(.own 0 45 4 0))] [(0,some (qB jL []))] (zN (oBo 0 vE uH uN)<|zM<|zZ) ?_
 refine jB<|jB<|kx [(7,(vl 3 1 qE zs)),(8,(jK zs.length)),(9,(jK 0))] [] (zM<|zE (zD yU)<|zM<|zZ) ?_
 refine jI<|kM (α:=Nat × List kF) (fun (i,o)=>⟨[(3,(.own 0 45 4 o.length)),(7,(vl 3 1 qE zs)),(8,(jK zs.length)),(9,(jK i))],[(0,some (qB jL o))]⟩) (fun (i,o)=>i≤zs.length∧o=(zs.take i).map (fun z:Int=>jM (z:Rat))) (fun (i,o)=>zs.length-i) (0,[]) wk ⟨Nat.zero_le _,by simp⟩ ?_
 rintro ⟨i,o⟩ ⟨hi,ho⟩
 have hol:o.length=i:=by rw[ho,List.length_map,List.length_take];omega
 refine jB<|kx [(10,(vb (decide (((i:Nat):Int)<((zs.length:Nat):Int)))))] [] (zE xY<|zZ) ?_
 refine jB<|jH rfl (fun h1=>?_) (fun h1=>?_)
 ·replace h1:=vJ h1
  have hzi:=zs_at hz (show i<zs.length by omega)
  refine jF<|jB<|jI<|jB<|kx [(5,(vi (zs.getD i 0)))] [] (zE (nE yU i (0:Int))<|zE (nC gI)<|zM<|zZ) ?_
  refine kf [(3,(.own 0 45 4 ((o++[(jM ((zs.getD i 0:Int):Rat))]).length)))] [(0,some (qB jL (o++[(jM ((zs.getD i 0:Int):Rat))])))] (zM<|zM<|zE (kA (nX (zs.getD i 0) (by omega) (by omega)))<|zE (mC vE uH uN)<|zAS jL o [(jM ((zs.getD i 0:Int):Rat))] rfl vE uH by45<|zM<|zF) ?_
  refine kx [(9,(jK (i+1)))] [] (zE (xE (i+1))<|zM<|zZ) ?_
  exact ⟨(i+1,o++[jM ((zs.getD i 0:Int):Rat)]),wk,⟨by omega,by rw[ho];exact eA (f:=fun z:Int=>jM (z:Rat)) (by omega)⟩,(by first|omega|(dsimp only;omega))⟩
 ·replace h1:=vM h1
  refine kL<|jB<|kx [(2,(.own 0 45 4 o.length))] [] (zM<|zM<|zZ) ?_
  refine jV (xA (t:=2) (k:=0) (es:=List.map jL o) rfl rfl (vD _ _ (fun _=>rfl)) (qY _ _ rfl) (xB jL o (fun _=>rfl) rfl)) ?_
  refine jG ⟨_,(.tmp (d:=(.sl 45 4 (List.map jL o))) rfl .nil),?_⟩
  rw[ho,show i=zs.length by omega,List.take_length,show List.map (fun z:Int=>jM (z:Rat)) zs=List.map jM (zQ zs) from (by unfold zQ;rw[List.map_map];rfl)];rfl
theorem kT_runP:JRunP (List.map xV kX) kT:=⟨kT_run,fun k hk=>by
 have hbx:=pts_gl kX_ql
 have hup:=kT_run.upto (k:=k) (by omega)
 match k,hk with
 |0,_=>exact yZ 12 18 (e_stepV 0 (List.map xV kX) hbx 2 (jU (List.map xV kX) kT 0) (by decide) (by decide) (by decide) (by decide)) (hB12 _ _ _ rfl) rfl (by kernel_rfl)
 |1,_=>exact yZ 12 18 (e_stepV 1 (List.map xV kX) hbx 2 (jU (List.map xV kX) kT 1) (by decide) (by decide) (by decide) (by decide)) (hB12 _ _ _ rfl) rfl (by kernel_rfl)
 |2,_=>exact yZ 12 18 (e_stepM 0 1 (List.map jP (List.map xV kX)) 2 (jU (List.map xV kX) kT 2) (by decide) (by decide) hup (by decide) (by decide)) (hB12 _ _ _ rfl) rfl (by kernel_rfl)⟩
theorem p_known :jS Tryz.prog 11 [] (.val (.bool (true))):=by
 let y4:=kR
 let y3:=(jO.mk (jM ((1:Int):Rat)) (jM ((1:Int):Rat)))
 let y2:=(jO.mk (jM ((9:Int):Rat)) (jM ((9:Int):Rat)))
 let y1:=[(qC.mk ((1:Nat):Int) 0 0 y4),(qC.mk ((1:Nat):Int) ((1:Nat):Int) 0 y4),(qC.mk ((4:Nat):Int) 0 ((1:Nat):Int) y4)]
 refine jJ Tryz.func11 rfl cb11 rfl ?_
 show qM _ _ _ _ ⟨[],[]⟩
 refine jB<|kx [] [] (zM<|zZ) ?_
 refine jB<|kx [(1,(vl 83 7 kG y1))] [] (zE (cS pl83 ze83 zo83)<|zE (cS pl83 ze83 zo83)<|zE (cS pl83 ze83 zo83)<|zE (mC bD ze83 zo83)<|zM<|zZ) ?_
 refine jB<|kx [(2,(.ref 0 0)),(3,(jK 0))] [(0,some (bx (jL (jM ((25:Int):Rat)))))] (zE (oQd (.sl 83 7 (List.map kG y1)) (.sl 83 7 (List.map kG kT)) (oV (vl 83 7 kG y1) (qQ (by kernel_rfl))) (by exact rfl))<|zE (mC yU ze3 zo3)<|zE (oQd (.sl 45 4 (List.map jL (List.map jM (zQ [((2:Nat):Int),((3:Nat):Int)])))) (.sl 45 4 (List.map jL (List.map jM kX))) (kA (p_whole [((2:Nat):Int),((3:Nat):Int)] (by decide) (by decide))) (by exact rfl))<|zE (mC yU ze3 zo3)<|zE (kA (p_whole [((1:Nat):Int),((0:Nat):Int)] (by decide) (by decide)))<|zE (mC yU ze3 zo3)<|zE (kA (p_whole [((0:Nat):Int),((4:Nat):Int)] (by decide) (by decide)))<|zE (oQd (.sl 24 1 (List.map kC [(List.map jM (zQ [((1:Nat):Int),((0:Nat):Int)])),(List.map jM (zQ [((0:Nat):Int),((4:Nat):Int)]))])) (.sl 24 1 (List.map kC kQ)) (mC eY ze24 zo24) (by exact rfl))<|zE (kA (p_var kT kT_ok kX kX_ql kQ kQ_ok kT_runP kQ_rect kQ_fit rfl))<|zM<|zE (oQd (jL (jM (covR kQ (gU kX kT) (gU kX kT)))) (jL (jM ((25:Int):Rat))) vI (by exact (by rw[kVar];rfl)))<|zE vI<|zN (qW 0 uH uN)<|zT (qF jW)<|zM<|zZ) ?_
 refine jB<|kx [(4,(.ref 1 0)),(5,(.ref 2 0)),(6,(jK 0))] [(1,some (bx (jD y2))),(2,some (bx (jD y3)))] (zE (mC yU ze3 zo3)<|zE (kA (p_whole [((5:Nat):Int),((4:Nat):Int)] (by decide) (by decide)))<|zE (mC yU ze3 zo3)<|zE (kA (p_whole [((4:Nat):Int),((5:Nat):Int)] (by decide) (by decide)))<|zE (oQd (.sl 24 1 (List.map kC [(List.map jM (zQ [((5:Nat):Int),((4:Nat):Int)])),(List.map jM (zQ [((4:Nat):Int),((5:Nat):Int)]))])) (.sl 24 1 (List.map kC kE)) (mC eY ze24 zo24) (by exact rfl))<|zE (kA (p_ellO kE kE_ok 0 1 3 (by omega) kE_chk kE_fit (by decide) (by decide) (by omega)))<|zM<|zE (oQd (jD (jO.mk (jM (((Rat.divInt 1 2)*((qN ((kE.getD 0 []).getD 0 y4))+(qN ((kE.getD 1 []).getD 1 y4))))+(Rat.divInt (qV (nR (((((Rat.divInt 1 2)*((qN ((kE.getD 0 []).getD 0 y4))-(qN ((kE.getD 1 []).getD 1 y4))))*((Rat.divInt 1 2)*((qN ((kE.getD 0 []).getD 0 y4))-(qN ((kE.getD 1 []).getD 1 y4)))))+((qN ((kE.getD 0 []).getD 1 y4))*(qN ((kE.getD 0 []).getD 1 y4))))*(((((2 ^ 3:Nat):Int):Int):Rat)*((((2 ^ 3:Nat):Int):Int):Rat))))) ((2 ^ 3:Nat):Int)))) (jM (((Rat.divInt 1 2)*((qN ((kE.getD 0 []).getD 0 y4))+(qN ((kE.getD 1 []).getD 1 y4))))+(Rat.divInt (upI (((((Rat.divInt 1 2)*((qN ((kE.getD 0 []).getD 0 y4))-(qN ((kE.getD 1 []).getD 1 y4))))*((Rat.divInt 1 2)*((qN ((kE.getD 0 []).getD 0 y4))-(qN ((kE.getD 1 []).getD 1 y4)))))+((qN ((kE.getD 0 []).getD 1 y4))*(qN ((kE.getD 0 []).getD 1 y4))))*(((((2 ^ 3:Nat):Int):Int):Rat)*((((2 ^ 3:Nat):Int):Int):Rat)))) ((2 ^ 3:Nat):Int)))))) (jD y2) vI (by exact (by rw[kEa,kEb,kEc];exact congrArg jD (rng2 (by decide +kernel) (by decide +kernel)))))<|zE (oQd (jD (jO.mk (jM (((Rat.divInt 1 2)*((qN ((kE.getD 0 []).getD 0 y4))+(qN ((kE.getD 1 []).getD 1 y4))))-(Rat.divInt (upI (((((Rat.divInt 1 2)*((qN ((kE.getD 0 []).getD 0 y4))-(qN ((kE.getD 1 []).getD 1 y4))))*((Rat.divInt 1 2)*((qN ((kE.getD 0 []).getD 0 y4))-(qN ((kE.getD 1 []).getD 1 y4)))))+((qN ((kE.getD 0 []).getD 1 y4))*(qN ((kE.getD 0 []).getD 1 y4))))*(((((2 ^ 3:Nat):Int):Int):Rat)*((((2 ^ 3:Nat):Int):Int):Rat)))) ((2 ^ 3:Nat):Int)))) (jM (((Rat.divInt 1 2)*((qN ((kE.getD 0 []).getD 0 y4))+(qN ((kE.getD 1 []).getD 1 y4))))-(Rat.divInt (qV (nR (((((Rat.divInt 1 2)*((qN ((kE.getD 0 []).getD 0 y4))-(qN ((kE.getD 1 []).getD 1 y4))))*((Rat.divInt 1 2)*((qN ((kE.getD 0 []).getD 0 y4))-(qN ((kE.getD 1 []).getD 1 y4)))))+((qN ((kE.getD 0 []).getD 1 y4))*(qN ((kE.getD 0 []).getD 1 y4))))*(((((2 ^ 3:Nat):Int):Int):Rat)*((((2 ^ 3:Nat):Int):Int):Rat))))) ((2 ^ 3:Nat):Int)))))) (jD y3) vI (by exact (by rw[kEa,kEb,kEc];exact congrArg jD (rng2 (by decide +kernel) (by decide +kernel)))))<|zE vI<|zN (qW 1 qL qR)<|zN (qW 2 qL qR)<|zT (qF jY)<|zT (qF jY)<|zM<|zZ) ?_
 refine jB<|kx [(7,(vb true)),(8,(jK 0))] [] (zE (kA (nX 10 (by decide) (by decide)))<|zE (kA (nX 4 (by decide) (by decide)))<|zE (kA (nX 4 (by decide) (by decide)))<|zE (kA (nX 14 (by decide) (by decide)))<|zE (kA (p_cov (jM ((10:Int):Rat)) ((10:Int):Rat) (jQ (kB (zB (z:=10) (vY (by decide)) (by decide))) (by decide)) (jM ((4:Int):Rat)) ((4:Int):Rat) (jQ (kB (zB (z:=4) (vY (by decide)) (by decide))) (by decide)) (jM ((4:Int):Rat)) ((4:Int):Rat) (jQ (kB (zB (z:=4) (vY (by decide)) (by decide))) (by decide)) (jM ((14:Int):Rat)) ((14:Int):Rat) (jQ (kB (zB (z:=14) (vY (by decide)) (by decide))) (by decide)) (by decide +kernel) (by decide +kernel) (by decide +kernel) (by decide +kernel) (by decide +kernel) (by decide +kernel)))<|zM<|zE (oQd (.val (.bool ((decide ((yE ((((14:Int):Rat)-((10:Int):Rat))*(((14:Int):Rat)-((10:Int):Rat))) (((4:Int):Rat)*((4:Int):Rat)))≤0))))) (.val (.bool (true))) vI (by exact (congrArg (fun b=>jZ.val (.bool b)) (by decide +kernel))))<|zE vI<|zM<|zM<|zZ) ?_
 refine jB<|kd [(0,(vb true))] [] mo (wM<|wE (uR true xR)<|wM<|wM<|wE (uR true xR)<|wE nY<|wM<|wM<|wE (uR true xR)<|wE nY<|wM<|wM<|wE nY<|wM<|wR (kP jW)<|wE (kA (nX 25 (by decide) (by decide)))<|wE (uR true (kA (by have h:=g_same (jM ((25:Int):Rat)) (jM ((25:Int):Rat)) ((25:Int):Rat) ((25:Int):Rat) (jQ (kB (zB (mM (by decide) (by decide)) (by decide))) (by decide)) (jQ (kB (zB (z:=25) (vY (by decide)) (by decide))) (by decide));rw[sameR_of] at h;exact h)) (by exact decide_eq_true rfl))<|wE nY<|wM<|wR (kP jY)<|wE (kA (h_whole 9 9 (by decide) (by decide) (by decide) (by decide)))<|wE (kA (by have h:=h_same y2 y2 (gV (⟨uA (jQ (kB (zB (mM (by decide) (by decide)) (by decide))) (by decide:3≤3)),uA (jQ (kB (zB (mM (by decide) (by decide)) (by decide))) (by decide:3≤3))⟩) (by decide)) (gV (⟨uA (jQ (kB (zB (z:=9) (vY (by decide)) (by decide))) (by decide:1≤1)),uA (jQ (kB (zB (z:=9) (vY (by decide)) (by decide))) (by decide:1≤1))⟩) (by decide));rw[show sameG y2 y2=true from by rw[sameG_of];kernel_rfl] at h;exact h))<|wE nY<|wM<|wR (kP jY)<|wE (kA (h_whole 1 1 (by decide) (by decide) (by decide) (by decide)))<|wE (kA (by have h:=h_same y3 y3 (gV (⟨uA (jQ (kB (zB (mM (by decide) (by decide)) (by decide))) (by decide:3≤3)),uA (jQ (kB (zB (mM (by decide) (by decide)) (by decide))) (by decide:3≤3))⟩) (by decide)) (gV (⟨uA (jQ (kB (zB (z:=1) (vY (by decide)) (by decide))) (by decide:1≤1)),uA (jQ (kB (zB (z:=1) (vY (by decide)) (by decide))) (by decide:1≤1))⟩) (by decide));rw[show sameG y3 y3=true from by rw[sameG_of];kernel_rfl] at h;exact h))<|wE nY<|wM<|wZ) ?_
 refine jG ⟨_,(.tmp (d:=(.val (.bool (true)))) rfl .nil),?_⟩
 rfl
theorem cb3:callB Tryz.prog 3=true:=by kernel_rfl
theorem w_grT(t:List qC)(ht:yI 140737488355328 t)(l:List kF)(hl:zU 140737488355328 l)(hs:(eQ 16 10 t&&shR 4 6 l)=false)(htl:t.length≤140737488355328):jS Tryz.prog 3 [(.sl 83 7 (List.map kG t)),(.sl 45 4 (List.map jL l))] (.val (.bool (true))):=by
 refine jJ Tryz.func3 rfl cb3 rfl ?_
 show qM _ _ _ _ ⟨[(0,(vl 83 7 kG t)),(1,(vl 45 4 jL l))],[]⟩
 refine jB<|kx [] [] (zM<|zZ) ?_
 refine jB<|jB<|kx [(10,(vb false))] [] (zE (kA p_known)<|zE mT<|zZ) ?_
 refine kI ?_
 refine jF<|jB<|jB<|kx [(14,(vb true))] [] (zM<|zM<|zE (uR false (kA (u_small t ht l hl htl)) (by exact hs))<|zE mT<|zZ) ?_
 refine uD ?_
 refine jB<|kx [(4,(vb true))] [] (zM<|zZ) ?_
 refine jG ⟨_,(.tmp (d:=(.val (.bool (true)))) rfl .nil),?_⟩
 rfl
theorem w_gr1(t:List qC)(ht:yI 1048576 t)(l:List kF)(hl:zU 1048576 l)(hs:(eQ 16 10 t&&shR 4 6 l)=true)(htl:t.length≤140737488355328)(hv:cQ l=false)(hxb:l.length≤1000000):jS Tryz.prog 3 [(.sl 83 7 (List.map kG t)),(.sl 45 4 (List.map jL l))] (.val (.bool (true))):=by
 refine jJ Tryz.func3 rfl cb3 rfl ?_
 show qM _ _ _ _ ⟨[(0,(vl 83 7 kG t)),(1,(vl 45 4 jL l))],[]⟩
 refine jB<|kx [] [] (zM<|zZ) ?_
 refine jB<|jB<|kx [(10,(vb false))] [] (zE (kA p_known)<|zE mT<|zZ) ?_
 refine kI ?_
 refine jF<|jB<|jB<|kx [(14,(vb false))] [] (zM<|zM<|zE (uR true (kA (u_small t (tn_up ht (by decide)) l (row_up hl (by decide)) htl)) (by exact hs))<|zE mT<|zZ) ?_
 refine kI ?_
 refine jF<|jB<|kx [(5,(vl 45 4 jL [])),(6,(jK 1))] [] (zM<|zM<|zE (kA (p_grdV t ht l hl hv hxb))<|zM<|zE vI<|zE vI<|zM<|zM<|zZ) ?_
 refine jB<|kx [] [] (zM<|zZ) ?_
 refine jB<|kx [(8,(vl 45 4 jL []))] [] (zE (mC vE uH uN)<|zM<|zZ) ?_
 refine jB<|jB<|kx [(24,(vb true))] [] (zM<|zE (uR false (kA (m_vlist l hl)) (by exact hv))<|zE mT<|zZ) ?_
 refine uD ?_
 refine kx [(7,(jK 1))] [] (zM<|zZ) ?_
 refine jB<|jB<|kx [(32,(vb true))] [] (zM<|zE (uR true cR)<|zZ) ?_
 refine uD ?_
 refine jB<|kx [(4,(vb true))] [] (zM<|zM<|zE (uR true xR)<|zM<|zM<|zE (oLn vE 0)<|zE (uR true xR)<|zE nY<|zM<|zZ) ?_
 refine jG ⟨_,(.tmp (d:=(.val (.bool (true)))) rfl .nil),?_⟩
 rfl
theorem w_gr2(t:List qC)(ht:yI 1048576 t)(xs:List Rat)(hx:∀ q∈xs,QL q 1048576)(hs:(eQ 16 10 t&&shR 4 6 (List.map jM xs))=true)(htl:t.length≤140737488355328)(hxb:xs.length≤1000000)(hc:gQ ((xs.length:Nat):Int) t≠0):jS Tryz.prog 3 [(.sl 83 7 (List.map kG t)),(.sl 45 4 (List.map jL (List.map jM xs)))] (.val (.bool (true))):=by
 refine jJ Tryz.func3 rfl cb3 rfl ?_
 show qM _ _ _ _ ⟨[(0,(vl 83 7 kG t)),(1,(vl 45 4 jL (List.map jM xs)))],[]⟩
 refine jB<|kx [] [] (zM<|zZ) ?_
 refine jB<|jB<|kx [(10,(vb false))] [] (zE (kA p_known)<|zE mT<|zZ) ?_
 refine kI ?_
 refine jF<|jB<|jB<|kx [(14,(vb false))] [] (zM<|zM<|zE (uR true (kA (u_small t (tn_up ht (by decide)) (List.map jM xs) (row_up (iK hx (by omega)) (by decide)) htl)) (by exact hs))<|zE mT<|zZ) ?_
 refine kI ?_
 refine jF<|jB<|kx [(5,(vl 45 4 jL [])),(6,(jK (gQ ((xs.length:Nat):Int) t)))] [] (zM<|zM<|zE (kA (p_grdC t ht xs hx hc hxb))<|zM<|zE vI<|zE vI<|zM<|zM<|zZ) ?_
 refine jB<|kx [] [] (zM<|zZ) ?_
 refine jB<|kx [(8,(vl 45 4 jL []))] [] (zE (mC vE uH uN)<|zM<|zZ) ?_
 refine jB<|jB<|kx [(24,(vb false))] [] (zM<|zE (uR true (kA (m_vlist (List.map jM xs) (iK hx (by omega)))) (by exact (vrow_of xs)))<|zE mT<|zZ) ?_
 refine kI ?_
 refine kx [(7,(jK (gQ ((xs.length:Nat):Int) t))),(8,(vl 45 4 jL []))] [] (zM<|zM<|zE (kA (u_grdC t ht xs hx hc hxb))<|zM<|zE vI<|zE vI<|zM<|zM<|zZ) ?_
 refine jB<|jB<|kx [(32,(vb true))] [] (zM<|zE (uR true cR (by exact bne_iff_ne.2 (by have hx:=hc;omega)))<|zZ) ?_
 refine uD ?_
 refine jB<|kx [(4,(vb true))] [] (zM<|zM<|zE (uR true xR (by exact beq_self_eq_true _))<|zM<|zM<|zE (oLn vE 0)<|zE (uR true xR)<|zE nY<|zM<|zZ) ?_
 refine jG ⟨_,(.tmp (d:=(.val (.bool (true)))) rfl .nil),?_⟩
 rfl
theorem w_gr3(t:List qC)(ht:yI 1048576 t)(xs:List Rat)(hx:∀ q∈xs,QL q 1048576)(hs:(eQ 16 10 t&&shR 4 6 (List.map jM xs))=true)(htl:t.length≤140737488355328)(hxb:xs.length≤1000000)(hT:cJ (List.map xV xs) t)(hd:dzT (List.map xV xs) t=true):jS Tryz.prog 3 [(.sl 83 7 (List.map kG t)),(.sl 45 4 (List.map jL (List.map jM xs)))] (.val (.bool (true))):=by
 refine jJ Tryz.func3 rfl cb3 rfl ?_
 show qM _ _ _ _ ⟨[(0,(vl 83 7 kG t)),(1,(vl 45 4 jL (List.map jM xs)))],[]⟩
 refine jB<|kx [] [] (zM<|zZ) ?_
 refine jB<|jB<|kx [(10,(vb false))] [] (zE (kA p_known)<|zE mT<|zZ) ?_
 refine kI ?_
 refine jF<|jB<|jB<|kx [(14,(vb false))] [] (zM<|zM<|zE (uR true (kA (u_small t (tn_up ht (by decide)) (List.map jM xs) (row_up (iK hx (by omega)) (by decide)) htl)) (by exact hs))<|zE mT<|zZ) ?_
 refine kI ?_
 refine jF<|jB<|kx [(5,(vl 45 4 jL [])),(6,(jK 14))] [] (zM<|zM<|zE (kA (p_grdF t ht xs hx (tame_fail hT hd) hxb))<|zM<|zE vI<|zE vI<|zM<|zM<|zZ) ?_
 refine jB<|kx [] [] (zM<|zZ) ?_
 refine jB<|kx [(8,(vl 45 4 jL []))] [] (zE (mC vE uH uN)<|zM<|zZ) ?_
 refine jB<|jB<|kx [(24,(vb false))] [] (zM<|zE (uR true (kA (m_vlist (List.map jM xs) (iK hx (by omega)))) (by exact (vrow_of xs)))<|zE mT<|zZ) ?_
 refine kI ?_
 refine kx [(7,(jK 14)),(8,(vl 45 4 jL []))] [] (zM<|zM<|zE (kA (u_grdZ t ht xs hx hT hd hxb))<|zM<|zE vI<|zE vI<|zM<|zM<|zZ) ?_
 refine jB<|jB<|kx [(32,(vb true))] [] (zM<|zE (uR true cR)<|zZ) ?_
 refine uD ?_
 refine jB<|kx [(4,(vb true))] [] (zM<|zM<|zE (uR true xR)<|zM<|zM<|zE (oLn vE 0)<|zE (uR true xR)<|zE nY<|zM<|zZ) ?_
 refine jG ⟨_,(.tmp (d:=(.val (.bool (true)))) rfl .nil),?_⟩
 rfl
theorem w_gr4(t:List qC)(ht:yI 1048576 t)(xs:List Rat)(hx:∀ q∈xs,QL q 1048576)(hs:(eQ 16 10 t&&shR 4 6 (List.map jM xs))=true)(htl:t.length≤140737488355328)(hxb:xs.length≤1000000)(hT:cJ (List.map xV xs) t)(hd:dzT (List.map xV xs) t=false):jS Tryz.prog 3 [(.sl 83 7 (List.map kG t)),(.sl 45 4 (List.map jL (List.map jM xs)))] (.val (.bool (true))):=by
 refine jJ Tryz.func3 rfl cb3 rfl ?_
 show qM _ _ _ _ ⟨[(0,(vl 83 7 kG t)),(1,(vl 45 4 jL (List.map jM xs)))],[]⟩
 refine jB<|kx [] [] (zM<|zZ) ?_
 refine jB<|jB<|kx [(10,(vb false))] [] (zE (kA p_known)<|zE mT<|zZ) ?_
 refine kI ?_
 refine jF<|jB<|jB<|kx [(14,(vb false))] [] (zM<|zM<|zE (uR true (kA (u_small t (tn_up ht (by decide)) (List.map jM xs) (row_up (iK hx (by omega)) (by decide)) htl)) (by exact hs))<|zE mT<|zZ) ?_
 refine kI ?_
 refine jF<|jB<|kx [(5,(vl 45 4 jL (gU xs t))),(6,(jK 0))] [] (zM<|zM<|zE (kA (p_grd t ht xs hx (tame_run hT hd) hxb))<|zM<|zE vI<|zE vI<|zM<|zM<|zZ) ?_
 refine jB<|kx [] [] (zM<|zZ) ?_
 refine jB<|kx [(8,(vl 45 4 jL []))] [] (zE (mC vE uH uN)<|zM<|zZ) ?_
 refine jB<|jB<|kx [(24,(vb false))] [] (zM<|zE (uR true (kA (m_vlist (List.map jM xs) (iK hx (by omega)))) (by exact (vrow_of xs)))<|zE mT<|zZ) ?_
 refine kI ?_
 refine kx [(7,(jK 0)),(8,(vl 45 4 jL (gU xs t)))] [] (zM<|zM<|zE (kA (u_grd t ht xs hx hT hd hxb))<|zM<|zE vI<|zE vI<|zM<|zM<|zZ) ?_
 refine jB<|jB<|kx [(32,(vb false))] [] (zM<|zE (uR false cR)<|zZ) ?_
 refine kI ?_
 refine jF<|jB<|kx [(4,(vb true))] [] (zM<|zE (uR true xR)<|zM<|zM<|zM<|zE (uR true (kA (s_list (gU xs t) (grQ_ok (tame_run hT hd).run) (gU xs t) (grQ_ok (cJ.run hT hd)))) (by exact (grQ_same xs t)))<|zE nY<|zM<|zZ) ?_
 refine jG ⟨_,(.tmp (d:=(.val (.bool (true)))) rfl .nil),?_⟩
 rfl
end Go.Proofs.YtnajallgoaiahaaGreatDoor
