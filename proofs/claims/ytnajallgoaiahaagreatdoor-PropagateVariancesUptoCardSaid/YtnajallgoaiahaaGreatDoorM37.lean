/- Part 37 of a proof: rules, plain facts, and functions walked. -/
import Derived.Test.YtnajallgoaiahaaGreatDoorM36
set_option linter.all false
set_option maxRecDepth 4000
namespace Go.Proofs.YtnajallgoaiahaaGreatDoor
open Go.Fid
theorem cb4:callB Tryz.prog 4=true:=by kernel_rfl
theorem w_vaT(ts:List (List kV))(hts:∀ t∈ts,vR 140737488355328 t)(l:List jQ)(hl:vG 140737488355328 l)(q:List (List jQ))(hq:vN 140737488355328 q)(hs:(decide (ts.length≤3)&&shM 5 6 q&&ts.all (fun t=>dE 16 10 t&&shR 4 6 l))=false)(htb:ts.length≤140737488355328)(htl:∀ t∈ts,t.length≤140737488355328):jR Tryz.prog 4 [(.sl 23 1 (List.map kL ts)),(.sl 45 4 (List.map jK l)),(.sl 24 1 (List.map jI q))] (.val (.bool (true))):=by
 refine jJ Tryz.func4 rfl cb4 rfl ?_
 show qG _ _ _ _ ⟨[(0,(vl 23 1 kL ts)),(1,(vl 45 4 jK l)),(2,(vl 24 1 jI q))],[]⟩
 refine jB<|kx [] [] (zM<|zZ) ?_
 refine jB<|jB<|kx [(26,(vb false))] [] (zE (jY p_known)<|zE mD<|zZ) ?_
 refine kU ?_
 refine jD<|jB<|jB<|kx [(34,(vb (decide (((3:Nat):Int)<((ts.length:Nat):Int))||!(shM 5 6 q))))] [] ?_ ?_
 ·refine zM<|zE (uW yR)<|zE mL<|zE (oV (vb (decide (((3:Nat):Int)<((ts.length:Nat):Int)))) (qC (by kernel_rfl)))<|?_
  rcases hb1:(decide (((3:Nat):Int)<((ts.length:Nat):Int))) with _ | _
  ·replace hb1:=uR hb1
   exact zM<|zE (jY (u_table q hq))<|zE mD<|zE eP<|zZ
  ·replace hb1:=uP hb1
   exact zK<|zK<|zK<|zE gR<|zZ
 refine jG rfl (fun h2=>?_) (fun h2=>?_)
 ·refine jB<|kx [(6,(vb true))] [] (zM<|zZ) ?_
  refine jE ⟨_,(.tmp (d:=(.val (.bool (true)))) rfl .nil),?_⟩
  rfl
 ·have h30:=h2
  refine jD<|jB<|jB<|kx [(35,(vl 23 1 kL ts)),(36,(jP ts.length)),(37,(jP 0))] [] (zM<|zE (uW yR)<|zM<|zZ) ?_
  refine jH<|kA (α:=Nat) (fun i=>⟨[(0,(vl 23 1 kL ts)),(1,(vl 45 4 jK l)),(2,(vl 24 1 jI q)),(35,(vl 23 1 kL ts)),(36,(jP ts.length)),(37,(jP i))],[]⟩) (fun i=>i≤ts.length∧(ts.take i).all (fun t=>dE 16 10 t&&shR 4 6 l)=true) (fun i=>ts.length-i) 0 wk ⟨Nat.zero_le _,by simp⟩ ?_
  rintro i ⟨hi,hal⟩
  refine jB<|kx [(38,(vb (decide (((i:Nat):Int)<((ts.length:Nat):Int)))))] [] (zE xK<|zZ) ?_
  refine jB<|jG rfl (fun h3=>?_) (fun h3=>?_)
  ·replace h3:=uP h3
   refine jD<|jB<|jH<|jB<|kx [(8,(vl 83 7 kM (ts.getD i [])))] [] (zE (xX yR i ([]:List (kV)))<|zE (xZ sh23)<|zM<|zZ) ?_
   refine jB<|kx [(44,(vb (!(dE 16 10 (ts.getD i [])&&shR 4 6 l))))] [] (zM<|zM<|zE (jY (u_small (ts.getD i []) (uC (P:=vR 140737488355328) hts (show i<ts.length by omega)) l hl (uC (P:=fun t=>t.length≤140737488355328) htl (show i<ts.length by omega))))<|zE mD<|zZ) ?_
   refine jG rfl (fun h4=>?_) (fun h4=>?_)
   ·refine jB<|kx [(6,(vb true))] [] (zM<|zZ) ?_
    refine jE ⟨_,(.tmp (d:=(.val (.bool (true)))) rfl .nil),?_⟩
    rfl
   ·refine jD<|kx [(37,(jP (i+1)))] [] (zE (vC (i+1))<|zM<|zZ) ?_
    exact ⟨i+1,wk,⟨by omega,all_up (d:=[]) (by omega) hal (by simpa using h4)⟩,(by first|omega|(dsimp only;omega))⟩
  ·replace h3:=uR h3
   exact absurd hs (va_no h30 (by rw[show i=ts.length by omega,List.take_length] at hal;exact hal))
theorem w_vaR(ts:List (List kV))(hts:∀ t∈ts,vR 1048576 t)(l:List jQ)(hl:vG 1048576 l)(q:List (List jQ))(hq:vN 6 q)(hz:(gC l&&decide (gS q=0))=true→ts.length=0)(h3:ts.length≤3)(hsq:shM 5 6 q=true)(hsm:∀ t∈ts,(dE 16 10 t&&shR 4 6 l)=true)(htl:∀ t∈ts,t.length≤140737488355328)(hxb:l.length≤1048576):jR Tryz.prog 4 [(.sl 23 1 (List.map kL ts)),(.sl 45 4 (List.map jK l)),(.sl 24 1 (List.map jI q))] (.val (.bool (true))):=by
 have hr0:=rawC_0 (l:=l) (q:=q)
 refine jJ Tryz.func4 rfl cb4 rfl ?_
 show qG _ _ _ _ ⟨[(0,(vl 23 1 kL ts)),(1,(vl 45 4 jK l)),(2,(vl 24 1 jI q))],[]⟩
 refine jB<|kx [] [] (zM<|zZ) ?_
 refine jB<|jB<|kx [(26,(vb false))] [] (zE (jY p_known)<|zE mD<|zZ) ?_
 refine kU ?_
 refine jD<|jB<|jB<|kx [(34,(vb (decide (((3:Nat):Int)<((ts.length:Nat):Int))&&true)))] [] ?_ ?_
 ·refine zM<|zE (uW yR)<|zE mL<|zE (oV (vb (decide (((3:Nat):Int)<((ts.length:Nat):Int)))) (qC (by kernel_rfl)))<|?_
  rcases hb1:(decide (((3:Nat):Int)<((ts.length:Nat):Int))) with _ | _
  ·replace hb1:=uR hb1
   exact zM<|zE (vW true (jY (u_table q (gV hq (by decide)))) (by exact hsq))<|zE mD<|zE yP<|zZ
  ·replace hb1:=uP hb1
   exact zK<|zK<|zK<|zE gR<|zZ
 refine jG rfl (fun h2=>?_) (fun h2=>?_)
 ·exfalso;have h9:=h2;rw[Bool.and_true,decide_eq_true_eq] at h9;omega
 ·refine jD<|jB<|jB<|kx [(35,(vl 23 1 kL ts)),(36,(jP ts.length)),(37,(jP 0))] [] (zM<|zE (uW yR)<|zM<|zZ) ?_
  refine jH<|kA (α:=Nat) (fun i=>⟨[(0,(vl 23 1 kL ts)),(1,(vl 45 4 jK l)),(2,(vl 24 1 jI q)),(35,(vl 23 1 kL ts)),(36,(jP ts.length)),(37,(jP i))],[]⟩) (fun i=>i≤ts.length) (fun i=>ts.length-i) 0 wk (Nat.zero_le _) ?_
  rintro i hi
  refine jB<|kx [(38,(vb (decide (((i:Nat):Int)<((ts.length:Nat):Int)))))] [] (zE xK<|zZ) ?_
  refine jB<|jG rfl (fun h3=>?_) (fun h3=>?_)
  ·replace h3:=uP h3
   refine jD<|jB<|jH<|jB<|kx [(8,(vl 83 7 kM (ts.getD i [])))] [] (zE (xX yR i ([]:List (kV)))<|zE (xZ sh23)<|zM<|zZ) ?_
   refine jB<|kx [(44,(vb false))] [] (zM<|zM<|zE (vW true (jY (u_small (ts.getD i []) (tn_up (uC (P:=vR 1048576) hts (show i<ts.length by omega)) (by decide)) l (row_up hl (by decide)) (uC (P:=fun t=>t.length≤140737488355328) htl (show i<ts.length by omega)))) (by exact (uC hsm (show i<ts.length by omega))))<|zE mD<|zZ) ?_
   refine kU ?_
   refine jD<|kx [(37,(jP (i+1)))] [] (zE (vC (i+1))<|zM<|zZ) ?_
   exact ⟨i+1,wk,(by omega),(by first|omega|(dsimp only;omega))⟩
  ·replace h3:=uR h3
   refine kB<|jB<|kx [(9,(vl 24 1 jI [])),(10,(jP (aG l q)))] [] (zM<|zM<|zM<|zE (jY (p_tabR ts (by omega) l hl q (gV hq (by decide)) hz hxb))<|zM<|zE uT<|zE uT<|zM<|zM<|zZ) ?_
   refine jB<|kx [(11,(jP 0))] [] (zM<|zZ) ?_
   refine eV (α:=Nat) (fun c1=>⟨[(0,(vl 23 1 kL ts)),(1,(vl 45 4 jK l)),(2,(vl 24 1 jI q)),(9,(vl 24 1 jI [])),(10,(jP (aG l q))),(11,(jP c1))],[]⟩) (fun c1=>c1=rawA l q) ?_ ?_
   ·refine jB<|kx [(60,(vb (!(gC l)||((((gS q):Nat):Int) != ((0:Nat):Int)))))] [] ?_ ?_
    ·refine zM<|zE (jY (m_vlist l hl))<|zE mD<|zE (oV (vb (!(gC l))) (qC (by kernel_rfl)))<|?_
     rcases hb4:(!(gC l)) with _ | _
     ·exact zM<|zE (jY (s_chk q (gV hq (by decide))))<|zE nW<|zE eP<|zZ
     ·exact zK<|zK<|zK<|zE gR<|zZ
    refine jG rfl (fun h5=>?_) (fun h5=>?_)
    ·refine kx [(11,(jP 1))] [] (zM<|zZ) ?_
     exact met 1 wk ((rawA_1 (raw_t h5)).1)
    ·refine jD ?_
     exact met 0 wk ((rawA_0 (raw_f h5)).1)
   ·rintro c1 hc1
    subst hc1
    refine eV (α:=Nat) (fun c2=>⟨[(0,(vl 23 1 kL ts)),(1,(vl 45 4 jK l)),(2,(vl 24 1 jI q)),(9,(vl 24 1 jI [])),(10,(jP (aG l q))),(11,(jP c2))],[]⟩) (fun c2=>c2=aG l q) ?_ ?_
    ·refine jB<|kx [(67,(vb (((((rawA l q):Nat):Int) == ((0:Nat):Int))&&(((ts.length:Nat):Int) == ((0:Nat):Int)))))] [] ?_ ?_
     ·refine zM<|zE xR<|zE (oV (vb ((((rawA l q):Nat):Int) == ((0:Nat):Int))) (qC (by kernel_rfl)))<|?_
      rcases hb6:((((rawA l q):Nat):Int) == ((0:Nat):Int)) with _ | _
      ·replace hb6:=ne_of_beq_false hb6
       exact zK<|zK<|zK<|zE yP<|zZ
      ·replace hb6:=eq_of_beq hb6
       exact zM<|zE (uW yR)<|zE xR<|zE fA<|zZ
     refine jG rfl (fun h7=>?_) (fun h7=>?_)
     ·refine kx [(11,(jP 6))] [] (zM<|zZ) ?_
      exact met 6 wk (raw_6 h7)
     ·refine jD ?_
      exact met (rawA l q) wk (raw_n hz h7)
    ·rintro c2 hc2
     subst hc2
     refine jB<|jB<|kx [(68,(vl 23 1 kL ts)),(69,(jP ts.length)),(70,(jP 0))] [] (zM<|zE (uW yR)<|zM<|zZ) ?_
     refine jH<|kA (α:=Nat) (fun i=>⟨[(0,(vl 23 1 kL ts)),(1,(vl 45 4 jK l)),(2,(vl 24 1 jI q)),(9,(vl 24 1 jI [])),(10,(jP (aG l q))),(11,(jP (aG l q))),(68,(vl 23 1 kL ts)),(69,(jP ts.length)),(70,(jP i))],[]⟩) (fun i=>i≤ts.length) (fun i=>ts.length-i) 0 wk (Nat.zero_le _) ?_
     rintro i hi
     refine jB<|kx [(71,(vb (decide (((i:Nat):Int)<((ts.length:Nat):Int)))))] [] (zE xK<|zZ) ?_
     refine jB<|jG rfl (fun h8=>?_) (fun h8=>?_)
     ·replace h8:=uP h8
      refine jD<|jB<|jH<|jB<|kx [(13,(vl 83 7 kM (ts.getD i [])))] [] (zE (xX yR i ([]:List (kV)))<|zE (xZ sh23)<|zM<|zZ) ?_
      refine jB<|kx [(75,(vb false))] [] (zM<|zE (vW false xR (by exact beq_eq_false_iff_ne.2 (by have hx:=hr0;omega)))<|zZ) ?_
      refine kU ?_
      refine jD<|kx [(70,(jP (i+1)))] [] (zE (vC (i+1))<|zM<|zZ) ?_
      exact ⟨i+1,wk,(by omega),(by first|omega|(dsimp only;omega))⟩
     ·replace h8:=uR h8
      refine kB<|jB<|jB<|kx [(82,(vb false))] [] (zM<|zE (vW false xR (by exact beq_eq_false_iff_ne.2 (by have hx:=hr0;omega)))<|zZ) ?_
      refine kU ?_
      refine jD<|jB<|kx [(14,(.own 0 24 1 0))] [(0,some (bm jI []))] (zN (oBo 0 iG bX zo24)<|zM<|zZ) ?_
      refine jB<|jB<|kx [(88,(vl 23 1 kL ts)),(89,(jP ts.length)),(90,(jP 0))] [] (zM<|zE (uW yR)<|zM<|zZ) ?_
      refine jH<|kA (α:=Nat) (fun i=>⟨[(0,(vl 23 1 kL ts)),(1,(vl 45 4 jK l)),(2,(vl 24 1 jI q)),(9,(vl 24 1 jI [])),(10,(jP (aG l q))),(11,(jP (aG l q))),(14,(.own 0 24 1 0)),(88,(vl 23 1 kL ts)),(89,(jP ts.length)),(90,(jP i))],[(0,some (bm jI []))]⟩) (fun i=>i≤ts.length) (fun i=>ts.length-i) 0 wk (Nat.zero_le _) ?_
      rintro i hi
      refine jB<|kx [(91,(vb (decide (((i:Nat):Int)<((ts.length:Nat):Int)))))] [] (zE xK<|zZ) ?_
      refine jB<|jG rfl (fun h9=>?_) (fun h9=>?_)
      ·replace h9:=uP h9
       refine jD<|jB<|jH<|jB<|kx [(16,(vl 83 7 kM (ts.getD i [])))] [] (zE (xX yR i ([]:List (kV)))<|zE (xZ sh23)<|zM<|zZ) ?_
       refine jB<|kx [(95,(vb false))] [] (zM<|zE (vW false xR (by exact beq_eq_false_iff_ne.2 (by have hx:=hr0;omega)))<|zZ) ?_
       refine kU ?_
       refine jD<|kx [(90,(jP (i+1)))] [] (zE (vC (i+1))<|zM<|zZ) ?_
       exact ⟨i+1,wk,(by omega),(by first|omega|(dsimp only;omega))⟩
      ·replace h9:=uR h9
       refine kB<|jB<|jB<|kx [(109,(vb true))] [] (zM<|zE (vW true nW (by exact bne_iff_ne.2 (by have hx:=hr0;omega)))<|zZ) ?_
       refine uY ?_
       refine jB<|jB<|kx [(117,(vb false))] [] (zM<|zM<|zE (vW false nW (by exact bne_self_eq_false _))<|zM<|zM<|zE (oLn zW 0)<|zE (vW false nW)<|zE yP<|zZ) ?_
       refine kU ?_
       refine jD<|jB<|jB<|kx [(120,(vb (((ts.length:Nat):Int) != ((1:Nat):Int))))] [] (zM<|zE (uW yR)<|zE nW<|zZ) ?_
       refine jG rfl (fun h10=>?_) (fun h10=>?_)
       ·replace h10:=bne_iff_ne.1 h10
        refine jB<|kx [(6,(vb true))] [] (zM<|zZ) ?_
        refine jE ⟨_,(.tmp (d:=(.val (.bool (true)))) rfl .nil),?_⟩
        rfl
       ·replace h10:=bne_eq_false_iff_eq.1 h10
        refine jD<|jB<|kx [(19,(.ref 1 0)),(20,(jP (aG l q)))] [(1,some (bx (jK kZ)))] (zM<|zE (xX yR 0 ([]:List (kV)))<|zE (xZ sh23)<|zM<|zM<|zE (jY (p_varR (ts.getD 0 []) (uC (P:=vR 1048576) hts (show 0<ts.length by omega)) l hl q (gV hq (by decide)) (Bool.eq_false_iff.2 fun e=>by have:=hz e;omega) hxb))<|zM<|zE uT<|zE uT<|zH (qV 1 qU qY)<|zT (qA jS)<|zM<|zZ) ?_
        refine jB<|kx [(6,(vb true))] [] (zM<|zM<|zE (vW true xR (by exact beq_self_eq_true _))<|zM<|zR (kK jS)<|zE (jY g_zeroT)<|zE gR<|zM<|zZ) ?_
        refine jE ⟨_,(.tmp (d:=(.val (.bool (true)))) rfl .nil),?_⟩
        rfl
theorem w_vaE(ts:List (List kV))(hts:∀ t∈ts,vR 1048576 t)(xs:List Rat)(hx:∀ q∈xs,QL q 1048576)(q:List (List jQ))(hq:vN 6 q)(hE:tbC xs q ts≠0)(h1:1≤ts.length)(hTm:∀ t∈ts,tmN xs t=0→mW (List.map yF xs) t)(hq0:gS q=0)(h3:ts.length≤3)(hsq:shM 5 6 q=true)(hsm:∀ t∈ts,(dE 16 10 t&&shR 4 6 (List.map jN xs))=true)(htl:∀ t∈ts,t.length≤140737488355328)(hxb:xs.length≤1000000):jR Tryz.prog 4 [(.sl 23 1 (List.map kL ts)),(.sl 45 4 (List.map jK (List.map jN xs))),(.sl 24 1 (List.map jI q))] (.val (.bool (true))):=by
 have hrc:=mchk_rect hq0
 have hxn:((List.map jN xs).length)=xs.length:=List.length_map _
 refine jJ Tryz.func4 rfl cb4 rfl ?_
 show qG _ _ _ _ ⟨[(0,(vl 23 1 kL ts)),(1,(vl 45 4 jK (List.map jN xs))),(2,(vl 24 1 jI q))],[]⟩
 refine jB<|kx [] [] (zM<|zZ) ?_
 refine jB<|jB<|kx [(26,(vb false))] [] (zE (jY p_known)<|zE mD<|zZ) ?_
 refine kU ?_
 refine jD<|jB<|jB<|kx [(34,(vb (decide (((3:Nat):Int)<((ts.length:Nat):Int))&&true)))] [] ?_ ?_
 ·refine zM<|zE (uW yR)<|zE mL<|zE (oV (vb (decide (((3:Nat):Int)<((ts.length:Nat):Int)))) (qC (by kernel_rfl)))<|?_
  rcases hb1:(decide (((3:Nat):Int)<((ts.length:Nat):Int))) with _ | _
  ·replace hb1:=uR hb1
   exact zM<|zE (vW true (jY (u_table q (gV hq (by decide)))) (by exact hsq))<|zE mD<|zE yP<|zZ
  ·replace hb1:=uP hb1
   exact zK<|zK<|zK<|zE gR<|zZ
 refine jG rfl (fun h2=>?_) (fun h2=>?_)
 ·exfalso;have h9:=h2;rw[Bool.and_true,decide_eq_true_eq] at h9;omega
 ·refine jD<|jB<|jB<|kx [(35,(vl 23 1 kL ts)),(36,(jP ts.length)),(37,(jP 0))] [] (zM<|zE (uW yR)<|zM<|zZ) ?_
  refine jH<|kA (α:=Nat) (fun i=>⟨[(0,(vl 23 1 kL ts)),(1,(vl 45 4 jK (List.map jN xs))),(2,(vl 24 1 jI q)),(35,(vl 23 1 kL ts)),(36,(jP ts.length)),(37,(jP i))],[]⟩) (fun i=>i≤ts.length) (fun i=>ts.length-i) 0 wk (Nat.zero_le _) ?_
  rintro i hi
  refine jB<|kx [(38,(vb (decide (((i:Nat):Int)<((ts.length:Nat):Int)))))] [] (zE xK<|zZ) ?_
  refine jB<|jG rfl (fun h3=>?_) (fun h3=>?_)
  ·replace h3:=uP h3
   refine jD<|jB<|jH<|jB<|kx [(8,(vl 83 7 kM (ts.getD i [])))] [] (zE (xX yR i ([]:List (kV)))<|zE (xZ sh23)<|zM<|zZ) ?_
   refine jB<|kx [(44,(vb false))] [] (zM<|zM<|zE (vW true (jY (u_small (ts.getD i []) (tn_up (uC (P:=vR 1048576) hts (show i<ts.length by omega)) (by decide)) (List.map jN xs) (row_up (pts_row hx (by omega)) (by decide)) (uC (P:=fun t=>t.length≤140737488355328) htl (show i<ts.length by omega)))) (by exact (uC hsm (show i<ts.length by omega))))<|zE mD<|zZ) ?_
   refine kU ?_
   refine jD<|kx [(37,(jP (i+1)))] [] (zE (vC (i+1))<|zM<|zZ) ?_
   exact ⟨i+1,wk,(by omega),(by first|omega|(dsimp only;omega))⟩
  ·replace h3:=uR h3
   refine kB<|jB<|kx [(9,(vl 24 1 jI [])),(10,(jP (tbC xs q ts)))] [] (zM<|zM<|zM<|zE (jY (p_tabE ts (by omega) xs hx q (gV hq (by decide)) hE hrc hTm h1 (by omega) hxb))<|zM<|zE uT<|zE uT<|zM<|zM<|zZ) ?_
   refine jB<|kx [(11,(jP 0))] [] (zM<|zZ) ?_
   refine jB<|jB<|kx [(60,(vb false))] [] (zM<|zE (vW true (jY (m_vlist (List.map jN xs) (pts_row hx (by omega)))) (by exact (vrow_of xs)))<|zE mD<|zM<|zM<|zE (jY (s_chk q (gV hq (by decide))))<|zE (vW false nW (by exact bne_eq_false_iff_eq.2 (by rw[show (gS q)=0 from hq0]<;>rfl)))<|zE yP<|zZ) ?_
   refine kU ?_
   refine jD<|jB<|jB<|kx [(67,(vb (true&&(((ts.length:Nat):Int) == ((0:Nat):Int)))))] [] (zM<|zE (vW true xR)<|zM<|zM<|zE (uW yR)<|zE xR<|zE fA<|zZ) ?_
   refine jG rfl (fun h4=>?_) (fun h4=>?_)
   ·exfalso;have h9:=h4;rw[Bool.true_and,beq_iff_eq] at h9;omega
   ·refine jD<|jB<|jB<|kx [(68,(vl 23 1 kL ts)),(69,(jP ts.length)),(70,(jP 0))] [] (zM<|zE (uW yR)<|zM<|zZ) ?_
    refine jH<|kA (α:=Nat × Nat) (fun (i,c)=>⟨[(0,(vl 23 1 kL ts)),(1,(vl 45 4 jK (List.map jN xs))),(2,(vl 24 1 jI q)),(9,(vl 24 1 jI [])),(10,(jP (tbC xs q ts))),(11,(jP c)),(68,(vl 23 1 kL ts)),(69,(jP ts.length)),(70,(jP i))],[]⟩) (fun (i,c)=>i≤ts.length∧c=gA (tmN xs) (ts.take i)) (fun (i,c)=>ts.length-i) (0,0) wk ⟨Nat.zero_le _,rfl⟩ ?_
    rintro ⟨i,c⟩ ⟨hi,hc⟩
    refine jB<|kx [(71,(vb (decide (((i:Nat):Int)<((ts.length:Nat):Int)))))] [] (zE xK<|zZ) ?_
    refine jB<|jG rfl (fun h5=>?_) (fun h5=>?_)
    ·replace h5:=uP h5
     refine jD<|jB<|jH<|jB<|kx [(13,(vl 83 7 kM (ts.getD i [])))] [] (zE (xX yR i ([]:List (kV)))<|zE (xZ sh23)<|zM<|zZ) ?_
     refine jB<|kx [(75,(vb (((c:Nat):Int) == ((0:Nat):Int))))] [] (zM<|zE xR<|zZ) ?_
     refine jG (b:=(((c:Nat):Int) == ((0:Nat):Int))) rfl (fun h6=>?_) (fun h6=>?_)
     ·replace h6:=eq_of_beq h6
      refine kx [(11,(jP (nY ((xs.length:Nat):Int) (ts.getD i []))))] [] (zM<|zM<|zE (oLn uE xs.length)<|zE (jY (u_chk (ts.getD i []) (uC (P:=vR 1048576) hts (show i<ts.length by omega)) ((xs.length:Nat):Int)))<|zM<|zZ) ?_
      refine kx [(70,(jP (i+1)))] [] (zE (vC (i+1))<|zM<|zZ) ?_
      exact ⟨(i+1,nY ((xs.length:Nat):Int) (ts.getD i [])),wk,⟨by omega,fstC_y (f:=tmN xs) (by omega) hc h6⟩,(by first|omega|(dsimp only;omega))⟩
     ·replace h6:=ne_of_beq_false h6
      refine jD<|kx [(70,(jP (i+1)))] [] (zE (vC (i+1))<|zM<|zZ) ?_
      exact ⟨(i+1,c),wk,⟨by omega,fstC_n (by omega) hc h6⟩,(by first|omega|(dsimp only;omega))⟩
    ·replace h5:=uR h5
     have hcf:c=gA (tmN xs) ts:=by rw[show i=ts.length by omega,List.take_length] at hc;exact hc
     refine kB<|eV (α:=Nat) (fun c2=>⟨[(0,(vl 23 1 kL ts)),(1,(vl 45 4 jK (List.map jN xs))),(2,(vl 24 1 jI q)),(9,(vl 24 1 jI [])),(10,(jP (tbC xs q ts))),(11,(jP c2))],[]⟩) (fun c2=>c2=cdQ xs q ts) ?_ ?_
     ·refine jB<|kx [(82,(vb (((c:Nat):Int) == ((0:Nat):Int))))] [] (zM<|zE xR<|zZ) ?_
      refine jG (b:=(((c:Nat):Int) == ((0:Nat):Int))) rfl (fun h7=>?_) (fun h7=>?_)
      ·replace h7:=eq_of_beq h7
       refine kx [(11,(jP (mV q xs.length)))] [] (zM<|zM<|zE (oLn uE xs.length)<|zE (jY (s_fits q (gV hq (by decide)) xs.length hrc))<|zM<|zZ) ?_
       exact met (mV q xs.length) wk (cdQ_y hcf h7)
      ·replace h7:=ne_of_beq_false h7
       refine jD ?_
       exact met c wk (cdQ_n hcf h7)
     ·rintro c2 hc2
      refine jB<|kx [(14,(.own 0 24 1 0))] [(0,some (bm jI []))] (zN (oBo 0 iG bX zo24)<|zM<|zZ) ?_
      refine jB<|jB<|kx [(88,(vl 23 1 kL ts)),(89,(jP ts.length)),(90,(jP 0))] [] (zM<|zE (uW yR)<|zM<|zZ) ?_
      refine jH<|kA (α:=Nat × Nat × List (List jQ)) (fun (i,c,o)=>⟨[(0,(vl 23 1 kL ts)),(1,(vl 45 4 jK (List.map jN xs))),(2,(vl 24 1 jI q)),(9,(vl 24 1 jI [])),(10,(jP (tbC xs q ts))),(11,(jP c)),(14,(.own 0 24 1 o.length)),(88,(vl 23 1 kL ts)),(89,(jP ts.length)),(90,(jP i))],[(0,some (bm jI o))]⟩) (fun (i,c,o)=>i≤ts.length∧c=tbI xs q ts i∧o.length≤i) (fun (i,c,o)=>ts.length-i) (0,c2,[]) wk ⟨Nat.zero_le _,by rw[hc2,tbI_0],Nat.le_refl 0⟩ ?_
      rintro ⟨i,c,o⟩ ⟨hi,hc,ho⟩
      refine jB<|kx [(91,(vb (decide (((i:Nat):Int)<((ts.length:Nat):Int)))))] [] (zE xK<|zZ) ?_
      refine jB<|jG rfl (fun h8=>?_) (fun h8=>?_)
      ·replace h8:=uP h8
       refine jD<|jB<|jH<|jB<|kx [(16,(vl 83 7 kM (ts.getD i [])))] [] (zE (xX yR i ([]:List (kV)))<|zE (xZ sh23)<|zM<|zZ) ?_
       refine jB<|kx [(95,(vb (((c:Nat):Int) == ((0:Nat):Int))))] [] (zM<|zE xR<|zZ) ?_
       refine jG (b:=(((c:Nat):Int) == ((0:Nat):Int))) rfl (fun h9=>?_) (fun h9=>?_)
       ·replace h9:=eq_of_beq h9
        have hc0:=h9
        have hTi:=uC hTm (show i<ts.length by omega) (tm_of (cd_tm (tbI_cd hc hc0).1) (show i<ts.length by omega))
        refine jB ?_
        rcases hdz:(dzT (List.map yF xs) (ts.getD i [])) with _ | _
        ·refine kx [(17,(vl 45 4 jK (vT xs (ts.getD i [])))),(18,(jP 0))] [] (zM<|zM<|zE (jY (u_grd (ts.getD i []) (uC (P:=vR 1048576) hts (show i<ts.length by omega)) xs hx hTi hdz hxb))<|zM<|zE uT<|zE uT<|zM<|zM<|zZ) ?_
         refine jB<|kf [(14,(.own 0 24 1 ((o++[(vT xs (ts.getD i []))]).length)))] [(0,some (bm jI (o++[(vT xs (ts.getD i []))])))] (zM<|zM<|zE (cN iG bX zo24)<|zA jI o [(vT xs (ts.getD i []))] rfl iG bX by24<|zM<|zF) ?_
         refine kx [(11,(jP 0))] [] (zM<|zM<|zZ) ?_
         refine kx [(90,(jP (i+1)))] [] (zE (vC (i+1))<|zM<|zZ) ?_
         exact ⟨(i+1,0,o++[vT xs (ts.getD i [])]),wk,⟨by omega,by rw[← tbI_y (by omega) hc hc0,dzC_n hdz],by simp only[List.length_append,List.length_singleton];omega⟩,(by first|omega|(dsimp only;omega))⟩
        ·refine kx [(17,(vl 45 4 jK [])),(18,(jP 14))] [] (zM<|zM<|zE (jY (u_grdZ (ts.getD i []) (uC (P:=vR 1048576) hts (show i<ts.length by omega)) xs hx hTi hdz hxb))<|zM<|zE uT<|zE uT<|zM<|zM<|zZ) ?_
         refine jB<|kf [(14,(.own 0 24 1 ((o++[[]]).length)))] [(0,some (bm jI (o++[[]])))] (zM<|zM<|zE (cN iG bX zo24)<|zA jI o [[]] rfl iG bX by24<|zM<|zF) ?_
         refine kx [(11,(jP 14))] [] (zM<|zM<|zZ) ?_
         refine kx [(90,(jP (i+1)))] [] (zE (vC (i+1))<|zM<|zZ) ?_
         exact ⟨(i+1,14,o++[[]]),wk,⟨by omega,by rw[← tbI_y (by omega) hc hc0,dzC_y hdz],by simp only[List.length_append,List.length_singleton];omega⟩,(by first|omega|(dsimp only;omega))⟩
       ·replace h9:=ne_of_beq_false h9
        refine jD<|kx [(90,(jP (i+1)))] [] (zE (vC (i+1))<|zM<|zZ) ?_
        exact ⟨(i+1,c,o),wk,⟨by omega,tbI_n (by omega) hc h9,by omega⟩,(by first|omega|(dsimp only;omega))⟩
      ·replace h8:=uR h8
       have hce:=tbI_e hc (show i=ts.length by omega)
       refine kB<|jB<|jB<|kx [(109,(vb true))] [] (zE (oQd (.val (.int .i64 (((c:Nat):Int)))) (.val (.int .i64 ((((tbC xs q ts):Nat):Int)))) (oV (jP c) (qC (by kernel_rfl))) (by exact (by rw[hce])))<|zE (vW true nW (by exact bne_iff_ne.2 (by have hx:=hE;omega)))<|zZ) ?_
       refine uY ?_
       refine jB<|jB<|kx [(117,(vb false))] [] (zM<|zE (oQd (.val (.int .i64 (((c:Nat):Int)))) (.val (.int .i64 ((((tbC xs q ts):Nat):Int)))) (oV (jP c) (qC (by kernel_rfl))) (by exact (by rw[hce])))<|zE (vW false nW (by exact bne_self_eq_false _))<|zM<|zM<|zE (oLn zW 0)<|zE (vW false nW)<|zE yP<|zZ) ?_
       refine kU ?_
       refine jD<|jB<|jB<|kx [(120,(vb (((ts.length:Nat):Int) != ((1:Nat):Int))))] [] (zM<|zE (uW yR)<|zE nW<|zZ) ?_
       refine jG rfl (fun h10=>?_) (fun h10=>?_)
       ·replace h10:=bne_iff_ne.1 h10
        refine jB<|kx [(6,(vb true))] [] (zM<|zZ) ?_
        refine jE ⟨_,(.tmp (d:=(.val (.bool (true)))) rfl .nil),?_⟩
        rfl
       ·replace h10:=bne_eq_false_iff_eq.1 h10
        have dB:=one_form (show ts.length=1 by omega)
        refine jD<|jB<|kx [(19,(.ref 1 0)),(20,(jP (tbC xs q ts)))] [(1,some (bx (jK kZ)))] (zM<|zE (xX yR 0 ([]:List (kV)))<|zE (xZ sh23)<|zM<|zM<|zE (jY (p_varE (ts.getD 0 []) (uC (P:=vR 1048576) hts (show 0<ts.length by omega)) xs hx q (gV hq (by decide)) (by rw[dB];exact hE) hrc (uC hTm (show 0<ts.length by omega)) hxb))<|zM<|zE uT<|zE (oQd (.val (.int .i64 ((((tbC xs q [(ts.getD 0 [])]):Nat):Int)))) (.val (.int .i64 ((((tbC xs q ts):Nat):Int)))) uT (by exact (by rw[dB])))<|zH (qV 1 qU qY)<|zT (qA jS)<|zM<|zZ) ?_
        refine jB<|kx [(6,(vb true))] [] (zM<|zE (oQd (.val (.int .i64 (((c:Nat):Int)))) (.val (.int .i64 ((((tbC xs q ts):Nat):Int)))) (oV (jP c) (qC (by kernel_rfl))) (by exact (by rw[hce])))<|zE (vW true xR (by exact beq_self_eq_true _))<|zM<|zR (kK jS)<|zE (jY g_zeroT)<|zE gR<|zM<|zZ) ?_
        refine jE ⟨_,(.tmp (d:=(.val (.bool (true)))) rfl .nil),?_⟩
        rfl
theorem w_va(ts:List (List kV))(hts:∀ t∈ts,vR 1048576 t)(xs:List Rat)(hx:∀ q∈xs,QL q 1048576)(q:List (List jQ))(hq:vN 6 q)(h0:tbC xs q ts=0)(h1:1≤ts.length)(hTm:∀ t∈ts,tmN xs t=0→mW (List.map yF xs) t)(hq0:gS q=0)(h3:ts.length≤3)(hsq:shM 5 6 q=true)(hsm:∀ t∈ts,(dE 16 10 t&&shR 4 6 (List.map jN xs))=true)(htl:∀ t∈ts,t.length≤140737488355328)(hxb:xs.length≤1000000):jR Tryz.prog 4 [(.sl 23 1 (List.map kL ts)),(.sl 45 4 (List.map jK (List.map jN xs))),(.sl 24 1 (List.map jI q))] (.val (.bool (true))):=by
 have hrc:=mchk_rect hq0
 have hxn:((List.map jN xs).length)=xs.length:=List.length_map _
 obtain ⟨hz1,hz2,hz3⟩:=tb_0 h0
 obtain ⟨hfq,hfc,_⟩:=fit_of hz2
 have hr:gJ q q.length xs.length:=by rw[hfc] at hrc;exact hrc
 have hxq:xs.length=q.length:=hfq.symm
 have hjs:∀ t∈ts,JRunP (List.map yF xs) t:=fun t ht=>tame_run (hTm t ht (fstC_all hz1 t ht)) (dz_of hz3 t ht)
 have hs4:=uC hsm (show 0<ts.length by omega)
 rw[Bool.and_eq_true] at hs4
 have hx4:=shR_len hs4.2
 have hq8:q.length≤8:=by rw[List.length_map] at hx4;omega
 have hgl:(List.map (vT xs) ts).length=ts.length:=List.length_map _
 have htl2:(eA q (List.map (vT xs) ts)).length=ts.length:=by unfold eA;rw[List.length_map,hgl]
 refine jJ Tryz.func4 rfl cb4 rfl ?_
 show qG _ _ _ _ ⟨[(0,(vl 23 1 kL ts)),(1,(vl 45 4 jK (List.map jN xs))),(2,(vl 24 1 jI q))],[]⟩
 refine jB<|kx [] [] (zM<|zZ) ?_
 refine jB<|jB<|kx [(26,(vb false))] [] (zE (jY p_known)<|zE mD<|zZ) ?_
 refine kU ?_
 refine jD<|jB<|jB<|kx [(34,(vb (decide (((3:Nat):Int)<((ts.length:Nat):Int))&&true)))] [] ?_ ?_
 ·refine zM<|zE (uW yR)<|zE mL<|zE (oV (vb (decide (((3:Nat):Int)<((ts.length:Nat):Int)))) (qC (by kernel_rfl)))<|?_
  rcases hb1:(decide (((3:Nat):Int)<((ts.length:Nat):Int))) with _ | _
  ·replace hb1:=uR hb1
   exact zM<|zE (vW true (jY (u_table q (gV hq (by decide)))) (by exact hsq))<|zE mD<|zE yP<|zZ
  ·replace hb1:=uP hb1
   exact zK<|zK<|zK<|zE gR<|zZ
 refine jG rfl (fun h2=>?_) (fun h2=>?_)
 ·exfalso;have h9:=h2;rw[Bool.and_true,decide_eq_true_eq] at h9;omega
 ·refine jD<|jB<|jB<|kx [(35,(vl 23 1 kL ts)),(36,(jP ts.length)),(37,(jP 0))] [] (zM<|zE (uW yR)<|zM<|zZ) ?_
  refine jH<|kA (α:=Nat) (fun i=>⟨[(0,(vl 23 1 kL ts)),(1,(vl 45 4 jK (List.map jN xs))),(2,(vl 24 1 jI q)),(35,(vl 23 1 kL ts)),(36,(jP ts.length)),(37,(jP i))],[]⟩) (fun i=>i≤ts.length) (fun i=>ts.length-i) 0 wk (Nat.zero_le _) ?_
  rintro i hi
  refine jB<|kx [(38,(vb (decide (((i:Nat):Int)<((ts.length:Nat):Int)))))] [] (zE xK<|zZ) ?_
  refine jB<|jG rfl (fun h3=>?_) (fun h3=>?_)
  ·replace h3:=uP h3
   refine jD<|jB<|jH<|jB<|kx [(8,(vl 83 7 kM (ts.getD i [])))] [] (zE (xX yR i ([]:List (kV)))<|zE (xZ sh23)<|zM<|zZ) ?_
   refine jB<|kx [(44,(vb false))] [] (zM<|zM<|zE (vW true (jY (u_small (ts.getD i []) (tn_up (uC (P:=vR 1048576) hts (show i<ts.length by omega)) (by decide)) (List.map jN xs) (row_up (pts_row hx (by omega)) (by decide)) (uC (P:=fun t=>t.length≤140737488355328) htl (show i<ts.length by omega)))) (by exact (uC hsm (show i<ts.length by omega))))<|zE mD<|zZ) ?_
   refine kU ?_
   refine jD<|kx [(37,(jP (i+1)))] [] (zE (vC (i+1))<|zM<|zZ) ?_
   exact ⟨i+1,wk,(by omega),(by first|omega|(dsimp only;omega))⟩
  ·replace h3:=uR h3
   refine kB<|jB<|kx [(9,(vl 24 1 jI (eA q (List.map (vT xs) ts)))),(10,(jP 0))] [] (zM<|zM<|zM<|zE (jY (p_tab8 ts (by assumption) xs hx q (gV hq (by decide)) hjs hr hz2 (by omega) h1 (by omega) (by omega)))<|zM<|zE uT<|zE uT<|zM<|zM<|zZ) ?_
   refine jB<|kx [(11,(jP 0))] [] (zM<|zZ) ?_
   refine jB<|jB<|kx [(60,(vb false))] [] (zM<|zE (vW true (jY (m_vlist (List.map jN xs) (pts_row hx (by omega)))) (by exact (vrow_of xs)))<|zE mD<|zM<|zM<|zE (jY (s_chk q (gV hq (by decide))))<|zE (vW false nW (by exact bne_eq_false_iff_eq.2 (by rw[show (gS q)=0 from hq0]<;>rfl)))<|zE yP<|zZ) ?_
   refine kU ?_
   refine jD<|jB<|jB<|kx [(67,(vb (true&&(((ts.length:Nat):Int) == ((0:Nat):Int)))))] [] (zM<|zE (vW true xR)<|zM<|zM<|zE (uW yR)<|zE xR<|zE fA<|zZ) ?_
   refine jG rfl (fun h4=>?_) (fun h4=>?_)
   ·exfalso;have h9:=h4;rw[Bool.true_and,beq_iff_eq] at h9;omega
   ·refine jD<|jB<|jB<|kx [(68,(vl 23 1 kL ts)),(69,(jP ts.length)),(70,(jP 0))] [] (zM<|zE (uW yR)<|zM<|zZ) ?_
    refine jH<|kA (α:=Nat) (fun i=>⟨[(0,(vl 23 1 kL ts)),(1,(vl 45 4 jK (List.map jN xs))),(2,(vl 24 1 jI q)),(9,(vl 24 1 jI (eA q (List.map (vT xs) ts)))),(10,(jP 0)),(11,(jP 0)),(68,(vl 23 1 kL ts)),(69,(jP ts.length)),(70,(jP i))],[]⟩) (fun i=>i≤ts.length) (fun i=>ts.length-i) 0 wk (Nat.zero_le _) ?_
    rintro i hi
    refine jB<|kx [(71,(vb (decide (((i:Nat):Int)<((ts.length:Nat):Int)))))] [] (zE xK<|zZ) ?_
    refine jB<|jG rfl (fun h5=>?_) (fun h5=>?_)
    ·replace h5:=uP h5
     refine jD<|jB<|jH<|jB<|kx [(13,(vl 83 7 kM (ts.getD i [])))] [] (zE (xX yR i ([]:List (kV)))<|zE (xZ sh23)<|zM<|zZ) ?_
     refine jB<|kx [(75,(vb true))] [] (zM<|zE (vW true xR)<|zZ) ?_
     refine uY ?_
     refine kx [(11,(jP 0))] [] (zM<|zM<|zE (oLn uE xs.length)<|zE (oQd (.val (.int .i64 ((((nY ((xs.length:Nat):Int) (ts.getD i [])):Nat):Int)))) (.val (.int .i64 (((0:Nat):Int)))) (jY (u_chk (ts.getD i []) (uC (P:=vR 1048576) hts (show i<ts.length by omega)) ((xs.length:Nat):Int))) (by exact (by rw[show nY ((xs.length:Nat):Int) (ts.getD i [])=0 from tm_of hz1 (show i<ts.length by omega)])))<|zM<|zZ) ?_
     refine kx [(70,(jP (i+1)))] [] (zE (vC (i+1))<|zM<|zZ) ?_
     exact ⟨i+1,wk,(by omega),(by first|omega|(dsimp only;omega))⟩
    ·replace h5:=uR h5
     refine kB<|jB<|jB<|kx [(82,(vb true))] [] (zM<|zE (vW true xR)<|zZ) ?_
     refine uY ?_
     refine kx [(11,(jP 0))] [] (zM<|zM<|zE (oLn uE xs.length)<|zE (oQd (.val (.int .i64 ((((mV q xs.length):Nat):Int)))) (.val (.int .i64 (((0:Nat):Int)))) (jY (s_fits q (gV hq (by decide)) xs.length hrc)) (by exact (by rw[hz2])))<|zM<|zZ) ?_
     refine jB<|kx [(14,(.own 0 24 1 0))] [(0,some (bm jI []))] (zN (oBo 0 iG bX zo24)<|zM<|zZ) ?_
     refine jB<|jB<|kx [(88,(vl 23 1 kL ts)),(89,(jP ts.length)),(90,(jP 0))] [] (zM<|zE (uW yR)<|zM<|zZ) ?_
     refine jH<|kA (α:=Nat × List (List jQ)) (fun (i,o)=>⟨[(0,(vl 23 1 kL ts)),(1,(vl 45 4 jK (List.map jN xs))),(2,(vl 24 1 jI q)),(9,(vl 24 1 jI (eA q (List.map (vT xs) ts)))),(10,(jP 0)),(11,(jP 0)),(14,(.own 0 24 1 o.length)),(88,(vl 23 1 kL ts)),(89,(jP ts.length)),(90,(jP i))],[(0,some (bm jI o))]⟩) (fun (i,o)=>i≤ts.length∧o=(ts.take i).map (vT xs)) (fun (i,o)=>ts.length-i) (0,[]) wk ⟨Nat.zero_le _,by simp⟩ ?_
     rintro ⟨i,o⟩ ⟨hi,ho⟩
     have hol:o.length=i:=by rw[ho,List.length_map,List.length_take];omega
     refine jB<|kx [(91,(vb (decide (((i:Nat):Int)<((ts.length:Nat):Int)))))] [] (zE xK<|zZ) ?_
     refine jB<|jG rfl (fun h6=>?_) (fun h6=>?_)
     ·replace h6:=uP h6
      refine jD<|jB<|jH<|jB<|kx [(16,(vl 83 7 kM (ts.getD i [])))] [] (zE (xX yR i ([]:List (kV)))<|zE (xZ sh23)<|zM<|zZ) ?_
      refine jB<|kx [(95,(vb true))] [] (zM<|zE (vW true xR)<|zZ) ?_
      refine uY ?_
      refine jB<|kx [(17,(vl 45 4 jK (vT xs (ts.getD i [])))),(18,(jP 0))] [] (zM<|zM<|zE (jY (u_grd (ts.getD i []) (uC (P:=vR 1048576) hts (show i<ts.length by omega)) xs hx (uC hTm (show i<ts.length by omega) (tm_of hz1 (show i<ts.length by omega))) (uC (P:=fun t=>dzT (List.map yF xs) t=false) (dz_of hz3) (show i<ts.length by omega)) hxb))<|zM<|zE uT<|zE uT<|zM<|zM<|zZ) ?_
      refine jB<|kf [(14,(.own 0 24 1 ((o++[(vT xs (ts.getD i []))]).length)))] [(0,some (bm jI (o++[(vT xs (ts.getD i []))])))] (zM<|zM<|zE (cN iG bX zo24)<|zA jI o [(vT xs (ts.getD i []))] rfl iG bX by24<|zM<|zF) ?_
      refine kx [(11,(jP 0))] [] (zM<|zM<|zZ) ?_
      refine kx [(90,(jP (i+1)))] [] (zE (vC (i+1))<|zM<|zZ) ?_
      exact ⟨(i+1,o++[vT xs (ts.getD i [])]),wk,⟨by omega,by rw[ho];exact mS (by omega)⟩,(by first|omega|(dsimp only;omega))⟩
     ·replace h6:=uR h6
      have hgs:o=(List.map (vT xs) ts):=by rw[ho,show i=ts.length by omega,List.take_length]
      refine kB<|jB<|jB<|kx [(109,(vb false))] [] (zM<|zE (vW false nW)<|zZ) ?_
      refine kU ?_
      refine jD<|jB<|jB<|kx [(145,(vb false))] [] (zM<|zE (vW false nW)<|zM<|zM<|zE (uW zW (L:=(eA q (List.map (vT xs) ts))))<|zM<|zE (uW yR)<|zE (vW false nW (by exact bne_eq_false_iff_eq.2 (congrArg (fun z:Nat=>(z:Int)) htl2)))<|zE yP<|zZ) ?_
      refine kU ?_
      refine jD<|jB<|jB<|kS (vD (t:=14) (k:=0) (es:=List.map jI o) rfl rfl (uQ _ _ (fun _=>rfl)) (uJ _ _ rfl) (vQ _ _ (fun _=>rfl) rfl)) ?_
      refine kx [(147,(jP ts.length)),(148,(jP 0))] [] (zM<|zE (uW yR)<|zM<|zZ) ?_
      refine jH<|kA (α:=Nat) (fun i=>⟨[(0,(vl 23 1 kL ts)),(1,(vl 45 4 jK (List.map jN xs))),(2,(vl 24 1 jI q)),(9,(vl 24 1 jI (eA q (List.map (vT xs) ts)))),(14,(vl 24 1 jI o)),(147,(jP ts.length)),(148,(jP i))],[]⟩) (fun i=>i≤ts.length) (fun i=>ts.length-i) 0 wk (Nat.zero_le _) ?_
      rintro i hi
      refine jB<|kx [(149,(vb (decide (((i:Nat):Int)<((ts.length:Nat):Int)))))] [] (zE xK<|zZ) ?_
      refine jB<|jG rfl (fun h7=>?_) (fun h7=>?_)
      ·replace h7:=uP h7
       have hgi:=mT (uC hjs (show i<ts.length by omega)).run
       have hti:=tab_len (q:=q) (gs:=(List.map (vT xs) ts)) (i:=i) (by omega)
       refine jD<|jB<|jH<|jB<|kx [(21,(jP i))] [] (zM<|zM<|zZ) ?_
       refine jB<|kx [(22,(.ref 1 0)),(23,(jP 0))] [(1,some (bx (jK (jN (dW q (vT xs (ts.getD i [])) (vT xs (ts.getD i [])))))))] (zM<|zM<|zE (xX yR i ([]:List (kV)))<|zE (xZ sh23)<|zM<|zM<|zE (jY (p_var8 (ts.getD i []) (uC (P:=vR 1048576) hts (show i<ts.length by omega)) xs hx q (gV hq (by decide)) (uC hjs (show i<ts.length by omega)) hr hz2 (by omega) (by omega)))<|zM<|zE uT<|zE uT<|zN (qV 1 qU qY)<|zT (qA jS)<|zM<|zZ) ?_
       refine jB<|jB<|kd [(184,(vb false))] [] mo (wM<|wE (vW false nW)<|wM<|wM<|wM<|wE (xX zW i ([]:List (jQ)) (L:=(eA q (List.map (vT xs) ts))))<|wE (xZ mR)<|wE (uW uE (L:=((eA q (List.map (vT xs) ts)).getD i [])))<|wM<|wE (uW yR)<|wE (vW false nW (by exact bne_eq_false_iff_eq.2 (congrArg (fun z:Nat=>(z:Int)) (hti.trans hgl))))<|wE yP<|wM<|wR (kK jS)<|wM<|wM<|wE (xX zW i ([]:List (jQ)) (L:=(eA q (List.map (vT xs) ts))))<|wE (xZ mR)<|wM<|wE (xX uE i kZ (L:=((eA q (List.map (vT xs) ts)).getD i [])))<|wE (oQd (jK (((eA q (List.map (vT xs) ts)).getD i []).getD i kZ)) (jK (jN (dW q (vT xs (ts.getD i [])) (vT xs (ts.getD i []))))) (gE jS) (by exact (congrArg jK (tab_at (show i<ts.length by omega) (show i<ts.length by omega)))))<|wE (vW true (jY (by have h:=g_same (jN (dW q (vT xs (ts.getD i [])) (vT xs (ts.getD i [])))) (jN (dW q (vT xs (ts.getD i [])) (vT xs (ts.getD i [])))) (dW q (vT xs (ts.getD i [])) (vT xs (ts.getD i []))) (dW q (vT xs (ts.getD i [])) (vT xs (ts.getD i []))) (jO (jZ (cov_8 (gV hq (by decide)) (aA (uC hjs (show i<ts.length by omega)).run) (aA (uC hjs (show i<ts.length by omega)).run) (by rw[mT (uC hjs (show i<ts.length by omega)).run];exact hr) (by omega) (by rw[mT (uC hjs (show i<ts.length by omega)).run];omega) (by rw[mT (uC hjs (show i<ts.length by omega)).run];exact (by omega)))) (by decide)) (jO (jZ (cov_8 (gV hq (by decide)) (aA (uC hjs (show i<ts.length by omega)).run) (aA (uC hjs (show i<ts.length by omega)).run) (by rw[mT (uC hjs (show i<ts.length by omega)).run];exact hr) hq8 (by rw[mT (uC hjs (show i<ts.length by omega)).run];omega) (by rw[mT (uC hjs (show i<ts.length by omega)).run];exact hxq))) (by decide));rw[sameR_of] at h;exact h)) (by exact decide_eq_true rfl))<|wE mD<|wE yP<|wZ) ?_
       refine kU ?_
       refine jD<|jB<|kx [(186,(jP ts.length)),(187,(jP 0))] [] (zM<|zE (uW yR)<|zM<|zZ) ?_
       refine jH<|kA (α:=Nat) (fun j=>⟨[(0,(vl 23 1 kL ts)),(1,(vl 45 4 jK (List.map jN xs))),(2,(vl 24 1 jI q)),(9,(vl 24 1 jI (eA q (List.map (vT xs) ts)))),(14,(vl 24 1 jI o)),(21,(jP i)),(147,(jP ts.length)),(148,(jP i)),(186,(jP ts.length)),(187,(jP j))],[]⟩) (fun j=>j≤ts.length) (fun j=>ts.length-j) 0 wk (Nat.zero_le _) ?_
       rintro j hj
       refine jB<|kx [(188,(vb (decide (((j:Nat):Int)<((ts.length:Nat):Int)))))] [] (zE xK<|zZ) ?_
       refine jB<|jG rfl (fun h8=>?_) (fun h8=>?_)
       ·replace h8:=uP h8
        have hgj:=mT (uC hjs (show j<ts.length by omega)).run
        have hrj:gJ q q.length (vT xs (ts.getD j [])).length:=by rw[hgj];exact hr
        refine jD<|jB<|jH<|jB<|kx [(24,(jP j))] [] (zM<|zM<|zZ) ?_
        refine jB<|kd [(208,(vb false))] [] mo (wM<|wM<|wE (xX zW i ([]:List (jQ)) (L:=(eA q (List.map (vT xs) ts))))<|wE (xZ mR)<|wM<|wE (xX uE j kZ (L:=((eA q (List.map (vT xs) ts)).getD i [])))<|wE (oQd (jK (((eA q (List.map (vT xs) ts)).getD i []).getD j kZ)) (jK (jN (dW q (vT xs (ts.getD i [])) (vT xs (ts.getD j []))))) (gE jS) (by exact (congrArg jK (tab_at (show i<ts.length by omega) (show j<ts.length by omega)))))<|wM<|wM<|wE (xX iG i ([]:List (jQ)))<|wE (oQd (.sl 45 4 (List.map jK (o.getD i []))) (.sl 45 4 (List.map jK (vT xs (ts.getD i [])))) (xZ mR) (by exact (by rw[hgs,grs_get (show i<ts.length by omega)])))<|wM<|wM<|wE (xX iG j ([]:List (jQ)))<|wE (oQd (.sl 45 4 (List.map jK (o.getD j []))) (.sl 45 4 (List.map jK (vT xs (ts.getD j [])))) (xZ mR) (by exact (by rw[hgs,grs_get (show j<ts.length by omega)])))<|wM<|wE (jY (d_cov (vT xs (ts.getD i [])) (aA (uC hjs (show i<ts.length by omega)).run) (vT xs (ts.getD j [])) (aA (uC hjs (show j<ts.length by omega)).run) q (gV hq (by decide)) hrj (hgi.trans hxq) (by omega) (by rw[hgj];omega)))<|wE (vW true (jY (by have h:=g_same (jN (dW q (vT xs (ts.getD i [])) (vT xs (ts.getD j [])))) (jN (dW q (vT xs (ts.getD i [])) (vT xs (ts.getD j [])))) (dW q (vT xs (ts.getD i [])) (vT xs (ts.getD j []))) (dW q (vT xs (ts.getD i [])) (vT xs (ts.getD j []))) (jO (jZ (cov_8 (gV hq (by decide)) (aA (uC hjs (show i<ts.length by omega)).run) (aA (uC hjs (show j<ts.length by omega)).run) (by rw[mT (uC hjs (show j<ts.length by omega)).run];exact hr) hq8 (by rw[mT (uC hjs (show j<ts.length by omega)).run];omega) (by rw[mT (uC hjs (show i<ts.length by omega)).run];exact hxq))) (by decide)) (jO (jZ (cov_8 (gV hq (by decide)) (aA (uC hjs (show i<ts.length by omega)).run) (aA (uC hjs (show j<ts.length by omega)).run) hrj (by omega) (by rw[hgj];omega) (hgi.trans hxq))) (by decide));rw[sameR_of] at h;exact h)) (by exact decide_eq_true rfl))<|wE mD<|wZ) ?_
        refine kU ?_
        refine jD<|kx [(187,(jP (j+1)))] [] (zE (vC (j+1))<|zM<|zZ) ?_
        exact ⟨j+1,wk,(by omega),(by first|omega|(dsimp only;omega))⟩
       ·replace h8:=uR h8
        refine kB<|kx [(148,(jP (i+1)))] [] (zE (vC (i+1))<|zM<|zZ) ?_
        exact ⟨i+1,wk,(by omega),(by first|omega|(dsimp only;omega))⟩
      ·replace h7:=uR h7
       refine kB<|jB<|kx [(6,(vb true))] [] (zM<|zZ) ?_
       refine jE ⟨_,(.tmp (d:=(.val (.bool (true)))) rfl .nil),?_⟩
       rfl
end Go.Proofs.YtnajallgoaiahaaGreatDoor
