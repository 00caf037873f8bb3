/- Part 35 of a proof: rules, plain facts, and functions walked. -/
import Derived.Test.YtnajallgoaiahaaGreatDoorM34
import Derived.OpenShut
import Derived.Test.YtnajallgoaiahaaGreatDoorM5
import Derived.ChangeArms
import Derived.SizedLaws
set_option linter.all false
set_option maxRecDepth 4000
namespace Go.Proofs.YtnajallgoaiahaaGreatDoor
open Go.Fid
theorem ar72:arrB Tryz.prog 72=some (2,34,1):=by kernel_rfl
theorem cb7:callB Tryz.prog 7=true:=by kernel_rfl
theorem w_poT(ts:List (List kW))(hts:∀ t∈ts,yM 140737488355328 t)(l:List jN)(hl:uJ 140737488355328 l)(a:List (List jN))(ha:qS 140737488355328 a)(v:List (List jN))(hv:qS 140737488355328 v)(hs:(decide (1≤ts.length)&&decide (ts.length≤3)&&decide (l.length≤3)&&shM 5 6 a&&shM 5 6 v&&decide (yF a=0)&&decide (a.length=l.length)&&decide (v.length=1)&&decide ((v.getD 0 []).length=ts.length)&&yA (v.getD 0 [])&&ts.all (fun t=>cR 16 10 t&&shR 4 6 l))=false)(htb:ts.length≤140737488355328)(htl:∀ t∈ts,t.length≤140737488355328):jP Tryz.prog 7 [(.sl 23 1 (List.map qB ts)),(.sl 45 4 (List.map jK l)),(dF (A2.mk a v))] (.val (.bool (true))):=by
 refine jI Tryz.func7 rfl cb7 rfl ?_
 show qJ _ _ _ _ ⟨[(0,(vl 23 1 qB ts)),(1,(vl 45 4 jK l)),(2,(.d (dF (A2.mk a v))))],[]⟩
 refine jB<|kx [(5,(.ref 0 0))] [(0,some (bx (dF (A2.mk a v))))] (zN (vW 0)<|zM<|zZ) ?_
 refine jB<|jB<|kx [(14,(vb false))] [] (zE (jX p_known)<|zE nY<|zZ) ?_
 refine kS ?_
 refine jD<|jB<|kd [(7,(vl 24 1 jG a)),(8,(vl 24 1 jG v))] [] mo (wE (oXr ar72 0)<|wR (uN sh34)<|wE (oXr ar72 1)<|wR (uN sh34)<|wM<|wM<|wZ) ?_
 refine jB<|jB<|kx [(74,(vb ((((((((((((ts.length:Nat):Int) == ((0:Nat):Int))||decide (((3:Nat):Int)<((ts.length:Nat):Int)))||decide (((3:Nat):Int)<((l.length:Nat):Int)))||!(shM 5 6 a))||!(shM 5 6 v))||((((yF a):Nat):Int) != ((0:Nat):Int)))||(((a.length:Nat):Int) != ((l.length:Nat):Int)))||(((v.length:Nat):Int) != ((1:Nat):Int)))||((((v.getD 0 []).length:Nat):Int) != ((ts.length:Nat):Int)))||!(yA (v.getD 0 [])))))] [] ?_ ?_
 ·refine zM<|zE (uE mG)<|zE gD<|zE (oV (vb (((ts.length:Nat):Int) == ((0:Nat):Int))) (kR (by kernel_rfl)))<|?_
  rcases hb1:(((ts.length:Nat):Int) == ((0:Nat):Int)) with _ | _
  ·replace hb1:=ne_of_beq_false hb1
   refine zM<|zE (uE mG)<|zE mA<|zE cG<|zE (oV (vb (false||decide (((3:Nat):Int)<((ts.length:Nat):Int)))) (kR (by kernel_rfl)))<|?_
   rcases hb2:(false||decide (((3:Nat):Int)<((ts.length:Nat):Int))) with _ | _
   ·replace hb2:=uX (p:=(((3:Nat):Int)<((ts.length:Nat):Int))) hb2
    refine zM<|zE (uE qY)<|zE mA<|zE cG<|zE (oV (vb (false||decide (((3:Nat):Int)<((l.length:Nat):Int)))) (kR (by kernel_rfl)))<|?_
    rcases hb3:(false||decide (((3:Nat):Int)<((l.length:Nat):Int))) with _ | _
    ·replace hb3:=uX (p:=(((3:Nat):Int)<((l.length:Nat):Int))) hb3
     refine zM<|zE (jX (fY a ha))<|zE nY<|zE cG<|zE (oV (vb (false||!(shM 5 6 a))) (kR (by kernel_rfl)))<|?_
     rcases hb4:(false||!(shM 5 6 a)) with _ | _
     ·replace hb4:=(Bool.not_eq_false' _).mp (show (!(shM 5 6 a))=false from hb4)
      refine zM<|zE (jX (fY v hv))<|zE nY<|zE cG<|zE (oV (vb (false||!(shM 5 6 v))) (kR (by kernel_rfl)))<|?_
      rcases hb5:(false||!(shM 5 6 v)) with _ | _
      ·replace hb5:=(Bool.not_eq_false' _).mp (show (!(shM 5 6 v))=false from hb5)
       refine zM<|zE (jX (s_chk a (yP (shM_ok (show shM 5 6 a=true by assumption) (by decide) (by decide)) (by decide))))<|zE mC<|zE cG<|zE (oV (vb (false||((((yF a):Nat):Int) != ((0:Nat):Int)))) (kR (by kernel_rfl)))<|?_
       rcases hb6:(false||((((yF a):Nat):Int) != ((0:Nat):Int))) with _ | _
       ·replace hb6:=bne_eq_false_iff_eq.1 (show ((((yF a):Nat):Int) != ((0:Nat):Int))=false from hb6)
        refine zM<|zE (uE uV)<|zM<|zE (uE qY)<|zE mC<|zE cG<|zE (oV (vb (false||(((a.length:Nat):Int) != ((l.length:Nat):Int)))) (kR (by kernel_rfl)))<|?_
        rcases hb7:(false||(((a.length:Nat):Int) != ((l.length:Nat):Int))) with _ | _
        ·replace hb7:=bne_eq_false_iff_eq.1 (show (((a.length:Nat):Int) != ((l.length:Nat):Int))=false from hb7)
         refine zM<|zE (uE uV)<|zE mC<|zE cG<|zE (oV (vb (false||(((v.length:Nat):Int) != ((1:Nat):Int)))) (kR (by kernel_rfl)))<|?_
         rcases hb8:(false||(((v.length:Nat):Int) != ((1:Nat):Int))) with _ | _
         ·replace hb8:=bne_eq_false_iff_eq.1 (show (((v.length:Nat):Int) != ((1:Nat):Int))=false from hb8)
          refine zM<|zE (xJ uV 0 ([]:List (jN)))<|zE (xO gB)<|zE (uE qY (L:=(v.getD 0 [])))<|zM<|zE (uE mG)<|zE mC<|zE cG<|zE (oV (vb (false||((((v.getD 0 []).length:Nat):Int) != ((ts.length:Nat):Int)))) (kR (by kernel_rfl)))<|?_
          rcases hb9:(false||((((v.getD 0 []).length:Nat):Int) != ((ts.length:Nat):Int))) with _ | _
          ·replace hb9:=bne_eq_false_iff_eq.1 (show ((((v.getD 0 []).length:Nat):Int) != ((ts.length:Nat):Int))=false from hb9)
           exact zM<|zE (xJ uV 0 ([]:List (jN)))<|zE (xO gB)<|zE (jX (m_vlist (v.getD 0 []) (fE (uL (d:=[]) (shM_ok (show shM 5 6 v=true by assumption) (by decide) (by decide)) (show 0<v.length by omega)) (by decide))))<|zE nY<|zE cG<|zZ
          ·replace hb9:=bne_iff_ne.1 (show ((((v.getD 0 []).length:Nat):Int) != ((ts.length:Nat):Int))=true from hb9)
           exact zK<|zK<|zK<|zK<|zK<|zE xA<|zZ
         ·replace hb8:=bne_iff_ne.1 (show (((v.length:Nat):Int) != ((1:Nat):Int))=true from hb8)
          exact zK<|zK<|zK<|zK<|zK<|zK<|zK<|zE xA<|zM<|zK<|zK<|zK<|zK<|zK<|zE xA<|zZ
        ·replace hb7:=bne_iff_ne.1 (show (((a.length:Nat):Int) != ((l.length:Nat):Int))=true from hb7)
         exact zK<|zK<|zK<|zE xA<|zM<|zK<|zK<|zK<|zK<|zK<|zK<|zK<|zE xA<|zM<|zK<|zK<|zK<|zK<|zK<|zE xA<|zZ
       ·replace hb6:=bne_iff_ne.1 (show ((((yF a):Nat):Int) != ((0:Nat):Int))=true from hb6)
        exact zK<|zK<|zK<|zK<|zK<|zE xA<|zM<|zK<|zK<|zK<|zE xA<|zM<|zK<|zK<|zK<|zK<|zK<|zK<|zK<|zE xA<|zM<|zK<|zK<|zK<|zK<|zK<|zE xA<|zZ
      ·replace hb5:=(Bool.not_eq_true' _).mp (show (!(shM 5 6 v))=true from hb5)
       exact zK<|zK<|zK<|zE xA<|zM<|zK<|zK<|zK<|zK<|zK<|zE xA<|zM<|zK<|zK<|zK<|zE xA<|zM<|zK<|zK<|zK<|zK<|zK<|zK<|zK<|zE xA<|zM<|zK<|zK<|zK<|zK<|zK<|zE xA<|zZ
     ·replace hb4:=(Bool.not_eq_true' _).mp (show (!(shM 5 6 a))=true from hb4)
      exact zK<|zK<|zK<|zE xA<|zM<|zK<|zK<|zK<|zE xA<|zM<|zK<|zK<|zK<|zK<|zK<|zE xA<|zM<|zK<|zK<|zK<|zE xA<|zM<|zK<|zK<|zK<|zK<|zK<|zK<|zK<|zE xA<|zM<|zK<|zK<|zK<|zK<|zK<|zE xA<|zZ
    ·replace hb3:=uW (p:=(((3:Nat):Int)<((l.length:Nat):Int))) hb3
     exact zK<|zK<|zK<|zE xA<|zM<|zK<|zK<|zK<|zE xA<|zM<|zK<|zK<|zK<|zE xA<|zM<|zK<|zK<|zK<|zK<|zK<|zE xA<|zM<|zK<|zK<|zK<|zE xA<|zM<|zK<|zK<|zK<|zK<|zK<|zK<|zK<|zE xA<|zM<|zK<|zK<|zK<|zK<|zK<|zE xA<|zZ
   ·replace hb2:=uW (p:=(((3:Nat):Int)<((ts.length:Nat):Int))) hb2
    exact zK<|zK<|zK<|zE xA<|zM<|zK<|zK<|zK<|zE xA<|zM<|zK<|zK<|zK<|zE xA<|zM<|zK<|zK<|zK<|zE xA<|zM<|zK<|zK<|zK<|zK<|zK<|zE xA<|zM<|zK<|zK<|zK<|zE xA<|zM<|zK<|zK<|zK<|zK<|zK<|zK<|zK<|zE xA<|zM<|zK<|zK<|zK<|zK<|zK<|zE xA<|zZ
  ·replace hb1:=eq_of_beq hb1
   exact zK<|zK<|zK<|zE xA<|zM<|zK<|zK<|zK<|zE xA<|zM<|zK<|zK<|zK<|zE xA<|zM<|zK<|zK<|zK<|zE xA<|zM<|zK<|zK<|zK<|zE xA<|zM<|zK<|zK<|zK<|zK<|zK<|zE xA<|zM<|zK<|zK<|zK<|zE xA<|zM<|zK<|zK<|zK<|zK<|zK<|zK<|zK<|zE xA<|zM<|zK<|zK<|zK<|zK<|zK<|zE xA<|zZ
 refine jF rfl (fun h10=>?_) (fun h10=>?_)
 ·refine jB<|kx [(6,(vb true))] [] (zM<|zZ) ?_
  refine jE ⟨_,(.tmp (d:=(.val (.bool (true)))) rfl .nil),?_⟩
  rfl
 ·have h40:=h10
  refine jD<|jB<|jB<|kx [(75,(vl 23 1 qB ts)),(76,(jR ts.length)),(77,(jR 0))] [] (zM<|zE (uE mG)<|zM<|zZ) ?_
  refine jH<|kB (α:=Nat) (fun i=>⟨[(0,(vl 23 1 qB ts)),(1,(vl 45 4 jK l)),(7,(vl 24 1 jG a)),(8,(vl 24 1 jG v)),(75,(vl 23 1 qB ts)),(76,(jR ts.length)),(77,(jR i))],[]⟩) (fun i=>i≤ts.length∧(ts.take i).all (fun t=>cR 16 10 t&&shR 4 6 l)=true) (fun i=>ts.length-i) 0 wk ⟨Nat.zero_le _,by simp⟩ ?_
  rintro i ⟨hi,hal⟩
  refine jB<|kx [(78,(vb (decide (((i:Nat):Int)<((ts.length:Nat):Int)))))] [] (zE xG<|zZ) ?_
  refine jB<|jF rfl (fun h11=>?_) (fun h11=>?_)
  ·replace h11:=uW h11
   refine jD<|jB<|jH<|jB<|kx [(10,(vl 83 7 qA (ts.getD i [])))] [] (zE (xJ mG i ([]:List (kW)))<|zE (xO sh23)<|zM<|zZ) ?_
   refine jB<|kx [(84,(vb (!(cR 16 10 (ts.getD i [])&&shR 4 6 l))))] [] (zM<|zM<|zE (jX (u_small (ts.getD i []) (nP (P:=yM 140737488355328) hts (show i<ts.length by omega)) l hl (nP (P:=fun t=>t.length≤140737488355328) htl (show i<ts.length by omega))))<|zE nY<|zZ) ?_
   refine jF rfl (fun h12=>?_) (fun h12=>?_)
   ·refine jB<|kx [(6,(vb true))] [] (zM<|zZ) ?_
    refine jE ⟨_,(.tmp (d:=(.val (.bool (true)))) rfl .nil),?_⟩
    rfl
   ·refine jD<|kx [(77,(jR (i+1)))] [] (zE (vT (i+1))<|zM<|zZ) ?_
    exact ⟨i+1,wk,⟨by omega,all_up (d:=[]) (by omega) hal (by simpa using h12)⟩,(by first|omega|(dsimp only;omega))⟩
  ·replace h11:=uX h11
   exact absurd hs (po_no h40 (by rw[show i=ts.length by omega,List.take_length] at hal;exact hal))
theorem w_poR(ts:List (List kW))(hts:∀ t∈ts,yM 1048576 t)(l:List jN)(hl:uJ 1048576 l)(a:List (List jN))(ha:qS 6 a)(v:List (List jN))(hv:qS 6 v)(hvf:yA l=false)(hn1:1≤ts.length)(hn3:ts.length≤3)(hl3:l.length≤3)(hsa:shM 5 6 a=true)(hsv:shM 5 6 v=true)(hma:yF a=0)(hal:a.length=l.length)(hvl:v.length=1)(hv0:(v.getD 0 []).length=ts.length)(hvv:yA (v.getD 0 [])=true)(hsm:∀ t∈ts,(cR 16 10 t&&shR 4 6 l)=true)(htl:∀ t∈ts,t.length≤140737488355328):jP Tryz.prog 7 [(.sl 23 1 (List.map qB ts)),(.sl 45 4 (List.map jK l)),(dF (A2.mk a v))] (.val (.bool (true))):=by
 have hra:=mchk_rect hma
 have hac:=hra.c1
 have hac6:=hra.c64
 have har:=hra.r1
 have htl0:(iN a a.length (a.getD 0 []).length).length=(a.getD 0 []).length:=by simp [iN]
 have htr:∀ k,k<(iN a a.length (a.getD 0 []).length).length→((iN a a.length (a.getD 0 []).length).getD k []).length=a.length:=fun k hk=>by rw[trM_at a (by omega)];simp
 have ht00:=htr 0 (by omega)
 have hmq:∀ i j k,k≤(iN a a.length (a.getD 0 []).length).length→QL (mulK a (iN a a.length (a.getD 0 []).length) i j k) 1048576:=fun i j k hk=>vC (mulK_ql ha (trM_ok ha hra) (by decide) (by decide) i j k) (by omega)
 have haq:qS 1048576 (xU a):=muM_ok (by omega) (by omega) hmq
 have hqn:(xU a).length=a.length:=aat_len a
 have hr0:=rawC_0 (l:=l) (q:=xU a)
 refine jI Tryz.func7 rfl cb7 rfl ?_
 show qJ _ _ _ _ ⟨[(0,(vl 23 1 qB ts)),(1,(vl 45 4 jK l)),(2,(.d (dF (A2.mk a v))))],[]⟩
 refine jB<|kx [(5,(.ref 0 0))] [(0,some (bx (dF (A2.mk a v))))] (zN (vW 0)<|zM<|zZ) ?_
 refine jB<|jB<|kx [(14,(vb false))] [] (zE (jX p_known)<|zE nY<|zZ) ?_
 refine kS ?_
 refine jD<|jB<|kd [(7,(vl 24 1 jG a)),(8,(vl 24 1 jG v))] [] mo (wE (oXr ar72 0)<|wR (uN sh34)<|wE (oXr ar72 1)<|wR (uN sh34)<|wM<|wM<|wZ) ?_
 refine jB<|jB<|kx [(74,(vb false))] [] (zM<|zE (uE mG)<|zE (vZ false gD (by exact beq_eq_false_iff_ne.2 (show ((ts.length:Nat):Int)≠((0:Nat):Int) by omega)))<|zM<|zM<|zE (uE mG)<|zE (vZ false mA (by exact decide_eq_false (show ¬ ((3:Nat):Int)<((ts.length:Nat):Int) by omega)))<|zE xN<|zM<|zM<|zE (uE qY)<|zE (vZ false mA (by exact decide_eq_false (show ¬ ((3:Nat):Int)<((l.length:Nat):Int) by omega)))<|zE xN<|zM<|zM<|zE (vZ true (jX (fY a (yP ha (by decide)))) (by exact hsa))<|zE nY<|zE xN<|zM<|zM<|zE (vZ true (jX (fY v (yP hv (by decide)))) (by exact hsv))<|zE nY<|zE xN<|zM<|zM<|zE (jX (s_chk a (yP ha (by decide))))<|zE (vZ false mC (by exact bne_eq_false_iff_eq.2 (by rw[show (yF a)=0 from hma]<;>rfl)))<|zE xN<|zM<|zM<|zE (uE uV)<|zM<|zE (uE qY)<|zE (vZ false mC (by exact bne_eq_false_iff_eq.2 (congrArg (fun z:Nat=>(z:Int)) hal)))<|zE xN<|zM<|zM<|zE (uE uV)<|zE (vZ false mC (by exact bne_eq_false_iff_eq.2 (by rw[show v.length=1 from hvl]<;>rfl)))<|zE xN<|zM<|zM<|zE (xJ uV 0 ([]:List (jN)))<|zE (xO gB)<|zE (uE qY (L:=(v.getD 0 [])))<|zM<|zE (uE mG)<|zE (vZ false mC (by exact bne_eq_false_iff_eq.2 (congrArg (fun z:Nat=>(z:Int)) hv0)))<|zE xN<|zM<|zM<|zE (xJ uV 0 ([]:List (jN)))<|zE (xO gB)<|zE (vZ true (jX (m_vlist (v.getD 0 []) (fE (uL (d:=[]) hv (show 0<v.length by omega)) (by decide)))) (by exact hvv))<|zE nY<|zE xN<|zZ) ?_
 refine kS ?_
 refine jD<|jB<|jB<|kx [(75,(vl 23 1 qB ts)),(76,(jR ts.length)),(77,(jR 0))] [] (zM<|zE (uE mG)<|zM<|zZ) ?_
 refine jH<|kB (α:=Nat) (fun i=>⟨[(0,(vl 23 1 qB ts)),(1,(vl 45 4 jK l)),(7,(vl 24 1 jG a)),(8,(vl 24 1 jG v)),(75,(vl 23 1 qB ts)),(76,(jR ts.length)),(77,(jR i))],[]⟩) (fun i=>i≤ts.length) (fun i=>ts.length-i) 0 wk (Nat.zero_le _) ?_
 rintro i hi
 refine jB<|kx [(78,(vb (decide (((i:Nat):Int)<((ts.length:Nat):Int)))))] [] (zE xG<|zZ) ?_
 refine jB<|jF rfl (fun h1=>?_) (fun h1=>?_)
 ·replace h1:=uW h1
  refine jD<|jB<|jH<|jB<|kx [(10,(vl 83 7 qA (ts.getD i [])))] [] (zE (xJ mG i ([]:List (kW)))<|zE (xO sh23)<|zM<|zZ) ?_
  refine jB<|kx [(84,(vb false))] [] (zM<|zM<|zE (vZ true (jX (u_small (ts.getD i []) (tn_up (nP (P:=yM 1048576) hts (show i<ts.length by omega)) (by decide)) l (fE hl (by decide)) (nP (P:=fun t=>t.length≤140737488355328) htl (show i<ts.length by omega)))) (by exact (nP hsm (show i<ts.length by omega))))<|zE nY<|zZ) ?_
  refine kS ?_
  refine jD<|kx [(77,(jR (i+1)))] [] (zE (vT (i+1))<|zM<|zZ) ?_
  exact ⟨i+1,wk,(by omega),(by first|omega|(dsimp only;omega))⟩
 ·replace h1:=uX h1
  refine kC<|jB<|kx [(11,(vl 24 1 jG [])),(12,(jR (rawC l (xU a))))] [] (zM<|zM<|zM<|zM<|zE (jX (e_trans a (yP ha (by decide)) hra))<|zE (oQd (.sl 24 1 (List.map jG (muM (mQ a (iN a a.length (a.getD 0 []).length)) a.length ((iN a a.length (a.getD 0 []).length).getD 0 []).length))) (.sl 24 1 (List.map jG (xU a))) (jX (e_mulS a (yP ha (by decide)) (iN a a.length (a.getD 0 []).length) (yP (trM_ok ha hra) (by decide)) (by omega) (by omega) (by omega) (by omega) (fun i hi=>by rw[htl0,(hra.at hi).1];exact Nat.le_refl _) (fun k hk=>by rw[htr k hk,ht00]) hmq)) (by exact rfl))<|zE (jX (p_tabR ts (by omega) l hl (xU a) haq (fun e=>by rw[hvf] at e;cases e) (by omega)))<|zM<|zE xD<|zE xD<|zM<|zM<|zZ) ?_
  refine jB<|jB<|kx [(97,(vb true))] [] (zM<|zE (vZ true mC (by exact bne_iff_ne.2 (by have hx:=hr0;omega)))<|zZ) ?_
  refine xT ?_
  refine jB<|kx [(6,(vb true))] [] (zM<|zZ) ?_
  refine jE ⟨_,(.tmp (d:=(.val (.bool (true)))) rfl .nil),?_⟩
  rfl
theorem w_poE(ts:List (List kW))(hts:∀ t∈ts,yM 1048576 t)(xs:List Rat)(hx:∀ q∈xs,QL q 1048576)(a:List (List jN))(ha:qS 6 a)(v:List (List jN))(hv:qS 6 v)(hE:tbC xs (xU a) ts≠0)(hTm:∀ t∈ts,tmN xs t=0→fR (List.map mH xs) t)(hal2:a.length=xs.length)(hn1:1≤ts.length)(hn3:ts.length≤3)(hl3:(List.map jQ xs).length≤3)(hsa:shM 5 6 a=true)(hsv:shM 5 6 v=true)(hma:yF a=0)(hal:a.length=(List.map jQ xs).length)(hvl:v.length=1)(hv0:(v.getD 0 []).length=ts.length)(hvv:yA (v.getD 0 [])=true)(hsm:∀ t∈ts,(cR 16 10 t&&shR 4 6 (List.map jQ xs))=true)(htl:∀ t∈ts,t.length≤140737488355328):jP Tryz.prog 7 [(.sl 23 1 (List.map qB ts)),(.sl 45 4 (List.map jK (List.map jQ xs))),(dF (A2.mk a v))] (.val (.bool (true))):=by
 have hra:=mchk_rect hma
 have hac:=hra.c1
 have hac6:=hra.c64
 have har:=hra.r1
 have htl0:(iN a a.length (a.getD 0 []).length).length=(a.getD 0 []).length:=by simp [iN]
 have htr:∀ k,k<(iN a a.length (a.getD 0 []).length).length→((iN a a.length (a.getD 0 []).length).getD k []).length=a.length:=fun k hk=>by rw[trM_at a (by omega)];simp
 have ht00:=htr 0 (by omega)
 have hmq:∀ i j k,k≤(iN a a.length (a.getD 0 []).length).length→QL (mulK a (iN a a.length (a.getD 0 []).length) i j k) 1048576:=fun i j k hk=>vC (mulK_ql ha (trM_ok ha hra) (by decide) (by decide) i j k) (by omega)
 have haq:qS 1048576 (xU a):=muM_ok (by omega) (by omega) hmq
 have hqn:(xU a).length=a.length:=aat_len a
 have hxn:((List.map jQ xs).length)=xs.length:=List.length_map _
 have hqr:yI (xU a) (xU a).length xs.length:=aat_rect hra hal2
 have hrc:=rect_0 hqr
 have hxq:xs.length=(xU a).length:=by omega
 refine jI Tryz.func7 rfl cb7 rfl ?_
 show qJ _ _ _ _ ⟨[(0,(vl 23 1 qB ts)),(1,(vl 45 4 jK (List.map jQ xs))),(2,(.d (dF (A2.mk a v))))],[]⟩
 refine jB<|kx [(5,(.ref 0 0))] [(0,some (bx (dF (A2.mk a v))))] (zN (vW 0)<|zM<|zZ) ?_
 refine jB<|jB<|kx [(14,(vb false))] [] (zE (jX p_known)<|zE nY<|zZ) ?_
 refine kS ?_
 refine jD<|jB<|kd [(7,(vl 24 1 jG a)),(8,(vl 24 1 jG v))] [] mo (wE (oXr ar72 0)<|wR (uN sh34)<|wE (oXr ar72 1)<|wR (uN sh34)<|wM<|wM<|wZ) ?_
 refine jB<|jB<|kx [(74,(vb false))] [] (zM<|zE (uE mG)<|zE (vZ false gD (by exact beq_eq_false_iff_ne.2 (show ((ts.length:Nat):Int)≠((0:Nat):Int) by omega)))<|zM<|zM<|zE (uE mG)<|zE (vZ false mA (by exact decide_eq_false (show ¬ ((3:Nat):Int)<((ts.length:Nat):Int) by omega)))<|zE xN<|zM<|zM<|zE (oLn qY xs.length)<|zE (vZ false mA (by exact decide_eq_false (show ¬ ((3:Nat):Int)<((xs.length:Nat):Int) by omega)))<|zE xN<|zM<|zM<|zE (vZ true (jX (fY a (yP ha (by decide)))) (by exact hsa))<|zE nY<|zE xN<|zM<|zM<|zE (vZ true (jX (fY v (yP hv (by decide)))) (by exact hsv))<|zE nY<|zE xN<|zM<|zM<|zE (jX (s_chk a (yP ha (by decide))))<|zE (vZ false mC (by exact bne_eq_false_iff_eq.2 (by rw[show (yF a)=0 from hma]<;>rfl)))<|zE xN<|zM<|zM<|zE (uE uV)<|zM<|zE (oLn qY xs.length)<|zE (vZ false mC (by exact bne_eq_false_iff_eq.2 (congrArg (fun z:Nat=>(z:Int)) hal2)))<|zE xN<|zM<|zM<|zE (uE uV)<|zE (vZ false mC (by exact bne_eq_false_iff_eq.2 (by rw[show v.length=1 from hvl]<;>rfl)))<|zE xN<|zM<|zM<|zE (xJ uV 0 ([]:List (jN)))<|zE (xO gB)<|zE (uE qY (L:=(v.getD 0 [])))<|zM<|zE (uE mG)<|zE (vZ false mC (by exact bne_eq_false_iff_eq.2 (congrArg (fun z:Nat=>(z:Int)) hv0)))<|zE xN<|zM<|zM<|zE (xJ uV 0 ([]:List (jN)))<|zE (xO gB)<|zE (vZ true (jX (m_vlist (v.getD 0 []) (fE (uL (d:=[]) hv (show 0<v.length by omega)) (by decide)))) (by exact hvv))<|zE nY<|zE xN<|zZ) ?_
 refine kS ?_
 refine jD<|jB<|jB<|kx [(75,(vl 23 1 qB ts)),(76,(jR ts.length)),(77,(jR 0))] [] (zM<|zE (uE mG)<|zM<|zZ) ?_
 refine jH<|kB (α:=Nat) (fun i=>⟨[(0,(vl 23 1 qB ts)),(1,(vl 45 4 jK (List.map jQ xs))),(7,(vl 24 1 jG a)),(8,(vl 24 1 jG v)),(75,(vl 23 1 qB ts)),(76,(jR ts.length)),(77,(jR i))],[]⟩) (fun i=>i≤ts.length) (fun i=>ts.length-i) 0 wk (Nat.zero_le _) ?_
 rintro i hi
 refine jB<|kx [(78,(vb (decide (((i:Nat):Int)<((ts.length:Nat):Int)))))] [] (zE xG<|zZ) ?_
 refine jB<|jF rfl (fun h1=>?_) (fun h1=>?_)
 ·replace h1:=uW h1
  refine jD<|jB<|jH<|jB<|kx [(10,(vl 83 7 qA (ts.getD i [])))] [] (zE (xJ mG i ([]:List (kW)))<|zE (xO sh23)<|zM<|zZ) ?_
  refine jB<|kx [(84,(vb false))] [] (zM<|zM<|zE (vZ true (jX (u_small (ts.getD i []) (tn_up (nP (P:=yM 1048576) hts (show i<ts.length by omega)) (by decide)) (List.map jQ xs) (fE (pts_row hx (by omega)) (by decide)) (nP (P:=fun t=>t.length≤140737488355328) htl (show i<ts.length by omega)))) (by exact (nP hsm (show i<ts.length by omega))))<|zE nY<|zZ) ?_
  refine kS ?_
  refine jD<|kx [(77,(jR (i+1)))] [] (zE (vT (i+1))<|zM<|zZ) ?_
  exact ⟨i+1,wk,(by omega),(by first|omega|(dsimp only;omega))⟩
 ·replace h1:=uX h1
  refine kC<|jB<|kx [(11,(vl 24 1 jG [])),(12,(jR (tbC xs (xU a) ts)))] [] (zM<|zM<|zM<|zM<|zE (jX (e_trans a (yP ha (by decide)) hra))<|zE (oQd (.sl 24 1 (List.map jG (muM (mQ a (iN a a.length (a.getD 0 []).length)) a.length ((iN a a.length (a.getD 0 []).length).getD 0 []).length))) (.sl 24 1 (List.map jG (xU a))) (jX (e_mulS a (yP ha (by decide)) (iN a a.length (a.getD 0 []).length) (yP (trM_ok ha hra) (by decide)) (by omega) (by omega) (by omega) (by omega) (fun i hi=>by rw[htl0,(hra.at hi).1];exact Nat.le_refl _) (fun k hk=>by rw[htr k hk,ht00]) hmq)) (by exact rfl))<|zE (jX (p_tabE ts (by omega) xs hx (xU a) haq hE hrc hTm hn1 (by omega) (by omega)))<|zM<|zE xD<|zE xD<|zM<|zM<|zZ) ?_
  refine jB<|jB<|kx [(97,(vb true))] [] (zM<|zE (vZ true mC (by exact bne_iff_ne.2 (by have hx:=hE;omega)))<|zZ) ?_
  refine xT ?_
  refine jB<|kx [(6,(vb true))] [] (zM<|zZ) ?_
  refine jE ⟨_,(.tmp (d:=(.val (.bool (true)))) rfl .nil),?_⟩
  rfl
theorem w_po(ts:List (List kW))(hts:∀ t∈ts,yM 1048576 t)(xs:List Rat)(hx:∀ q∈xs,QL q 1048576)(a:List (List jN))(ha:qS 6 a)(v:List (List jN))(hv:qS 6 v)(h0:tbC xs (xU a) ts=0)(hTm:∀ t∈ts,tmN xs t=0→fR (List.map mH xs) t)(hal2:a.length=xs.length)(hn1:1≤ts.length)(hn3:ts.length≤3)(hl3:(List.map jQ xs).length≤3)(hsa:shM 5 6 a=true)(hsv:shM 5 6 v=true)(hma:yF a=0)(hal:a.length=(List.map jQ xs).length)(hvl:v.length=1)(hv0:(v.getD 0 []).length=ts.length)(hvv:yA (v.getD 0 [])=true)(hsm:∀ t∈ts,(cR 16 10 t&&shR 4 6 (List.map jQ xs))=true)(htl:∀ t∈ts,t.length≤140737488355328):jP Tryz.prog 7 [(.sl 23 1 (List.map qB ts)),(.sl 45 4 (List.map jK (List.map jQ xs))),(dF (A2.mk a v))] (.val (.bool (true))):=by
 have hra:=mchk_rect hma
 have hac:=hra.c1
 have hac6:=hra.c64
 have har:=hra.r1
 have htl0:(iN a a.length (a.getD 0 []).length).length=(a.getD 0 []).length:=by simp [iN]
 have htr:∀ k,k<(iN a a.length (a.getD 0 []).length).length→((iN a a.length (a.getD 0 []).length).getD k []).length=a.length:=fun k hk=>by rw[trM_at a (by omega)];simp
 have ht00:=htr 0 (by omega)
 have hmq:∀ i j k,k≤(iN a a.length (a.getD 0 []).length).length→QL (mulK a (iN a a.length (a.getD 0 []).length) i j k) 1048576:=fun i j k hk=>vC (mulK_ql ha (trM_ok ha hra) (by decide) (by decide) i j k) (by omega)
 have haq:qS 1048576 (xU a):=muM_ok (by omega) (by omega) hmq
 have hqn:(xU a).length=a.length:=aat_len a
 have hxn:((List.map jQ xs).length)=xs.length:=List.length_map _
 have hqr:yI (xU a) (xU a).length xs.length:=aat_rect hra hal2
 have hrc:=rect_0 hqr
 have hxq:xs.length=(xU a).length:=by omega
 obtain ⟨hz1,hz2,hz3⟩:=tb_0 h0
 have hjs:∀ t∈ts,JRunP (List.map mH xs) t:=fun t ht=>tame_run (hTm t ht (fstC_all hz1 t ht)) (dz_of hz3 t ht)
 have hgl:(List.map (xY xs) ts).length=ts.length:=List.length_map _
 have htbl:(gO (xU a) (List.map (xY xs) ts)).length=ts.length:=by unfold gO;rw[List.length_map,hgl]
 have htb0:((gO (xU a) (List.map (xY xs) ts)).getD 0 []).length=ts.length:=by rw[tab_len (by omega),hgl]
 have htbr:=tab_rect (q:=xU a) (gs:=(List.map (xY xs) ts)) (by omega) (by omega)
 have hmt:yF (gO (xU a) (List.map (xY xs) ts))=0:=rect_chk htbr
 have hrm:∀ i,i<(gO (xU a) (List.map (xY xs) ts)).length→((gO (xU a) (List.map (xY xs) ts)).getD i []).length=(v.getD 0 []).length:=fun i hi=>by rw[tab_len (by omega),hgl,hv0]
 have hsg:=signQ_nn (form_nn (gs:=(List.map (xY xs) ts)) (v:=v.getD 0 []) hra (fun i hi=>by rw[grs_get (by omega),grQ_len (nP hjs (show i<ts.length by omega)).run];omega) (by omega))
 refine jI Tryz.func7 rfl cb7 rfl ?_
 show qJ _ _ _ _ ⟨[(0,(vl 23 1 qB ts)),(1,(vl 45 4 jK (List.map jQ xs))),(2,(.d (dF (A2.mk a v))))],[]⟩
 refine jB<|kx [(5,(.ref 0 0))] [(0,some (bx (dF (A2.mk a v))))] (zN (vW 0)<|zM<|zZ) ?_
 refine jB<|jB<|kx [(14,(vb false))] [] (zE (jX p_known)<|zE nY<|zZ) ?_
 refine kS ?_
 refine jD<|jB<|kd [(7,(vl 24 1 jG a)),(8,(vl 24 1 jG v))] [] mo (wE (oXr ar72 0)<|wR (uN sh34)<|wE (oXr ar72 1)<|wR (uN sh34)<|wM<|wM<|wZ) ?_
 refine jB<|jB<|kx [(74,(vb false))] [] (zM<|zE (uE mG)<|zE (vZ false gD (by exact beq_eq_false_iff_ne.2 (show ((ts.length:Nat):Int)≠((0:Nat):Int) by omega)))<|zM<|zM<|zE (uE mG)<|zE (vZ false mA (by exact decide_eq_false (show ¬ ((3:Nat):Int)<((ts.length:Nat):Int) by omega)))<|zE xN<|zM<|zM<|zE (oLn qY xs.length)<|zE (vZ false mA (by exact decide_eq_false (show ¬ ((3:Nat):Int)<((xs.length:Nat):Int) by omega)))<|zE xN<|zM<|zM<|zE (vZ true (jX (fY a (yP ha (by decide)))) (by exact hsa))<|zE nY<|zE xN<|zM<|zM<|zE (vZ true (jX (fY v (yP hv (by decide)))) (by exact hsv))<|zE nY<|zE xN<|zM<|zM<|zE (jX (s_chk a (yP ha (by decide))))<|zE (vZ false mC (by exact bne_eq_false_iff_eq.2 (by rw[show (yF a)=0 from hma]<;>rfl)))<|zE xN<|zM<|zM<|zE (uE uV)<|zM<|zE (oLn qY xs.length)<|zE (vZ false mC (by exact bne_eq_false_iff_eq.2 (congrArg (fun z:Nat=>(z:Int)) hal2)))<|zE xN<|zM<|zM<|zE (uE uV)<|zE (vZ false mC (by exact bne_eq_false_iff_eq.2 (by rw[show v.length=1 from hvl]<;>rfl)))<|zE xN<|zM<|zM<|zE (xJ uV 0 ([]:List (jN)))<|zE (xO gB)<|zE (uE qY (L:=(v.getD 0 [])))<|zM<|zE (uE mG)<|zE (vZ false mC (by exact bne_eq_false_iff_eq.2 (congrArg (fun z:Nat=>(z:Int)) hv0)))<|zE xN<|zM<|zM<|zE (xJ uV 0 ([]:List (jN)))<|zE (xO gB)<|zE (vZ true (jX (m_vlist (v.getD 0 []) (fE (uL (d:=[]) hv (show 0<v.length by omega)) (by decide)))) (by exact hvv))<|zE nY<|zE xN<|zZ) ?_
 refine kS ?_
 refine jD<|jB<|jB<|kx [(75,(vl 23 1 qB ts)),(76,(jR ts.length)),(77,(jR 0))] [] (zM<|zE (uE mG)<|zM<|zZ) ?_
 refine jH<|kB (α:=Nat) (fun i=>⟨[(0,(vl 23 1 qB ts)),(1,(vl 45 4 jK (List.map jQ xs))),(7,(vl 24 1 jG a)),(8,(vl 24 1 jG v)),(75,(vl 23 1 qB ts)),(76,(jR ts.length)),(77,(jR i))],[]⟩) (fun i=>i≤ts.length) (fun i=>ts.length-i) 0 wk (Nat.zero_le _) ?_
 rintro i hi
 refine jB<|kx [(78,(vb (decide (((i:Nat):Int)<((ts.length:Nat):Int)))))] [] (zE xG<|zZ) ?_
 refine jB<|jF rfl (fun h1=>?_) (fun h1=>?_)
 ·replace h1:=uW h1
  refine jD<|jB<|jH<|jB<|kx [(10,(vl 83 7 qA (ts.getD i [])))] [] (zE (xJ mG i ([]:List (kW)))<|zE (xO sh23)<|zM<|zZ) ?_
  refine jB<|kx [(84,(vb false))] [] (zM<|zM<|zE (vZ true (jX (u_small (ts.getD i []) (tn_up (nP (P:=yM 1048576) hts (show i<ts.length by omega)) (by decide)) (List.map jQ xs) (fE (pts_row hx (by omega)) (by decide)) (nP (P:=fun t=>t.length≤140737488355328) htl (show i<ts.length by omega)))) (by exact (nP hsm (show i<ts.length by omega))))<|zE nY<|zZ) ?_
  refine kS ?_
  refine jD<|kx [(77,(jR (i+1)))] [] (zE (vT (i+1))<|zM<|zZ) ?_
  exact ⟨i+1,wk,(by omega),(by first|omega|(dsimp only;omega))⟩
 ·replace h1:=uX h1
  refine kC<|jB<|kx [(11,(vl 24 1 jG (gO (xU a) (List.map (xY xs) ts)))),(12,(jR 0))] [] (zM<|zM<|zM<|zM<|zE (jX (e_trans a (yP ha (by decide)) hra))<|zE (oQd (.sl 24 1 (List.map jG (muM (mQ a (iN a a.length (a.getD 0 []).length)) a.length ((iN a a.length (a.getD 0 []).length).getD 0 []).length))) (.sl 24 1 (List.map jG (xU a))) (jX (e_mulS a (yP ha (by decide)) (iN a a.length (a.getD 0 []).length) (yP (trM_ok ha hra) (by decide)) (by omega) (by omega) (by omega) (by omega) (fun i hi=>by rw[htl0,(hra.at hi).1];exact Nat.le_refl _) (fun k hk=>by rw[htr k hk,ht00]) hmq)) (by exact rfl))<|zE (jX (p_tab8 ts (by assumption) xs hx (xU a) haq hjs hqr hz2 (by omega) hn1 (by omega) (by omega)))<|zM<|zE xD<|zE xD<|zM<|zM<|zZ) ?_
  refine jB<|jB<|kx [(97,(vb false))] [] (zM<|zE (vZ false mC)<|zZ) ?_
  refine kS ?_
  refine jD<|jB<|jB<|kx [(116,(vb false))] [] (zM<|zE (jX (s_chkB (gO (xU a) (List.map (xY xs) ts)) (tab_8 haq hqr (iD hjs) (by omega) (by omega) (by omega))))<|zE (vZ false mC (by exact bne_eq_false_iff_eq.2 (by rw[show (yF (gO (xU a) (List.map (xY xs) ts)))=0 from hmt]<;>rfl)))<|zM<|zM<|zE (uE uV (L:=(gO (xU a) (List.map (xY xs) ts))))<|zM<|zE (uE mG)<|zE (vZ false mC (by exact bne_eq_false_iff_eq.2 (congrArg (fun z:Nat=>(z:Int)) htbl)))<|zE xN<|zM<|zM<|zE (xJ uV 0 ([]:List (jN)) (L:=(gO (xU a) (List.map (xY xs) ts))))<|zE (xO gB)<|zE (uE qY (L:=((gO (xU a) (List.map (xY xs) ts)).getD 0 [])))<|zM<|zE (uE mG)<|zE (vZ false mC (by exact bne_eq_false_iff_eq.2 (congrArg (fun z:Nat=>(z:Int)) htb0)))<|zE xN<|zZ) ?_
  refine kS ?_
  refine jD<|jB<|kx [(6,(vb (decide (((0:Nat):Int)≤(gI (dT (gO (xU a) (List.map (xY xs) ts)) (v.getD 0 []) (v.getD 0 [])))))))] [] (zM<|zM<|zE (xJ uV 0 ([]:List (jN)))<|zE (xO gB)<|zE (jX (e_form (gO (xU a) (List.map (xY xs) ts)) (tab_8 haq hqr (iD hjs) (by omega) (by omega) (by omega)) (v.getD 0 []) (uL (d:=[]) hv (show 0<v.length by omega)) (by omega) (by omega) (by omega) hrm (by omega)))<|zE (jX (g_sign (jQ (dT (gO (xU a) (List.map (xY xs) ts)) (v.getD 0 []) (v.getD 0 []))) (dT (gO (xU a) (List.map (xY xs) ts)) (v.getD 0 []) (v.getD 0 [])) (kG (form_ql (tab_8 haq hqr (iD hjs) (by omega) (by omega) (by omega)) (uL (d:=[]) hv (show 0<v.length by omega)) hrm (by omega) (by omega)))))<|zE oGe<|zM<|zZ) ?_
  refine jE ⟨_,(.tmp (d:=(.val (.bool (decide (((0:Nat):Int)≤(gI (dT (gO (xU a) (List.map (xY xs) ts)) (v.getD 0 []) (v.getD 0 [])))))))) rfl .nil),?_⟩
  exact congrArg (fun b=>jS.val (.bool b)) (decide_eq_true hsg)
end Go.Proofs.YtnajallgoaiahaaGreatDoor
namespace Go.Fid
open Go.RowKit (Below)
mutual
inductive Ty where
 |int (k:IntKind)
 |bool
 |sl (E:TypeId) (s:Nat) (e:Ty)
 |st (fs:TyL)
 |ar (n:Nat) (E:TypeId) (fs:TyL)
inductive TyL where
 |nil
 |cons (t:TypeId) (ty:Ty) (r:TyL)
end
mutual
def Ty.size:Ty→Nat
 |.int _=>1
 |.bool=>1
 |.sl _ _ _=>1
 |.st fs=>fs.size
 |.ar _ _ fs=>fs.size
def TyL.size:TyL→Nat
 |.nil=>0
 |.cons _ ty r=>ty.size+r.size
end
def fieldsB:List Field→Nat→TyL→Bool
 |[],_,.nil=>true
 |f::l,off,.cons t ty r=>Nat.beq f.type t&&(Nat.beq f.offset off&&fieldsB l (off+ty.size) r)
 |_,_,_=>false
def arFs(E:TypeId)(z:Nat):Nat→Nat→List Field
 |0,_=>[]
 | n + 1, i => { name := "", type := E, offset := i * z, embedded := false, tag := "", pkgPath := "", byteOffset := 0 } :: arFs E z n (i + 1)
theorem arFs_mem{E:TypeId}{z:Nat}:∀ {n i:Nat} {f:Field},f∈arFs E z n i→∃ j,j<n∧f.type=E∧f.offset=(i+j)*z
 |0,_,_,h=>by cases h
 |n+1,i,f,h=>by
  rcases List.mem_cons.1 h with e | h
  ·exact ⟨0,by omega,by rw[e],by rw[e];rfl⟩
  ·obtain ⟨j,h1,h2,h3⟩:=arFs_mem h
   exact ⟨j+1,by omega,h2,by rw[h3];congr 1;omega⟩
mutual
def tyB(P:Program):TypeId→Ty→Bool
 |t,.int k=>match P.underlying t with
  |some (.int k')=>decide (k'=k)
  |_=>false
 |t,.bool=>match P.underlying t with
  |some .bool=>true
  |_=>false
 |t,.sl E s e=>match P.underlying t with
  |some (.slice E')=>Nat.beq E' E&&(Nat.beq (P.cellsOf E) s&&(Nat.beq e.size s&&(Nat.ble 1 s&&(Nat.ble 1 (P.bytesOf E)&&tyB P E e))))
  |_=>false
 |t,.st fs=>match P.underlying t with
  |some (.struct fds)=>Nat.beq (P.cellsOf t) fs.size&&(fieldsB fds.toList 0 fs&&tysB P fs)
  |_=>false
 |t,.ar n E fs=>match P.underlying t with
  |some (.array n' E')=>Nat.beq n' n&&(Nat.beq E' E&&(Nat.beq (P.cellsOf t) fs.size&&(fieldsB (arFs E (P.cellsOf E) n 0) 0 fs&&tysB P fs)))
  |_=>false
def tysB(P:Program):TyL→Bool
 |.nil=>true
 |.cons t ty r=>Nat.beq (P.cellsOf t) ty.size&&(tyB P t ty&&tysB P r)
end
def isSt:Ty→Bool
 |.st _=>true
 |.ar _ _ _=>true
 |_=>false
def mkD(ty:Ty)(ds:List jS):jS:=bif isSt ty then .agg ds else ds.headD (.tup [])
mutual
def Sh:Ty→List jS→Prop
 |.int k,ds=>∃ z,ds=[.val (.int k z)]∧(Lit.int k z).wf=true
 |.bool,ds=>∃ b,ds=[.val (.bool b)]
 |.sl E s e,ds=>∃ es:List (List jS),ds=[.sl E s (es.map (mkD e))]∧es.length≤140737488355328∧∀ x∈es,Sh e x
 |.st fs,ds=>ShL fs ds
 |.ar _ _ fs,ds=>ShL fs ds
def ShL:TyL→List jS→Prop
 |.nil,ds=>ds=[]
 |.cons _ ty r,ds=>∃ a b,ds=a++b∧Sh ty a∧ShL r b
end
mutual
theorem Sh.len:∀ {ty:Ty} {ds:List jS},Sh ty ds→ds.length=ty.size
 |.int k,ds,h=>by obtain ⟨z,rfl,_⟩:=h;rfl
 |.bool,ds,h=>by obtain ⟨b,rfl⟩:=h;rfl
 |.sl E s e,ds,h=>by obtain ⟨es,rfl,_⟩:=h;rfl
 |.st fs,ds,h=>ShL.len (h:ShL fs ds)
 |.ar _ _ fs,ds,h=>ShL.len (h:ShL fs ds)
theorem ShL.len:∀ {fs:TyL} {ds:List jS},ShL fs ds→ds.length=fs.size
 |.nil,ds,h=>by have h:ds=[]:=h;subst h;rfl
 |.cons t ty r,ds,h=>by
  obtain ⟨a,b,rfl,h1,h2⟩:=h
  rw[List.length_append,Sh.len h1,ShL.len h2];rfl
end
theorem mkD_cells{ty:Ty}{ds:List jS}(h:Sh ty ds):(mkD ty ds).cells=ds:=by
 cases ty with
 |int k=>obtain ⟨z,rfl,_⟩:=h;rfl
 |bool=>obtain ⟨b,rfl⟩:=h;rfl
 |sl E s e=>obtain ⟨es,rfl,_⟩:=h;rfl
 |st fs=>rfl
 |ar n E fs=>rfl
def oldD(w:World):qL:=fun _ g _=>g<w.heap.size
def RepC(w:World)(cs:List Value)(ds:List jS):Prop:=ds.length=cs.length∧(∀ v∈cs,v.oneCell'=true)∧∀ (i:Nat) v d,cs[i]?=some v→ds[i]?=some d→vE w (oldD w) v d
theorem RepC.append{w:World}{cs1 cs2:List Value}{d1 d2:List jS}(h1:RepC w cs1 d1)(h2:RepC w cs2 d2):RepC w (cs1++cs2) (d1++d2):=by
 refine ⟨by rw[List.length_append,List.length_append,h1.1,h2.1],fun v hv=>?_,fun i v d hv hd=>?_⟩
 ·rcases List.mem_append.1 hv with h | h
  ·exact h1.2.1 v h
  ·exact h2.2.1 v h
 ·by_cases hi:i<cs1.length
  ·rw[List.getElem?_append_left hi] at hv
   rw[List.getElem?_append_left (by rw[h1.1];exact hi)] at hd
   exact h1.2.2 i v d hv hd
  ·rw[List.getElem?_append_right (by omega)] at hv
   rw[List.getElem?_append_right (by rw[h1.1];omega),h1.1] at hd
   exact h2.2.2 _ v d hv hd
section
variable {H:Type} {enc:TypeId × Value→H} {P:Program} {w:World} {sp:Nat→Bool} {held:Bool}
theorem fG{e:TypeId}:∀ {l:List (DataW H)} {d:DataW H},d∈l→∀ {n:Nat},n∈d.weights P e→n∈DataW.weightsAll P e l
 |[],_,h,_,_=>by cases h
 |x::l,d,h,n,hn=>by
  simp only[DataW.weightsAll]
  rcases List.mem_cons.1 h with rfl | h
  ·exact List.mem_append_left _ hn
  ·exact List.mem_append_right _ (fG h hn)
theorem cells_get{a:Addr}{n:Nat}{cs:List Value}(h:w.cells? 0 a n=some cs):cs.length=n∧∀ i,i<n→w.cell? (a.add i)=cs[i]?:=by
 unfold World.cells? at h
 rw[if_pos (Nat.zero_le _)] at h
 refine ⟨by simpa using mapM_some_length h,fun i hi=>?_⟩
 have:=mapM_some_get h i i (by simp [hi])
 exact this
theorem drop_take_split{α:Type}{cs:List α}{off n m:Nat}(h:cs.length=off+(n+m)):cs.drop off=(cs.drop off).take n++cs.drop (off+n):=by
 rw[← List.drop_drop,List.take_append_drop]
mutual
theorem bridge:∀ {ty:Ty} {t:TypeId} {fuel:Nat} {cs:List Value} {x:DataW H × List MemPlace},tyB P t ty=true→DataW.trod enc P w 0 sp held fuel t cs=some x→(∀ n∈x.1.weights P t,n≤reachBytes)→∃ ds,RepC w cs ds∧Sh ty ds
 |.int k,t,fuel,cs,x,ht,h,_=>by
  unfold tyB at ht
  split at ht
  ·rename_i k' hu
   obtain rfl:k'=k:=of_decide_eq_true ht
   obtain ⟨n,rfl,_,hw⟩:=DataW.trod_int hu h
   refine ⟨[.val (.int k' n)],⟨rfl,by simp [Value.oneCell'],fun i v d hv hd=>?_⟩,n,rfl,hw⟩
   rcases i with _ | i
   ·simp at hv hd;subst hv;subst hd;exact .val _
   ·simp at hv
  ·cases ht
 |.bool,t,fuel,cs,x,ht,h,_=>by
  unfold tyB at ht
  split at ht
  ·rename_i hu
   obtain ⟨b,rfl,_⟩:=DataW.trod_bool hu h
   refine ⟨[.val (.bool b)],⟨rfl,by simp [Value.oneCell'],fun i v d hv hd=>?_⟩,b,rfl⟩
   rcases i with _ | i
   ·simp at hv hd;subst hv;subst hd;exact .val _
   ·simp at hv
  ·cases ht
 |.sl E s e,t,fuel,cs,x,ht,h,hwt=>by
  unfold tyB at ht
  split at ht
  ·rename_i E' hu
   simp only[Bool.and_eq_true] at ht
   obtain ⟨h1,h2,h3,h4,h6,h5⟩:=ht
   obtain rfl:E'=E:=Nat.eq_of_beq_eq_true h1
   have hs:P.cellsOf E'=s:=Nat.eq_of_beq_eq_true h2
   have hes:e.size=s:=Nat.eq_of_beq_eq_true h3
   have hs1:1≤s:=Nat.le_of_ble_eq_true h4
   have one:∀ v:Value,v.oneCell'=true→∀ d,vE w (oldD w) v d→RepC w [v] [d]:=fun v h1 d h2=>⟨rfl,by simpa using h1,fun i v' d' hv hd=>by
    rcases i with _ | i
    ·simp at hv hd;subst hv;subst hd;exact h2
    ·simp at hv⟩
   rcases DataW.trod_slice hu h with ⟨rfl,_⟩ | ⟨a,len,cap,elems,xM,n,_,rfl,hx,_,hl,hm,qV,hel,_⟩
   ·exact ⟨[.sl E' s []],one _ rfl _ (fW w _ E' s),[],rfl,Nat.zero_le _,by simp⟩
   ·have hws:∀ n∈(elems.length+xM.length)*P.bytesOf E'::(DataW.weightsAll P E' (elems.map (·.1))++DataW.weightsAll P E' (xM.map (·.1))),n≤reachBytes:=by
     intro n hn
     refine hwt n ?_
     rw[hx]
     simp only[DataW.weights,hu,List.length_map]
     exact hn
    have hlen47:len≤140737488355328:=by
     have h7:=hws _ (List.mem_cons_self)
     have h8:1≤P.bytesOf E':=Nat.le_of_ble_eq_true h6
     have h9:=Nat.mul_le_mul_left (elems.length+xM.length) h8
     have h10:=reachBytes_lt
     omega
    have each:∀ i,∃ d:List jS × List Value,i<len→(d.2.length=s∧(∀ j,j<s→w.cell? ((a.add (i*s)).add j)=d.2[j]?)∧RepC w d.2 d.1∧Sh e d.1):=by
     intro i
     by_cases hi:i<len
     ·have he:=hel i hi
      rw[List.getElem?_eq_getElem (by omega),hs] at he
      cases hc:w.cells? 0 (a.add (i*s)) s with
      |none=>rw[hc] at he;cases he
      |some ci=>
       rw[hc] at he
       obtain ⟨g1,g2⟩:=cells_get hc
       have hmem:elems[i]∈elems:=List.getElem_mem _
       obtain ⟨ds,r1,r2⟩:=bridge (ty:=e) h5 he (fun n hn=>hws n (by
        refine List.mem_cons_of_mem _ (List.mem_append_left _ ?_)
        exact fG (List.mem_map_of_mem (f:=(·.1)) hmem) hn))
       exact ⟨(ds,ci),fun _=>⟨g1,g2,r1,r2⟩⟩
     ·exact ⟨([],[]),fun h=>absurd h hi⟩
    obtain ⟨F,hF⟩:=Classical.axiomOfChoice each
    have hspot:0<len→a=⟨a.block,a.off,none⟩∧a.block<w.heap.size:=by
     intro h0
     obtain ⟨q1,q2,_,_⟩:=hF 0 h0
     have q3:=q2 0 (by omega)
     rw[List.getElem?_eq_getElem (by omega)] at q3
     obtain ⟨b,o,sp'⟩:=a
     cases sp' with
     |none=>
      refine ⟨rfl,?_⟩
      unfold World.cell? at q3
      split at q3
      ·rename_i c _ _ hh
       simpa [Addr.add] using (Array.getElem?_eq_some_iff.1 hh).1
      ·cases q3
     |some z=>
      exfalso
      unfold World.cell? at q3
      split at q3
      ·simp [Addr.add] at q3
      ·cases q3
    have hesl:∀ d∈((List.range len).map fun i=>mkD e (F i).1),d.cells.length=s:=by
     intro d hd
     rw[List.mem_map] at hd
     obtain ⟨i,hi,rfl⟩:=hd
     obtain ⟨q1,q2,q3,q4⟩:=hF i (by simpa using hi)
     rw[mkD_cells q4,Sh.len q4,hes]
    have hfl:=vK hesl
    rw[List.length_map,List.length_range] at hfl
    have hget:∀ q,q<len*s→∃ u d,w.cell? (a.add q)=some u∧(kY ((List.range len).map fun i=>mkD e (F i).1))[q]?=some d∧u.oneCell'=true∧vE w (oldD w) u d:=by
     intro q hq
     have hi:q / s<len:=(Nat.div_lt_iff_lt_mul (by omega)).2 hq
     have hj:q % s<s:=Nat.mod_lt _ (by omega)
     have hqe:q / s*s+q % s=q:=by rw[Nat.mul_comm];exact Nat.div_add_mod q s
     obtain ⟨q1,q2,q3,q4⟩:=hF (q / s) hi
     have c1:=q2 (q % s) hj
     have c2:((a.add (q / s*s)).add (q % s))=a.add q:=by
      rw[(hspot (Nat.lt_of_le_of_lt (Nat.zero_le _) hi)).1,Addr.add_lit,Addr.add_lit,Addr.add_lit,Nat.add_assoc,hqe]
     have hlen1:(F (q / s)).1.length=s:=by rw[q3.1,q1]
     have c4:(F (q / s)).1[q % s]?=some ((F (q / s)).1[q % s]'(by rw[hlen1];exact hj)):=List.getElem?_eq_getElem _
     have c5:(F (q / s)).2[q % s]?=some ((F (q / s)).2[q % s]'(by rw[q1];exact hj)):=List.getElem?_eq_getElem _
     rw[c2,c5] at c1
     have c3:=flat_get (es:=(List.range len).map fun i=>mkD e (F i).1) (i:=q / s) (j:=q % s) (e:=mkD e (F (q / s)).1) hesl (by rw[List.getElem?_map,List.getElem?_range hi];rfl) hj
     rw[hqe,mkD_cells q4,c4] at c3
     exact ⟨_,_,c1,c3,q3.2.1 _ (List.getElem_mem _),q3.2.2 (q % s) _ _ c5 c4⟩
    refine ⟨[.sl E' s ((List.range len).map fun i=>mkD e (F i).1)],one _ rfl _ ?_,(List.range len).map fun i=>(F i).1,?_,by simpa using hlen47,?_⟩
    ·rcases Nat.eq_zero_or_pos len with h0 | h0
     ·subst h0
      exact vE.sl 0 0 (fun _=>undef) (by simp) hl hm (by simp) (fun h=>absurd h (Nat.lt_irrefl 0)) (by simp [kY]) (by simp [kY]) (by simp [kY]) (by simp [kY])
     ·obtain ⟨ha,hb⟩:=hspot h0
      refine vE.sl a.block a.off (fun q=>(w.cell? (a.add q)).getD undef) (by simp) hl hm hesl (fun _=>congrArg some ha) (fun q hq=>hb) (fun q hq=>?_) (fun q hq=>?_) (fun q d hd=>?_)
      ·obtain ⟨u,d,g1,_,_,_⟩:=hget q (by omega)
       have e1:a.add q=⟨a.block,a.off+q,none⟩:=by rw[ha,Addr.add_lit]
       rw[← e1,g1];rfl
      ·obtain ⟨u,d,g1,_,g3,_⟩:=hget q (by omega)
       rw[g1];exact g3
      ·have hq:=(List.getElem?_eq_some_iff.1 hd).1
       obtain ⟨u,d',g1,g2,_,g4⟩:=hget q (by omega)
       rw[hd] at g2
       injection g2 with g2
       subst g2
       rw[g1];exact g4
    ·rw[List.map_map];rfl
    ·intro y hy
     rw[List.mem_map] at hy
     obtain ⟨i,hi,rfl⟩:=hy
     exact (hF i (by simpa using hi)).2.2.2
  ·cases ht
 |.st fs,t,fuel,cs,x,ht,h,hwt=>by
  unfold tyB at ht
  split at ht
  ·rename_i fds hu
   simp only[Bool.and_eq_true] at ht
   obtain ⟨h1,h2,h3⟩:=ht
   obtain ⟨xs,n,_,hx,hl,hxl,hf⟩:=DataW.trod_struct hu h
   have hcl:cs.length=0+fs.size:=by rw[hl,Nat.eq_of_beq_eq_true h1,Nat.zero_add]
   have key:=bridgeL (fs:=fs) (off:=0) (cs:=cs) (l:=fds.toList) (n:=n) h2 h3 hcl (fun f hfm=>by
    obtain ⟨i,hi⟩:=List.getElem?_of_mem hfm
    have:=hf i f (by simpa using hi)
    have hlt:i<xs.length:=by
     have:=(List.getElem?_eq_some_iff.1 hi).1
     simp at this;omega
    rw[List.getElem?_eq_getElem hlt] at this
    refine ⟨_,this,fun m hm=>hwt m ?_⟩
    rw[hx]
    simp only[DataW.weights,hu]
    exact DataW.weights_mem_each (j:=i) (by rw[List.getElem?_map,hi];rfl) (by rw[List.getElem?_map,List.getElem?_eq_getElem hlt];rfl) m hm)
   rw[List.drop_zero] at key
   exact key
  ·cases ht
 |.ar k E fs,t,fuel,cs,x,ht,h,hwt=>by
  unfold tyB at ht
  split at ht
  ·rename_i k' E' hu
   simp only[Bool.and_eq_true] at ht
   obtain ⟨h0,h1,h4,h2,h3⟩:=ht
   obtain rfl:k'=k:=Nat.eq_of_beq_eq_true h0
   obtain rfl:E'=E:=Nat.eq_of_beq_eq_true h1
   obtain ⟨xs,n,_,hx,hl,hxl,hf⟩:=DataW.trod_array hu h
   have hcl:cs.length=0+fs.size:=by rw[hl,Nat.eq_of_beq_eq_true h4,Nat.zero_add]
   have key:=bridgeL (fs:=fs) (off:=0) (cs:=cs) (l:=arFs E' (P.cellsOf E') k' 0) (n:=n) h2 h3 hcl (fun f hfm=>by
    obtain ⟨j,hj,ft,fo⟩:=arFs_mem hfm
    have:=hf j hj
    have hlt:j<xs.length:=by omega
    rw[List.getElem?_eq_getElem hlt] at this
    refine ⟨xs[j],?_,fun m hm=>hwt m ?_⟩
    ·rw[ft,fo,Nat.zero_add];exact this
    ·rw[hx]
     simp only[DataW.weights,hu]
     rw[ft] at hm
     exact fG (List.mem_map_of_mem (f:=(·.1)) (List.getElem_mem hlt)) hm)
   rw[List.drop_zero] at key
   exact key
  ·cases ht
theorem bridgeL:∀ {fs:TyL} {l:List Field} {off n:Nat} {cs:List Value},fieldsB l off fs=true→tysB P fs=true→cs.length=off+fs.size→(∀ f∈l,∃ y,DataW.trod enc P w 0 sp held n f.type ((cs.drop f.offset).take (P.cellsOf f.type))=some y∧∀ m∈y.1.weights P f.type,m≤reachBytes) →
  ∃ ds,RepC w (cs.drop off) ds∧ShL fs ds
 |.nil,l,off,n,cs,h1,h2,h3,h4=>by
  have:cs.drop off=[]:=List.drop_eq_nil_of_le (by rw[h3];exact Nat.le_refl _)
  rw[this]
  exact ⟨[],⟨rfl,by simp,by simp⟩,rfl⟩
 |.cons t ty r,l,off,n,cs,h1,h2,h3,h4=>by
  cases l with
  |nil=>cases h1
  |cons f l=>
   simp only[fieldsB,Bool.and_eq_true] at h1
   obtain ⟨e1,e2,e3⟩:=h1
   simp only[tysB,Bool.and_eq_true] at h2
   obtain ⟨f1,f2,f3⟩:=h2
   have et:=Nat.eq_of_beq_eq_true e1
   have eo:=Nat.eq_of_beq_eq_true e2
   have ec:=Nat.eq_of_beq_eq_true f1
   obtain ⟨y,hy,hyw⟩:=h4 f (by simp)
   rw[et,eo,ec] at hy
   rw[et] at hyw
   obtain ⟨d1,r1,s1⟩:=bridge (ty:=ty) f2 hy hyw
   have h3':cs.length=off+ty.size+r.size:=by rw[h3];show off+(ty.size+r.size)=_;omega
   obtain ⟨d2,r2,s2⟩:=bridgeL (fs:=r) (off:=off+ty.size) (cs:=cs) (l:=l) (n:=n) e3 f3 h3' (fun g hg=>h4 g (by simp [hg]))
   refine ⟨d1++d2,?_,d1,d2,rfl,s1,s2⟩
   rw[drop_take_split (cs:=cs) (off:=off) (n:=ty.size) (m:=r.size) (by omega)]
   exact r1.append r2
end
theorem open_arg{ty:Ty}{t:TypeId}{v:Value}{d:DataW H}{p:List MemPlace}(hty:tyB P t ty=true)(hv:isSt ty=true→∃ cs,v=.agg cs)(hv1:isSt ty=false→v.cells=#[v])(h:DataW.Trod enc P w 0 sp held t v d p)(hwt:∀ n∈d.weights P t,n≤reachBytes) :
  ∃ ds,vE w (oldD w) v (mkD ty ds)∧Sh ty ds:=by
 obtain ⟨fuel,hf⟩:=h
 obtain ⟨ds,hr,hs⟩:=bridge (ty:=ty) hty hf hwt
 refine ⟨ds,?_,hs⟩
 cases hst:isSt ty with
 |true=>
  obtain ⟨cs,rfl⟩:=hv hst
  have e:mkD ty ds=.agg ds:=by unfold mkD;rw[hst];rfl
  rw[e]
  have:=vE.agg (w:=w) (D:=oldD w) (cs:=ds) cs.toList hr.1.symm hr.2.1 hr.2.2
  simpa using this
 |false=>
  have hv2:=hv1 hst
  have hc:=hr.1
  rw[hv2] at hr
  simp only[Array.toList] at hr
  obtain ⟨h1,h2,h3⟩:=hr
  have hl:ds.length=1:=by simpa using h1
  obtain ⟨d0,rfl⟩:=List.length_eq_one_iff.1 hl
  have e:mkD ty [d0]=d0:=by unfold mkD;rw[hst];rfl
  rw[e]
  exact h3 0 v d0 rfl rfl
end
theorem oldD_ok(w:World):DOk (oldD w) w:=fun _ _ _ h=>h
end Go.Fid
