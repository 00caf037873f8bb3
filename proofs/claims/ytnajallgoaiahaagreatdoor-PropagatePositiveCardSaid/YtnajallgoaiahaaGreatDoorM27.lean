/- Part 27 of a proof: rules, plain facts, and functions walked. -/
import Derived.Test.YtnajallgoaiahaaGreatDoorM26
import Derived.Test.YtnajallgoaiahaaGreatDoorM18
import Derived.Test.YtnajallgoaiahaaGreatDoorM10
import Derived.Test.YtnajallgoaiahaaGreatDoorM22
set_option linter.all false
set_option maxRecDepth 4000
namespace Go.Proofs.YtnajallgoaiahaaGreatDoor
open Go.Fid
theorem by24:yE Tryz.prog 24=some 24:=by kernel_rfl
theorem cb18:callB Tryz.prog 18=true:=by kernel_rfl
theorem cb22:callB Tryz.prog 22=true:=by kernel_rfl
theorem mG:vF Tryz.prog 32=some (23,1):=by kernel_rfl
theorem el33:vF Tryz.prog 33=some (24,1):=by kernel_rfl
theorem sh23:qO Tryz.prog 23=some (false,1):=by kernel_rfl
theorem ze23:xX Tryz.prog 23=some [.slice none 0 0]:=by kernel_rfl
theorem ze24:xX Tryz.prog 24=some [.slice none 0 0]:=by kernel_rfl
theorem zo23:aN [.slice none 0 0] [.sl 83 7 []]:=by simp [aN,Value.oneCell']
theorem zo24:aN [.slice none 0 0] [.sl 45 4 []]:=by simp [aN,Value.oneCell']
theorem p_tab(ts:List (List kW))(hts:∀ t∈ts,yM 1048576 t)(xs:List Rat)(hx:∀ q∈xs,QL q 1048576)(q:List (List jN))(hq:qS 1048576 q)(hjs:∀ t∈ts,JRunP (List.map mH xs) t)(hr:yI q q.length xs.length)(hf:dJ q xs.length=0)(hxq:xs.length=q.length)(h1:1≤ts.length)(h64:ts.length≤64):jP Tryz.prog 18 [(.sl 23 1 (List.map qB ts)),(.sl 45 4 (List.map jK (List.map jQ xs))),(.sl 24 1 (List.map jG q))] (.tup [(.sl 24 1 (List.map jG (gO q (List.map (xY xs) ts)))),(.val (.int .i64 (((0:Nat):Int))))]):=by
 have hx64:xs.length≤64:=hr.c64
 have hqm:=hr.r64
 have hgo:=grs_ok (iD hjs) h64
 have hgl:(List.map (xY xs) ts).length=ts.length:=List.length_map _
 have hc0:=rect_chk hr
 have hr0:=rect_0 hr
 have hxn:((List.map jQ xs).length)=xs.length:=List.length_map _
 have hgx:(List.map mH xs).length=xs.length:=List.length_map _
 refine jI Tryz.func18 rfl cb18 rfl ?_
 show qJ _ _ _ _ ⟨[(0,(vl 23 1 qB ts)),(1,(vl 45 4 jK (List.map jQ xs))),(2,(vl 24 1 jG q))],[]⟩
 refine jB<|kx [] [] (zE (cT 24 1)<|zM<|zZ) ?_
 refine jB<|jB<|kx [(31,(vb false))] [] (zM<|zE (jX (p_pts xs hx (by omega)))<|zE (jX (p_val (List.map mH xs) (pts_gl hx) (by omega)))<|zE nY<|zM<|zM<|zE (jX (m_chk q hq))<|zE (vZ false mC (by exact bne_eq_false_iff_eq.2 (by rw[show (yF q)=0 from hc0]<;>rfl)))<|zE xN<|zZ) ?_
 refine kS ?_
 refine jD<|jB<|jB<|kx [(34,(vb (((ts.length:Nat):Int) == ((0:Nat):Int))))] [] (zM<|zE (uE mG)<|zE gD<|zZ) ?_
 refine jF rfl (fun h1=>?_) (fun h1=>?_)
 ·replace h1:=eq_of_beq h1
  exfalso;omega
 ·replace h1:=ne_of_beq_false h1
  refine jD<|jB<|jB<|kx [(37,(vb (decide (((64:Nat):Int)<((ts.length:Nat):Int)))))] [] (zM<|zE (uE mG)<|zE mA<|zZ) ?_
  refine jF rfl (fun h2=>?_) (fun h2=>?_)
  ·replace h2:=uW h2
   exfalso;omega
  ·replace h2:=uX h2
   refine jD<|jB<|jB<|kx [(38,(vl 23 1 qB ts)),(39,(jR ts.length)),(40,(jR 0))] [] (zM<|zE (uE mG)<|zM<|zZ) ?_
   refine jH<|kB (α:=Nat) (fun i=>⟨[(0,(vl 23 1 qB ts)),(1,(vl 45 4 jK (List.map jQ xs))),(2,(vl 24 1 jG q)),(38,(vl 23 1 qB ts)),(39,(jR ts.length)),(40,(jR i))],[]⟩) (fun i=>i≤ts.length) (fun i=>ts.length-i) 0 wk (Nat.zero_le _) ?_
   rintro i hi
   refine jB<|kx [(41,(vb (decide (((i:Nat):Int)<((ts.length:Nat):Int)))))] [] (zE xG<|zZ) ?_
   refine jB<|jF rfl (fun h3=>?_) (fun h3=>?_)
   ·replace h3:=uW h3
    refine jD<|jB<|jH<|jB<|kx [(9,(vl 83 7 qA (ts.getD i [])))] [] (zE (xJ mG i ([]:List (kW)))<|zE (xO sh23)<|zM<|zZ) ?_
    refine jB<|kx [(10,(jR (cB ((xs.length:Nat):Int) (ts.getD i []))))] [] (zM<|zM<|zE (oLn qY xs.length)<|zE (jX (j_chk (ts.getD i []) (tms_at hts i) ((xs.length:Nat):Int)))<|zM<|zZ) ?_
    refine jB<|kx [(49,(vb false))] [] (zM<|zE (vZ false mC (by exact bne_eq_false_iff_eq.2 (by rw[show (cB ((xs.length:Nat):Int) (ts.getD i []))=0 from (tms_c0 (iD hjs) (show i<ts.length by omega))]<;>rfl)))<|zZ) ?_
    refine kS ?_
    refine jD<|kx [(40,(jR (i+1)))] [] (zE (vT (i+1))<|zM<|zZ) ?_
    exact ⟨i+1,wk,(by omega),(by first|omega|(dsimp only;omega))⟩
   ·replace h3:=uX h3
    refine kC<|jB<|jB<|kx [(11,(jR (dJ q xs.length)))] [] (zM<|zM<|zE (oLn qY xs.length)<|zE (jX (p_fit q hq xs.length hr0))<|zM<|zZ) ?_
    refine jB<|kx [(57,(vb false))] [] (zM<|zE (vZ false mC (by exact bne_eq_false_iff_eq.2 (by rw[show (dJ q xs.length)=0 from hf]<;>rfl)))<|zZ) ?_
    refine kS ?_
    refine jD<|jB<|kx [(12,(.own 0 24 1 0))] [(0,some (bm jG []))] (zO 0 24 1<|zZ) ?_
    refine jB<|jB<|kx [(59,(vl 23 1 qB ts)),(60,(jR ts.length)),(61,(jR 0))] [] (zM<|zE (uE mG)<|zM<|zZ) ?_
    refine jH<|kB (α:=Nat × List (List jN)) (fun (i,o)=>⟨[(1,(vl 45 4 jK (List.map jQ xs))),(2,(vl 24 1 jG q)),(12,(.own 0 24 1 o.length)),(59,(vl 23 1 qB ts)),(60,(jR ts.length)),(61,(jR i))],[(0,some (bm jG o))]⟩) (fun (i,o)=>i≤ts.length∧o=(ts.take i).map (xY xs)) (fun (i,o)=>ts.length-i) (0,[]) wk ⟨Nat.zero_le _,by simp⟩ ?_
    rintro ⟨i,o⟩ ⟨hi,ho⟩
    have hol:o.length=i:=by rw[ho,List.length_map,List.length_take];omega
    refine jB<|kx [(62,(vb (decide (((i:Nat):Int)<((ts.length:Nat):Int)))))] [] (zE xG<|zZ) ?_
    refine jB<|jF rfl (fun h4=>?_) (fun h4=>?_)
    ·replace h4:=uW h4
     refine jD<|jB<|jH<|jB<|kx [(14,(vl 83 7 qA (ts.getD i [])))] [] (zE (xJ mG i ([]:List (kW)))<|zE (xO sh23)<|zM<|zZ) ?_
     refine jB<|kx [(15,(vl 45 4 jK (xY xs (ts.getD i [])))),(16,(jR 0))] [] (zM<|zM<|zE (jX (p_grd (ts.getD i []) (tms_at hts i) xs hx (nP hjs (show i<ts.length by omega)) (by omega)))<|zM<|zE xD<|zE xD<|zM<|zM<|zZ) ?_
     refine jB<|jB<|kx [(72,(vb false))] [] (zM<|zE (vZ false mC)<|zZ) ?_
     refine kS ?_
     refine jD<|kf [(12,(.own 0 24 1 ((o++[(xY xs (ts.getD i []))]).length)))] [(0,some (bm jG (o++[(xY xs (ts.getD i []))])))] (zM<|zM<|zE (eC el33 ze24 zo24)<|zA jG o [(xY xs (ts.getD i []))] rfl el33 ze24 by24<|zM<|zF) ?_
     refine kx [(61,(jR (i+1)))] [] (zE (vT (i+1))<|zM<|zZ) ?_
     exact ⟨(i+1,o++[xY xs (ts.getD i [])]),wk,⟨by omega,by rw[ho];exact mR (by omega)⟩,(by first|omega|(dsimp only;omega))⟩
    ·replace h4:=uX h4
     have hgs:o=(List.map (xY xs) ts):=by rw[ho,show i=ts.length by omega,List.take_length]
     refine kC<|jB<|kx [(17,(.own 1 24 1 0))] [(1,some (bm jG []))] (zOh 1 24 1<|zZ) ?_
     refine jB<|jB<|kV (vN (t:=12) (k:=0) (es:=List.map jG o) rfl rfl (uI _ _ (fun _=>rfl)) (uT _ _ rfl) (vH _ _ (fun _=>rfl) rfl)) ?_
     refine kx [(79,(vl 24 1 jG (List.map (xY xs) ts))),(80,(jR ((List.map (xY xs) ts).length))),(81,(jR 0))] [] (zE (oQd (.sl 24 1 (List.map jG o)) (.sl 24 1 (List.map jG (List.map (xY xs) ts))) (oV (vl 24 1 jG o) (kR (by kernel_rfl))) (by exact (by rw[hgs])))<|zE (uE el33 (L:=(List.map (xY xs) ts)))<|zM<|zZ) ?_
     refine jH<|kB (α:=Nat × List (List jN)) (fun (i,u)=>⟨[(2,(vl 24 1 jG q)),(12,(vl 24 1 jG o)),(17,(.own 1 24 1 u.length)),(79,(vl 24 1 jG (List.map (xY xs) ts))),(80,(jR ((List.map (xY xs) ts).length))),(81,(jR i))],[(1,some (bm jG u))]⟩) (fun (i,u)=>i≤(List.map (xY xs) ts).length∧u=((List.map (xY xs) ts).take i).map (fun a=>(List.map (xY xs) ts).map fun b=>jQ (dT q a b))) (fun (i,u)=>(List.map (xY xs) ts).length-i) (0,[]) wk ⟨Nat.zero_le _,by simp⟩ ?_
     rintro ⟨i,u⟩ ⟨hi2,hu⟩
     have hul:u.length=i:=by rw[hu,List.length_map,List.length_take];omega
     refine jB<|kx [(82,(vb (decide (((i:Nat):Int)<(((List.map (xY xs) ts).length:Nat):Int)))))] [] (zE xG<|zZ) ?_
     refine jB<|jF rfl (fun h5=>?_) (fun h5=>?_)
     ·replace h5:=uW h5
      obtain ⟨hli0,hvi⟩:=grs_at (iD hjs) (show i<(List.map (xY xs) ts).length by omega)
      have hli:=hli0.trans hxq
      refine jD<|jB<|jH<|jB<|kx [(19,(vl 45 4 jK ((List.map (xY xs) ts).getD i [])))] [] (zE (xJ el33 i ([]:List (jN)) (L:=(List.map (xY xs) ts)))<|zE (xO gB)<|zM<|zZ) ?_
      refine jB<|kx [(20,(.own 2 45 4 0))] [(2,some (nD jK []))] (zOh 2 45 4<|zZ) ?_
      refine jB<|jB<|kx [(85,(vl 24 1 jG (List.map (xY xs) ts))),(86,(jR ((List.map (xY xs) ts).length))),(87,(jR 0))] [] (zE (oQd (.sl 24 1 (List.map jG o)) (.sl 24 1 (List.map jG (List.map (xY xs) ts))) (oV (vl 24 1 jG o) (kR (by kernel_rfl))) (by exact (by rw[hgs])))<|zE (uE el33 (L:=(List.map (xY xs) ts)))<|zM<|zZ) ?_
      refine jH<|kB (α:=Nat × List jN) (fun (j,v)=>⟨[(2,(vl 24 1 jG q)),(12,(vl 24 1 jG o)),(17,(.own 1 24 1 u.length)),(19,(vl 45 4 jK ((List.map (xY xs) ts).getD i []))),(20,(.own 2 45 4 v.length)),(79,(vl 24 1 jG (List.map (xY xs) ts))),(80,(jR ((List.map (xY xs) ts).length))),(81,(jR i)),(85,(vl 24 1 jG (List.map (xY xs) ts))),(86,(jR ((List.map (xY xs) ts).length))),(87,(jR j))],[(1,some (bm jG u)),(2,some (nD jK v))]⟩) (fun (j,v)=>j≤(List.map (xY xs) ts).length∧v=((List.map (xY xs) ts).take j).map (fun b=>jQ (dT q ((List.map (xY xs) ts).getD i []) b))) (fun (j,v)=>(List.map (xY xs) ts).length-j) (0,[]) wk ⟨Nat.zero_le _,by simp⟩ ?_
      rintro ⟨j,v⟩ ⟨hj2,hv⟩
      have hvl:v.length=j:=by rw[hv,List.length_map,List.length_take];omega
      refine jB<|kx [(88,(vb (decide (((j:Nat):Int)<(((List.map (xY xs) ts).length:Nat):Int)))))] [] (zE xG<|zZ) ?_
      refine jB<|jF rfl (fun h6=>?_) (fun h6=>?_)
      ·replace h6:=uW h6
       obtain ⟨hlj0,hvj⟩:=grs_at (iD hjs) (show j<(List.map (xY xs) ts).length by omega)
       have hlj:=hlj0.trans hxq
       have hrj:yI q q.length ((List.map (xY xs) ts).getD j []).length:=by rw[hlj0];exact hr
       refine jD<|jB<|jH<|jB<|kx [(22,(vl 45 4 jK ((List.map (xY xs) ts).getD j [])))] [] (zE (xJ el33 j ([]:List (jN)) (L:=(List.map (xY xs) ts)))<|zE (xO gB)<|zM<|zZ) ?_
       refine kf [(20,(.own 2 45 4 ((v++[(jQ (dT q ((List.map (xY xs) ts).getD i []) ((List.map (xY xs) ts).getD j [])))]).length)))] [(2,some (nD jK (v++[(jQ (dT q ((List.map (xY xs) ts).getD i []) ((List.map (xY xs) ts).getD j [])))])))] (zM<|zM<|zM<|zM<|zE (jX (m_cov q hq ((List.map (xY xs) ts).getD i []) (uL (d:=[]) hgo (show i<(List.map (xY xs) ts).length by omega)) ((List.map (xY xs) ts).getD j []) (uL (d:=[]) hgo (show j<(List.map (xY xs) ts).length by omega)) hrj hvj hli hlj))<|zE (eC qY uG uQ)<|zAS jK v [(jQ (dT q ((List.map (xY xs) ts).getD i []) ((List.map (xY xs) ts).getD j [])))] rfl qY uG by45<|zM<|zF) ?_
       refine kx [(87,(jR (j+1)))] [] (zE (vT (j+1))<|zM<|zZ) ?_
       exact ⟨(j+1,v++[jQ (dT q ((List.map (xY xs) ts).getD i []) ((List.map (xY xs) ts).getD j []))]),wk,⟨by omega,by rw[hv];exact mR (f:=fun b=>jQ (dT q ((List.map (xY xs) ts).getD i []) b)) (by omega)⟩,(by first|omega|(dsimp only;omega))⟩
      ·replace h6:=uX h6
       refine kC<|kV (vN (t:=20) (k:=2) (es:=List.map jK v) rfl rfl (nL _ _ (fun _=>rfl)) (uT _ _ rfl) (mT jK v (fun _=>rfl) rfl)) ?_
       refine kf [(17,(.own 1 24 1 ((u++[v]).length)))] [(1,some (bm jG (u++[v])))] (zM<|zM<|zE (eC uV ze24 zo24)<|zA jG u [v] rfl uV ze24 by24<|zM<|zF) ?_
       refine kx [(81,(jR (i+1)))] [] (zE (vT (i+1))<|zM<|zZ) ?_
       exact ⟨(i+1,u++[v]),wk,⟨by omega,by rw[hu,hv,show j=(List.map (xY xs) ts).length by omega,List.take_length];exact mR (f:=fun a=>(List.map (xY xs) ts).map fun b=>jQ (dT q a b)) (by omega)⟩,(by first|omega|(dsimp only;omega))⟩
     ·replace h5:=uX h5
      refine kC<|jB<|kx [(6,(.own 1 24 1 u.length)),(7,(jR 0))] [] (zM<|zM<|zM<|zZ) ?_
      refine kV (vN (t:=6) (k:=1) (es:=List.map jG u) rfl rfl (uI _ _ (fun _=>rfl)) (uT _ _ rfl) (vH _ _ (fun _=>rfl) rfl)) ?_
      refine jE ⟨_,(.tmp (d:=(.sl 24 1 (List.map jG u))) rfl (.tmp (d:=(.val (.int .i64 (((0:Nat):Int))))) rfl .nil)),?_⟩
      rw[hu,show i=(List.map (xY xs) ts).length by omega,List.take_length];rfl
theorem p_var(t:List kW)(ht:yM 1048576 t)(xs:List Rat)(hx:∀ q∈xs,QL q 1048576)(q:List (List jN))(hq:qS 1048576 q)(hj:JRunP (List.map mH xs) t)(hr:yI q q.length xs.length)(hf:dJ q xs.length=0)(hxq:xs.length=q.length):jP Tryz.prog 22 [(.sl 83 7 (List.map qA t)),(.sl 45 4 (List.map jK (List.map jQ xs))),(.sl 24 1 (List.map jG q))] (.tup [(jK (jQ (dT q (xY xs t) (xY xs t)))),(.val (.int .i64 (((0:Nat):Int))))]):=by
 have hx64:xs.length≤64:=hr.c64
 have hjs:∀ u∈[t],JRunP (List.map mH xs) u:=one_of hj
 have ht1:(gO q (List.map (xY xs) [t])).length=1:=rfl
 have ht2:((gO q (List.map (xY xs) [t])).getD 0 []).length=1:=rfl
 let y1:=(jK (((gO q (List.map (xY xs) [t])).getD 0 []).getD 0 qH))
 refine jI Tryz.func22 rfl cb22 rfl ?_
 show qJ _ _ _ _ ⟨[(0,(vl 83 7 qA t)),(1,(vl 45 4 jK (List.map jQ xs))),(2,(vl 24 1 jG q))],[]⟩
 refine jB<|kx [(6,(.ref 0 0))] [(0,some (bx (jK qH)))] (zN (uF 0 uG uQ)<|zM<|zZ) ?_
 refine jB<|kx [(8,(vl 24 1 jG (gO q (List.map (xY xs) [t])))),(9,(jR 0))] [] (zM<|zE (eC mG ze23 zo23)<|zM<|zM<|zE (jX (p_tab [t] (tms_one ht) xs hx q hq hjs hr hf hxq (Nat.le_refl 1) (xlb rfl)))<|zM<|zE xD<|zE xD<|zM<|zM<|zZ) ?_
 refine jB<|jB<|kx [(19,(vb false))] [] (zM<|zE (vZ false mC)<|zZ) ?_
 refine kS ?_
 refine jD<|jB<|kx [(7,(jR 0))] [(0,some (bx y1))] (zM<|zE (xJ uV 0 ([]:List (jN)) (L:=(gO q (List.map (xY xs) [t]))))<|zE (xO gB)<|zE (xJ qY 0 qH (L:=((gO q (List.map (xY xs) [t])).getD 0 [])))<|zE (nR jT)<|zT (qK jT)<|zM<|zZ) ?_
 refine jE ⟨_,(kN (cs:=(bx y1)) (d:=y1) rfl rfl jT rfl rfl (.tmp (d:=(.val (.int .i64 (((0:Nat):Int))))) rfl .nil)),?_⟩
 rfl
theorem cb89:callB Tryz.prog 89=true:=by kernel_rfl
theorem cb149:callB Tryz.prog 149=true:=by kernel_rfl
theorem i_makeO(x:jN)(p:Rat)(hx:mI x p 17179869184)(y:jN)(q:Rat)(hy:mI y q 17179869184)(hv:(kL x&&kL y)=true)(hc:p≤q):jP Tryz.prog 149 [(jK x),(jK y)] (.tup [(jJ (jZ.mk x y)),(.val (.int .i64 (0)))]):=by
 refine jI Tryz.func149 rfl cb149 rfl ?_
 show qJ _ _ _ _ ⟨[(0,(.d (jK x))),(1,(.d (jK y)))],[]⟩
 refine jB<|kx [(2,(.ref 0 0)),(3,(.ref 1 0)),(4,(.ref 2 0))] [(0,some (bx (jK x))),(1,some (bx (jK y))),(2,some (bx (jJ (jZ.mk qH qH))))] (zN (vW 0)<|zN (vW 1)<|zN (uF 2 uH uR)<|zM<|zZ) ?_
 refine jB<|jB<|kx [(13,(vb (!(kL x)||!(kL y))))] [] ?_ ?_
 ·refine zR (kM jT)<|zE (jX (cK x p hx))<|zE nY<|zE (oV (vb (!(kL x))) (kR (by kernel_rfl)))<|?_
  rcases hb1:(!(kL x)) with _ | _
  ·exact zR (kM jT)<|zE (jX (cK y q hy))<|zE nY<|zE cG<|zZ
  ·exact zK<|zK<|zK<|zE xA<|zZ
 refine jF (b:=(!(kL x)||!(kL y))) rfl (fun h2=>?_) (fun h2=>?_)
 ·exfalso;revert h2 hv;cases kL x<;>cases kL y<;>simp
 ·refine jD<|jB<|jB<|kx [(18,(vb (decide (0<(yW p q)))))] [] (zR (kM jT)<|zR (kM jT)<|zE (jX (cQ x y p q hx hy))<|zE mA<|zZ) ?_
  refine jF (b:=decide (0<(yW p q))) rfl (fun h3=>?_) (fun h3=>?_)
  ·replace h3:=uW h3
   exact absurd (cmpQ_gt.1 h3) (Rat.not_lt.2 hc)
  ·replace h3:=uX h3
   refine jD<|jB<|kx [(5,(jR 0))] [(2,some (bx (jJ (jZ.mk x y))))] (zR (kM jT)<|zR (kM jT)<|zE (bY pl61 uH uR)<|zT (qK kI)<|zM<|zZ) ?_
   refine jE ⟨_,(kN (cs:=(bx (jJ (jZ.mk x y)))) (d:=(jJ (jZ.mk x y))) rfl rfl kI rfl rfl (.tmp (d:=(.val (.int .i64 (0)))) rfl .nil)),?_⟩
   rfl
end Go.Proofs.YtnajallgoaiahaaGreatDoor
namespace Go.Fid
def rootN(x:Nat):Nat:=Nat.rec (motive:=fun _=>Nat) 0 (fun _ r=>if (r+1)*(r+1)≤x then r+1 else r) x
theorem rootN_go(x:Nat):∀ k,let r:Nat:=Nat.rec (motive:=fun _=>Nat) 0 (fun _ r=>if (r+1)*(r+1)≤x then r+1 else r) k;r*r≤x∧(x<(r+1)*(r+1)∨r=k)
 |0=>⟨Nat.zero_le _,.inr rfl⟩
 |k+1=>by
  obtain ⟨h1,h2⟩:=rootN_go x k
  dsimp only at h1 h2 ⊢
  generalize hr:(Nat.rec (motive:=fun _=>Nat) 0 (fun _ r=>if (r+1)*(r+1)≤x then r+1 else r) k:Nat)=r at h1 h2
  split
  ·rename_i h
   refine ⟨h,?_⟩
   rcases h2 with h2 | h2
   ·omega
   ·right;omega
  ·rename_i h;exact ⟨h1,.inl (by omega)⟩
theorem rootN_le(x:Nat):rootN x*rootN x≤x:=(rootN_go x x).1
theorem lt_rootN(x:Nat):x<(rootN x+1)*(rootN x+1):=by
 rcases (rootN_go x x).2 with h | h
 ·exact h
 ·have h:rootN x=x:=h
  rw[h]
  have:(x+1)*(x+1)=x*x+2*x+1:=by rw[Nat.add_mul,Nat.mul_add];omega
  omega
theorem sq_lt{a b:Nat}(h:a*a<b*b):a<b:=by
 rcases Nat.lt_or_ge a b with h1 | h1
 ·exact h1
 ·have:=Nat.mul_le_mul h1 h1;omega
theorem root_uniq{x r:Nat}(h1:r*r≤x)(h2:x<(r+1)*(r+1)):r=rootN x:=by
 have a1:=sq_lt (Nat.lt_of_le_of_lt h1 (lt_rootN x))
 have a2:=sq_lt (Nat.lt_of_le_of_lt (rootN_le x) h2)
 omega
theorem newton_up{x r:Nat}(hr:0<r):x<((r+x / r) / 2+1)*((r+x / r) / 2+1):=by
 have h1:x<r*(x / r+1):=by
  have:=Nat.div_add_mod x r
  have:=Nat.mod_lt x hr
  rw[Nat.mul_add,Nat.mul_one];omega
 generalize x / r=q at *
 generalize hn:(r+q) / 2=n at *
 have h2:r+(q+1)≤2*(n+1):=by omega
 have h3:4*(r*(q+1))≤(r+(q+1))*(r+(q+1)):=by
  generalize q+1=b
  rcases Nat.le_total r b with h | h
  ·obtain ⟨d,rfl⟩:=Nat.exists_eq_add_of_le h
   have:(r+(r+d))*(r+(r+d))=4*(r*(r+d))+d*d:=by grind
   omega
  ·obtain ⟨d,rfl⟩:=Nat.exists_eq_add_of_le h
   have:(b+d+b)*(b+d+b)=4*((b+d)*b)+d*d:=by grind
   omega
 have h4:=Nat.mul_le_mul h2 h2
 have h5:2*(n+1)*(2*(n+1))=4*((n+1)*(n+1)):=by grind
 omega
theorem newton_end{x r:Nat}(hr:0<r)(h:r≤(r+x / r) / 2):r*r≤x:=by
 have h1:r≤x / r:=by omega
 exact Nat.le_trans (Nat.mul_le_mul_left r h1) (Nat.mul_div_le x r)
theorem newton_pos{x r:Nat}(hx:0<x)(hr:0<r):0<(r+x / r) / 2:=by
 have:=newton_up (x:=x) hr
 rcases Nat.eq_zero_or_pos ((r+x / r) / 2) with h | h
 ·rw[h] at this;omega
 ·exact h
theorem newton_root{x r:Nat}(hr:0<r)(hu:x<(r+1)*(r+1))(h:r≤(r+x / r) / 2):r=rootN x:=root_uniq (newton_end hr h) hu
theorem bit_and(n b:Nat):(n &&& 2 ^ b=0)↔n / 2 ^ b % 2=0:=by
 have hb:n.testBit b=decide (n / 2 ^ b % 2=1):=Nat.testBit_eq_decide_div_mod_eq
 have key:(n &&& 2 ^ b=0)↔n.testBit b=false:=by
  constructor
  ·intro h
   have:=congrArg (fun m:Nat=>m.testBit b) h
   simpa [Nat.testBit_and,Nat.testBit_two_pow] using this
  ·intro h
   apply Nat.eq_of_testBit_eq
   intro i
   rw[Nat.testBit_and,Nat.testBit_two_pow,Nat.zero_testBit]
   by_cases e:b=i
   ·subst e;rw[h];rfl
   ·simp [e]
 rw[key,hb,decide_eq_false_iff_not]
 omega
abbrev xV (k:Nat):Rat:=((((2 ^ k:Nat):Int):Int):Rat)
def pwS(n i:Nat):Nat:=2 ^ (n / 2 ^ (13-i))
theorem pwS_0{n:Nat}(h:n≤4096):[1]=ofNat (pwS n 0):=by
 have e:n / 2 ^ (13-0)=0:=Nat.div_eq_of_lt (by show n<8192;omega)
 unfold pwS;rw[e,Nat.pow_zero,nW (by decide)]
 have:ofNat (1 / 1000000000)=[]:=by rw[show 1 / 1000000000=0 from rfl,uD]
 rw[this]
theorem pwS_13(n:Nat):pwS n 13=2 ^ n:=by unfold pwS;simp
theorem bit_eq{i:Nat}(h:i≤12):4096 / 2 ^ i=2 ^ (12-i):=by
 rw[show (4096:Nat)=2 ^ 12 from rfl,Nat.pow_div h (by decide)]
theorem bit_13:4096 / 2 ^ 13=0:=by decide
theorem bit_pos{i:Nat}(hi:i≤13)(h:(0:Int)<((4096 / 2 ^ i:Nat):Int)):i<13:=by
 by_cases e:i=13
 ·subst e;rw[bit_13] at h;omega
 ·omega
theorem bit_end{i:Nat}(hi:i≤13)(h:¬ (0:Int)<((4096 / 2 ^ i:Nat):Int)):i=13:=by
 by_cases e:i=13
 ·exact e
 ·rw[bit_eq (by omega)] at h
  have:=Nat.pow_pos (n:=12-i) (show 0<2 by decide)
  omega
theorem bit_half(i:Nat):4096 / 2 ^ i / 2=4096 / 2 ^ (i+1):=by rw[Nat.div_div_eq_div_mul,Nat.pow_succ]
theorem pw_half{n i:Nat}(hi:i<13):n / 2 ^ (12-i)=2*(n / 2 ^ (13-i))+n / 2 ^ (12-i) % 2:=by
 have e:n / 2 ^ (13-i)=n / 2 ^ (12-i) / 2:=by
  rw[Nat.div_div_eq_div_mul,← Nat.pow_succ,show (12-i).succ=13-i by omega]
 rw[e];omega
theorem pwS_even{n i:Nat}(hi:i<13)(h:(n &&& 4096 / 2 ^ i)=0):pwS n i*pwS n i=pwS n (i+1):=by
 rw[bit_eq (by omega),bit_and] at h
 have e:=pw_half (n:=n) hi
 unfold pwS
 rw[show 13-(i+1)=12-i by omega,e,h,Nat.add_zero,Nat.two_mul,Nat.pow_add]
theorem pwS_odd{n i:Nat}(hi:i<13)(h:¬ (n &&& 4096 / 2 ^ i)=0):pwS n i*pwS n i*2=pwS n (i+1):=by
 rw[bit_eq (by omega),bit_and] at h
 have e:=pw_half (n:=n) hi
 have h2:n / 2 ^ (12-i) % 2=1:=by omega
 unfold pwS
 rw[show 13-(i+1)=12-i by omega,e,h2,Nat.pow_add,Nat.two_mul,Nat.pow_add,Nat.pow_one]
theorem two_pw(e:Nat):2 ^ e<pw (e+1):=by
 induction e with
 |zero=>simp [pw]
 |succ e ih=>rw[Nat.pow_succ,uS];omega
theorem len_two(e:Nat):(ofNat (2 ^ e)).length≤e+1:=qX (two_pw e)
theorem len_pwS{n:Nat}(h:n≤4096)(i:Nat):(ofNat (pwS n i)).length≤4097:=by
 have:=len_two (n / 2 ^ (13-i))
 have h2:n / 2 ^ (13-i)≤n:=Nat.div_le_self _ _
 unfold pwS;omega
theorem g2:kO (kH 2)=[2]:=by
 rw[grpI_ofZ]
 show ofNat 2=[2]
 rw[nW (by decide),show 2 / 1000000000=0 from rfl,uD]
theorem g2n:ofNat (Int.natAbs 2)=[2]:=by rw[← grpI_ofZ];exact g2
theorem g2len:(kH 2).gs.length=1:=by
 show (ofNat 2).length=1
 rw[show ofNat 2=[2] from g2n];rfl
theorem neg2:(kH 2).neg=false:=rfl
theorem len_sq{n i:Nat}{out:List Nat}(hv:val out=pwS n i)(hn:n≤4096)(hi:i<13):(ofNat (val out*val out)).length≤8195:=by
 rw[hv]
 unfold pwS
 rw[← Nat.pow_add]
 have:=len_two (n / 2 ^ (13-i)+n / 2 ^ (13-i))
 have h2:n / 2 ^ (13-i)≤n:=Nat.div_le_self _ _
 omega
theorem mk_two(n:Nat):xH false (val (ofNat (pwS n 13)))=kH ((2 ^ n:Nat):Int):=by
 rw[kD,pwS_13]
 unfold kH
 rw[Int.natAbs_natCast,decide_eq_false (Int.not_lt.2 (Int.natCast_nonneg _))]
def qU(z:Int):Int:=((rootN z.toNat:Nat):Int)
theorem rootI_0(z:Int):0≤qU z:=Int.natCast_nonneg _
theorem rootI_le{z:Int}(h:0≤z):qU z*qU z≤z:=by
 obtain ⟨x,rfl⟩:=Int.eq_ofNat_of_zero_le h
 have:=rootN_le x
 unfold qU;rw[Int.toNat_natCast]
 have e:((rootN x*rootN x:Nat):Int)≤(x:Int):=by omega
 simpa using e
theorem lt_rootI{z:Int}(h:0≤z):z<(qU z+1)*(qU z+1):=by
 obtain ⟨x,rfl⟩:=Int.eq_ofNat_of_zero_le h
 have:=lt_rootN x
 unfold qU;rw[Int.toNat_natCast]
 have e:(x:Int)<(((rootN x+1)*(rootN x+1):Nat):Int):=by omega
 simpa using e
theorem rootI_self{z:Int}(h:0≤z):qU z≤z:=by
 have h1:=rootI_le h
 have h2:=rootI_0 z
 by_cases h3:qU z=0
 ·omega
 ·have:qU z*1≤qU z*qU z:=Int.mul_le_mul_of_nonneg_left (by omega) h2
  omega
theorem iok_root{z:Int}{n:Nat}{x:kU}(h:0≤z)(hz:gC x z n):gC (kH (qU z)) (qU z) n:=mW (Nat.le_trans (fO (by have:=rootI_0 z;have:=rootI_self h;omega)) hz.ln)
theorem nw_val(X:Nat)(r:List Nat):val (ofNat (val (ofNat (val r+val (ofNat (val (ofNat X) / val r)))) / 2))=(val r+X / val r) / 2:=by
 rw[kD,kD,kD,kD]
theorem val_app(a b:List Nat):val (a++b)=val a+pw a.length*val b:=by
 induction a with
 |nil=>simp [val,pw]
 |cons d a ih=>
  show d+1000000000*val (a++b)=d+1000000000*val a+pw (a.length+1)*val b
  rw[ih,uS,Nat.mul_add,Nat.mul_assoc];omega
theorem val_zeros(n:Nat):val (List.replicate n 0)=0:=by
 induction n with
 |zero=>rfl
 |succ n ih=>rw[List.replicate_succ];show 0+1000000000*val (List.replicate n 0)=0;rw[ih]
theorem nw_start(n:Nat):val (List.replicate n 0++[1])=pw n:=by
 rw[val_app,val_zeros,List.length_replicate]
 show 0+pw n*(1+1000000000*0)=pw n
 omega
theorem nw_cano(n:Nat):yG (List.replicate n 0++[1]):=by
 refine ⟨fun d hd=>?_,?_⟩
 ·rcases List.mem_append.1 hd with h | h
  ·rw[(List.mem_replicate.1 h).2];decide
  ·rw[List.mem_singleton.1 h];decide
 ·unfold Top
  rw[List.getD_eq_getElem?_getD]
  simp
theorem nw_top{X:Nat}:X<(val (List.replicate (((ofNat X).length+1) / 2) 0++[1])+1)*(val (List.replicate (((ofNat X).length+1) / 2) 0++[1])+1):=by
 rw[nw_start]
 have h:=aE X
 have h2:pw (ofNat X).length≤pw (((ofNat X).length+1) / 2+((ofNat X).length+1) / 2):=by unfold pw;exact Nat.pow_le_pow_right (by decide) (by omega)
 rw[pw_add] at h2
 have h3:pw (((ofNat X).length+1) / 2)*pw (((ofNat X).length+1) / 2)≤(pw (((ofNat X).length+1) / 2)+1)*(pw (((ofNat X).length+1) / 2)+1):=Nat.mul_le_mul (by omega) (by omega)
 omega
theorem cmpI_ge0{a b:Int}:0≤vB a b↔b≤a:=by
 unfold vB
 by_cases h:a<b
 ·rw[if_pos h];omega
 ·rw[if_neg h];split<;>omega
theorem nw_end{z:Int}{r:List Nat}(z0:0≤z)(h0:0<val r)(hu:z.natAbs<(val r+1)*(val r+1))(h:val r≤(val r+z.natAbs / val r) / 2):xH false (val r)=kH (qU z):=by
 have e:=newton_root h0 hu h
 obtain ⟨x,rfl⟩:=Int.eq_ofNat_of_zero_le z0
 rw[Int.natAbs_natCast] at e
 unfold qU kH
 rw[Int.toNat_natCast,← e,Int.natAbs_natCast,decide_eq_false (by omega)]
theorem two_pos(n:Nat):(0:Int)<((2 ^ n:Nat):Int):=by
 have:=Nat.pow_pos (n:=n) (show 0<2 by decide)
 exact Int.natCast_pos.2 this
theorem neg_abs{z:Int}(z0:0≤z)(h:(kH z).neg=true):False:=by
 have:(decide (z<0)&&z.natAbs != 0)=true:=h
 rw[decide_eq_false (show ¬ z<0 by omega)] at this
 cases this
theorem root_nil{z:Int}(h:(((ofNat z.natAbs).length:Nat):Int)=((0:Nat):Int)):kH (qU z)=kU.mk false []:=by
 have e:ofNat z.natAbs=[]:=List.eq_nil_of_length_eq_zero (by omega)
 have e2:=bK.1 e
 have e3:z=0:=by omega
 subst e3
 have:qU 0=0:=by
  have:=rootI_self (z:=0) (by decide);have:=rootI_0 0;omega
 rw[this]
 show kU.mk (decide ((0:Int)<0)&&(Int.natAbs 0 != 0)) (ofNat (Int.natAbs 0))=_
 rw[show Int.natAbs 0=0 from rfl,uD];rfl
theorem nw_ok(X:Nat){r:List Nat}(hr:0<val r)(hX:0<X)(hc:¬ (0:Int)≤vB (((val (ofNat (val (ofNat (val r+val (ofNat (val (ofNat X) / val r)))) / 2)):Nat)):Int) ((val r:Nat):Int)) :
  yG (ofNat (val (ofNat (val r+val (ofNat (val (ofNat X) / val r)))) / 2))∧0<val (ofNat (val (ofNat (val r+val (ofNat (val (ofNat X) / val r)))) / 2))∧X<(val (ofNat (val (ofNat (val r+val (ofNat (val (ofNat X) / val r)))) / 2))+1)*(val (ofNat (val (ofNat (val r+val (ofNat (val (ofNat X) / val r)))) / 2))+1)∧val (ofNat (val (ofNat (val r+val (ofNat (val (ofNat X) / val r)))) / 2))<val r:=by
 rw[cmpI_ge0,nw_val] at hc
 refine ⟨qF _,?_,?_,?_⟩
 ·rw[nw_val];exact newton_pos hX hr
 ·rw[nw_val];exact newton_up hr
 ·rw[nw_val];omega
theorem nw_stop{X:Nat}{r:List Nat}(hc:(0:Int)≤vB (((val (ofNat (val (ofNat (val r+val (ofNat (val (ofNat X) / val r)))) / 2)):Nat)):Int) ((val r:Nat):Int)):val r≤(val r+X / val r) / 2:=by
 rw[cmpI_ge0,nw_val] at hc;omega
theorem can_len{r s:List Nat}(hr:yG r)(hs:yG s)(h:val r≤val s):r.length≤s.length:=by
 rw[can_eq hr,can_eq hs];exact vG h
theorem nw_lens{X:Nat}{r:List Nat}(hx:(ofNat X).length≤400)(hr:r.length≤400)(hc:yG r):(ofNat (val (ofNat X) / val r)).length≤400∧(ofNat (val r+val (ofNat (val (ofNat X) / val r)))).length≤401∧(ofNat (val (ofNat (val r+val (ofNat (val (ofNat X) / val r)))) / 2)).length≤401:=by
 have h1:(ofNat (val (ofNat X) / val r)).length≤400:=by
  rw[kD];exact Nat.le_trans (vG (Nat.div_le_self _ _)) hx
 have h2:(ofNat (val r+val (ofNat (val (ofNat X) / val r)))).length≤401:=by
  apply qX
  have a1:=vX hc.1
  have a2:=aE (val (ofNat X) / val r)
  have a3:pw r.length≤pw 400:=gG hr
  have a4:pw (ofNat (val (ofNat X) / val r)).length≤pw 400:=gG h1
  rw[kD (val (ofNat X) / val r),uS]
  omega
 refine ⟨h1,h2,?_⟩
 have h3:=kD (val r+val (ofNat (val (ofNat X) / val r)))
 exact Nat.le_trans (vG (by rw[h3];exact Nat.div_le_self _ _)) h2
theorem cW{k:Nat}(h:k≤512):gC (kH ((2 ^ k:Nat):Int)) ((2 ^ k:Nat):Int) 20:=mW (by
 rw[cI,Int.natAbs_natCast]
 refine Nat.lt_of_le_of_lt (Nat.pow_le_pow_right (by decide) h) ?_
 unfold pw
 decide +kernel)
theorem eJ{k:Nat}(h:k≤512):QL (((2 ^ k:Nat):Int):Rat) 20:=gQ (cW h).ln (by decide)
def mY(x:Rat):Int:=x.num.fdiv ((x.den:Nat):Int)
theorem fX{x:Rat}{n k:Nat}(h:QL x n)(hk:n+1≤k):gC (kH (mY x)) (mY x) k:=mW (Nat.le_trans (lenZ_fdiv _ _) (Nat.le_trans (Nat.succ_le_succ h.1) hk))
theorem flZ_floor(x:Rat):mY x=x.floor:=by
 unfold mY;rw[Rat.floor_def,Int.fdiv_eq_ediv_of_nonneg _ (by omega)]
theorem fl_nn{x:Rat}(h:0≤x):0≤mY x:=by
 rw[flZ_floor,Rat.le_floor_iff];exact h
theorem aO{x:Rat}{k:Nat}(h:0≤x):0≤x*((((2 ^ k:Nat):Int):Rat)*(((2 ^ k:Nat):Int):Rat)):=by
 have h2:(0:Rat)≤(((2 ^ k:Nat):Int):Rat):=by
  rw[← Rat.intCast_zero];exact Rat.intCast_le_intCast.2 (Int.le_of_lt (two_pos k))
 exact Rat.mul_nonneg h (Rat.mul_nonneg h2 h2)
theorem sgn_nn{x:Rat}(h:0≤x):¬ (gI x)<0:=by
 unfold gI
 have h2:0≤x.num:=Rat.num_nonneg.2 h
 unfold qZ
 by_cases e:x.num=0
 ·rw[if_pos e];decide
 ·rw[if_neg e,if_neg (by omega)];decide
def upI(y:Rat):Int:=if ((qU (mY y)*qU (mY y):Int):Rat)<y then qU (mY y)+1 else qU (mY y)
theorem iok_upI{y:Rat}{n k:Nat}(h:0≤mY y)(hz:gC (kH (mY y)) (mY y) n)(hk:n+1≤k)(hn:1≤n):gC (kH (upI y)) (upI y) k:=mW (by
 have h1:=(iok_root h hz).ln
 unfold upI
 by_cases e:((qU (mY y)*qU (mY y):Int):Rat)<y
 ·rw[if_pos e]
  exact lenZ_add h1 (yX (z:=1) (by decide)) (by omega)
 ·rw[if_neg e];omega)
theorem cmpQ_ltR{a b:Rat}:yW a b<0↔a<b:=by
 unfold yW
 by_cases h:a<b
 ·rw[if_pos h];exact ⟨fun _=>h,fun _=>by decide⟩
 ·rw[if_neg h];refine ⟨fun hh=>?_,fun hh=>absurd hh h⟩
  by_cases h2:b<a
  ·rw[if_pos h2] at hh;exact absurd hh (by decide)
  ·rw[if_neg h2] at hh;exact absurd hh (by decide)
theorem upI_t{y:Rat}(h:yW ((qU (mY y)*qU (mY y):Int):Rat) y<0):upI y=qU (mY y)+1:=if_pos (cmpQ_ltR.1 h)
theorem upI_f{y:Rat}(h:¬ yW ((qU (mY y)*qU (mY y):Int):Rat) y<0):upI y=qU (mY y):=if_neg (fun hh=>h (cmpQ_ltR.2 hh))
theorem p2_ne(k:Nat):(((2 ^ k:Nat):Int):Rat)≠0:=by
 intro h
 have:((2 ^ k:Nat):Int)=0:=by rw[← Rat.intCast_zero] at h;exact Rat.intCast_inj.1 h
 have:=two_pos k;omega
theorem divP(a:Int)(k:Nat):Rat.divInt a ((2 ^ k:Nat):Int)=((a:Int):Rat) / (((2 ^ k:Nat):Int):Rat):=by rw[Rat.divInt_eq_div]
theorem p2_pos(k:Nat):(0:Rat)<(((2 ^ k:Nat):Int):Rat):=by
 rw[← Rat.intCast_zero];exact Rat.intCast_lt_intCast.2 (two_pos k)
theorem divP_le{a:Int}{k:Nat}{c:Rat}(h:((a:Int):Rat)≤c*(((2 ^ k:Nat):Int):Rat)):Rat.divInt a ((2 ^ k:Nat):Int)≤c:=by
 rw[divP,← Rat.not_lt,Rat.lt_div_iff (p2_pos k),Rat.not_lt];exact h
theorem flZ_le(x:Rat):((mY x:Int):Rat)≤x:=by rw[flZ_floor];exact Rat.floor_le x
theorem divP_mul(a:Int)(k:Nat):Rat.divInt a ((2 ^ k:Nat):Int)*(((2 ^ k:Nat):Int):Rat)=((a:Int):Rat):=by
 rw[divP,Rat.div_mul_cancel (p2_ne k)]
theorem rt_lo{y:Rat}(hy:0≤y):((qU (mY y)*qU (mY y):Int):Rat)≤y:=Rat.le_trans (Rat.intCast_le_intCast.2 (rootI_le (fl_nn hy))) (flZ_le y)
theorem upI_nn(y:Rat):0≤upI y:=by
 have:=rootI_0 (mY y)
 unfold upI;split<;>omega
theorem rt_hi{y:Rat}(hy:0≤y):y≤((upI y*upI y:Int):Rat):=by
 unfold upI
 by_cases e:((qU (mY y)*qU (mY y):Int):Rat)<y
 ·rw[if_pos e]
  have h1:=lt_rootI (fl_nn hy)
  have h2:y<((mY y+1:Int):Rat):=by rw[flZ_floor];exact Rat.lt_floor_add_one y
  exact Rat.le_trans (Rat.le_of_lt h2) (Rat.intCast_le_intCast.2 h1)
 ·rw[if_neg e];exact Rat.not_lt.1 e
theorem sq_int{a b:Int}(b0:0≤b)(h:a*a≤b*b):a≤b:=by
 by_cases hh:a≤b
 ·exact hh
 ·have h1:b<a:=by omega
  have h2:b*b<a*a:=by
   have q1:b*b≤b*a:=Int.mul_le_mul_of_nonneg_left (by omega) b0
   have q2:b*a<a*a:=Int.mul_lt_mul_of_pos_right h1 (by omega)
   omega
  omega
theorem rt_valid{p q:Rat}(k:Nat)(hp:0≤p)(h:p≤q):Rat.divInt (qU (mY (p*((((2 ^ k:Nat):Int):Rat)*(((2 ^ k:Nat):Int):Rat))))) ((2 ^ k:Nat):Int)≤Rat.divInt (upI (q*((((2 ^ k:Nat):Int):Rat)*(((2 ^ k:Nat):Int):Rat)))) ((2 ^ k:Nat):Int):=by
 refine divP_le ?_
 rw[divP_mul]
 refine Rat.intCast_le_intCast.2 (sq_int (upI_nn _) (Rat.intCast_le_intCast.1 ?_))
 have hq:0≤q:=Rat.le_trans hp h
 have hPP:(0:Rat)≤(((2 ^ k:Nat):Int):Rat)*(((2 ^ k:Nat):Int):Rat):=Rat.mul_nonneg (Rat.le_of_lt (p2_pos k)) (Rat.le_of_lt (p2_pos k))
 exact Rat.le_trans (rt_lo (aO hp)) (Rat.le_trans (Rat.mul_le_mul_of_nonneg_right h hPP) (rt_hi (aO hq)))
end Go.Fid
namespace Go.Proofs.YtnajallgoaiahaaGreatDoor
open Go.Fid
theorem cb256:callB Tryz.prog 256=true:=by kernel_rfl
theorem cb265:callB Tryz.prog 265=true:=by kernel_rfl
theorem cb268:callB Tryz.prog 268=true:=by kernel_rfl
theorem cb271:callB Tryz.prog 271=true:=by kernel_rfl
theorem cb272:callB Tryz.prog 272=true:=by kernel_rfl
theorem cb273:callB Tryz.prog 273=true:=by kernel_rfl
theorem in3:intB Tryz.prog 3=some .i64:=by kernel_rfl
theorem st9:strB Tryz.prog 9=true:=by kernel_rfl
theorem d_small :jP Tryz.prog 273 [(.val (.int .i64 (((2:Nat):Int))))] (.val (.string (ByteArray.mk #[50]))):=by
 refine jI Tryz.func273 rfl cb273 rfl ?_
 show qJ _ _ _ _ ⟨[(0,(jR 2))],[]⟩
 refine jB<|kx [] [] (zM<|zZ) ?_
 refine jB<|jB<|kx [(4,(vb true))] [] (zM<|zE (vZ true xG)<|zZ) ?_
 refine xT ?_
 refine jB<|kx [(2,(.d (.val (.string (ByteArray.mk #[50])))))] [] (zM<|zM<|zE (vT 3 (hr:=by decide))<|zE (oSstr (l:=2) (h:=3) (r:=ByteArray.mk #[50]) st9)<|zM<|zZ) ?_
 refine jE ⟨_,(.tmp (d:=(.val (.string (ByteArray.mk #[50])))) rfl .nil),?_⟩
 rfl
theorem d_fmt :jP Tryz.prog 272 [(.val (.int .i64 (((2:Nat):Int)))),(.val (.int .i64 (((10:Nat):Int))))] (.val (.string (ByteArray.mk #[50]))):=by
 refine jI Tryz.func272 rfl cb272 rfl ?_
 show qJ _ _ _ _ ⟨[(0,(jR 2)),(1,(jR 10))],[]⟩
 refine jB<|kx [] [] (zM<|zZ) ?_
 refine jB<|jB<|kx [(11,(vb true))] [] (zM<|zE (vZ true gD)<|zZ) ?_
 refine xT ?_
 refine jB<|jB<|kx [(17,(vb true))] [] (zM<|zE (vZ true oLe)<|zM<|zM<|zE (vZ true xG)<|zE xA<|zZ) ?_
 refine xT ?_
 refine jB<|kx [(4,(.d (.val (.string (ByteArray.mk #[50])))))] [] (zM<|zE (jX d_small)<|zM<|zZ) ?_
 refine jE ⟨_,(.tmp (d:=(.val (.string (ByteArray.mk #[50])))) rfl .nil),?_⟩
 rfl
theorem d_itoaI :jP Tryz.prog 271 [(.val (.int .i64 (((2:Nat):Int))))] (.val (.string (ByteArray.mk #[50]))):=by
 refine jI Tryz.func271 rfl cb271 rfl ?_
 show qJ _ _ _ _ ⟨[(0,(jR 2))],[]⟩
 refine jB<|kx [] [] (zM<|zZ) ?_
 refine jB<|kx [(2,(.d (.val (.string (ByteArray.mk #[50])))))] [] (zM<|zE (jX d_fmt)<|zM<|zZ) ?_
 refine jE ⟨_,(.tmp (d:=(.val (.string (ByteArray.mk #[50])))) rfl .nil),?_⟩
 rfl
theorem d_itoa :jP Tryz.prog 268 [(.val (.int .i64 (((2:Nat):Int))))] (.val (.string (ByteArray.mk #[50]))):=by
 refine jI Tryz.func268 rfl cb268 rfl ?_
 show qJ _ _ _ _ ⟨[(0,(jR 2))],[]⟩
 refine jB<|kx [] [] (zM<|zZ) ?_
 refine jB<|kx [(2,(.d (.val (.string (ByteArray.mk #[50])))))] [] (zM<|zE (jX d_itoaI)<|zM<|zZ) ?_
 refine jE ⟨_,(.tmp (d:=(.val (.string (ByteArray.mk #[50])))) rfl .nil),?_⟩
 rfl
theorem d_digits :jP Tryz.prog 265 [(.sl 140 1 (List.map jC [2]))] (.val (.int .i64 (((1:Nat):Int)))):=by
 refine jI Tryz.func265 rfl cb265 rfl ?_
 show qJ _ _ _ _ ⟨[(0,(vl 140 1 jC [2]))],[]⟩
 refine jB<|kx [] [] (zM<|zZ) ?_
 refine jB<|jB<|kx [(5,(vb false))] [] (zM<|zE (oLn kK 1)<|zE (vZ false gD)<|zZ) ?_
 refine kS ?_
 refine jD<|jB<|kx [(2,(jR 1))] [] (zM<|zE (oLn kK 1)<|zE (oSb 0 (hr:=by decide))<|zE (oMl 0 (hr:=by decide))<|zM<|zM<|zE (oLn kK 1)<|zE (oSb 0 (hr:=by decide))<|zE (oXs kK 0)<|zE (xO qR)<|zE (cA yT in3 2)<|zE (jX d_itoa)<|zE (oLstr st9 1)<|zE (vT 1 (hr:=by decide))<|zM<|zZ) ?_
 refine jE ⟨_,(.tmp (d:=(.val (.int .i64 (((1:Nat):Int))))) rfl .nil),?_⟩
 rfl
theorem d_pow(n:Nat)(hn:n≤1024):jP Tryz.prog 256 [(jO (kH 2)),(.val (.int .i64 (((n:Nat):Int))))] (.tup [(jO (kH ((2 ^ n:Nat):Int))),(.val (.int .i64 (0)))]):=by
 have hg2:=g2len
 refine jI Tryz.func256 rfl cb256 rfl ?_
 show qJ _ _ _ _ ⟨[(0,(.d (jO (kH 2)))),(1,(jR n))],[]⟩
 refine jB<|kx [(2,(.ref 0 0)),(4,(.ref 1 0))] [(0,some (bx (jO (kH 2)))),(1,some (bx (jO (kU.mk false []))))] (zN (vW 0)<|zN (uF 1 yN yL)<|zM<|zZ) ?_
 refine jB<|kx [(6,(vl 140 1 jC [2]))] [] (zR (kM jY)<|zE (oQd (.sl 140 1 (List.map jC (kO (kH 2)))) (.sl 140 1 (List.map jC [2])) (jX (gK (kH 2) (by omega))) (by exact (congrArg (fun l=>jS.sl 140 1 (List.map jC l)) g2)))<|zM<|zZ) ?_
 refine jB<|jH<|jB<|kx [(11,(vb false))] [] (zM<|zE (vZ false xG (by exact decide_eq_false (show ¬ ((n:Nat):Int)<0 by omega)))<|zM<|zM<|zE (vZ false mA (by exact decide_eq_false (show ¬ 4096<((n:Nat):Int) by omega)))<|zE xN<|zM<|zZ) ?_
 refine kS ?_
 refine jB<|kx [(19,(vb false))] [] (zM<|zM<|zE (jX d_digits)<|zE (oMl (n*1))<|zE (vZ false mA (by exact decide_eq_false (show ¬ 20000<(((n*1):Nat):Int) by omega)))<|zM<|zZ) ?_
 refine kS ?_
 refine jD<|jB<|kx [(7,(vl 140 1 jC [1]))] [] (zE (eC kK vP yJ)<|zM<|zZ) ?_
 refine jB<|jB<|kx [(8,(jR 4096))] [] (zM<|zZ) ?_
 refine jH<|kB (α:=Nat × Nat × List Nat) (fun (i,b,out)=>⟨[(1,(jR n)),(2,(.ref 0 0)),(4,(.ref 1 0)),(6,(vl 140 1 jC [2])),(7,(vl 140 1 jC out)),(8,(jR b))],[(0,some (bx (jO (kH 2)))),(1,some (bx (jO (kU.mk false []))))]⟩) (fun (i,b,out)=>i≤13∧b=4096 / 2 ^ i∧out=ofNat (pwS n i)) (fun (i,b,out)=>13-i) (0,4096,[1]) wk ⟨Nat.zero_le _,rfl,pwS_0 (by omega)⟩ ?_
 rintro ⟨i,b,out⟩ ⟨hi,hbi,ho⟩
 have hdo:Dig out:=ho▸kJ _
 have hlo:out.length≤4097:=ho▸len_pwS (by omega) i
 have hdt:Dig [2]:=by intro d hd;rw[List.mem_singleton.1 hd];decide
 have hvo:val out=pwS n i:=by rw[ho,kD]
 have hbl:b≤4096:=hbi▸Nat.div_le_self _ _
 have hdq:Dig (ofNat (val out*val out)):=kJ _
 have hl2:[2].length≤1:=Nat.le_refl _
 refine jB<|jB<|kx [(28,(vb (decide (0<((b:Nat):Int)))))] [] (zM<|zE mA<|zZ) ?_
 refine jF (b:=decide (0<((b:Nat):Int))) rfl (fun h1=>?_) (fun h1=>?_)
 ·replace h1:=uW h1
  have hi2:=bit_pos hi (hbi▸h1)
  have hlq:=len_sq hvo (show n≤4096 by omega) hi2
  refine jD<|jB<|jH<|jB<|kx [(7,(vl 140 1 jC (ofNat (val out*val out))))] [] (zM<|zM<|zE (jX (t_times out out (by assumption) (by assumption) (by omega) (by omega)))<|zM<|zZ) ?_
  refine jB<|kx [(37,(vb ((((n &&& b):Nat):Int) != 0)))] [] (zM<|zM<|zE (oAb (n &&& b))<|zE mC<|zZ) ?_
  refine jF (b:=((((n &&& b):Nat):Int) != 0)) rfl (fun h2=>?_) (fun h2=>?_)
  ·replace h2:=bne_iff_ne.1 h2
   refine kx [(7,(vl 140 1 jC (ofNat (val (ofNat (val out*val out))*val [2]))))] [] (zM<|zM<|zE (jX (t_times (ofNat (val out*val out)) [2] (by assumption) (by assumption) (by omega) (by omega)))<|zM<|zZ) ?_
   refine kx [(8,(jR (b / 2)))] [] (zM<|zE (e_shr (n:=1) (((b / 2):Nat):Int) (hr:=shr1 _))<|zM<|zZ) ?_
   exact ⟨(i+1,b / 2,ofNat (val (ofNat (val out*val out))*val [2])),wk,⟨by omega,by rw[hbi];exact bit_half i,by rw[kD,hvo,← pwS_odd hi2 (by rw[← hbi];omega)];rfl⟩,(by first|omega|(dsimp only;omega))⟩
  ·replace h2:=bne_eq_false_iff_eq.1 h2
   refine jD<|kx [(8,(jR (b / 2)))] [] (zM<|zE (e_shr (n:=1) (((b / 2):Nat):Int) (hr:=shr1 _))<|zM<|zZ) ?_
   exact ⟨(i+1,b / 2,ofNat (val out*val out)),wk,⟨by omega,by rw[hbi];exact bit_half i,by rw[hvo,pwS_even hi2 (by rw[← hbi];omega)]⟩,(by first|omega|(dsimp only;omega))⟩
 ·replace h1:=uX h1
  have hi13:=bit_end hi (hbi▸h1)
  refine kC<|jB<|kx [(5,(jR 0))] [(1,some (bx (jO (xH ((kH 2).neg&&((((n % 2):Nat):Int) == 1)) (val out)))))] ?_ ?_
  ·refine zE (qE vL)<|zR (uN aU)<|zE (oV (vb ((kH 2).neg)) (kR (by kernel_rfl)))<|?_
   rcases hb3:((kH 2).neg) with _ | _
   ·exact zK<|zK<|zK<|zE xN<|zM<|zE (jX (mX false out (by assumption) (by omega)))<|zT (qK jY)<|zM<|zZ
   ·exact zM<|zE (oRe (n % 2))<|zE gD<|zE fM<|zM<|zE (jX (mX (true&&((((n % 2):Nat):Int) == 1)) out (by assumption) (by omega)))<|zT (qK jY)<|zM<|zZ
  refine jE ⟨_,(kN (cs:=(bx (jO (xH ((kH 2).neg&&((((n % 2):Nat):Int) == 1)) (val out))))) (d:=(jO (xH ((kH 2).neg&&((((n % 2):Nat):Int) == 1)) (val out)))) rfl rfl jY rfl rfl (.tmp (d:=(.val (.int .i64 (0)))) rfl .nil)),?_⟩
  rw[ho,hi13,neg2,Bool.false_and,mk_two];rfl
theorem cb231:callB Tryz.prog 231=true:=by kernel_rfl
theorem d_root(z:Int)(hz:gC (kH z) z 200)(hz0:0≤z):jP Tryz.prog 231 [(jO (kH z))] (.tup [(jO (kH (qU z))),(.val (.int .i64 (0)))]):=by
 have hzl:(ofNat z.natAbs).length≤200:=hz.ln
 have hzg:=hz.l
 refine jI Tryz.func231 rfl cb231 rfl ?_
 show qJ _ _ _ _ ⟨[(0,(.d (jO (kH z))))],[]⟩
 refine jB<|kx [(1,(.ref 0 0)),(2,(.ref 1 0))] [(0,some (bx (jO (kH z)))),(1,some (bx (jO (kU.mk false []))))] (zN (vW 0)<|zN (uF 1 yN yL)<|zM<|zZ) ?_
 refine jB<|kx [(4,(vl 140 1 jC (ofNat (Int.natAbs z))))] [] (zR (kM jY)<|zE (oQd (.sl 140 1 (List.map jC (kO (kH z)))) (.sl 140 1 (List.map jC (ofNat (Int.natAbs z)))) (jX (gK (kH z) (by omega))) (by exact (congrArg (fun l=>jS.sl 140 1 (List.map jC l)) (grpI_ofZ z))))<|zM<|zZ) ?_
 refine jB<|jB<|kx [(14,(vb ((((ofNat (Int.natAbs z)).length:Nat):Int) == 0)))] [] (zM<|zE (uE kK (L:=(ofNat (Int.natAbs z))))<|zE gD<|zZ) ?_
 refine jF rfl (fun h1=>?_) (fun h1=>?_)
 ·replace h1:=eq_of_beq h1
  refine jB<|kx [(3,(jR 0))] [(1,some (bx (jO (kU.mk false []))))] (zE (bY pl43 yN yL)<|zT (qK jY)<|zM<|zZ) ?_
  refine jE ⟨_,(kN (cs:=(bx (jO (kU.mk false [])))) (d:=(jO (kU.mk false []))) rfl rfl jY rfl rfl (.tmp (d:=(.val (.int .i64 (0)))) rfl .nil)),?_⟩
  rw[root_nil h1];rfl
 ·replace h1:=ne_of_beq_false h1
  refine jD<|jB<|jB<|kx [(17,(vb ((kH z).neg)))] [] (zE (qE vL)<|zR (uN aU)<|zZ) ?_
  refine jF (b:=(kH z).neg) rfl (fun h2=>?_) (fun h2=>?_)
  ·exact (neg_abs hz0 h2).elim
  ·have hX:0<z.natAbs:=by rcases Nat.eq_zero_or_pos z.natAbs with e | e;exact absurd (by rw[e,uD];rfl) h1;exact e
   refine jD<|jB<|kf [(5,(.own 2 140 1 (((List.replicate (((ofNat (Int.natAbs z)).length+1) / 2) 0)++[1]).length)))] [(2,some (bm jC ((List.replicate (((ofNat (Int.natAbs z)).length+1) / 2) 0)++[1])))] (zM<|zE (uE kK (L:=(ofNat (Int.natAbs z))))<|zE (vT ((ofNat (Int.natAbs z)).length+1))<|zE (oQu (((ofNat (Int.natAbs z)).length+1) / 2))<|zN (oMk 2 jC (0:Nat) (((ofNat (Int.natAbs z)).length+1) / 2) (((ofNat (Int.natAbs z)).length+1) / 2) kK vP yJ nS)<|zE (eC kK vP yJ)<|zA jC (List.replicate (((ofNat (Int.natAbs z)).length+1) / 2) 0) [1] (by rw[List.length_replicate]) kK vP nS<|zM<|zF) ?_
   refine jH<|kV (vN (t:=5) (k:=2) (es:=List.map jC ((List.replicate (((ofNat (Int.natAbs z)).length+1) / 2) 0)++[1])) rfl rfl (uI _ _ (fun _=>rfl)) (uT _ _ rfl) (vH _ _ (fun _=>rfl) rfl)) ?_
   refine kB (α:=List Nat) (fun r=>⟨[(2,(.ref 1 0)),(4,(vl 140 1 jC (ofNat (Int.natAbs z)))),(5,(vl 140 1 jC r))],[(1,some (bx (jO (kU.mk false []))))]⟩) (fun r=>(yG r∧0<val r∧z.natAbs<(val r+1)*(val r+1))∧r.length≤400) (fun r=>val r) (List.replicate (((ofNat z.natAbs).length+1) / 2) 0++[1]) wk ⟨⟨nw_cano _,by rw[nw_start];exact pw_pos _,nw_top⟩,by simp;omega⟩ ?_
   rintro r ⟨⟨hcr,hr0,hru⟩,hrl⟩
   have hcg:yG (ofNat z.natAbs):=qF _
   have hdr:=hcr.1
   obtain ⟨q1,q2,q3⟩:=nw_lens (X:=z.natAbs) (by omega) hrl hcr
   have hdq:Dig (ofNat (val (ofNat z.natAbs) / val r)):=kJ _
   have hds:Dig (ofNat (val r+val (ofNat (val (ofNat z.natAbs) / val r)))):=kJ _
   have hcn:yG (ofNat (val (ofNat (val r+val (ofNat (val (ofNat (Int.natAbs z)) / val r)))) / 2)):=qF _
   refine jH<|jB<|kx [(6,(vl 140 1 jC (ofNat (val (ofNat (Int.natAbs z)) / val r))))] [] (zM<|zM<|zE (jX (t_over (ofNat (Int.natAbs z)) r (by assumption) (by assumption) (by omega) (by omega) (by omega)))<|zM<|zE xD<|zE xD<|zM<|zM<|zZ) ?_
   refine jB<|kx [(8,(vl 140 1 jC (ofNat (val (ofNat (val r+val (ofNat (val (ofNat (Int.natAbs z)) / val r)))) / 2))))] [] (zM<|zM<|zE (jX (t_plus r (ofNat (val (ofNat (Int.natAbs z)) / val r)) (by assumption) (by assumption) (by omega) (by omega)))<|zE (jX (t_short (ofNat (val r+val (ofNat (val (ofNat (Int.natAbs z)) / val r)))) 2 (by assumption) (by omega) (by omega) (by omega)))<|zM<|zE xD<|zE xD<|zM<|zM<|zZ) ?_
   refine jB<|jB<|kx [(42,(vb (decide (0≤(vB ((val (ofNat (val (ofNat (val r+val (ofNat (val (ofNat (Int.natAbs z)) / val r)))) / 2)):Nat):Int) ((val r:Nat):Int))))))] [] (zM<|zM<|zE (jX (t_compare (ofNat (val (ofNat (val r+val (ofNat (val (ofNat (Int.natAbs z)) / val r)))) / 2)) r (by assumption) (by assumption) (by omega)))<|zE oGe<|zZ) ?_
   refine jF rfl (fun h3=>?_) (fun h3=>?_)
   ·replace h3:=uW h3
    refine jB<|kx [(3,(jR 0))] [(1,some (bx (jO (xH false (val r)))))] (zM<|zE (jX (mX false r (by assumption) (by omega)))<|zT (qK jY)<|zM<|zZ) ?_
    refine jE ⟨_,(kN (cs:=(bx (jO (xH false (val r))))) (d:=(jO (xH false (val r)))) rfl rfl jY rfl rfl (.tmp (d:=(.val (.int .i64 (0)))) rfl .nil)),?_⟩
    rw[nw_end hz0 hr0 hru (nw_stop h3)];rfl
   ·replace h3:=uX h3
    refine jD<|kx [(5,(vl 140 1 jC (ofNat (val (ofNat (val r+val (ofNat (val (ofNat (Int.natAbs z)) / val r)))) / 2))))] [] (zM<|zM<|zZ) ?_
    exact ⟨(ofNat (val (ofNat (val r+val (ofNat (val (ofNat (Int.natAbs z)) / val r)))) / 2)),wk,(by obtain ⟨n1,n2,n3,n4⟩:=nw_ok z.natAbs hr0 hX h3;exact ⟨⟨n1,n2,n3⟩,Nat.le_trans (can_len n1 hcr (Nat.le_of_lt n4)) hrl⟩),(by obtain ⟨n1,n2,n3,n4⟩:=nw_ok z.natAbs hr0 hX h3;exact n4)⟩
end Go.Proofs.YtnajallgoaiahaaGreatDoor
