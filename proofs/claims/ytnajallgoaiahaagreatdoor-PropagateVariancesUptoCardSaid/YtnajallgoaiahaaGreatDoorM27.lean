/- Part 27 of a proof: rules, plain facts, and functions walked. -/
import Derived.Test.YtnajallgoaiahaaGreatDoorM26
import Derived.Test.YtnajallgoaiahaaGreatDoorM23
set_option linter.all false
set_option maxRecDepth 4000
namespace Go.Proofs.YtnajallgoaiahaaGreatDoor
open Go.Fid
theorem by24:yL Tryz.prog 24=some 24:=by kernel_rfl
theorem cb18:callB Tryz.prog 18=true:=by kernel_rfl
theorem cb22:callB Tryz.prog 22=true:=by kernel_rfl
theorem yR:vM Tryz.prog 32=some (23,1):=by kernel_rfl
theorem iG:vM Tryz.prog 33=some (24,1):=by kernel_rfl
theorem sh23:qW Tryz.prog 23=some (false,1):=by kernel_rfl
theorem ze23:yE Tryz.prog 23=some [.slice none 0 0]:=by kernel_rfl
theorem bX:yE Tryz.prog 24=some [.slice none 0 0]:=by kernel_rfl
theorem zo23:bA [.slice none 0 0] [.sl 83 7 []]:=by simp [bA,Value.oneCell']
theorem zo24:bA [.slice none 0 0] [.sl 45 4 []]:=by simp [bA,Value.oneCell']
theorem p_tab(ts:List (List kV))(hts:∀ t∈ts,vR 1048576 t)(xs:List Rat)(hx:∀ q∈xs,QL q 1048576)(q:List (List jQ))(hq:vN 1048576 q)(hjs:∀ t∈ts,JRunP (List.map yF xs) t)(hr:gJ q q.length xs.length)(hf:mV q xs.length=0)(hxq:xs.length=q.length)(h1:1≤ts.length)(h64:ts.length≤64):jR Tryz.prog 18 [(.sl 23 1 (List.map kL ts)),(.sl 45 4 (List.map jK (List.map jN xs))),(.sl 24 1 (List.map jI q))] (.tup [(.sl 24 1 (List.map jI (eA q (List.map (vT xs) ts)))),(.val (.int .i64 (((0:Nat):Int))))]):=by
 have hx64:xs.length≤64:=hr.c64
 have hqm:=hr.r64
 have hgo:=grs_ok (runs_of hjs) h64
 have hgl:(List.map (vT xs) ts).length=ts.length:=List.length_map _
 have hc0:=rect_chk hr
 have hr0:=rect_0 hr
 have hxn:((List.map jN xs).length)=xs.length:=List.length_map _
 have hgx:(List.map yF xs).length=xs.length:=List.length_map _
 refine jJ Tryz.func18 rfl cb18 rfl ?_
 show qG _ _ _ _ ⟨[(0,(vl 23 1 kL ts)),(1,(vl 45 4 jK (List.map jN xs))),(2,(vl 24 1 jI q))],[]⟩
 refine jB<|kx [] [] (zE (dD 24 1)<|zM<|zZ) ?_
 refine jB<|jB<|kx [(31,(vb false))] [] (zM<|zE (jY (p_pts xs hx (by omega)))<|zE (jY (p_val (List.map yF xs) (pts_gl hx) (by omega)))<|zE mD<|zM<|zM<|zE (jY (m_chk q hq))<|zE (vW false nW (by exact bne_eq_false_iff_eq.2 (by rw[show (gS q)=0 from hc0]<;>rfl)))<|zE yP<|zZ) ?_
 refine kU ?_
 refine jD<|jB<|jB<|kx [(34,(vb (((ts.length:Nat):Int) == ((0:Nat):Int))))] [] (zM<|zE (uW yR)<|zE xR<|zZ) ?_
 refine jG rfl (fun h1=>?_) (fun h1=>?_)
 ·replace h1:=eq_of_beq h1
  exfalso;omega
 ·replace h1:=ne_of_beq_false h1
  refine jD<|jB<|jB<|kx [(37,(vb (decide (((64:Nat):Int)<((ts.length:Nat):Int)))))] [] (zM<|zE (uW yR)<|zE mL<|zZ) ?_
  refine jG rfl (fun h2=>?_) (fun h2=>?_)
  ·replace h2:=uP h2
   exfalso;omega
  ·replace h2:=uR h2
   refine jD<|jB<|jB<|kx [(38,(vl 23 1 kL ts)),(39,(jP ts.length)),(40,(jP 0))] [] (zM<|zE (uW yR)<|zM<|zZ) ?_
   refine jH<|kA (α:=Nat) (fun i=>⟨[(0,(vl 23 1 kL ts)),(1,(vl 45 4 jK (List.map jN xs))),(2,(vl 24 1 jI q)),(38,(vl 23 1 kL ts)),(39,(jP ts.length)),(40,(jP i))],[]⟩) (fun i=>i≤ts.length) (fun i=>ts.length-i) 0 wk (Nat.zero_le _) ?_
   rintro i hi
   refine jB<|kx [(41,(vb (decide (((i:Nat):Int)<((ts.length:Nat):Int)))))] [] (zE xK<|zZ) ?_
   refine jB<|jG rfl (fun h3=>?_) (fun h3=>?_)
   ·replace h3:=uP h3
    refine jD<|jB<|jH<|jB<|kx [(9,(vl 83 7 kM (ts.getD i [])))] [] (zE (xX yR i ([]:List (kV)))<|zE (xZ sh23)<|zM<|zZ) ?_
    refine jB<|kx [(10,(jP (nY ((xs.length:Nat):Int) (ts.getD i []))))] [] (zM<|zM<|zE (oLn uE xs.length)<|zE (jY (j_chk (ts.getD i []) (tms_at hts i) ((xs.length:Nat):Int)))<|zM<|zZ) ?_
    refine jB<|kx [(49,(vb false))] [] (zM<|zE (vW false nW (by exact bne_eq_false_iff_eq.2 (by rw[show (nY ((xs.length:Nat):Int) (ts.getD i []))=0 from (tms_c0 (runs_of hjs) (show i<ts.length by omega))]<;>rfl)))<|zZ) ?_
    refine kU ?_
    refine jD<|kx [(40,(jP (i+1)))] [] (zE (vC (i+1))<|zM<|zZ) ?_
    exact ⟨i+1,wk,(by omega),(by first|omega|(dsimp only;omega))⟩
   ·replace h3:=uR h3
    refine kB<|jB<|jB<|kx [(11,(jP (mV q xs.length)))] [] (zM<|zM<|zE (oLn uE xs.length)<|zE (jY (p_fit q hq xs.length hr0))<|zM<|zZ) ?_
    refine jB<|kx [(57,(vb false))] [] (zM<|zE (vW false nW (by exact bne_eq_false_iff_eq.2 (by rw[show (mV q xs.length)=0 from hf]<;>rfl)))<|zZ) ?_
    refine kU ?_
    refine jD<|jB<|kx [(12,(.own 0 24 1 0))] [(0,some (bm jI []))] (zO 0 24 1<|zZ) ?_
    refine jB<|jB<|kx [(59,(vl 23 1 kL ts)),(60,(jP ts.length)),(61,(jP 0))] [] (zM<|zE (uW yR)<|zM<|zZ) ?_
    refine jH<|kA (α:=Nat × List (List jQ)) (fun (i,o)=>⟨[(1,(vl 45 4 jK (List.map jN xs))),(2,(vl 24 1 jI q)),(12,(.own 0 24 1 o.length)),(59,(vl 23 1 kL ts)),(60,(jP ts.length)),(61,(jP i))],[(0,some (bm jI o))]⟩) (fun (i,o)=>i≤ts.length∧o=(ts.take i).map (vT xs)) (fun (i,o)=>ts.length-i) (0,[]) wk ⟨Nat.zero_le _,by simp⟩ ?_
    rintro ⟨i,o⟩ ⟨hi,ho⟩
    have hol:o.length=i:=by rw[ho,List.length_map,List.length_take];omega
    refine jB<|kx [(62,(vb (decide (((i:Nat):Int)<((ts.length:Nat):Int)))))] [] (zE xK<|zZ) ?_
    refine jB<|jG rfl (fun h4=>?_) (fun h4=>?_)
    ·replace h4:=uP h4
     refine jD<|jB<|jH<|jB<|kx [(14,(vl 83 7 kM (ts.getD i [])))] [] (zE (xX yR i ([]:List (kV)))<|zE (xZ sh23)<|zM<|zZ) ?_
     refine jB<|kx [(15,(vl 45 4 jK (vT xs (ts.getD i [])))),(16,(jP 0))] [] (zM<|zM<|zE (jY (p_grd (ts.getD i []) (tms_at hts i) xs hx (uC hjs (show i<ts.length by omega)) (by omega)))<|zM<|zE uT<|zE uT<|zM<|zM<|zZ) ?_
     refine jB<|jB<|kx [(72,(vb false))] [] (zM<|zE (vW false nW)<|zZ) ?_
     refine kU ?_
     refine jD<|kf [(12,(.own 0 24 1 ((o++[(vT xs (ts.getD i []))]).length)))] [(0,some (bm jI (o++[(vT xs (ts.getD i []))])))] (zM<|zM<|zE (cN iG bX zo24)<|zA jI o [(vT xs (ts.getD i []))] rfl iG bX by24<|zM<|zF) ?_
     refine kx [(61,(jP (i+1)))] [] (zE (vC (i+1))<|zM<|zZ) ?_
     exact ⟨(i+1,o++[vT xs (ts.getD i [])]),wk,⟨by omega,by rw[ho];exact mS (by omega)⟩,(by first|omega|(dsimp only;omega))⟩
    ·replace h4:=uR h4
     have hgs:o=(List.map (vT xs) ts):=by rw[ho,show i=ts.length by omega,List.take_length]
     refine kB<|jB<|kx [(17,(.own 1 24 1 0))] [(1,some (bm jI []))] (zOh 1 24 1<|zZ) ?_
     refine jB<|jB<|kS (vD (t:=12) (k:=0) (es:=List.map jI o) rfl rfl (uQ _ _ (fun _=>rfl)) (uJ _ _ rfl) (vQ _ _ (fun _=>rfl) rfl)) ?_
     refine kx [(79,(vl 24 1 jI (List.map (vT xs) ts))),(80,(jP ((List.map (vT xs) ts).length))),(81,(jP 0))] [] (zE (oQd (.sl 24 1 (List.map jI o)) (.sl 24 1 (List.map jI (List.map (vT xs) ts))) (oV (vl 24 1 jI o) (qC (by kernel_rfl))) (by exact (by rw[hgs])))<|zE (uW iG (L:=(List.map (vT xs) ts)))<|zM<|zZ) ?_
     refine jH<|kA (α:=Nat × List (List jQ)) (fun (i,u)=>⟨[(2,(vl 24 1 jI q)),(12,(vl 24 1 jI o)),(17,(.own 1 24 1 u.length)),(79,(vl 24 1 jI (List.map (vT xs) ts))),(80,(jP ((List.map (vT xs) ts).length))),(81,(jP i))],[(1,some (bm jI u))]⟩) (fun (i,u)=>i≤(List.map (vT xs) ts).length∧u=((List.map (vT xs) ts).take i).map (fun a=>(List.map (vT xs) ts).map fun b=>jN (dW q a b))) (fun (i,u)=>(List.map (vT xs) ts).length-i) (0,[]) wk ⟨Nat.zero_le _,by simp⟩ ?_
     rintro ⟨i,u⟩ ⟨hi2,hu⟩
     have hul:u.length=i:=by rw[hu,List.length_map,List.length_take];omega
     refine jB<|kx [(82,(vb (decide (((i:Nat):Int)<(((List.map (vT xs) ts).length:Nat):Int)))))] [] (zE xK<|zZ) ?_
     refine jB<|jG rfl (fun h5=>?_) (fun h5=>?_)
     ·replace h5:=uP h5
      obtain ⟨hli0,hvi⟩:=grs_at (runs_of hjs) (show i<(List.map (vT xs) ts).length by omega)
      have hli:=hli0.trans hxq
      refine jD<|jB<|jH<|jB<|kx [(19,(vl 45 4 jK ((List.map (vT xs) ts).getD i [])))] [] (zE (xX iG i ([]:List (jQ)) (L:=(List.map (vT xs) ts)))<|zE (xZ mR)<|zM<|zZ) ?_
      refine jB<|kx [(20,(.own 2 45 4 0))] [(2,some (yG jK []))] (zOh 2 45 4<|zZ) ?_
      refine jB<|jB<|kx [(85,(vl 24 1 jI (List.map (vT xs) ts))),(86,(jP ((List.map (vT xs) ts).length))),(87,(jP 0))] [] (zE (oQd (.sl 24 1 (List.map jI o)) (.sl 24 1 (List.map jI (List.map (vT xs) ts))) (oV (vl 24 1 jI o) (qC (by kernel_rfl))) (by exact (by rw[hgs])))<|zE (uW iG (L:=(List.map (vT xs) ts)))<|zM<|zZ) ?_
      refine jH<|kA (α:=Nat × List jQ) (fun (j,v)=>⟨[(2,(vl 24 1 jI q)),(12,(vl 24 1 jI o)),(17,(.own 1 24 1 u.length)),(19,(vl 45 4 jK ((List.map (vT xs) ts).getD i []))),(20,(.own 2 45 4 v.length)),(79,(vl 24 1 jI (List.map (vT xs) ts))),(80,(jP ((List.map (vT xs) ts).length))),(81,(jP i)),(85,(vl 24 1 jI (List.map (vT xs) ts))),(86,(jP ((List.map (vT xs) ts).length))),(87,(jP j))],[(1,some (bm jI u)),(2,some (yG jK v))]⟩) (fun (j,v)=>j≤(List.map (vT xs) ts).length∧v=((List.map (vT xs) ts).take j).map (fun b=>jN (dW q ((List.map (vT xs) ts).getD i []) b))) (fun (j,v)=>(List.map (vT xs) ts).length-j) (0,[]) wk ⟨Nat.zero_le _,by simp⟩ ?_
      rintro ⟨j,v⟩ ⟨hj2,hv⟩
      have hvl:v.length=j:=by rw[hv,List.length_map,List.length_take];omega
      refine jB<|kx [(88,(vb (decide (((j:Nat):Int)<(((List.map (vT xs) ts).length:Nat):Int)))))] [] (zE xK<|zZ) ?_
      refine jB<|jG rfl (fun h6=>?_) (fun h6=>?_)
      ·replace h6:=uP h6
       obtain ⟨hlj0,hvj⟩:=grs_at (runs_of hjs) (show j<(List.map (vT xs) ts).length by omega)
       have hlj:=hlj0.trans hxq
       have hrj:gJ q q.length ((List.map (vT xs) ts).getD j []).length:=by rw[hlj0];exact hr
       refine jD<|jB<|jH<|jB<|kx [(22,(vl 45 4 jK ((List.map (vT xs) ts).getD j [])))] [] (zE (xX iG j ([]:List (jQ)) (L:=(List.map (vT xs) ts)))<|zE (xZ mR)<|zM<|zZ) ?_
       refine kf [(20,(.own 2 45 4 ((v++[(jN (dW q ((List.map (vT xs) ts).getD i []) ((List.map (vT xs) ts).getD j [])))]).length)))] [(2,some (yG jK (v++[(jN (dW q ((List.map (vT xs) ts).getD i []) ((List.map (vT xs) ts).getD j [])))])))] (zM<|zM<|zM<|zM<|zE (jY (m_cov q hq ((List.map (vT xs) ts).getD i []) (xA (d:=[]) hgo (show i<(List.map (vT xs) ts).length by omega)) ((List.map (vT xs) ts).getD j []) (xA (d:=[]) hgo (show j<(List.map (vT xs) ts).length by omega)) hrj hvj hli hlj))<|zE (cN uE qU qY)<|zAS jK v [(jN (dW q ((List.map (vT xs) ts).getD i []) ((List.map (vT xs) ts).getD j [])))] rfl uE qU by45<|zM<|zF) ?_
       refine kx [(87,(jP (j+1)))] [] (zE (vC (j+1))<|zM<|zZ) ?_
       exact ⟨(j+1,v++[jN (dW q ((List.map (vT xs) ts).getD i []) ((List.map (vT xs) ts).getD j []))]),wk,⟨by omega,by rw[hv];exact mS (f:=fun b=>jN (dW q ((List.map (vT xs) ts).getD i []) b)) (by omega)⟩,(by first|omega|(dsimp only;omega))⟩
      ·replace h6:=uR h6
       refine kB<|kS (vD (t:=20) (k:=2) (es:=List.map jK v) rfl rfl (zL _ _ (fun _=>rfl)) (uJ _ _ rfl) (yS jK v (fun _=>rfl) rfl)) ?_
       refine kf [(17,(.own 1 24 1 ((u++[v]).length)))] [(1,some (bm jI (u++[v])))] (zM<|zM<|zE (cN zW bX zo24)<|zA jI u [v] rfl zW bX by24<|zM<|zF) ?_
       refine kx [(81,(jP (i+1)))] [] (zE (vC (i+1))<|zM<|zZ) ?_
       exact ⟨(i+1,u++[v]),wk,⟨by omega,by rw[hu,hv,show j=(List.map (vT xs) ts).length by omega,List.take_length];exact mS (f:=fun a=>(List.map (vT xs) ts).map fun b=>jN (dW q a b)) (by omega)⟩,(by first|omega|(dsimp only;omega))⟩
     ·replace h5:=uR h5
      refine kB<|jB<|kx [(6,(.own 1 24 1 u.length)),(7,(jP 0))] [] (zM<|zM<|zM<|zZ) ?_
      refine kS (vD (t:=6) (k:=1) (es:=List.map jI u) rfl rfl (uQ _ _ (fun _=>rfl)) (uJ _ _ rfl) (vQ _ _ (fun _=>rfl) rfl)) ?_
      refine jE ⟨_,(.tmp (d:=(.sl 24 1 (List.map jI u))) rfl (.tmp (d:=(.val (.int .i64 (((0:Nat):Int))))) rfl .nil)),?_⟩
      rw[hu,show i=(List.map (vT xs) ts).length by omega,List.take_length];rfl
theorem p_var(t:List kV)(ht:vR 1048576 t)(xs:List Rat)(hx:∀ q∈xs,QL q 1048576)(q:List (List jQ))(hq:vN 1048576 q)(hj:JRunP (List.map yF xs) t)(hr:gJ q q.length xs.length)(hf:mV q xs.length=0)(hxq:xs.length=q.length):jR Tryz.prog 22 [(.sl 83 7 (List.map kM t)),(.sl 45 4 (List.map jK (List.map jN xs))),(.sl 24 1 (List.map jI q))] (.tup [(jK (jN (dW q (vT xs t) (vT xs t)))),(.val (.int .i64 (((0:Nat):Int))))]):=by
 have hx64:xs.length≤64:=hr.c64
 have hjs:∀ u∈[t],JRunP (List.map yF xs) u:=one_of hj
 have ht1:(eA q (List.map (vT xs) [t])).length=1:=rfl
 have ht2:((eA q (List.map (vT xs) [t])).getD 0 []).length=1:=rfl
 let y1:=(jK (((eA q (List.map (vT xs) [t])).getD 0 []).getD 0 kZ))
 refine jJ Tryz.func22 rfl cb22 rfl ?_
 show qG _ _ _ _ ⟨[(0,(vl 83 7 kM t)),(1,(vl 45 4 jK (List.map jN xs))),(2,(vl 24 1 jI q))],[]⟩
 refine jB<|kx [(6,(.ref 0 0))] [(0,some (bx (jK kZ)))] (zN (qV 0 qU qY)<|zM<|zZ) ?_
 refine jB<|kx [(8,(vl 24 1 jI (eA q (List.map (vT xs) [t])))),(9,(jP 0))] [] (zM<|zE (cN yR ze23 zo23)<|zM<|zM<|zE (jY (p_tab [t] (tms_one ht) xs hx q hq hjs hr hf hxq (Nat.le_refl 1) (xlb rfl)))<|zM<|zE uT<|zE uT<|zM<|zM<|zZ) ?_
 refine jB<|jB<|kx [(19,(vb false))] [] (zM<|zE (vW false nW)<|zZ) ?_
 refine kU ?_
 refine jD<|jB<|kx [(7,(jP 0))] [(0,some (bx y1))] (zM<|zE (xX zW 0 ([]:List (jQ)) (L:=(eA q (List.map (vT xs) [t]))))<|zE (xZ mR)<|zE (xX uE 0 kZ (L:=((eA q (List.map (vT xs) [t])).getD 0 [])))<|zE (gE jS)<|zT (qA jS)<|zM<|zZ) ?_
 refine jE ⟨_,(kH (cs:=(bx y1)) (d:=y1) rfl rfl jS rfl rfl (.tmp (d:=(.val (.int .i64 (((0:Nat):Int))))) rfl .nil)),?_⟩
 rfl
end Go.Proofs.YtnajallgoaiahaaGreatDoor
namespace Go.Fid
def tabB:Nat→List (List jX)→BS
 |_,[]=>[]
 |k,r::rs=>(k,some ((qE r).map .d))::tabB (k+1) rs
theorem bH:∀ (k:Nat) (rows:List (List jX)) (i:Nat),kD (tabB k rows) i=if k≤i then (rows[i-k]?).map (fun r=>(qE r).map SV.d) else none
 |k,[],i=>by simp [tabB,kD]
 |k,r::rs,i=>by
  simp only[tabB]
  rw[jM,bH (k+1) rs i]
  by_cases h:k=i
  ·subst h;simp
  ·rw[if_neg h]
   by_cases h2:k+1≤i
   ·rw[if_pos h2,if_pos (by omega),show i-k=(i-(k+1))+1 by omega,List.getElem?_cons_succ]
   ·rw[if_neg h2,if_neg (by omega)]
theorem tabB_names{k q i:Nat}{rows:List (List jX)}{c:List SV}(h:kD (tabB k rows) i=some c):qL q c=false:=by
 rw[bH] at h
 split at h
 ·rw[Option.map_eq_some_iff] at h
  obtain ⟨r,_,rfl⟩:=h
  exact gF q id _
 ·cases h
abbrev dA (E s:Nat) (rows:List (List jX)):BS:=(0,some (cG E s 2 rows))::tabB 2 rows
theorem tabA_row{E s:Nat}{rows:List (List jX)}{j:Nat}{r:List jX}(h:rows[j]?=some r):kD (dA E s rows) (j+2)=some ((qE r).map .d):=by
 show kD ((0,_)::tabB 2 rows) (j+2)=_
 rw[jM,if_neg (by omega),bH,if_pos (by omega),show j+2-2=j by omega,h];rfl
theorem tabA_clr1{E s:Nat}{rows:List (List jX)}:Clr 1 (dA E s rows):=fun j c hj h=>by
 have h:kD ((0,some (cG E s 2 rows))::tabB 2 rows) j=some c:=h
 rw[jM] at h
 split at h
 ·injection h with h;subst h;exact rowC_names (.inl (by decide))
 ·exact tabB_names h
theorem tab_frb{k:Nat}:∀ (rows:List (List jX)) (j:Nat),k<j→FrB k (tabB j rows)
 |[],j,h=>frb_nil k
 |r::rs,j,h=>frb_d (by rw[← Bool.not_eq_true];exact fun e=>by have:=Nat.eq_of_beq_eq_true e;omega) (tab_frb rs (j+1) (by omega))
theorem tabA_frb{E s:Nat}{rows:List (List jX)}:FrB 1 (dA E s rows):=frb_cs rfl (rowC_names (.inl (by decide))) (tab_frb rows 2 (by decide))
theorem tabA_clr{E s:Nat}{rows:List (List jX)}{c:Option (List SV)}:Clr 1 ((1,c)::dA E s rows):=fun j d hj h=>by
 rw[jM,if_neg (fun e=>hj e.symm)] at h
 exact tabA_clr1 j d hj h
theorem tabA_clr0{E s:Nat}{rows:List (List jX)}{l:List jX}:∀ j c,j≠0→kD ((1,some (l.map SV.d))::dA E s rows) j=some c→qL 0 c=false:=fun j c hj h=>by
 rw[jM] at h
 split at h
 ·injection h with h;subst h;exact gF 0 id l
 ·have h:kD ((0,some (cG E s 2 rows))::tabB 2 rows) j=some c:=h
  rw[jM,if_neg (fun e=>hj e.symm)] at h
  exact tabB_names h
theorem bget_dup{k:Nat}{x y:Option (List SV)}{B:BS}:∀ i c,kD ((k,x)::B) i=some c→kD ((k,x)::(k,y)::B) i=some c:=fun i c h=>by
 rw[jM] at h ⊢
 split
 ·rename_i e;rw[if_pos e] at h;exact h
 ·rename_i e;rw[if_neg e] at h;rw[jM,if_neg e];exact h
theorem tabA_rows{E s:Nat}{rows:List (List jX)}{x y:Option (List SV)}:∀ (j:Nat) r,rows[j]?=some r→kD ((0,x)::(1,y)::dA E s rows) (j+2)=some ((qE r).map .d):=fun j r h=>by
 rw[jM,if_neg (by omega),jM,if_neg (by omega)];exact tabA_row h
section
variable {P:Program} {N:Fr} {c:Code} {Q:Exit→PS→Prop} {S:SL} {B:BS}
theorem pwp_fixS(t:Nat){k T s n:Nat}(ht:kJ S t=.own k T s n)(h:∀ ao cap,qG P N c Q ⟨(t,.ownx k T s n (.slice ao n cap))::S,B⟩):qG P N c Q ⟨S,B⟩:=fun C a w M hn ⟨D,β,hs⟩=>by
 have hr:=hs.slots t
 dsimp only at hr
 rw[ht] at hr
 obtain ⟨ao,cap,hv⟩:∃ ao cap,a.tmps.getD t undef=.slice ao n cap:=by
  rcases hr with ⟨_,h2,h3⟩ | ⟨b,cap,vs,_,h3,_⟩
  ·exact ⟨_,_,by rw[h3,h2]⟩
  ·exact ⟨_,_,h3⟩
 refine h ao cap C a w M hn ⟨D,β,hs.base,hs.mem,hs.high,fun u=>?_⟩
 show qF w D β _ (kJ ((t,_)::S) u)
 rw[uB]
 split
 ·rename_i e;subst e;exact ⟨hv,hr⟩
 ·exact hs.slots u
theorem oMvx{o:Oper}{k T s n:Nat}{u:Value}(h:mvK o=true:=by kernel_rfl)(hx:mvV S o=.ownx k T s n u:=by kernel_rfl):vJ P o (kJ S) [] (.d (.val u)) :=
 (hx▸qC h).weaken fun w D β v hv=>by
  have e:v=u:=hv.1
  subst e
  exact vI.val v
theorem tab_app{o:Oper}{T E1 t':TypeId}{x y:Operand}{bytes E s m:Nat}{zv:List Value}{rows:List (List jX)}{d:jX}{M:Fr}(ho:o.op=.call { callee:=.builtin .append,args:=#[x,y],argTypes:=#[T,T] })
  (hd:nB M o.dst=true) (hT:vM P T=some (E1,1)) (hz:yE P E1=some zv) (hzl:zv.length=1) (hby:yL P E1=some bytes) (hx:ev (kJ S) x=.own 0 E1 1 m) (hm:m=rows.length) (hb:kD B 0=some (cG E s 2 rows))
  (hB:∀ j c,j≠0→kD B j=some c→qL 0 c=false)
  (hy:ev (kJ S) y=.d (.sl t' 1 [d])) (hd1:d.cells=[d]) (hbig:rows.length+1≤maxLen) (hbig':(rows.length+1)*bytes≤140737488355328) {m2:Nat} (hm2:rows.length+1=m2)
  (C:bI) (a:Act) (w:World) (Q:Exit→Act→World→Prop) (hn:C.n=M) (hs:cX C a w ⟨S,B⟩) :
  o.wp P a w (fun a' w'=>cX C a' w' ⟨fH o.dst (.own 0 E1 1 m2) (nT 0 S),(0,some (cG E s 2 rows++[.d d]))::B⟩) Q:=by
 subst hm
 subst hm2
 have h:=app_soundG (P:=P) (st:=⟨S,B⟩) (k:=0) (cs:=cG E s 2 rows) (es':=[d]) (N:=M) ho hd hT hz hzl hby hx hb (rowC_names (.inl (by decide))) (by rw[fU,Nat.mul_one]) hy hbig hbig' hB C a w Q hn hs
 rw[show (qE [d]).map SV.d=[.d d] by rw[mX,flat_nil,hd1];rfl] at h
 exact h
theorem names2_sget{p q:Nat}{S:SL}(h:(S.all fun e=>!e.2.names p&&!e.2.names q)=true)(t:Nat):(kJ S t).names p=false∧(kJ S t).names q=false:=by
 induction S with
 |nil=>exact ⟨rfl,rfl⟩
 |cons e S ih=>
  obtain ⟨j,x⟩:=e
  simp only[List.all_cons,Bool.and_eq_true,Bool.not_eq_true'] at h
  rw[uB]
  split
  ·exact h.1
  ·exact ih (by simpa using h.2)
theorem tab_push{S':SL}{E s cap m:Nat}{ao:Option Addr}{rows:List (List jX)}{r:List jX}(t:Nat)(hm:r.length=m)(ht:kJ S t=.ownx 1 E s m (.slice ao m cap))(h0:kD B 0=some (cG E s 2 rows++[.d (.val (.slice ao m cap))]))
  (h1:kD B 1=some ((qE r).map .d)) (hr:∀ (j:Nat) r',rows[j]?=some r'→kD B (j+2)=some ((qE r').map .d)) (hs1:S'.map (fun p=>kJ S p.1)=S'.map (·.2)) (hn:(S'.all fun p=>!p.2.names (rows.length+2)&&!p.2.names 1)=true) :
  vB ⟨S,B⟩ ⟨S',dA E s (rows++[r])⟩:=fun C a w ⟨D,β,hs⟩=>by
 subst hm
 have hβ:∀ j,j≠rows.length+2→(fun i=>if i=rows.length+2 then β 1 else β i:qH) j=β j:=fun j hj=>by simp [hj]
 have hβ0:(fun i=>if i=rows.length+2 then β 1 else β i:qH) (rows.length+2)=β 1:=by simp
 generalize (fun i=>if i=rows.length+2 then β 1 else β i:qH)=β' at hβ hβ0
 have tgt:∀ {i c},kD (dA E s (rows++[r])) i=some c→(i=0∧c=cG E s 2 (rows++[r]))∨(∃ j r',i=j+2∧rows[j]?=some r'∧c=(qE r').map SV.d)∨(i=rows.length+2∧c=(qE r).map SV.d):=fun {i c} hi=>by
  have hi:kD ((0,some (cG E s 2 (rows++[r])))::tabB 2 (rows++[r])) i=some c:=hi
  rw[jM] at hi
  split at hi
  ·rename_i e;injection hi with hi;exact .inl ⟨e.symm,hi.symm⟩
  ·rw[bH] at hi
   split at hi
   ·rw[Option.map_eq_some_iff] at hi
    obtain ⟨r',hr',rfl⟩:=hi
    by_cases hlt:i-2<rows.length
    ·rw[List.getElem?_append_left hlt] at hr'
     exact .inr (.inl ⟨i-2,r',by omega,hr',rfl⟩)
    ·have hl:=(List.getElem?_eq_some_iff.1 hr').1
     simp only[List.length_append,List.length_cons,List.length_nil] at hl
     have e:i-2=rows.length:=by omega
     rw[e] at hr'
     simp at hr'
     subst hr'
     exact .inr (.inr ⟨by omega,rfl⟩)
   ·cases hi
 -- where a block of the new state lay
 have src:∀ {i c},kD (dA E s (rows++[r])) i=some c→∃ q c',kD B q=some c'∧β' i=β q∧(i=rows.length+2→q=1)∧(i≠rows.length+2→q=i)∧q≠rows.length+2:=fun {i c} hi=>by
  rcases tgt hi with ⟨rfl,_⟩ | ⟨j,r',rfl,hr',_⟩ | ⟨rfl,_⟩
  ·exact ⟨0,_,h0,hβ _ (by omega),fun e=>by omega,fun _=>rfl,by omega⟩
  ·have hlt:=(List.getElem?_eq_some_iff.1 hr').1
   exact ⟨j+2,_,hr j r' hr',hβ _ (by omega),fun e=>by omega,fun _=>rfl,by omega⟩
  ·exact ⟨1,_,h1,hβ0,fun _=>rfl,fun e=>absurd rfl e,by omega⟩
 have hne1:∀ {i c},kD (dA E s (rows++[r])) i=some c→i≠1:=fun {i c} hi e=>by
  rcases tgt hi with ⟨h,_⟩ | ⟨j,r',h,_,_⟩ | ⟨h,_⟩<;>omega
 refine ⟨D,β',hs.base,⟨fun i c hi=>?_,fun i1 i2 c1 c2 q1 q2 b e1 e2=>?_⟩,fun i c hi b e=>?_,fun u=>?_⟩
 ·rcases tgt hi with ⟨rfl,rfl⟩ | ⟨j,r',rfl,hr',rfl⟩ | ⟨rfl,rfl⟩
  ·rcases hs.mem.ok 0 _ h0 with ⟨_,h⟩ | ⟨b,vs,T,g1,g2,g3,g4,g5⟩
   ·simp at h
   ·refine .inr ⟨b,vs,T,(hβ 0 (by omega)).trans g1,g2,by rw[fU];simpa [fU] using g3,fun i x hx=>?_,g5⟩
    rw[rowC_get,Option.map_eq_some_iff] at hx
    obtain ⟨r',hr',rfl⟩:=hx
    by_cases hlt:i<rows.length
    ·rw[List.getElem?_append_left hlt] at hr'
     obtain ⟨u,e1,e2,e3⟩:=g4 i (.own (2+i) E s r'.length) (by rw[List.getElem?_append_left (by rw[fU];exact hlt),rowC_get,hr'];rfl)
     exact ⟨u,e1,e2,e3.frame hβ (by simp only[SV.names];rw[← Bool.not_eq_true];exact fun e=>by have:=Nat.eq_of_beq_eq_true e;omega)⟩
    ·have hl:=(List.getElem?_eq_some_iff.1 hr').1
     simp only[List.length_append,List.length_cons,List.length_nil] at hl
     have e:i=rows.length:=by omega
     subst e
     simp at hr'
     subst hr'
     obtain ⟨u,e1,e2,e3⟩:=g4 rows.length (.d (.val (.slice ao r.length cap))) (by rw[List.getElem?_append_right (by rw[fU];omega),fU,Nat.sub_self];rfl)
     have eu:=xD e3
     have hrep:=hs.slots t
     dsimp only at hrep
     rw[ht] at hrep
     obtain ⟨ev,hrep⟩:=hrep
     rw[ev,← eu] at hrep
     refine ⟨u,e1,e2,?_⟩
     show qF w D β' u (.own (2+rows.length) E s r.length)
     rw[Nat.add_comm]
     rcases hrep with ⟨k1,k2,k3⟩ | ⟨b',cap',vs',k1,k2⟩
     ·exact .inl ⟨hβ0.trans k1,k2,k3⟩
     ·exact .inr ⟨b',cap',vs',hβ0.trans k1,k2⟩
  ·have hlt:=(List.getElem?_eq_some_iff.1 hr').1
   exact (hs.mem.ok _ _ (hr j r' hr')).frame hβ (by omega) (gF _ id _)
  ·rcases hs.mem.ok 1 _ h1 with ⟨g1,g2⟩ | ⟨b,vs,T,g1,g2,g3,g4,g5⟩
   ·exact .inl ⟨hβ0.trans g1,g2⟩
   ·refine .inr ⟨b,vs,T,hβ0.trans g1,g2,g3,fun i x hx=>?_,g5⟩
    obtain ⟨u,e1,e2,e3⟩:=g4 i x hx
    rw[List.getElem?_map,Option.map_eq_some_iff] at hx
    obtain ⟨d,_,rfl⟩:=hx
    exact ⟨u,e1,e2,e3⟩
 ·obtain ⟨p1,d1,g1,b1,n1,m1,_⟩:=src q1
  obtain ⟨p2,d2,g2,b2,n2,m2,_⟩:=src q2
  have hp:=hs.mem.inj p1 p2 d1 d2 g1 g2 b (b1.symm.trans e1) (b2.symm.trans e2)
  have w1:=hne1 q1
  have w2:=hne1 q2
  by_cases x1:i1=rows.length+2<;>by_cases x2:i2=rows.length+2
  ·omega
  ·have:=n1 x1;have:=m2 x2;omega
  ·have:=m1 x1;have:=n2 x2;omega
  ·have:=m1 x1;have:=m2 x2;omega
 ·obtain ⟨p1,d1,g1,b1,_⟩:=src hi
  exact hs.high _ _ g1 b (b1.symm.trans e)
 ·obtain ⟨hnm,_⟩:=names2_sget hn u
  show qF w D β' _ (kJ S' u)
  rcases xS hs1 u with h | h
  ·rw[h];trivial
  ·have h2:=hs.slots u
   rw[h] at hnm ⊢
   exact h2.frame hβ hnm
end
theorem sg_range{N k:Nat}(h:k<N):sg (List.range N) N k=k:=by unfold sg;rw[List.getElem?_range h];rfl
theorem nd_of{M:Nat}:∀ {ks:List Nat},ks.Nodup→(∀ k∈ks,k<M)→ndB M ks=true
 |[],_,_=>rfl
 |k::ks,h1,h2=>by
  rw[List.nodup_cons] at h1
  simp only[ndB,Bool.and_eq_true,Bool.not_eq_true',Nat.blt_eq]
  refine ⟨⟨h2 k (by simp),?_⟩,nd_of h1.2 fun j hj=>h2 j (by simp [hj])⟩
  rw[← Bool.not_eq_true,yJ]
  exact h1.1
theorem nd_range(N:Nat):ndB N (List.range N)=true:=nd_of List.nodup_range fun k hk=>List.mem_range.1 hk
theorem rb_tabB{N:Nat}:∀ (rows:List (List jX)) (k:Nat),k+rows.length≤N→RB (List.range N) N (tabB k rows) (tabB k rows)
 |[],k,h=>.nil
 |r::rs,k,h=>by
  simp only[List.length_cons] at h
  exact .cons (List.getElem?_range (by omega)) (ren_dat _ _) (rb_tabB rs (k+1) (by omega))
theorem rowC_ren{N E s:Nat}:∀ (rows:List (List jX)) (k:Nat),k+rows.length≤N→(cG E s k rows).map (SV.ren (sg (List.range N) N))=cG E s k rows
 |[],k,h=>rfl
 |r::rs,k,h=>by
  simp only[List.length_cons] at h
  simp only[cG,List.map_cons]
  rw[rowC_ren rs (k+1) (by omega)]
  show SV.own (sg (List.range N) N k) E s r.length::_=_
  rw[sg_range (by omega)]
theorem rb_tab{E s:Nat}(rows:List (List jX)):RB (List.range (rows.length+2)) (rows.length+2) (dA E s rows) (dA E s rows) :=
 .cons (List.getElem?_range (by omega)) (rowC_ren rows 2 (by omega)) (rb_tabB rows 2 (by omega))
section
variable {P:Program} {n:Fr} {ops:Array Oper} {K:SL→BS→Prop} {S:SL} {l:List Oper} {o:Oper}
def SV.isD:SV→Bool
 |.d _=>true
 |_=>false
theorem isD_okV{S:SL}(h:(S.all fun p=>p.2.isD)=true)(ks:List Nat)(M t:Nat):okV ks M [] [] (kJ S t)=true:=by
 induction S with
 |nil=>rfl
 |cons p S ih=>
  obtain ⟨j,x⟩:=p
  simp only[List.all_cons,Bool.and_eq_true] at h
  rw[uB]
  split
  ·cases x with
   |d x=>rfl
   |_=>cases h.1
  ·exact ih h.2
theorem bget_app2{X Z:BS}{j:Nat}{c:List SV}(_:True):kD X j=some c→kD (X++Z) j=some c:=by
 induction X with
 |nil=>intro h;simp [kD] at h
 |cons p X ih=>
  obtain ⟨q,x⟩:=p
  intro h
  show kD ((q,x)::(X++Z)) j=_
  rw[jM] at h ⊢
  split
  ·rename_i e;rw[if_pos e] at h;exact h
  ·rename_i e;rw[if_neg e] at h;exact ih h
theorem zTab{f:FuncId}{y:Operand}{args:List Operand}{ats:Array TypeId}{ds:List jX}{Eo E s m:Nat}{rows:List (List jX)}(hf:xH P f (ds.map SV.d) [] (.own 0 Eo 1 rows.length) (dA E s rows))(hm:rows.length=m)
  (r:SK P n ops K ((dO o,.own 0 Eo 1 m)::S) (dA E s rows) l) (ho:o.op=.call { callee:=.value y,args:=args.toArray,argTypes:=ats }:=by exact rfl) (hy:ev (kJ S) y=.d (.val (.func (.func f) #[] #[])):=by kernel_rfl) (g:goK n ops S o=true:=by kernel_rfl)
  (hx:args.map (ev (kJ S))=ds.map SV.d:=by kernel_rfl) (hS:(S.all fun p=>p.2.isD)=true:=by kernel_rfl):SK P n ops K S [] (o::l):=by
 subst hm
 obtain ⟨hd,hg,hdB⟩:=yK g
 have hok:∀ (ks:List Nat) (M:Nat) (t:Nat),kJ (cutS ks M [] [] S) t=kJ S t:=fun ks M t=>by
  rw[sget_cut,isD_okV hS ks M t];rfl
 refine zX (S1:=(dO o,.own 0 Eo 1 rows.length)::S) (B1:=dA E s rows) (fun C a w Q hn' hs=>?_) hg r
 have hcall:=call_op (C:=C) (a:=a) (w:=w) (Q:=Q) (S0:=S) (B0:=[]) (ks:=List.range (rows.length+2)) (F:=[]) (M:=rows.length+2) (ex:=[]) (o:=o) hf ho (.fn hy) (by
   rw[List.append_nil,hx,List.map_map];rfl) (by rw[hn',hd];exact hdB) (nd_range _) .nil (rb_tab rows) rfl .nil rfl (fun j c _ h=>by cases h) hs
 rw[hd] at hcall
 refine Oper.wp_mono (fun a' w' h=>?_) hcall
 refine nI (fun t=>?_) (fun k c hk=>?_) C a' w' h
 ·show kJ ((dO o,_)::S) t=.junk∨kJ ((dO o,_)::S) t=kJ ((dO o,_)::cutS _ _ _ _ S) t
  rw[uB,uB]
  split
  ·refine .inr ?_
   show _=SV.own (sg (List.range (rows.length+2)) (rows.length+2) 0) Eo 1 rows.length
   rw[sg_range (by omega)]
  ·rw[hok];exact .inr rfl
 ·exact bget_app2 trivial hk
end
theorem rowC_set{E s:Nat}:∀ (rows:List (List jX)) (k j:Nat) (r:List jX),r.length=(rows.getD j []).length→cG E s k (rows.set j r)=cG E s k rows
 |[],k,j,r,h=>rfl
 |x::rs,k,0,r,h=>by
  have h:r.length=x.length:=h
  simp only[List.set_cons_zero,cG,h]
 |x::rs,k,j+1,r,h=>by
  simp only[List.set_cons_succ,cG]
  rw[rowC_set rs (k+1) j r h]
theorem tab_set{S S':SL}{E s:Nat}{rows:List (List jX)}{j:Nat}{r:List jX}(hr:r.length=(rows.getD j []).length)(hj:j<rows.length)(hs:S'.map (fun p=>kJ S p.1)=S'.map (·.2)) :
  vB ⟨S,(j+2,some ((qE r).map .d))::dA E s rows⟩ ⟨S',dA E s (rows.set j r)⟩:=by
 refine nI (xS hs) fun i c hi=>?_
 have hi:kD ((0,some (cG E s 2 (rows.set j r)))::tabB 2 (rows.set j r)) i=some c:=hi
 rw[jM] at hi ⊢
 by_cases h0:0=i
 ·rw[if_pos h0,rowC_set rows 2 j r hr] at hi
  rw[if_neg (by omega)]
  show kD ((0,some (cG E s 2 rows))::tabB 2 rows) i=some c
  rw[jM,if_pos h0];exact hi
 ·rw[if_neg h0,bH] at hi
  split at hi
  ·rename_i h2
   rw[List.getElem?_set] at hi
   by_cases h3:j+2=i
   ·rw[if_pos h3]
    rw[if_pos (by omega),if_pos (by omega)] at hi
    exact hi
   ·rw[if_neg h3]
    rw[if_neg (by omega)] at hi
    show kD ((0,some (cG E s 2 rows))::tabB 2 rows) i=some c
    rw[jM,if_neg h0,bH,if_pos h2];exact hi
  ·cases hi
section
variable {P:Program} {n:Fr} {ops:Array Oper} {K:SL→BS→Prop} {S S0 S1:SL} {B B0 B1:BS} {l:List Oper} {o:Oper} {news:List Nat} {acc0:List (List Nat × List Nat)}
theorem kdr{id:Nat}{Q:Exit→PS→Prop}(S1:SL)(B1:BS)(hm:P.follows .mixedOrders=true)(h:DK P n l.toArray (KI S1 B1) [] [] S0 B0 l)(hq:Q .normal ⟨S1,B1⟩)(hb:backB l.toArray=true:=by kernel_rfl)(hp:l.all nK=true:=by kernel_rfl):qG P n (.region id l.toArray true) Q ⟨S0,B0⟩:=fun C a w N hn hs=>by
 obtain ⟨st1,acc,h1,h0,h2⟩:=h
 subst hn
 exact wpIn_region_any hm (draw_sound (C:=C) rfl (by simpa using h1) (by simpa using h0) hb (by simpa using hp) (fun a' w' hs'=>⟨_,h2 C a' w' hs',hq⟩) hs)
theorem wI(h:vB ⟨S,B⟩ ⟨S1,B1⟩)(h7:orderB ops acc0=true:=by kernel_rfl):DK P n ops (KI S1 B1) news acc0 S B []:=⟨⟨S,B⟩,[],.nil,by simpa using h7,h⟩
theorem tab_ld{T E s:TypeId}{x:Operand}{rows:List (List jX)}{j:Nat}{m:Nat}(hs:qW P T=some (false,1))(hj:j<rows.length)(hm:(rows.getD j []).length=m)(ho:o.op=.load T x:=by exact rfl)(hx:ev (kJ S) x=.ref 0 j:=by exact rfl):ROk P o S (dA E s rows) 0 (.own (j+2) E s m) :=
 ⟨cG E s 2 rows,e_ld1 ho hx hs (by
  subst hm
  rw[rowC_get,List.getElem?_eq_getElem hj]
  simp only[Option.map_some,List.getD_eq_getElem?_getD,List.getElem?_eq_getElem hj,Option.getD_some]
  rw[Nat.add_comm]),by show kD ((0,_)::tabB 2 rows) 0=_;rw[jM,if_pos rfl]⟩
end
theorem flat_lenS{s:Nat}:∀ (r:List jX),(∀ e∈r,e.cells.length=s)→(qE r).length=r.length*s
 |[],_=>by simp [flat_nil]
 |e::r,h=>by
  rw[mX,List.length_append,h e (by simp),List.length_cons,Nat.add_mul,flat_lenS r (fun x hx=>h x (by simp [hx]))]
  omega
theorem tab_pubs{S:SL}{E s:Nat}:∀ (rows:List (List jX)) (k:Nat) (done:List SV) (B:BS),0<k→(∀ r∈rows,∀ e∈r,e.cells.length=s)→kD B 0=some (done++cG E s k rows)→(∀ (j:Nat) (r:List jX),rows[j]?=some r→kD B (k+j)=some ((qE r).map .d)) →
  vB ⟨S,B⟩ ⟨S,[(0,some (done++rows.map fun r=>.d (.sl E s r)))]⟩
 |[],k,done,B,hk,hc,h0,hb=>by
  simp only[cG,List.append_nil] at h0
  simp only[List.map_nil,List.append_nil]
  refine nI (fun t=>.inr rfl) fun i c hi=>?_
  rw[jM] at hi
  split at hi
  ·rename_i e;subst e;rw[h0];exact hi
  ·cases hi
 |r::rs,k,done,B,hk,hc,h0,hb=>by
  have hr:=hc r (by simp)
  have hl:((qE r).map SV.d).length=r.length*s:=by rw[List.length_map,flat_lenS r hr]
  have h1:=eD (st:=⟨S,B⟩) (j:=0) (k:=k) (s:=s) (m:=r.length) (T:=E) (pre:=done) (post:=cG E s (k+1) rs) (cs:=(qE r).map .d) (es:=r) h0 (by omega) (by have:=hb 0 r rfl;simpa using this) hr rfl (by rw[← hl,List.take_length])
  have h2:=tab_pubs (S:=S) rs (k+1) (done++[.d (.sl E s r)]) ((0,some (done++.d (.sl E s r)::cG E s (k+1) rs))::(k,none)::B) (by omega) (fun x hx=>hc x (by simp [hx])) (by rw[jM,if_pos rfl,List.append_assoc];rfl) (fun j x hx=>by
   rw[jM,if_neg (by omega),jM,if_neg (by omega),show k+1+j=k+(j+1) by omega]
   exact hb (j+1) x (by simpa using hx))
  rw[List.append_assoc] at h2
  exact h1.trans h2
theorem tab_pub{S:SL}{E s:Nat}(rows:List (List jX))(hc:∀ r∈rows,∀ e∈r,e.cells.length=s):vB ⟨S,dA E s rows⟩ ⟨S,[(0,some (rows.map fun r=>.d (.sl E s r)))]⟩ :=
 tab_pubs rows 2 [] (dA E s rows) (by decide) hc (by show kD ((0,_)::tabB 2 rows) 0=_;rw[jM,if_pos rfl];rfl) fun j r h=>by
  rw[Nat.add_comm];exact tabA_row h
end Go.Fid
