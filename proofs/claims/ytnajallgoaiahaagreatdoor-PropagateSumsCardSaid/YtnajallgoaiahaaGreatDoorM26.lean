/- Part 26 of a proof: rules, plain facts, and functions walked. -/
import Derived.Test.YtnajallgoaiahaaGreatDoorM25
import Derived.Test.YtnajallgoaiahaaGreatDoorM22
set_option linter.all false
set_option maxRecDepth 4000
namespace Go.Proofs.YtnajallgoaiahaaGreatDoor
open Go.Fid
theorem by24:yI Tryz.prog 24=some 24:=by kernel_rfl
theorem cb18:callB Tryz.prog 18=true:=by kernel_rfl
theorem cb22:callB Tryz.prog 22=true:=by kernel_rfl
theorem el32:vA Tryz.prog 32=some (23,1):=by kernel_rfl
theorem el33:vA Tryz.prog 33=some (24,1):=by kernel_rfl
theorem sh23:qO Tryz.prog 23=some (false,1):=by kernel_rfl
theorem ze23:zJ Tryz.prog 23=some [.slice none 0 0]:=by kernel_rfl
theorem ze24:zJ Tryz.prog 24=some [.slice none 0 0]:=by kernel_rfl
theorem zo23:aJ [.slice none 0 0] [.sl 83 7 []]:=by simp [aJ,Value.oneCell']
theorem zo24:aJ [.slice none 0 0] [.sl 45 4 []]:=by simp [aJ,Value.oneCell']
theorem p_tab(ts:List (List kN))(hts:∀ t∈ts,xK 1048576 t)(xs:List Rat)(hx:∀ q∈xs,QL q 1048576)(q:List (List jO))(hq:xG 1048576 q)(hjs:∀ t∈ts,fS (List.map gD xs) t)(hr:gQ q q.length xs.length)(hf:mW q xs.length=0)(hxq:xs.length=q.length)(h1:1≤ts.length)(h64:ts.length≤64):jQ Tryz.prog 18 [(.sl 23 1 (List.map xE ts)),(.sl 45 4 (List.map jK (List.map jP xs))),(.sl 24 1 (List.map jL q))] (.tup [(.sl 24 1 (List.map jL (gF q (List.map (qW xs) ts)))),(.val (.int .i64 (((0:Nat):Int))))]):=by
 have hx64:xs.length≤64:=hr.c64
 have hqm:=hr.r64
 have hgo:=grs_ok (runs_of hjs) h64
 have hgl:(List.map (qW xs) ts).length=ts.length:=List.length_map _
 have hc0:=rect_chk hr
 have hr0:=rect_0 hr
 have hxn:((List.map jP xs).length)=xs.length:=List.length_map _
 have hgx:(List.map gD xs).length=xs.length:=List.length_map _
 refine jG Tryz.func18 rfl cb18 rfl ?_
 show qK _ _ _ _ ⟨[(0,(vl 23 1 xE ts)),(1,(vl 45 4 jK (List.map jP xs))),(2,(vl 24 1 jL q))],[]⟩
 refine jB<|kx [] [] (zE (dZ 24 1)<|zM<|zZ) ?_
 refine jB<|jB<|kx [(31,(vb false))] [] (zM<|zE (jZ (p_pts xs hx (by omega)))<|zE (jZ (p_val (List.map gD xs) (pts_gl hx) (by omega)))<|zE nF<|zM<|zM<|zE (jZ (m_chk q hq))<|zE (xD false cM (by exact bne_eq_false_iff_eq.2 (by rw[show (nZ q)=0 from hc0]<;>rfl)))<|zE zG<|zZ) ?_
 refine kY ?_
 refine jD<|jB<|jB<|kx [(34,(vb (((ts.length:Nat):Int) == ((0:Nat):Int))))] [] (zM<|zE (vC el32)<|zE yQ<|zZ) ?_
 refine jF rfl (fun h1=>?_) (fun h1=>?_)
 ·replace h1:=eq_of_beq h1
  exfalso;omega
 ·replace h1:=ne_of_beq_false h1
  refine jD<|jB<|jB<|kx [(37,(vb (decide (((64:Nat):Int)<((ts.length:Nat):Int)))))] [] (zM<|zE (vC el32)<|zE mT<|zZ) ?_
  refine jF rfl (fun h2=>?_) (fun h2=>?_)
  ·replace h2:=vI h2
   exfalso;omega
  ·replace h2:=vM h2
   refine jD<|jB<|jB<|kx [(38,(vl 23 1 xE ts)),(39,(jV ts.length)),(40,(jV 0))] [] (zM<|zE (vC el32)<|zM<|zZ) ?_
   refine jH<|kL (α:=Nat) (fun i=>⟨[(0,(vl 23 1 xE ts)),(1,(vl 45 4 jK (List.map jP xs))),(2,(vl 24 1 jL q)),(38,(vl 23 1 xE ts)),(39,(jV ts.length)),(40,(jV i))],[]⟩) (fun i=>i≤ts.length) (fun i=>ts.length-i) 0 wk (Nat.zero_le _) ?_
   rintro i hi
   refine jB<|kx [(41,(vb (decide (((i:Nat):Int)<((ts.length:Nat):Int)))))] [] (zE xT<|zZ) ?_
   refine jB<|jF rfl (fun h3=>?_) (fun h3=>?_)
   ·replace h3:=vI h3
    refine jD<|jB<|jH<|jB<|kx [(9,(vl 83 7 kK (ts.getD i [])))] [] (zE (yL el32 i ([]:List (kN)))<|zE (yR sh23)<|zM<|zZ) ?_
    refine jB<|kx [(10,(jV (mP ((xs.length:Nat):Int) (ts.getD i []))))] [] (zM<|zM<|zE (oLn uI xs.length)<|zE (jZ (j_chk (ts.getD i []) (tms_at hts i) ((xs.length:Nat):Int)))<|zM<|zZ) ?_
    refine jB<|kx [(49,(vb false))] [] (zM<|zE (xD false cM (by exact bne_eq_false_iff_eq.2 (by rw[show (mP ((xs.length:Nat):Int) (ts.getD i []))=0 from (tms_c0 (runs_of hjs) (show i<ts.length by omega))]<;>rfl)))<|zZ) ?_
    refine kY ?_
    refine jD<|kx [(40,(jV (i+1)))] [] (zE (vY (i+1))<|zM<|zZ) ?_
    exact ⟨i+1,wk,(by omega),(by first|omega|(dsimp only;omega))⟩
   ·replace h3:=vM h3
    refine kJ<|jB<|jB<|kx [(11,(jV (mW q xs.length)))] [] (zM<|zM<|zE (oLn uI xs.length)<|zE (jZ (p_fit q hq xs.length hr0))<|zM<|zZ) ?_
    refine jB<|kx [(57,(vb false))] [] (zM<|zE (xD false cM (by exact bne_eq_false_iff_eq.2 (by rw[show (mW q xs.length)=0 from hf]<;>rfl)))<|zZ) ?_
    refine kY ?_
    refine jD<|jB<|kx [(12,(.own 0 24 1 0))] [(0,some (bm jL []))] (zO 0 24 1<|zZ) ?_
    refine jB<|jB<|kx [(59,(vl 23 1 xE ts)),(60,(jV ts.length)),(61,(jV 0))] [] (zM<|zE (vC el32)<|zM<|zZ) ?_
    refine jH<|kL (α:=Nat × List (List jO)) (fun (i,o)=>⟨[(1,(vl 45 4 jK (List.map jP xs))),(2,(vl 24 1 jL q)),(12,(.own 0 24 1 o.length)),(59,(vl 23 1 xE ts)),(60,(jV ts.length)),(61,(jV i))],[(0,some (bm jL o))]⟩) (fun (i,o)=>i≤ts.length∧o=(ts.take i).map (qW xs)) (fun (i,o)=>ts.length-i) (0,[]) wk ⟨Nat.zero_le _,by simp⟩ ?_
    rintro ⟨i,o⟩ ⟨hi,ho⟩
    have hol:o.length=i:=by rw[ho,List.length_map,List.length_take];omega
    refine jB<|kx [(62,(vb (decide (((i:Nat):Int)<((ts.length:Nat):Int)))))] [] (zE xT<|zZ) ?_
    refine jB<|jF rfl (fun h4=>?_) (fun h4=>?_)
    ·replace h4:=vI h4
     refine jD<|jB<|jH<|jB<|kx [(14,(vl 83 7 kK (ts.getD i [])))] [] (zE (yL el32 i ([]:List (kN)))<|zE (yR sh23)<|zM<|zZ) ?_
     refine jB<|kx [(15,(vl 45 4 jK (qW xs (ts.getD i [])))),(16,(jV 0))] [] (zM<|zM<|zE (jZ (p_grd (ts.getD i []) (tms_at hts i) xs hx (mem_at hjs (show i<ts.length by omega)) (by omega)))<|zM<|zE vT<|zE vT<|zM<|zM<|zZ) ?_
     refine jB<|jB<|kx [(72,(vb false))] [] (zM<|zE (xD false cM)<|zZ) ?_
     refine kY ?_
     refine jD<|kf [(12,(.own 0 24 1 ((o++[(qW xs (ts.getD i []))]).length)))] [(0,some (bm jL (o++[(qW xs (ts.getD i []))])))] (zM<|zM<|zE (dG el33 ze24 zo24)<|zA jL o [(qW xs (ts.getD i []))] rfl el33 ze24 by24<|zM<|zF) ?_
     refine kx [(61,(jV (i+1)))] [] (zE (vY (i+1))<|zM<|zZ) ?_
     exact ⟨(i+1,o++[qW xs (ts.getD i [])]),wk,⟨by omega,by rw[ho];exact dJ (by omega)⟩,(by first|omega|(dsimp only;omega))⟩
    ·replace h4:=vM h4
     have hgs:o=(List.map (qW xs) ts):=by rw[ho,show i=ts.length by omega,List.take_length]
     refine kJ<|jB<|kx [(17,(.own 1 24 1 0))] [(1,some (bm jL []))] (zOh 1 24 1<|zZ) ?_
     refine jB<|jB<|kW (vX (t:=12) (k:=0) (es:=List.map jL o) rfl rfl (uS _ _ (fun _=>rfl)) (uT _ _ rfl) (vS _ _ (fun _=>rfl) rfl)) ?_
     refine kx [(79,(vl 24 1 jL (List.map (qW xs) ts))),(80,(jV ((List.map (qW xs) ts).length))),(81,(jV 0))] [] (zE (oQd (.sl 24 1 (List.map jL o)) (.sl 24 1 (List.map jL (List.map (qW xs) ts))) (oV (vl 24 1 jL o) (kV (by kernel_rfl))) (by exact (by rw[hgs])))<|zE (vC el33 (L:=(List.map (qW xs) ts)))<|zM<|zZ) ?_
     refine jH<|kL (α:=Nat × List (List jO)) (fun (i,u)=>⟨[(2,(vl 24 1 jL q)),(12,(vl 24 1 jL o)),(17,(.own 1 24 1 u.length)),(79,(vl 24 1 jL (List.map (qW xs) ts))),(80,(jV ((List.map (qW xs) ts).length))),(81,(jV i))],[(1,some (bm jL u))]⟩) (fun (i,u)=>i≤(List.map (qW xs) ts).length∧u=((List.map (qW xs) ts).take i).map (fun a=>(List.map (qW xs) ts).map fun b=>jP (xU q a b))) (fun (i,u)=>(List.map (qW xs) ts).length-i) (0,[]) wk ⟨Nat.zero_le _,by simp⟩ ?_
     rintro ⟨i,u⟩ ⟨hi2,hu⟩
     have hul:u.length=i:=by rw[hu,List.length_map,List.length_take];omega
     refine jB<|kx [(82,(vb (decide (((i:Nat):Int)<(((List.map (qW xs) ts).length:Nat):Int)))))] [] (zE xT<|zZ) ?_
     refine jB<|jF rfl (fun h5=>?_) (fun h5=>?_)
     ·replace h5:=vI h5
      obtain ⟨hli0,hvi⟩:=grs_at (runs_of hjs) (show i<(List.map (qW xs) ts).length by omega)
      have hli:=hli0.trans hxq
      refine jD<|jB<|jH<|jB<|kx [(19,(vl 45 4 jK ((List.map (qW xs) ts).getD i [])))] [] (zE (yL el33 i ([]:List (jO)) (L:=(List.map (qW xs) ts)))<|zE (yR yG)<|zM<|zZ) ?_
      refine jB<|kx [(20,(.own 2 45 4 0))] [(2,some (cC jK []))] (zOh 2 45 4<|zZ) ?_
      refine jB<|jB<|kx [(85,(vl 24 1 jL (List.map (qW xs) ts))),(86,(jV ((List.map (qW xs) ts).length))),(87,(jV 0))] [] (zE (oQd (.sl 24 1 (List.map jL o)) (.sl 24 1 (List.map jL (List.map (qW xs) ts))) (oV (vl 24 1 jL o) (kV (by kernel_rfl))) (by exact (by rw[hgs])))<|zE (vC el33 (L:=(List.map (qW xs) ts)))<|zM<|zZ) ?_
      refine jH<|kL (α:=Nat × List jO) (fun (j,v)=>⟨[(2,(vl 24 1 jL q)),(12,(vl 24 1 jL o)),(17,(.own 1 24 1 u.length)),(19,(vl 45 4 jK ((List.map (qW xs) ts).getD i []))),(20,(.own 2 45 4 v.length)),(79,(vl 24 1 jL (List.map (qW xs) ts))),(80,(jV ((List.map (qW xs) ts).length))),(81,(jV i)),(85,(vl 24 1 jL (List.map (qW xs) ts))),(86,(jV ((List.map (qW xs) ts).length))),(87,(jV j))],[(1,some (bm jL u)),(2,some (cC jK v))]⟩) (fun (j,v)=>j≤(List.map (qW xs) ts).length∧v=((List.map (qW xs) ts).take j).map (fun b=>jP (xU q ((List.map (qW xs) ts).getD i []) b))) (fun (j,v)=>(List.map (qW xs) ts).length-j) (0,[]) wk ⟨Nat.zero_le _,by simp⟩ ?_
      rintro ⟨j,v⟩ ⟨hj2,hv⟩
      have hvl:v.length=j:=by rw[hv,List.length_map,List.length_take];omega
      refine jB<|kx [(88,(vb (decide (((j:Nat):Int)<(((List.map (qW xs) ts).length:Nat):Int)))))] [] (zE xT<|zZ) ?_
      refine jB<|jF rfl (fun h6=>?_) (fun h6=>?_)
      ·replace h6:=vI h6
       obtain ⟨hlj0,hvj⟩:=grs_at (runs_of hjs) (show j<(List.map (qW xs) ts).length by omega)
       have hlj:=hlj0.trans hxq
       have hrj:gQ q q.length ((List.map (qW xs) ts).getD j []).length:=by rw[hlj0];exact hr
       refine jD<|jB<|jH<|jB<|kx [(22,(vl 45 4 jK ((List.map (qW xs) ts).getD j [])))] [] (zE (yL el33 j ([]:List (jO)) (L:=(List.map (qW xs) ts)))<|zE (yR yG)<|zM<|zZ) ?_
       refine kf [(20,(.own 2 45 4 ((v++[(jP (xU q ((List.map (qW xs) ts).getD i []) ((List.map (qW xs) ts).getD j [])))]).length)))] [(2,some (cC jK (v++[(jP (xU q ((List.map (qW xs) ts).getD i []) ((List.map (qW xs) ts).getD j [])))])))] (zM<|zM<|zM<|zM<|zE (jZ (m_cov q hq ((List.map (qW xs) ts).getD i []) (xM (d:=[]) hgo (show i<(List.map (qW xs) ts).length by omega)) ((List.map (qW xs) ts).getD j []) (xM (d:=[]) hgo (show j<(List.map (qW xs) ts).length by omega)) hrj hvj hli hlj))<|zE (dG uI uL uQ)<|zAS jK v [(jP (xU q ((List.map (qW xs) ts).getD i []) ((List.map (qW xs) ts).getD j [])))] rfl uI uL by45<|zM<|zF) ?_
       refine kx [(87,(jV (j+1)))] [] (zE (vY (j+1))<|zM<|zZ) ?_
       exact ⟨(j+1,v++[jP (xU q ((List.map (qW xs) ts).getD i []) ((List.map (qW xs) ts).getD j []))]),wk,⟨by omega,by rw[hv];exact dJ (f:=fun b=>jP (xU q ((List.map (qW xs) ts).getD i []) b)) (by omega)⟩,(by first|omega|(dsimp only;omega))⟩
      ·replace h6:=vM h6
       refine kJ<|kW (vX (t:=20) (k:=2) (es:=List.map jK v) rfl rfl (nD _ _ (fun _=>rfl)) (uT _ _ rfl) (mL jK v (fun _=>rfl) rfl)) ?_
       refine kf [(17,(.own 1 24 1 ((u++[v]).length)))] [(1,some (bm jL (u++[v])))] (zM<|zM<|zE (dG mC ze24 zo24)<|zA jL u [v] rfl mC ze24 by24<|zM<|zF) ?_
       refine kx [(81,(jV (i+1)))] [] (zE (vY (i+1))<|zM<|zZ) ?_
       exact ⟨(i+1,u++[v]),wk,⟨by omega,by rw[hu,hv,show j=(List.map (qW xs) ts).length by omega,List.take_length];exact dJ (f:=fun a=>(List.map (qW xs) ts).map fun b=>jP (xU q a b)) (by omega)⟩,(by first|omega|(dsimp only;omega))⟩
     ·replace h5:=vM h5
      refine kJ<|jB<|kx [(6,(.own 1 24 1 u.length)),(7,(jV 0))] [] (zM<|zM<|zM<|zZ) ?_
      refine kW (vX (t:=6) (k:=1) (es:=List.map jL u) rfl rfl (uS _ _ (fun _=>rfl)) (uT _ _ rfl) (vS _ _ (fun _=>rfl) rfl)) ?_
      refine jE ⟨_,(.tmp (d:=(.sl 24 1 (List.map jL u))) rfl (.tmp (d:=(.val (.int .i64 (((0:Nat):Int))))) rfl .nil)),?_⟩
      rw[hu,show i=(List.map (qW xs) ts).length by omega,List.take_length];rfl
theorem p_var(t:List kN)(ht:xK 1048576 t)(xs:List Rat)(hx:∀ q∈xs,QL q 1048576)(q:List (List jO))(hq:xG 1048576 q)(hj:fS (List.map gD xs) t)(hr:gQ q q.length xs.length)(hf:mW q xs.length=0)(hxq:xs.length=q.length):jQ Tryz.prog 22 [(.sl 83 7 (List.map kK t)),(.sl 45 4 (List.map jK (List.map jP xs))),(.sl 24 1 (List.map jL q))] (.tup [(jK (jP (xU q (qW xs t) (qW xs t)))),(.val (.int .i64 (((0:Nat):Int))))]):=by
 have hx64:xs.length≤64:=hr.c64
 have hjs:∀ u∈[t],fS (List.map gD xs) u:=one_of hj
 have ht1:(gF q (List.map (qW xs) [t])).length=1:=rfl
 have ht2:((gF q (List.map (qW xs) [t])).getD 0 []).length=1:=rfl
 let y1:=(jK (((gF q (List.map (qW xs) [t])).getD 0 []).getD 0 qM))
 refine jG Tryz.func22 rfl cb22 rfl ?_
 show qK _ _ _ _ ⟨[(0,(vl 83 7 kK t)),(1,(vl 45 4 jK (List.map jP xs))),(2,(vl 24 1 jL q))],[]⟩
 refine jB<|kx [(6,(.ref 0 0))] [(0,some (bx (jK qM)))] (zN (uB 0 uL uQ)<|zM<|zZ) ?_
 refine jB<|kx [(8,(vl 24 1 jL (gF q (List.map (qW xs) [t])))),(9,(jV 0))] [] (zM<|zE (dG el32 ze23 zo23)<|zM<|zM<|zE (jZ (p_tab [t] (tms_one ht) xs hx q hq hjs hr hf hxq (Nat.le_refl 1) (xlb rfl)))<|zM<|zE vT<|zE vT<|zM<|zM<|zZ) ?_
 refine jB<|jB<|kx [(19,(vb false))] [] (zM<|zE (xD false cM)<|zZ) ?_
 refine kY ?_
 refine jD<|jB<|kx [(7,(jV 0))] [(0,some (bx y1))] (zM<|zE (yL mC 0 ([]:List (jO)) (L:=(gF q (List.map (qW xs) [t]))))<|zE (yR yG)<|zE (yL uI 0 qM (L:=((gF q (List.map (qW xs) [t])).getD 0 [])))<|zE (nA jS)<|zT (qD jS)<|zM<|zZ) ?_
 refine jE ⟨_,(kP (cs:=(bx y1)) (d:=y1) rfl rfl jS rfl rfl (.tmp (d:=(.val (.int .i64 (((0:Nat):Int))))) rfl .nil)),?_⟩
 rfl
end Go.Proofs.YtnajallgoaiahaaGreatDoor
namespace Go.Fid
section
variable {P:Program} {N:Fr} {c:Code} {Q:Exit→PS→Prop} {S:SL} {B:BS}
end
section
variable {P:Program} {n:Fr} {ops:Array Oper} {K:SL→BS→Prop} {S:SL} {l:List Oper} {o:Oper}
def SV.isD:SV→Bool
 |.d _=>true
 |_=>false
end
section
variable {P:Program} {n:Fr} {ops:Array Oper} {K:SL→BS→Prop} {S S0 S1:SL} {B B0 B1:BS} {l:List Oper} {o:Oper} {news:List Nat} {acc0:List (List Nat × List Nat)}
end
open Go.RowKit (Below)
def rn(ks:List Nat):SV→Option SV
 |.ref k o=>(ks[k]?).map fun j=>.ref j o
 |.own k t s n=>(ks[k]?).map fun j=>.own j t s n
 |.clo f l=>(l.mapM fun k=>ks[k]?).map fun l'=>.clo f l'
 |.view k o n=>(ks[k]?).map fun j=>.view j o n
 |.pr k t s n x=>(ks[k]?).map fun j=>.pr j t s n x
 |.refx k o b=>(ks[k]?).map fun j=>.refx j o b
 |.bnd f k o=>(ks[k]?).map fun j=>.bnd f j o
 |.ownx k t s n u=>(ks[k]?).map fun j=>.ownx j t s n u
 |x=>some x
def rnL(ks:List Nat):List SV→Option (List SV)
 |[]=>some []
 |x::l=>match rn ks x,rnL ks l with
  |some y,some l'=>some (y::l')
  |_,_=>none
theorem rnL_get{ks:List Nat}:∀ {c c2:List SV},rnL ks c=some c2→c2.length=c.length∧∀ i:Nat,(∀ x,c[i]?=some x→∃ y,c2[i]?=some y∧rn ks x=some y)∧∀ y,c2[i]?=some y→∃ x,c[i]?=some x∧rn ks x=some y
 |[],c2,h=>by
  injection h with h;subst h
  exact ⟨rfl,fun i=>⟨fun x hx=>by simp at hx,fun y hy=>by simp at hy⟩⟩
 |x::l,c2,h=>by
  unfold rnL at h
  split at h
  ·rename_i y l' hy hl
   injection h with h;subst h
   obtain ⟨h1,h2⟩:=rnL_get hl
   refine ⟨by simp [h1],fun i=>?_⟩
   cases i with
   |zero=>exact ⟨fun z hz=>by simp at hz;subst hz;exact ⟨y,rfl,hy⟩,fun z hz=>by simp at hz;subst hz;exact ⟨x,rfl,hy⟩⟩
   |succ i=>exact ⟨fun z hz=>(h2 i).1 z (by simpa using hz),fun z hz=>(h2 i).2 z (by simpa using hz)⟩
  ·cases h
theorem mapM_get{ks:List Nat}:∀ {l l':List Nat},(l.mapM fun k=>ks[k]?)=some l'→l'.length=l.length∧∀ (i k:Nat),l[i]?=some k→∃ j,l'[i]?=some j∧ks[k]?=some j
 |[],l',h=>by
  simp at h;subst h
  exact ⟨rfl,fun i k hk=>by simp at hk⟩
 |k::l,l',h=>by
  rw[List.mapM_cons] at h
  cases h1:ks[k]? with
  |none=>rw[h1] at h;cases h
  |some j=>
   cases h2:l.mapM (fun k=>ks[k]?) with
   |none=>rw[h1,h2] at h;cases h
   |some m=>
    rw[h1,h2] at h
    injection h with h;subst h
    obtain ⟨g1,g2⟩:=mapM_get h2
    refine ⟨by simp [g1],fun i q hq=>?_⟩
    cases i with
    |zero=>simp at hq;subst hq;exact ⟨j,rfl,h1⟩
    |succ i=>exact g2 i q (by simpa using hq)
theorem rep_rn{w:World}{D:qG}{β γ:qE}{ks:List Nat}{v:Value}{x y:SV}(h:rn ks x=some y)(hg:∀ k j,ks[k]?=some j→γ k=β j):qC w D γ v x↔qC w D β v y:=by
 cases x with
 |d x=>injection h with h;subst h;exact Iff.rfl
 |emp=>injection h with h;subst h;exact Iff.rfl
 |junk=>injection h with h;subst h;exact Iff.rfl
 |hob u b ob=>injection h with h;subst h;exact Iff.rfl
 |clo f l=>
  unfold rn at h
  rw[Option.map_eq_some_iff] at h
  obtain ⟨l',hl,rfl⟩:=h
  obtain ⟨g1,g2⟩:=mapM_get hl
  constructor
  ·rintro ⟨vs,h1,h2,h3⟩
   refine ⟨vs,h1,h2.trans g1.symm,fun i j hj=>?_⟩
   have hlt:i<l.length:=by rw[← g1];exact (List.getElem?_eq_some_iff.1 hj).1
   obtain ⟨q,e1,e2⟩:=g2 i _ (List.getElem?_eq_getElem hlt)
   rw[hj] at e1
   injection e1 with e1;subst e1
   rw[← hg _ _ e2]
   exact h3 i _ (List.getElem?_eq_getElem hlt)
  ·rintro ⟨vs,h1,h2,h3⟩
   refine ⟨vs,h1,h2.trans g1,fun i k hk=>?_⟩
   obtain ⟨q,e1,e2⟩:=g2 i k hk
   rw[hg _ _ e2]
   exact h3 i q e1
 |ref k o | own k t s n | view k o n | pr k t s n x | refx k o b | bnd f k o | ownx k t s n u=>
  unfold rn at h
  rw[Option.map_eq_some_iff] at h
  obtain ⟨j,hj,rfl⟩:=h
  simp only[qC,hg k j hj]
theorem blk_rn{w:World}{D:qG}{β γ:qE}{ks:List Nat}{k j:Nat}{c c2:List SV}(h:rnL ks c=some c2)(hk:ks[k]?=some j)(hg:∀ k j,ks[k]?=some j→γ k=β j):uO w D γ k c↔uO w D β j c2:=by
 obtain ⟨h1,h2⟩:=rnL_get h
 have e:=hg k j hk
 constructor
 ·rintro (⟨g1,g2⟩ | ⟨b,vs,T,g1,g2,g3,g4,g5⟩)
  ·subst g2
   exact .inl ⟨e.symm.trans g1,List.eq_nil_of_length_eq_zero (by simpa using h1)⟩
  ·refine .inr ⟨b,vs,T,e.symm.trans g1,g2,by omega,fun i y hy=>?_,g5⟩
   obtain ⟨x,e1,e2⟩:=(h2 i).2 y hy
   obtain ⟨u,f1,f2,f3⟩:=g4 i x e1
   exact ⟨u,f1,f2,(rep_rn e2 hg).1 f3⟩
 ·rintro (⟨g1,g2⟩ | ⟨b,vs,T,g1,g2,g3,g4,g5⟩)
  ·subst g2
   exact .inl ⟨e.trans g1,List.eq_nil_of_length_eq_zero (by simpa using h1.symm)⟩
  ·refine .inr ⟨b,vs,T,e.trans g1,g2,by omega,fun i x hx=>?_,g5⟩
   obtain ⟨y,e1,e2⟩:=(h2 i).1 x hx
   obtain ⟨u,f1,f2,f3⟩:=g4 i y e1
   exact ⟨u,f1,f2,(rep_rn e2 hg).2 f3⟩
inductive RBi (ks:List Nat):BS→BS→Prop
 |nil:RBi ks [] []
 |cons {k j:Nat} {c c2:List SV} {B B2:BS} (hk:ks[k]?=some j) (hc:rnL ks c=some c2) (h:RBi ks B B2):RBi ks ((k,some c)::B) ((j,some c2)::B2)
def ndI:List Nat→Bool
 |[]=>true
 |k::ks=>!(eO ks k)&&ndI ks
theorem bM:∀ {ks:List Nat},ndI ks=true→∀ {k q j:Nat},ks[k]?=some j→ks[q]?=some j→k=q
 |[],_,k,q,j,h1,_=>by simp at h1
 |p::ks,h,k,q,j,h1,h2=>by
  simp only[ndI,Bool.and_eq_true,Bool.not_eq_true'] at h
  have hno:∀ i:Nat,ks[i]?≠some p:=fun i e=>by
   have:=zY.2 (List.mem_of_getElem? e);rw[h.1] at this;cases this
  cases k with
  |zero=>
   cases q with
   |zero=>rfl
   |succ q=>simp at h1 h2;subst h1;exact absurd h2 (hno q)
  |succ k=>
   cases q with
   |zero=>simp at h1 h2;subst h2;exact absurd h1 (hno k)
   |succ q=>simp at h1 h2;rw[bM h.2 h1 h2]
theorem RBi.to{ks:List Nat}(hn:ndI ks=true){B B2:BS}(h:RBi ks B B2):∀ {k:Nat} {c:List SV},kB B k=some c→∃ j c2,ks[k]?=some j∧kB B2 j=some c2∧rnL ks c=some c2:=by
 induction h with
 |nil=>intro k c hk;simp [kB] at hk
 |@cons q j c1 c2 B B2 hk hc h ih=>
  intro k c hg
  rw[jM] at hg
  split at hg
  ·rename_i e;subst e
   injection hg with hg;subst hg
   exact ⟨j,c2,hk,by rw[jM,if_pos rfl],hc⟩
  ·rename_i hne
   obtain ⟨j',d,h1,h2,h3⟩:=ih hg
   exact ⟨j',d,h1,by rw[jM,if_neg (fun e=>by subst e;exact hne (bM hn hk h1)),h2],h3⟩
theorem RBi.back{ks:List Nat}(hn:ndI ks=true){B B2:BS}(h:RBi ks B B2):∀ {j:Nat} {c2:List SV},kB B2 j=some c2→∃ k c,ks[k]?=some j∧kB B k=some c∧rnL ks c=some c2:=by
 induction h with
 |nil=>intro k c hk;simp [kB] at hk
 |@cons q j c1 c2 B B2 hk hc h ih=>
  intro i d hg
  rw[jM] at hg
  split at hg
  ·rename_i e;subst e
   injection hg with hg;subst hg
   exact ⟨q,c1,hk,by rw[jM,if_pos rfl],hc⟩
  ·rename_i hne
   obtain ⟨k,c,h1,h2,h3⟩:=ih hg
   exact ⟨k,c,h1,by rw[jM,if_neg (fun e=>by subst e;rw[hk] at h1;injection h1 with h1;exact hne h1),h2],h3⟩
theorem RBi.some{ks:List Nat}{B B2:BS}(h:RBi ks B B2):∀ p∈B2,∃ c,p.2=.some c:=by
 induction h with
 |nil=>intro p hp;cases hp
 |cons hk hc h ih=>
  intro p hp
  rcases List.mem_cons.1 hp with e | e
  ·subst e;exact ⟨_,rfl⟩
  ·exact ih p e
def pinI(ks:List Nat)(j:Nat):SV→Bool
 |.ref k _=>decide (ks[k]?=some j)
 |.clo _ l=>l.any fun k=>decide (ks[k]?=some j)&&!Nat.beq k 9
 |_=>false
inductive FixI (ks:List Nat) (B B':BS):List Nat→Prop
 |nil:FixI ks B B' []
 |cons {k q o b j:Nat} {G:List Nat} (hj:ks[k]?=some j) (h1:kB B q=some [.refx k o b]) (h2:kB B' q=some [.refx k o b]) (h:FixI ks B B' G):FixI ks B B' (j::G)
theorem FixI.at{ks:List Nat}{B B':BS}{G:List Nat}(h:FixI ks B B' G){j:Nat}(hj:j∈G):∃ k q o b,ks[k]?=some j∧kB B q=some [.refx k o b]∧kB B' q=some [.refx k o b]:=by
 induction h with
 |nil=>cases hj
 |cons e h1 h2 h ih=>
  rcases List.mem_cons.1 hj with rfl | hj
  ·exact ⟨_,_,_,_,e,h1,h2⟩
  ·exact ih hj
section
variable {P:Program}
theorem effI{xs:List SV}{B B2:BS}{r x:SV}{B' B2':BS}{ks mv G:List Nat}{w w':World}{D D':qG}{β β':qE}{v:Value}(hn:ndI ks=true)(hB:RBi ks B B2)(hB':RBi ks B' B2')(hr:rn ks r=some x)
  (hG:FixI ks B B' G) (hmv:(ks.all fun j=>eO mv j||(xs.any (pinI ks j))||eO G j)=true) (γ:qE) (hγ:∀ k j,ks[k]?=some j→γ k=β j) (hp:SPost w D γ xs B r B' v w' D' β') (hmem:Mem w D γ B):∃ βn,SEff w D β B2 B2' mv v x w' D' βn:=by
 obtain ⟨βn,hβ1,hβ2⟩:∃ βn:qE,(∀ k j,ks[k]?=some j→β' k=βn j)∧∀ j,j∉ks→βn j=β j:=by
  classical
  refine ⟨fun j=>if h:∃ k,ks[k]?=some j then β' h.choose else β j,fun k j hk=>?_,fun j h1=>?_⟩
  ·have hx:∃ q,ks[q]?=some j:=⟨k,hk⟩
   show β' k=(if h:∃ q,ks[q]?=some j then β' h.choose else β j)
   rw[dif_pos hx,bM hn hx.choose_spec hk]
  ·show (if h:∃ q,ks[q]?=some j then β' h.choose else β j)=β j
   rw[dif_neg]
   rintro ⟨k,hk⟩
   exact h1 (List.mem_of_getElem? hk)
 have hmine:∀ b,yV γ B b→yV β B2 b:=fun b ⟨k,c,h1,h2⟩=>by
  obtain ⟨j,c2,e1,e2,_⟩:=hB.to hn h1
  exact ⟨j,c2,e2,(hγ _ _ e1).symm.trans h2⟩
 refine ⟨βn,⟨⟨hp.below.os,hp.below.tape,hp.below.output,hp.below.size,fun k hk hm=>hp.below.block k hk fun h=>hm (hmine k h),hp.below.shape⟩,hp.keep,hp.oth,hp.up,fun t g o hd=>?_,hp.dok,⟨fun j c hj=>?_,fun j1 j2 c1 c2 q1 q2 b e1 e2=>?_⟩,fun j c hj b hb=>?_,fun j hj=>?_,(rep_rn hr hβ1).1 hp.res⟩⟩
 ·rcases hp.new t g o hd with h | h | h
  ·exact .inl h
  ·exact .inr (.inl h)
  ·exact .inr (.inr (hmine g h))
 ·obtain ⟨k,c0,e1,e2,e3⟩:=hB'.back hn hj
  exact (blk_rn e3 e1 hβ1).1 (hp.mem.ok k c0 e2)
 ·obtain ⟨k1,d1,f1,f2,_⟩:=hB'.back hn q1
  obtain ⟨k2,d2,g1,g2,_⟩:=hB'.back hn q2
  rw[← hβ1 _ _ f1] at e1
  rw[← hβ1 _ _ g1] at e2
  have:=hp.mem.inj k1 k2 d1 d2 f2 g2 b e1 e2
  subst this
  rw[f1] at g1
  injection g1
 ·obtain ⟨k,d,f1,f2,_⟩:=hB'.back hn hj
  rw[← hβ1 _ _ f1] at hb
  rcases hp.high k d f2 b hb with h | h
  ·exact .inl h
  ·exact .inr (hmine b h)
 ·by_cases hjk:j∈ks
  ·have h1:=List.all_eq_true.1 hmv j hjk
   rw[Bool.or_eq_true,Bool.or_eq_true] at h1
   rcases h1 with (h1 | h1) | h1
   ·exact absurd (zY.1 h1) hj
   ·obtain ⟨y,hy,e⟩:=List.any_eq_true.1 h1
    obtain ⟨i,hi⟩:=List.getElem?_of_mem hy
    cases y with
    |ref q o=>
     have e:=of_decide_eq_true e
     rw[← hβ1 _ _ e,← hγ _ _ e]
     exact hp.same i _ hi q (by simp [SV.pins])
    |clo g js=>
     obtain ⟨q,hq,e⟩:=List.any_eq_true.1 e
     rw[Bool.and_eq_true] at e
     have e1:=of_decide_eq_true e.1
     rw[← hβ1 _ _ e1,← hγ _ _ e1]
     exact hp.same i _ hi q (List.any_eq_true.2 ⟨q,hq,by rw[e.2];simp⟩)
    |_=>cases e
   ·obtain ⟨k,q,o,b,e,g1,g2⟩:=hG.at (zY.1 h1)
    have e1:=refx_at hmem g1
    have e2:=refx_at hp.mem g2
    rw[← hβ1 _ _ e,← hγ _ _ e,e2]
    exact e1.symm
  ·exact hβ2 j hjk
def CallV(P:Program)(o:Oper)(S:Nat→SV)(f:FuncId)(ys:List SV):Prop :=
 callB P f=true→∀ (a:Act) (w:World) (D:qG) (β:qE),(∀ q∈o.op.operands,qC w D β (a.eval q) (ev S q)) →
  ∃ us:List Value,(execOp a.eval o).run P w=.ok (.enter f us.toArray) w∧us.length=ys.length∧∀ (i:Nat) v x,us[i]?=some v→ys[i]?=some x→qC w D β v x
theorem callV_fn{o:Oper}{S:Nat→SV}{y:Operand}{args:List Operand}{ats:Array TypeId}{ex:List SV}{f:FuncId}{ys:List SV}(ho:o.op=.call { callee:=.value y,args:=args.toArray,argTypes:=ats })(hy:FnV S y f ex)(hx:args.map (ev S)++ex=ys):CallV P o S f ys:=fun hm a w D β hop=>by
 obtain ⟨us,hrun,hul,hur⟩:=fnv_run hop ho hm hy
 refine ⟨args.map a.eval++us,hrun,by rw[← hx];simp [hul],fun i v z hv e1=>?_⟩
 rw[← hx] at e1
 by_cases hlt:i<args.length
 ·rw[List.getElem?_append_left (by simpa using hlt)] at hv e1
  rw[List.getElem?_map,Option.map_eq_some_iff] at hv
  obtain ⟨p,hqi,rfl⟩:=hv
  have hm:=hop p (by simp [ho,Op.operands,Call.operands,List.mem_of_getElem? hqi])
  rw[List.getElem?_map,hqi,Option.map_some,Option.some.injEq] at e1
  rw[← e1];exact hm
 ·rw[List.getElem?_append_right (by simpa using hlt)] at hv e1
  simp only[List.length_map] at hv e1
  exact hur _ v _ hv e1
theorem sok_of{o:Oper}{S:Nat→SV}{f:FuncId}{xs ys:List SV}{B B2:BS}{r x:SV}{B' B2':BS}{ks mv G:List Nat}
  (hf:vO P f xs B r B') (hc:CallV P o S f ys) (hxs:rnL ks xs=some ys) (hn:ndI ks=true)
  (hB:RBi ks B B2) (hB':RBi ks B' B2') (hr:rn ks r=some x) (hG:FixI ks B B' G) (hmv:(ks.all fun j=>eO mv j||(xs.any (pinI ks j))||eO G j)=true):SOk P o S B2 B2' mv x:=fun a w D β Q hop hmem2 hD=>by
 obtain ⟨us,hrun,hul,hur⟩:=hc hf.may a w D β hop
 obtain ⟨γ,hγ⟩:∃ γ:qE,∀ k j,ks[k]?=some j→γ k=β j:=⟨fun k=>(ks[k]?).bind β,fun k j hk=>by show (ks[k]?).bind β=β j;rw[hk];rfl⟩
 have hmem:Mem w D γ B:=⟨fun k c hk=>by
  obtain ⟨j,c2,e1,e2,e3⟩:=hB.to hn hk
  exact (blk_rn e3 e1 hγ).2 (hmem2.ok j c2 e2),fun k1 k2 c1 c2 q1 q2 b e1 e2=>by
  obtain ⟨j1,d1,f1,f2,_⟩:=hB.to hn q1
  obtain ⟨j2,d2,g1,g2,_⟩:=hB.to hn q2
  rw[hγ _ _ f1] at e1
  rw[hγ _ _ g1] at e2
  have:=hmem2.inj j1 j2 d1 d2 f2 g2 b e1 e2
  subst this
  exact bM hn f1 g1⟩
 obtain ⟨hl1,hl2⟩:=rnL_get hxs
 have qU:us.length=xs.length:=hul.trans hl1
 have hrep:∀ (i:Nat) v z,us[i]?=some v→xs[i]?=some z→qC w D γ v z:=fun i v z hv hz=>by
  obtain ⟨y',e1,e2⟩:=(hl2 i).1 z hz
  exact (rep_rn e2 hγ).2 (hur i v y' hv e1)
 refine nO hrun ((hf.run w D γ _ hD hmem qU hrep).mono fun e w' h=>?_)
 obtain ⟨v,D',β',he,hp⟩:=h
 obtain ⟨βn,hE⟩:=effI hn hB hB' hr hG hmv γ hγ hp hmem
 exact ⟨v,he,v,D',βn,rfl,hE⟩
end
theorem sok_sim{P:Program}{o:Oper}{C:bT}{a:Act}{w:World}{S0:SL}{B0 old new:BS}{mv:List Nat}{x:SV}{Q:Exit→Act→World→Prop}(h:SOk P o (kI S0) old new mv x)(hd:gV C.n o.dst=true)(hb:∀ p∈old,∃ c,p.2=some c∧kB B0 p.1=some c)(hks:new.map (·.1)=old.map (·.1))
  (hm:∀ k∈mv,k∈old.map (·.1)∧clrM (old.map (·.1)) k ⟨S0,B0⟩) (hs:dC C a w ⟨S0,B0⟩):o.wp P a w (fun a' w'=>dC C a' w' ⟨fO o.dst x S0,new++B0⟩) Q:=by
 obtain ⟨D,β,hs⟩:=hs
 have hop:∀ q,qC w D β (a.eval q) (ev (kI S0) q):=fun q=>by
  cases q with
  |tmp t=>exact hs.slots t
  |const v=>exact uW.val v
  |func f=>exact uW.val _
  |global g=>trivial
 have hcur:∀ k c,kB old k=some c→kB B0 k=some c:=fun k c hk=>by
  obtain ⟨c',e1,e2⟩:=hb _ (cP hk)
  injection e1 with e1;subst e1;exact e2
 have hmem:Mem w D β old:=⟨fun k c hk=>hs.mem.ok k c (hcur k c hk),fun k1 k2 c1 c2 q1 q2=>hs.mem.inj k1 k2 c1 c2 (hcur _ _ q1) (hcur _ _ q2)⟩
 refine Oper.wp_mono (fun a' wd' hp=>?_) (h a w D β Q (fun q _=>hop q) hmem hs.base.dok)
 obtain ⟨v,D',β',rfl,hE⟩:=hp
 have hmine:∀ b,yV β old b→C.own b:=fun b ⟨k,c,h1,h2⟩=>hs.high k c (hcur k c h1) b h2
 have hbase:fP C a wd' D':=⟨hs.base.defers.keep fun q hq _=>hE.oth q _ hq rfl,hs.base.size,fun t g o hd=>(hE.keep t g o (hs.base.dmono _ _ _ hd)).trans (hs.base.keep t g o hd),fun k o hk ho=>hE.oth k o (hs.base.oth k o hk ho) ho,hs.base.pin,
  ⟨hE.below.os.trans hs.base.below.os,hE.below.tape.trans hs.base.below.tape,hE.below.output.trans hs.base.below.output,Nat.le_trans hs.base.below.size hE.below.size,fun k hk hn=>(hE.below.block k (Nat.lt_of_lt_of_le hk hs.base.below.size) (fun hq=>by rcases hmine k hq with h1 | h1;omega;exact hn h1)).trans (hs.base.below.block k hk hn),fun k hk vs T f h1=>by
   obtain ⟨us,e1,e2⟩:=hs.base.below.shape k hk vs T f h1
   obtain ⟨us',g1,g2⟩:=hE.below.shape k (Nat.lt_of_lt_of_le hk hs.base.below.size) us T f e1
   exact ⟨us',g1,g2.trans e2⟩⟩,
  fun t g o hd=>hE.up _ _ _ (hs.base.dmono _ _ _ hd),fun t g o hd=>by
   rcases hE.dnew t g o hd with h1 | h1 | h1
   ·exact hs.base.dnew t g o h1
   ·exact .inr (hs.base.fresh h1)
   ·exact .inr (hmine g h1),hE.dok⟩
 have hkmv:∀ {k},k∉old.map (·.1)→k∉mv:=fun h1 h2=>h1 (hm _ h2).1
 have hnot:∀ {j c b},j∉old.map (·.1)→kB B0 j=some c→β j=some b→¬ yV β old b:=fun {j c b} hj hc hb ⟨k,c',h1,h2⟩=>by
  have:=hs.mem.inj j k _ _ hc (hcur k c' h1) b hb h2
  subst this
  exact hj (bget_in h1).1
 have hcase:∀ {j c},kB (new++B0) j=some c→(j∈old.map (·.1)∧kB new j=some c)∨(j∉old.map (·.1)∧kB B0 j=some c):=fun {j c} hc=>by
  by_cases hj:j∈old.map (·.1)
  ·rw[iC (by rw[hks];exact hj)] at hc
   exact .inl ⟨hj,hc⟩
  ·rw[bget_other (by rw[hks];exact hj)] at hc
   exact .inr ⟨hj,hc⟩
 have hlt:∀ {j c b},kB B0 j=some c→β j=some b→b<w.heap.size:=fun {j c b} hj hb'=>by
  rcases hs.mem.ok j c hj with ⟨q1,_⟩ | ⟨b2,vs,T,q1,q2,_⟩
  ·rw[q1] at hb';cases hb'
  ·rw[q1] at hb';injection hb' with e;subst e;exact uE q2
 refine ⟨D',β',hbase.put hd _,⟨fun j c hc'=>?_,fun k1 k2 c1 c2 q1 q2 b e1 e2=>?_⟩,fun j c hc' b hb'=>?_,fun t=>?_⟩
 ·rcases hcase hc' with ⟨h1,h2⟩ | ⟨h1,h2⟩
  ·exact hE.mem.ok j c h2
  ·refine hE.blk (hkmv h1) (fun b hb=>hnot h1 h2 hb) (fun q hq=>?_) (hs.mem.ok j c h2)
   rcases (hm q hq).2.2 _ (cP h2) with h | h
   ·exact absurd h h1
   ·exact h c rfl
 ·rcases hcase q1 with ⟨h1,h2⟩ | ⟨h1,h2⟩
  ·rcases hcase q2 with ⟨g1,g2⟩ | ⟨g1,g2⟩
   ·exact hE.mem.inj k1 k2 _ _ h2 g2 b e1 e2
   ·rw[hE.stay k2 (hkmv g1)] at e2
    rcases hE.high k1 _ h2 b e1 with h | h
    ·have:=hlt g2 e2;omega
    ·exact absurd h (hnot g1 g2 e2)
  ·rw[hE.stay k1 (hkmv h1)] at e1
   rcases hcase q2 with ⟨g1,g2⟩ | ⟨g1,g2⟩
   ·rcases hE.high k2 _ g2 b e2 with h | h
    ·have:=hlt h2 e1;omega
    ·exact absurd h (hnot h1 h2 e1)
   ·rw[hE.stay k2 (hkmv g1)] at e2
    exact hs.mem.inj k1 k2 _ _ h2 g2 b e1 e2
 ·rcases hcase hc' with ⟨h1,h2⟩ | ⟨h1,h2⟩
  ·rcases hE.high j _ h2 b hb' with h | h
   ·exact hs.base.fresh h
   ·exact hmine b h
  ·rw[hE.stay j (hkmv h1)] at hb'
   exact hs.high j c h2 b hb'
 ·rw[vH hs.base.size hd,uR]
  split
  ·exact hE.res
  ·exact hE.repS (fun k hk=>sl_clr (l:=[]) (r:=S0) (hm k hk).2 rfl t) (hs.slots t)
inductive FrM (ks mv:List Nat):BS→Prop
 |nil:FrM ks mv []
 |hid {k:Nat} {x:Option (List SV)} {B:BS} (hk:eO ks k=true) (h:FrM ks mv B):FrM ks mv ((k,x)::B)
 |none {k:Nat} {B:BS} (h:FrM ks mv B):FrM ks mv ((k,.none)::B)
 |dat {k:Nat} {ds:List jT} {B:BS} (h:FrM ks mv B):FrM ks mv ((k,some (ds.map SV.d))::B)
 |map {α:Type} {k:Nat} {G:α→jT} {L:List α} {B:BS} (h:FrM ks mv B):FrM ks mv ((k,some (L.map fun g=>SV.d (G g)))::B)
 |cells {k:Nat} {c:List SV} {B:BS} (hc:(mv.all fun q=>!(qN q c))=true) (h:FrM ks mv B):FrM ks mv ((k,some c)::B)
theorem namesAny_dat(k:Nat)(ds:List jT):qN k (ds.map SV.d)=false:=by
 unfold qN
 rw[List.any_eq_false]
 intro x hx
 obtain ⟨d,_,rfl⟩:=List.mem_map.1 hx
 simp [SV.names]
theorem namesAny_mapd{α:Type}(k:Nat)(G:α→jT)(L:List α):qN k (L.map fun g=>SV.d (G g))=false:=by
 unfold qN
 rw[List.any_eq_false]
 intro x hx
 obtain ⟨d,_,rfl⟩:=List.mem_map.1 hx
 simp [SV.names]
theorem FrM.ok{ks mv:List Nat}{B:BS}(h:FrM ks mv B){k:Nat}(hk:k∈mv):∀ p∈B,p.1∈ks∨∀ c,p.2=some c→qN k c=false:=by
 induction h with
 |nil=>intro p hp;cases hp
 |hid hk' h ih=>
  intro p hp;rcases List.mem_cons.1 hp with e | e
  ·subst e;exact .inl (zY.1 hk')
  ·exact ih p e
 |none h ih=>
  intro p hp;rcases List.mem_cons.1 hp with e | e
  ·subst e;exact .inr fun c hc=>by cases hc
  ·exact ih p e
 |dat h ih=>
  intro p hp;rcases List.mem_cons.1 hp with e | e
  ·subst e;exact .inr fun c hc=>by injection hc with hc;subst hc;exact namesAny_dat _ _
  ·exact ih p e
 |map h ih=>
  intro p hp;rcases List.mem_cons.1 hp with e | e
  ·subst e;exact .inr fun c hc=>by injection hc with hc;subst hc;exact namesAny_mapd _ _ _
  ·exact ih p e
 |cells hc h ih=>
  intro p hp;rcases List.mem_cons.1 hp with e | e
  ·subst e;exact .inr fun c hc'=>by injection hc' with hc';subst hc';simpa using List.all_eq_true.1 hc k hk
  ·exact ih p e
inductive NmM (news mv:List Nat):BS→Prop
 |nil:NmM news mv []
 |dat {k:Nat} {ds:List jT} {B:BS} (h:NmM news mv B):NmM news mv ((k,some (ds.map SV.d))::B)
 |map {α:Type} {k:Nat} {G:α→jT} {L:List α} {B:BS} (h:NmM news mv B):NmM news mv ((k,some (L.map fun g=>SV.d (G g)))::B)
 |cells {k:Nat} {c:List SV} {B:BS} (hc:(news.all fun q=>!(qN q c)||eO mv q)=true) (h:NmM news mv B):NmM news mv ((k,some c)::B)
theorem NmM.ok{news mv:List Nat}{B:BS}(h:NmM news mv B):∀ p∈B,∀ c,p.2=some c→∀ k∈news,qN k c=true→k∈mv:=by
 induction h with
 |nil=>intro p hp;cases hp
 |dat h ih=>
  intro p hp;rcases List.mem_cons.1 hp with e | e
  ·subst e;exact fun c hc k _ hn=>by injection hc with hc;subst hc;rw[namesAny_dat] at hn;cases hn
  ·exact ih p e
 |map h ih=>
  intro p hp;rcases List.mem_cons.1 hp with e | e
  ·subst e;exact fun c hc k _ hn=>by injection hc with hc;subst hc;rw[namesAny_mapd] at hn;cases hn
  ·exact ih p e
 |cells hc h ih=>
  intro p hp;rcases List.mem_cons.1 hp with e | e
  ·subst e;exact fun c hc' k hk hn=>by
                                      injection hc' with hc';subst hc'
                                      have:=List.all_eq_true.1 hc k hk
                                      rw[hn] at this
                                      exact zY.1 this
  ·exact ih p e
section
variable {P:Program} {n:Fr} {ops:Array Oper} {K:SL→BS→Prop} {S:SL} {B:BS} {l:List Oper} {o:Oper} {news:List Nat} {acc0:List (List Nat × List Nat)}
theorem wS{f:FuncId}{xs:List SV}{B1:BS}{r:SV}{B1':BS}(ks mv:List Nat)(x:SV)(ys:List SV)(B2 B2':BS)(hf:vO P f xs B1 r B1')(hB:RBi ks B1 B2)(hB':RBi ks B1' B2')(hM:FrM (B2.map (·.1)) mv B)(hN:NmM news mv B2')
  (rr:DK P n ops K (mv++news) (acc0++[(B2.map (·.1),B2.map (·.1))]) ((dO o,x)::S) (B2'++B) l) (hc:CallV P o (kI S) f ys:=by exact callV_fn (ex:=[]) (by exact rfl) (.fn (by kernel_rfl)) (by kernel_rfl)) (g:goK n ops S o=true:=by kernel_rfl)
  (hxs:rnL ks xs=some ys:=by kernel_rfl) (hr:rn ks r=some x:=by kernel_rfl) (hn:ndI ks=true:=by kernel_rfl) (hb:B2.map (fun p=>kB B p.1)=B2.map (·.2):=by kernel_rfl) (hks:B2'.map (·.1)=B2.map (·.1):=by kernel_rfl)
  (hsl:(S.all fun p=>mv.all fun k=>!p.2.names k)=true:=by kernel_rfl) (hin:(mv.all fun k=>eO (B2.map (·.1)) k)=true:=by kernel_rfl) (hcl:((mv++news).all fun k=>!x.names k)=true:=by kernel_rfl)
  (G:List Nat:=[]) (hG:FixI ks B1 B1' G:=by exact .nil) (hmv:(ks.all fun j=>eO mv j||(xs.any (pinI ks j))||eO G j)=true:=by kernel_rfl):DK P n ops K news acc0 S B (o::l):=by
 obtain ⟨st1,acc,r1,r0,r2⟩:=rr
 obtain ⟨hd,hg,hdB⟩:=yE g
 have hb':∀ p∈B2,∃ c,p.2=some c∧kB B p.1=some c:=fun p hp=>by
  obtain ⟨c,e⟩:=hB.some p hp
  exact ⟨c,e,(List.map_inj_left.1 hb p hp).trans e⟩
 have hs:=mD.s (P:=P) (n:=n) (ops:=ops) (news:=news) (st:=⟨S,B⟩) (o:=o) (sok_of hf hc hxs hn hB hB' hr hG hmv) hg (by rw[hd];exact hdB) hb' hks (wk:=B2.map (·.1)) (fun _ h=>h) (fun _ h hn=>absurd h hn)
  (fun k hk=>⟨zY.1 (List.all_eq_true.1 hin k hk),fun p hp=>by simpa using List.all_eq_true.1 (List.all_eq_true.1 hsl p hp) k hk,hM.ok hk⟩)
  (fun k hk=>by simpa using List.all_eq_true.1 hcl k (List.mem_append.2 hk)) hN.ok
 rw[hd] at hs
 exact ⟨st1,(B2.map (·.1),B2.map (·.1))::acc,.cons hs r1,by simpa using r0,r2⟩
end
section
variable {P:Program} {n:Fr} {ops:Array Oper} {K:SL→BS→Prop} {S:SL} {B:BS} {l:List Oper} {o:Oper}
end
section
variable {P:Program}
end
end Go.Fid
