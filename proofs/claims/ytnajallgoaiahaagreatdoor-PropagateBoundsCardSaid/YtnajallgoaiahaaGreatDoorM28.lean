/- Part 28 of a proof: rules, plain facts, and functions walked. -/
import Derived.Test.YtnajallgoaiahaaGreatDoorM27
import Derived.Test.YtnajallgoaiahaaGreatDoorM24
set_option linter.all false
set_option maxRecDepth 4000
namespace Go.Proofs.YtnajallgoaiahaaGreatDoor
open Go.Fid
theorem by24:yQ Tryz.prog 24=some 24:=by kernel_rfl
theorem el32:vN Tryz.prog 32=some (23,1):=by kernel_rfl
theorem el33:vN Tryz.prog 33=some (24,1):=by kernel_rfl
theorem sh23:qX Tryz.prog 23=some (false,1):=by kernel_rfl
theorem ze23:yI Tryz.prog 23=some [.slice none 0 0]:=by kernel_rfl
theorem ze24:yI Tryz.prog 24=some [.slice none 0 0]:=by kernel_rfl
theorem zo23:iB [.slice none 0 0] [.sl 83 7 []]:=by simp [iB,Value.oneCell']
theorem zo24:iB [.slice none 0 0] [.sl 45 4 []]:=by simp [iB,Value.oneCell']
theorem p_tab(ts:List (List qB))(hts:∀ t∈ts,zL 1048576 t)(xs:List Rat)(hx:∀ q∈xs,QL q 1048576)(q:List (List jR))(hq:uY 1048576 q)(hjs:∀ t∈ts,JRunP (List.map yX xs) t)(hr:yL q q.length xs.length)(hf:nP q xs.length=0)(hxq:xs.length=q.length)(h1:1<=ts.length)(h64:ts.length<=64):jO Tryz.prog 18 [(.sl 23 1 (List.map aF ts)),(.sl 45 4 (List.map jJ (List.map jN xs))),(.sl 24 1 (List.map jT q))] (.tup [(.sl 24 1 (List.map jT (tabR q (List.map (gP xs) ts)))),(.val (.int .i64 (((0:Nat):Int))))]):=by
 have hx64:xs.length<=64:=hr.c64
 have hqm:=hr.r64
 have hgo:=grs_ok (runs_of hjs) h64
 have hgl:(List.map (gP xs) ts).length=ts.length:=List.length_map _
 have hc0:=aM hr
 have hr0:=rect_0 hr
 have hxn:((List.map jN xs).length)=xs.length:=List.length_map _
 have hgx:(List.map yX xs).length=xs.length:=List.length_map _
 refine qY Tryz.func18 ?_
 refine jB<|kx [] [] (zE (aZ 24 1)<|zM<|zZ) ?_
 refine jB<|jB<|kx [(31,(vb false))] [] (zM<|zE (jV (p_pts xs hx (by omega)))<|zE (jV (p_val (List.map yX xs) (pts_gl hx) (by omega)))<|zE gD<|zM<|zM<|zE (jV (m_chk q hq))<|zE (uP false mF (by exact bne_eq_false_iff_eq.2 (by rw[show (mZ q)=0 from hc0]<;>rfl)))<|zE xQ<|zZ) ?_
 refine kM ?_
 refine jC<|jB<|jB<|kx [(34,(vb (((ts.length:Nat):Int) == ((0:Nat):Int))))] [] (zM<|zE (vP el32)<|zE xR<|zZ) ?_
 refine jG rfl (fun h1=>?_) (fun h1=>?_)
 ·replace h1:=eq_of_beq h1
  exfalso;omega
 ·replace h1:=ne_of_beq_false h1
  refine jC<|jB<|jB<|kx [(37,(vb (decide (((64:Nat):Int)<((ts.length:Nat):Int)))))] [] (zM<|zE (vP el32)<|zE hH<|zZ) ?_
  refine jG rfl (fun h2=>?_) (fun h2=>?_)
  ·replace h2:=uV h2
   exfalso;omega
  ·replace h2:=vB h2
   refine jC<|jB<|jB<|kx [(38,(vl 23 1 aF ts)),(39,(jS ts.length)),(40,(jS 0))] [] (zM<|zE (vP el32)<|zM<|zZ) ?_
   refine jH<|kF (α:=Nat) (fun i=>⟨[(0,(vl 23 1 aF ts)),(1,(vl 45 4 jJ (List.map jN xs))),(2,(vl 24 1 jT q)),(38,(vl 23 1 aF ts)),(39,(jS ts.length)),(40,(jS i))],[]⟩) (fun i=>i<=ts.length) (fun i=>ts.length-i) 0 wk (Nat.zero_le _) ?_
   rintro i hi
   refine jB<|kx [(41,(vb (decide (((i:Nat):Int)<((ts.length:Nat):Int)))))] [] (zE xK<|zZ) ?_
   refine jB<|jG rfl (fun h3=>?_) (fun h3=>?_)
   ·replace h3:=uV h3
    refine jC<|jB<|jH<|jB<|kx [(9,(vl 83 7 kS (ts.getD i [])))] [] (zE (yE el32 i ([]:List (qB)))<|zE (yV sh23)<|zM<|zZ) ?_
    refine jB<|kx [(10,(jS (gK ((xs.length:Nat):Int) (ts.getD i []))))] [] (zM<|zM<|zE (fO uQ xs.length)<|zE (jV (j_chk (ts.getD i []) (tms_at hts i) ((xs.length:Nat):Int)))<|zM<|zZ) ?_
    refine jB<|kx [(49,(vb false))] [] (zM<|zE (uP false mF (by exact bne_eq_false_iff_eq.2 (by rw[show (gK ((xs.length:Nat):Int) (ts.getD i []))=0 from (tms_c0 (runs_of hjs) (show i<ts.length by omega))]<;>rfl)))<|zZ) ?_
    refine kM ?_
    refine jC<|kx [(40,(jS (i+1)))] [] (zE (vO (i+1))<|zM<|zZ) ?_
    exact ⟨i+1,wk,(by omega),(by first|omega|(dsimp only;omega))⟩
   ·replace h3:=vB h3
    refine kD<|jB<|jB<|kx [(11,(jS (nP q xs.length)))] [] (zM<|zM<|zE (fO uQ xs.length)<|zE (jV (p_fit q hq xs.length hr0))<|zM<|zZ) ?_
    refine jB<|kx [(57,(vb false))] [] (zM<|zE (uP false mF (by exact bne_eq_false_iff_eq.2 (by rw[show (nP q xs.length)=0 from hf]<;>rfl)))<|zZ) ?_
    refine kM ?_
    refine jC<|jB<|kx [(12,(.own 0 24 1 0))] [(0,some (bm jT []))] (zO 0 24 1<|zZ) ?_
    refine jB<|jB<|kx [(59,(vl 23 1 aF ts)),(60,(jS ts.length)),(61,(jS 0))] [] (zM<|zE (vP el32)<|zM<|zZ) ?_
    refine jH<|kF (α:=Nat × List (List jR)) (fun (i,o)=>⟨[(1,(vl 45 4 jJ (List.map jN xs))),(2,(vl 24 1 jT q)),(12,(.own 0 24 1 o.length)),(59,(vl 23 1 aF ts)),(60,(jS ts.length)),(61,(jS i))],[(0,some (bm jT o))]⟩) (fun (i,o)=>i<=ts.length/\o=(ts.take i).map (gP xs)) (fun (i,o)=>ts.length-i) (0,[]) wk ⟨Nat.zero_le _,by simp⟩ ?_
    rintro ⟨i,o⟩ ⟨hi,ho⟩
    have hol:o.length=i:=by rw[ho,List.length_map,List.length_take];omega
    refine jB<|kx [(62,(vb (decide (((i:Nat):Int)<((ts.length:Nat):Int)))))] [] (zE xK<|zZ) ?_
    refine jB<|jG rfl (fun h4=>?_) (fun h4=>?_)
    ·replace h4:=uV h4
     refine jC<|jB<|jH<|jB<|kx [(14,(vl 83 7 kS (ts.getD i [])))] [] (zE (yE el32 i ([]:List (qB)))<|zE (yV sh23)<|zM<|zZ) ?_
     refine jB<|kx [(15,(vl 45 4 jJ (gP xs (ts.getD i [])))),(16,(jS 0))] [] (zM<|zM<|zE (jV (p_grd (ts.getD i []) (tms_at hts i) xs hx (mem_at hjs (show i<ts.length by omega)) (by omega)))<|zM<|zE uX<|zE uX<|zM<|zM<|zZ) ?_
     refine jB<|jB<|kx [(72,(vb false))] [] (zM<|zE (uP false mF)<|zZ) ?_
     refine kM ?_
     refine jC<|kf [(12,(.own 0 24 1 ((o++[(gP xs (ts.getD i []))]).length)))] [(0,some (bm jT (o++[(gP xs (ts.getD i []))])))] (zM<|zM<|zE (eE el33 ze24 zo24)<|zA jT o [(gP xs (ts.getD i []))] rfl el33 ze24 by24<|zM<|zF) ?_
     refine kx [(61,(jS (i+1)))] [] (zE (vO (i+1))<|zM<|zZ) ?_
     exact ⟨(i+1,o++[gP xs (ts.getD i [])]),wk,⟨by omega,by rw[ho];exact iT (by omega)⟩,(by first|omega|(dsimp only;omega))⟩
    ·replace h4:=vB h4
     have hgs:o=(List.map (gP xs) ts):=by rw[ho,show i=ts.length by omega,List.take_length]
     refine kD<|jB<|kx [(17,(.own 1 24 1 0))] [(1,some (bm jT []))] (zOh 1 24 1<|zZ) ?_
     refine jB<|jB<|kU (xC (t:=12) (k:=0) (es:=List.map jT o) rfl rfl (vD _ _ (fun _=>rfl)) (uW _ _ rfl) (xE _ _ (fun _=>rfl) rfl)) ?_
     refine kx [(79,(vl 24 1 jT (List.map (gP xs) ts))),(80,(jS ((List.map (gP xs) ts).length))),(81,(jS 0))] [] (zE (oQd (.sl 24 1 (List.map jT o)) (.sl 24 1 (List.map jT (List.map (gP xs) ts))) (oV (vl 24 1 jT o) (qC (by kernel_rfl))) (by exact (by rw[hgs])))<|zE (vP el33 (L:=(List.map (gP xs) ts)))<|zM<|zZ) ?_
     refine jH<|kF (α:=Nat × List (List jR)) (fun (i,u)=>⟨[(2,(vl 24 1 jT q)),(12,(vl 24 1 jT o)),(17,(.own 1 24 1 u.length)),(79,(vl 24 1 jT (List.map (gP xs) ts))),(80,(jS ((List.map (gP xs) ts).length))),(81,(jS i))],[(1,some (bm jT u))]⟩) (fun (i,u)=>i<=(List.map (gP xs) ts).length/\u=((List.map (gP xs) ts).take i).map (fun a=>(List.map (gP xs) ts).map fun b=>jN (fG q a b))) (fun (i,u)=>(List.map (gP xs) ts).length-i) (0,[]) wk ⟨Nat.zero_le _,by simp⟩ ?_
     rintro ⟨i,u⟩ ⟨hi2,hu⟩
     have hul:u.length=i:=by rw[hu,List.length_map,List.length_take];omega
     refine jB<|kx [(82,(vb (decide (((i:Nat):Int)<(((List.map (gP xs) ts).length:Nat):Int)))))] [] (zE xK<|zZ) ?_
     refine jB<|jG rfl (fun h5=>?_) (fun h5=>?_)
     ·replace h5:=uV h5
      obtain ⟨hli0,hvi⟩:=grs_at (runs_of hjs) (show i<(List.map (gP xs) ts).length by omega)
      have hli:=hli0.trans hxq
      refine jC<|jB<|jH<|jB<|kx [(19,(vl 45 4 jJ ((List.map (gP xs) ts).getD i [])))] [] (zE (yE el33 i ([]:List (jR)) (L:=(List.map (gP xs) ts)))<|zE (yV cF)<|zM<|zZ) ?_
      refine jB<|kx [(20,(.own 2 45 4 0))] [(2,some (yU jJ []))] (zOh 2 45 4<|zZ) ?_
      refine jB<|jB<|kx [(85,(vl 24 1 jT (List.map (gP xs) ts))),(86,(jS ((List.map (gP xs) ts).length))),(87,(jS 0))] [] (zE (oQd (.sl 24 1 (List.map jT o)) (.sl 24 1 (List.map jT (List.map (gP xs) ts))) (oV (vl 24 1 jT o) (qC (by kernel_rfl))) (by exact (by rw[hgs])))<|zE (vP el33 (L:=(List.map (gP xs) ts)))<|zM<|zZ) ?_
      refine jH<|kF (α:=Nat × List jR) (fun (j,v)=>⟨[(2,(vl 24 1 jT q)),(12,(vl 24 1 jT o)),(17,(.own 1 24 1 u.length)),(19,(vl 45 4 jJ ((List.map (gP xs) ts).getD i []))),(20,(.own 2 45 4 v.length)),(79,(vl 24 1 jT (List.map (gP xs) ts))),(80,(jS ((List.map (gP xs) ts).length))),(81,(jS i)),(85,(vl 24 1 jT (List.map (gP xs) ts))),(86,(jS ((List.map (gP xs) ts).length))),(87,(jS j))],[(1,some (bm jT u)),(2,some (yU jJ v))]⟩) (fun (j,v)=>j<=(List.map (gP xs) ts).length/\v=((List.map (gP xs) ts).take j).map (fun b=>jN (fG q ((List.map (gP xs) ts).getD i []) b))) (fun (j,v)=>(List.map (gP xs) ts).length-j) (0,[]) wk ⟨Nat.zero_le _,by simp⟩ ?_
      rintro ⟨j,v⟩ ⟨hj2,hv⟩
      have hvl:v.length=j:=by rw[hv,List.length_map,List.length_take];omega
      refine jB<|kx [(88,(vb (decide (((j:Nat):Int)<(((List.map (gP xs) ts).length:Nat):Int)))))] [] (zE xK<|zZ) ?_
      refine jB<|jG rfl (fun h6=>?_) (fun h6=>?_)
      ·replace h6:=uV h6
       obtain ⟨hlj0,hvj⟩:=grs_at (runs_of hjs) (show j<(List.map (gP xs) ts).length by omega)
       have hlj:=hlj0.trans hxq
       have hrj:yL q q.length ((List.map (gP xs) ts).getD j []).length:=by rw[hlj0];exact hr
       refine jC<|jB<|jH<|jB<|kx [(22,(vl 45 4 jJ ((List.map (gP xs) ts).getD j [])))] [] (zE (yE el33 j ([]:List (jR)) (L:=(List.map (gP xs) ts)))<|zE (yV cF)<|zM<|zZ) ?_
       refine kf [(20,(.own 2 45 4 ((v++[(jN (fG q ((List.map (gP xs) ts).getD i []) ((List.map (gP xs) ts).getD j [])))]).length)))] [(2,some (yU jJ (v++[(jN (fG q ((List.map (gP xs) ts).getD i []) ((List.map (gP xs) ts).getD j [])))])))] (zM<|zM<|zM<|zM<|zE (jV (m_cov q hq ((List.map (gP xs) ts).getD i []) (vT (d:=[]) hgo (show i<(List.map (gP xs) ts).length by omega)) ((List.map (gP xs) ts).getD j []) (vT (d:=[]) hgo (show j<(List.map (gP xs) ts).length by omega)) hrj hvj hli hlj))<|zE (eE uQ qZ uG)<|zAS jJ v [(jN (fG q ((List.map (gP xs) ts).getD i []) ((List.map (gP xs) ts).getD j [])))] rfl uQ qZ by45<|zM<|zF) ?_
       refine kx [(87,(jS (j+1)))] [] (zE (vO (j+1))<|zM<|zZ) ?_
       exact ⟨(j+1,v++[jN (fG q ((List.map (gP xs) ts).getD i []) ((List.map (gP xs) ts).getD j []))]),wk,⟨by omega,by rw[hv];exact iT (f:=fun b=>jN (fG q ((List.map (gP xs) ts).getD i []) b)) (by omega)⟩,(by first|omega|(dsimp only;omega))⟩
      ·replace h6:=vB h6
       refine kD<|kU (xC (t:=20) (k:=2) (es:=List.map jJ v) rfl rfl (gC _ _ (fun _=>rfl)) (uW _ _ rfl) (hZ jJ v (fun _=>rfl) rfl)) ?_
       refine kf [(17,(.own 1 24 1 ((u++[v]).length)))] [(1,some (bm jT (u++[v])))] (zM<|zM<|zE (eE yH ze24 zo24)<|zA jT u [v] rfl yH ze24 by24<|zM<|zF) ?_
       refine kx [(81,(jS (i+1)))] [] (zE (vO (i+1))<|zM<|zZ) ?_
       exact ⟨(i+1,u++[v]),wk,⟨by omega,by rw[hu,hv,show j=(List.map (gP xs) ts).length by omega,List.take_length];exact iT (f:=fun a=>(List.map (gP xs) ts).map fun b=>jN (fG q a b)) (by omega)⟩,(by first|omega|(dsimp only;omega))⟩
     ·replace h5:=vB h5
      refine kD<|jB<|kx [(6,(.own 1 24 1 u.length)),(7,(jS 0))] [] (zM<|zM<|zM<|zZ) ?_
      refine kU (xC (t:=6) (k:=1) (es:=List.map jT u) rfl rfl (vD _ _ (fun _=>rfl)) (uW _ _ rfl) (xE _ _ (fun _=>rfl) rfl)) ?_
      refine jE ⟨_,(.tmp (d:=(.sl 24 1 (List.map jT u))) rfl (.tmp (d:=(.val (.int .i64 (((0:Nat):Int))))) rfl .nil)),?_⟩
      rw[hu,show i=(List.map (gP xs) ts).length by omega,List.take_length];rfl
theorem p_var(t:List qB)(ht:zL 1048576 t)(xs:List Rat)(hx:∀ q∈xs,QL q 1048576)(q:List (List jR))(hq:uY 1048576 q)(hj:JRunP (List.map yX xs) t)(hr:yL q q.length xs.length)(hf:nP q xs.length=0)(hxq:xs.length=q.length):jO Tryz.prog 22 [(.sl 83 7 (List.map kS t)),(.sl 45 4 (List.map jJ (List.map jN xs))),(.sl 24 1 (List.map jT q))] (.tup [(jJ (jN (fG q (gP xs t) (gP xs t)))),(.val (.int .i64 (((0:Nat):Int))))]):=by
 have hx64:xs.length<=64:=hr.c64
 have hjs:∀ u∈[t],JRunP (List.map yX xs) u:=one_of hj
 have ht1:(tabR q (List.map (gP xs) [t])).length=1:=rfl
 have ht2:((tabR q (List.map (gP xs) [t])).getD 0 []).length=1:=rfl
 let y1:=(jJ (((tabR q (List.map (gP xs) [t])).getD 0 []).getD 0 kH))
 refine qY Tryz.func22 ?_
 refine jB<|kx [(6,(.ref 0 0))] [(0,some (bx (jJ kH)))] (zN (qR 0 qZ uG)<|zM<|zZ) ?_
 refine jB<|kx [(8,(vl 24 1 jT (tabR q (List.map (gP xs) [t])))),(9,(jS 0))] [] (zM<|zE (eE el32 ze23 zo23)<|zM<|zM<|zE (jV (p_tab [t] (tms_one ht) xs hx q hq hjs hr hf hxq (Nat.le_refl 1) (xlb rfl)))<|zM<|zE uX<|zE uX<|zM<|zM<|zZ) ?_
 refine jB<|jB<|kx [(19,(vb false))] [] (zM<|zE (uP false mF)<|zZ) ?_
 refine kM ?_
 refine jC<|jB<|kx [(7,(jS 0))] [(0,some (bx y1))] (zM<|zE (yE yH 0 ([]:List (jR)) (L:=(tabR q (List.map (gP xs) [t]))))<|zE (yV cF)<|zE (yE uQ 0 kH (L:=((tabR q (List.map (gP xs) [t])).getD 0 [])))<|zE (yJ jQ)<|zT (qA jQ)<|zM<|zZ) ?_
 refine jE ⟨_,(kI (cs:=(bx y1)) (d:=y1) rfl rfl jQ rfl rfl (.tmp (d:=(.val (.int .i64 (((0:Nat):Int))))) rfl .nil)),?_⟩
 rfl
end Go.Proofs.YtnajallgoaiahaaGreatDoor
namespace Go.Fid
def tabB:Nat->List (List jZ)->BS
 |_,[]=>[]
 |k,r::rs=>(k,some ((qI r).map .d))::tabB (k+1) rs
theorem lE:∀ (k:Nat) (rows:List (List jZ)) (i:Nat),kB (tabB k rows) i=if k<=i then (rows[i-k]?).map (fun r=>(qI r).map SV.d) else none
 |k,[],i=>by simp [tabB,kB]
 |k,r::rs,i=>by
  simp only[tabB]
  rw[jK,lE (k+1) rs i]
  by_cases h:k=i
  ·subst h;simp
  ·rw[if_neg h]
   by_cases h2:k+1<=i
   ·rw[if_pos h2,if_pos (by omega),show i-k=(i-(k+1))+1 by omega,List.getElem?_cons_succ]
   ·rw[if_neg h2,if_neg (by omega)]
theorem tabB_names{k q i:Nat}{rows:List (List jZ)}{c:List SV}(h:kB (tabB k rows) i=some c):qN q c=false:=by
 rw[lE] at h
 split at h
 ·rw[Option.map_eq_some_iff] at h
  obtain ⟨r,_,rfl⟩:=h
  exact gI q id _
 ·cases h
abbrev dI (E s:Nat) (rows:List (List jZ)):BS:=(0,some (cN E s 2 rows))::tabB 2 rows
theorem tabA_row{E s:Nat}{rows:List (List jZ)}{j:Nat}{r:List jZ}(h:rows[j]?=some r):kB (dI E s rows) (j+2)=some ((qI r).map .d):=by
 show kB ((0,_)::tabB 2 rows) (j+2)=_
 rw[jK,if_neg (by omega),lE,if_pos (by omega),show j+2-2=j by omega,h];rfl
theorem tabA_clr1{E s:Nat}{rows:List (List jZ)}:Clr 1 (dI E s rows):=fun j c hj h=>by
 have h:kB ((0,some (cN E s 2 rows))::tabB 2 rows) j=some c:=h
 rw[jK] at h
 split at h
 ·injection h with h;subst h;exact rowC_names (.inl (by decide))
 ·exact tabB_names h
theorem tab_frb{k:Nat}:∀ (rows:List (List jZ)) (j:Nat),k<j->FrB k (tabB j rows)
 |[],j,h=>frb_nil k
 |r::rs,j,h=>frb_d (by rw[<- Bool.not_eq_true];exact fun e=>by have:=Nat.eq_of_beq_eq_true e;omega) (tab_frb rs (j+1) (by omega))
theorem tabA_frb{E s:Nat}{rows:List (List jZ)}:FrB 1 (dI E s rows):=frb_cs rfl (rowC_names (.inl (by decide))) (tab_frb rows 2 (by decide))
theorem tabA_clr{E s:Nat}{rows:List (List jZ)}{c:Option (List SV)}:Clr 1 ((1,c)::dI E s rows):=fun j d hj h=>by
 rw[jK,if_neg (fun e=>hj e.symm)] at h
 exact tabA_clr1 j d hj h
theorem tabA_clr0{E s:Nat}{rows:List (List jZ)}{l:List jZ}:∀ j c,j≠0->kB ((1,some (l.map SV.d))::dI E s rows) j=some c->qN 0 c=false:=fun j c hj h=>by
 rw[jK] at h
 split at h
 ·injection h with h;subst h;exact gI 0 id l
 ·have h:kB ((0,some (cN E s 2 rows))::tabB 2 rows) j=some c:=h
  rw[jK,if_neg (fun e=>hj e.symm)] at h
  exact tabB_names h
theorem bget_dup{k:Nat}{x y:Option (List SV)}{B:BS}:∀ i c,kB ((k,x)::B) i=some c->kB ((k,x)::(k,y)::B) i=some c:=fun i c h=>by
 rw[jK] at h ⊢
 split
 ·rename_i e;rw[if_pos e] at h;exact h
 ·rename_i e;rw[if_neg e] at h;rw[jK,if_neg e];exact h
theorem tabA_rows{E s:Nat}{rows:List (List jZ)}{x y:Option (List SV)}:∀ (j:Nat) r,rows[j]?=some r->kB ((0,x)::(1,y)::dI E s rows) (j+2)=some ((qI r).map .d):=fun j r h=>by
 rw[jK,if_neg (by omega),jK,if_neg (by omega)];exact tabA_row h
section
variable {P:Program} {N:Fr} {c:Code} {Q:Exit->PS->Prop} {S:SL} {B:BS}
theorem pwp_fixS(t:Nat){k T s n:Nat}(ht:kK S t=.own k T s n)(h:∀ ao cap,eI P N c Q ⟨(t,.ownx k T s n (.slice ao n cap))::S,B⟩):eI P N c Q ⟨S,B⟩:=fun C a w M hn ⟨D,β,hs⟩=>by
 have hr:=hs.slots t
 dsimp only at hr
 rw[ht] at hr
 obtain ⟨ao,cap,hv⟩:∃ ao cap,a.tmps.getD t undef=.slice ao n cap:=by
  rcases hr with ⟨_,h2,h3⟩ | ⟨b,cap,vs,_,h3,_⟩
  ·exact ⟨_,_,by rw[h3,h2]⟩
  ·exact ⟨_,_,h3⟩
 refine h ao cap C a w M hn ⟨D,β,hs.base,hs.mem,hs.high,fun u=>?_⟩
 show qH w D β _ (kK ((t,_)::S) u)
 rw[uC]
 split
 ·rename_i e;subst e;exact ⟨hv,hr⟩
 ·exact hs.slots u
theorem oMvx{o:Oper}{k T s n:Nat}{u:Value}(h:mvK o=true:=by kernel_rfl)(hx:mvV S o=.ownx k T s n u:=by kernel_rfl):vI P o (kK S) [] (.d (.val u)) :=
 (hx▸qC h).weaken fun w D β v hv=>by
  have e:v=u:=hv.1
  subst e
  exact vL.val v
theorem tab_app{o:Oper}{T E1 t':TypeId}{x y:Operand}{bytes E s m:Nat}{zv:List Value}{rows:List (List jZ)}{d:jZ}{M:Fr}(ho:o.op=.call { callee:=.builtin .append,args:=#[x,y],argTypes:=#[T,T] })
  (hd:nM M o.dst=true) (hT:vN P T=some (E1,1)) (hz:yI P E1=some zv) (hzl:zv.length=1) (hby:yQ P E1=some bytes) (hx:ev (kK S) x=.own 0 E1 1 m) (hm:m=rows.length) (hb:kB B 0=some (cN E s 2 rows))
  (hB:∀ j c,j≠0->kB B j=some c->qN 0 c=false)
  (hy:ev (kK S) y=.d (.sl t' 1 [d])) (hd1:d.cells=[d]) (hbig:rows.length+1<=maxLen) (hbig':(rows.length+1)*bytes<=140737488355328) {m2:Nat} (hm2:rows.length+1=m2)
  (C:iL) (a:Act) (w:World) (Q:Exit->Act->World->Prop) (hn:C.n=M) (hs:dF C a w ⟨S,B⟩) :
  o.wp P a w (fun a' w'=>dF C a' w' ⟨fU o.dst (.own 0 E1 1 m2) (mC 0 S),(0,some (cN E s 2 rows++[.d d]))::B⟩) Q:=by
 subst hm
 subst hm2
 have h:=app_soundG (P:=P) (st:=⟨S,B⟩) (k:=0) (cs:=cN E s 2 rows) (es':=[d]) (N:=M) ho hd hT hz hzl hby hx hb (rowC_names (.inl (by decide))) (by rw[aJ,Nat.mul_one]) hy hbig hbig' hB C a w Q hn hs
 rw[show (qI [d]).map SV.d=[.d d] by rw[mY,flat_nil,hd1];rfl] at h
 exact h
theorem names2_sget{p q:Nat}{S:SL}(h:(S.all fun e=>!e.2.names p&&!e.2.names q)=true)(t:Nat):(kK S t).names p=false/\(kK S t).names q=false:=by
 induction S with
 |nil=>exact ⟨rfl,rfl⟩
 |cons e S ih=>
  obtain ⟨j,x⟩:=e
  simp only[List.all_cons,Bool.and_eq_true,Bool.not_eq_true'] at h
  rw[uC]
  split
  ·exact h.1
  ·exact ih (by simpa using h.2)
theorem tab_push{S':SL}{E s cap m:Nat}{ao:Option Addr}{rows:List (List jZ)}{r:List jZ}(t:Nat)(hm:r.length=m)(ht:kK S t=.ownx 1 E s m (.slice ao m cap))(h0:kB B 0=some (cN E s 2 rows++[.d (.val (.slice ao m cap))]))
  (h1:kB B 1=some ((qI r).map .d)) (hr:∀ (j:Nat) r',rows[j]?=some r'->kB B (j+2)=some ((qI r').map .d)) (hs1:S'.map (fun p=>kK S p.1)=S'.map (·.2)) (hn:(S'.all fun p=>!p.2.names (rows.length+2)&&!p.2.names 1)=true) :
  vG ⟨S,B⟩ ⟨S',dI E s (rows++[r])⟩:=fun C a w ⟨D,β,hs⟩=>by
 subst hm
 have hβ:∀ j,j≠rows.length+2->(fun i=>if i=rows.length+2 then β 1 else β i:qM) j=β j:=fun j hj=>by simp [hj]
 have hβ0:(fun i=>if i=rows.length+2 then β 1 else β i:qM) (rows.length+2)=β 1:=by simp
 generalize (fun i=>if i=rows.length+2 then β 1 else β i:qM)=β' at hβ hβ0
 have tgt:∀ {i c},kB (dI E s (rows++[r])) i=some c->(i=0/\c=cN E s 2 (rows++[r]))\/(∃ j r',i=j+2/\rows[j]?=some r'/\c=(qI r').map SV.d)\/(i=rows.length+2/\c=(qI r).map SV.d):=fun {i c} hi=>by
  have hi:kB ((0,some (cN E s 2 (rows++[r])))::tabB 2 (rows++[r])) i=some c:=hi
  rw[jK] at hi
  split at hi
  ·rename_i e;injection hi with hi;exact .inl ⟨e.symm,hi.symm⟩
  ·rw[lE] at hi
   split at hi
   ·rw[Option.map_eq_some_iff] at hi
    obtain ⟨r',hr',rfl⟩:=hi
    by_cases hlt:i-2<rows.length
    ·rw[List.getElem?_append_left hlt] at hr'
     exact .inr (.inl ⟨i-2,r',by omega,hr',rfl⟩)
    ·have hl:=(List.getElem?_eq_some_iff.1 hr').1
     simp only[List.length_append,List.length_cons,List.length_nil] at hl
     have e:i-2=rows.length:=by omega
     rw[e] at hr'
     simp at hr'
     subst hr'
     exact .inr (.inr ⟨by omega,rfl⟩)
   ·cases hi
 -- where a block of the new state lay
 have src:∀ {i c},kB (dI E s (rows++[r])) i=some c->∃ q c',kB B q=some c'/\β' i=β q/\(i=rows.length+2->q=1)/\(i≠rows.length+2->q=i)/\q≠rows.length+2:=fun {i c} hi=>by
  rcases tgt hi with ⟨rfl,_⟩ | ⟨j,r',rfl,hr',_⟩ | ⟨rfl,_⟩
  ·exact ⟨0,_,h0,hβ _ (by omega),fun e=>by omega,fun _=>rfl,by omega⟩
  ·have hlt:=(List.getElem?_eq_some_iff.1 hr').1
   exact ⟨j+2,_,hr j r' hr',hβ _ (by omega),fun e=>by omega,fun _=>rfl,by omega⟩
  ·exact ⟨1,_,h1,hβ0,fun _=>rfl,fun e=>absurd rfl e,by omega⟩
 have hne1:∀ {i c},kB (dI E s (rows++[r])) i=some c->i≠1:=fun {i c} hi e=>by
  rcases tgt hi with ⟨h,_⟩ | ⟨j,r',h,_,_⟩ | ⟨h,_⟩<;>omega
 refine ⟨D,β',hs.base,⟨fun i c hi=>?_,fun i1 i2 c1 c2 q1 q2 b e1 e2=>?_⟩,fun i c hi b e=>?_,fun u=>?_⟩
 ·rcases tgt hi with ⟨rfl,rfl⟩ | ⟨j,r',rfl,hr',rfl⟩ | ⟨rfl,rfl⟩
  ·rcases hs.mem.ok 0 _ h0 with ⟨_,h⟩ | ⟨b,vs,T,g1,g2,g3,g4,g5⟩
   ·simp at h
   ·refine .inr ⟨b,vs,T,(hβ 0 (by omega)).trans g1,g2,by rw[aJ];simpa [aJ] using g3,fun i x hx=>?_,g5⟩
    rw[rowC_get,Option.map_eq_some_iff] at hx
    obtain ⟨r',hr',rfl⟩:=hx
    by_cases hlt:i<rows.length
    ·rw[List.getElem?_append_left hlt] at hr'
     obtain ⟨u,e1,e2,e3⟩:=g4 i (.own (2+i) E s r'.length) (by rw[List.getElem?_append_left (by rw[aJ];exact hlt),rowC_get,hr'];rfl)
     exact ⟨u,e1,e2,e3.frame hβ (by simp only[SV.names];rw[<- Bool.not_eq_true];exact fun e=>by have:=Nat.eq_of_beq_eq_true e;omega)⟩
    ·have hl:=(List.getElem?_eq_some_iff.1 hr').1
     simp only[List.length_append,List.length_cons,List.length_nil] at hl
     have e:i=rows.length:=by omega
     subst e
     simp at hr'
     subst hr'
     obtain ⟨u,e1,e2,e3⟩:=g4 rows.length (.d (.val (.slice ao r.length cap))) (by rw[List.getElem?_append_right (by rw[aJ];omega),aJ,Nat.sub_self];rfl)
     have eu:=vW e3
     have hrep:=hs.slots t
     dsimp only at hrep
     rw[ht] at hrep
     obtain ⟨ev,hrep⟩:=hrep
     rw[ev,<- eu] at hrep
     refine ⟨u,e1,e2,?_⟩
     show qH w D β' u (.own (2+rows.length) E s r.length)
     rw[Nat.add_comm]
     rcases hrep with ⟨k1,k2,k3⟩ | ⟨b',cap',vs',k1,k2⟩
     ·exact .inl ⟨hβ0.trans k1,k2,k3⟩
     ·exact .inr ⟨b',cap',vs',hβ0.trans k1,k2⟩
  ·have hlt:=(List.getElem?_eq_some_iff.1 hr').1
   exact (hs.mem.ok _ _ (hr j r' hr')).frame hβ (by omega) (gI _ id _)
  ·rcases hs.mem.ok 1 _ h1 with ⟨g1,g2⟩ | ⟨b,vs,T,g1,g2,g3,g4,g5⟩
   ·exact .inl ⟨hβ0.trans g1,g2⟩
   ·refine .inr ⟨b,vs,T,hβ0.trans g1,g2,g3,fun i x hx=>?_,g5⟩
    obtain ⟨u,e1,e2,e3⟩:=g4 i x hx
    rw[List.getElem?_map,Option.map_eq_some_iff] at hx
    obtain ⟨d,_,rfl⟩:=hx
    exact ⟨u,e1,e2,e3⟩
 ·obtain ⟨p1,d1,g1,b1,n1,m1,_⟩:=src q1
  obtain ⟨p2,d2,g2,b2,n2,m2,_⟩:=src q2
  have hp:=hs.mem.inj p1 p2 d1 d2 g1 g2 b (b1.symm.trans e1) (b2.symm.trans e2)
  have w1:=hne1 q1
  have w2:=hne1 q2
  by_cases x1:i1=rows.length+2<;>by_cases x2:i2=rows.length+2
  ·omega
  ·have:=n1 x1;have:=m2 x2;omega
  ·have:=m1 x1;have:=n2 x2;omega
  ·have:=m1 x1;have:=m2 x2;omega
 ·obtain ⟨p1,d1,g1,b1,_⟩:=src hi
  exact hs.high _ _ g1 b (b1.symm.trans e)
 ·obtain ⟨hnm,_⟩:=names2_sget hn u
  show qH w D β' _ (kK S' u)
  rcases xU hs1 u with h | h
  ·rw[h];trivial
  ·have h2:=hs.slots u
   rw[h] at hnm ⊢
   exact h2.frame hβ hnm
end
theorem sg_range{N k:Nat}(h:k<N):sg (List.range N) N k=k:=by unfold sg;rw[List.getElem?_range h];rfl
theorem nd_of{M:Nat}:∀ {ks:List Nat},ks.Nodup->(∀ k∈ks,k<M)->ndB M ks=true
 |[],_,_=>rfl
 |k::ks,h1,h2=>by
  rw[List.nodup_cons] at h1
  simp only[ndB,Bool.and_eq_true,Bool.not_eq_true',Nat.blt_eq]
  refine ⟨⟨h2 k (by simp),?_⟩,nd_of h1.2 fun j hj=>h2 j (by simp [hj])⟩
  rw[<- Bool.not_eq_true,yO]
  exact h1.1
theorem nd_range(N:Nat):ndB N (List.range N)=true:=nd_of List.nodup_range fun k hk=>List.mem_range.1 hk
theorem rb_tabB{N:Nat}:∀ (rows:List (List jZ)) (k:Nat),k+rows.length<=N->RB (List.range N) N (tabB k rows) (tabB k rows)
 |[],k,h=>.nil
 |r::rs,k,h=>by
  simp only[List.length_cons] at h
  exact .cons (List.getElem?_range (by omega)) (ren_dat _ _) (rb_tabB rs (k+1) (by omega))
theorem rowC_ren{N E s:Nat}:∀ (rows:List (List jZ)) (k:Nat),k+rows.length<=N->(cN E s k rows).map (SV.ren (sg (List.range N) N))=cN E s k rows
 |[],k,h=>rfl
 |r::rs,k,h=>by
  simp only[List.length_cons] at h
  simp only[cN,List.map_cons]
  rw[rowC_ren rs (k+1) (by omega)]
  show SV.own (sg (List.range N) N k) E s r.length::_=_
  rw[sg_range (by omega)]
theorem rb_tab{E s:Nat}(rows:List (List jZ)):RB (List.range (rows.length+2)) (rows.length+2) (dI E s rows) (dI E s rows) :=
 .cons (List.getElem?_range (by omega)) (rowC_ren rows 2 (by omega)) (rb_tabB rows 2 (by omega))
section
variable {P:Program} {n:Fr} {ops:Array Oper} {K:SL->BS->Prop} {S:SL} {l:List Oper} {o:Oper}
def SV.isD:SV->Bool
 |.d _=>true
 |_=>false
theorem isD_okV{S:SL}(h:(S.all fun p=>p.2.isD)=true)(ks:List Nat)(M t:Nat):okV ks M [] [] (kK S t)=true:=by
 induction S with
 |nil=>rfl
 |cons p S ih=>
  obtain ⟨j,x⟩:=p
  simp only[List.all_cons,Bool.and_eq_true] at h
  rw[uC]
  split
  ·cases x with
   |d x=>rfl
   |_=>cases h.1
  ·exact ih h.2
theorem bget_app2{X Z:BS}{j:Nat}{c:List SV}(_:True):kB X j=some c->kB (X++Z) j=some c:=by
 induction X with
 |nil=>intro h;simp [kB] at h
 |cons p X ih=>
  obtain ⟨q,x⟩:=p
  intro h
  show kB ((q,x)::(X++Z)) j=_
  rw[jK] at h ⊢
  split
  ·rename_i e;rw[if_pos e] at h;exact h
  ·rename_i e;rw[if_neg e] at h;exact ih h
theorem zTab{f:FuncId}{y:Operand}{args:List Operand}{ats:Array TypeId}{ds:List jZ}{Eo E s m:Nat}{rows:List (List jZ)}(hf:xA P f (ds.map SV.d) [] (.own 0 Eo 1 rows.length) (dI E s rows))(hm:rows.length=m)
  (r:SK P n ops K ((dO o,.own 0 Eo 1 m)::S) (dI E s rows) l) (ho:o.op=.call { callee:=.value y,args:=args.toArray,argTypes:=ats }:=by exact rfl) (hy:ev (kK S) y=.d (.val (.func (.func f) #[] #[])):=by kernel_rfl) (g:goK n ops S o=true:=by kernel_rfl)
  (hx:args.map (ev (kK S))=ds.map SV.d:=by kernel_rfl) (hS:(S.all fun p=>p.2.isD)=true:=by kernel_rfl):SK P n ops K S [] (o::l):=by
 subst hm
 obtain ⟨hd,hg,hdB⟩:=yP g
 have hok:∀ (ks:List Nat) (M:Nat) (t:Nat),kK (cutS ks M [] [] S) t=kK S t:=fun ks M t=>by
  rw[sget_cut,isD_okV hS ks M t];rfl
 refine zX (S1:=(dO o,.own 0 Eo 1 rows.length)::S) (B1:=dI E s rows) (fun C a w Q hn' hs=>?_) hg r
 have hcall:=call_op (C:=C) (a:=a) (w:=w) (Q:=Q) (S0:=S) (B0:=[]) (ks:=List.range (rows.length+2)) (F:=[]) (M:=rows.length+2) (ex:=[]) (o:=o) hf ho (.fn hy) (by
   rw[List.append_nil,hx,List.map_map];rfl) (by rw[hn',hd];exact hdB) (nd_range _) .nil (rb_tab rows) rfl .nil rfl (fun j c _ h=>by cases h) hs
 rw[hd] at hcall
 refine Oper.wp_mono (fun a' w' h=>?_) hcall
 refine nS (fun t=>?_) (fun k c hk=>?_) C a' w' h
 ·show kK ((dO o,_)::S) t=.junk\/kK ((dO o,_)::S) t=kK ((dO o,_)::cutS _ _ _ _ S) t
  rw[uC,uC]
  split
  ·refine .inr ?_
   show _=SV.own (sg (List.range (rows.length+2)) (rows.length+2) 0) Eo 1 rows.length
   rw[sg_range (by omega)]
  ·rw[hok];exact .inr rfl
 ·exact bget_app2 trivial hk
end
theorem rowC_set{E s:Nat}:∀ (rows:List (List jZ)) (k j:Nat) (r:List jZ),r.length=(rows.getD j []).length->cN E s k (rows.set j r)=cN E s k rows
 |[],k,j,r,h=>rfl
 |x::rs,k,0,r,h=>by
  have h:r.length=x.length:=h
  simp only[List.set_cons_zero,cN,h]
 |x::rs,k,j+1,r,h=>by
  simp only[List.set_cons_succ,cN]
  rw[rowC_set rs (k+1) j r h]
theorem tab_set{S S':SL}{E s:Nat}{rows:List (List jZ)}{j:Nat}{r:List jZ}(hr:r.length=(rows.getD j []).length)(hj:j<rows.length)(hs:S'.map (fun p=>kK S p.1)=S'.map (·.2)) :
  vG ⟨S,(j+2,some ((qI r).map .d))::dI E s rows⟩ ⟨S',dI E s (rows.set j r)⟩:=by
 refine nS (xU hs) fun i c hi=>?_
 have hi:kB ((0,some (cN E s 2 (rows.set j r)))::tabB 2 (rows.set j r)) i=some c:=hi
 rw[jK] at hi ⊢
 by_cases h0:0=i
 ·rw[if_pos h0,rowC_set rows 2 j r hr] at hi
  rw[if_neg (by omega)]
  show kB ((0,some (cN E s 2 rows))::tabB 2 rows) i=some c
  rw[jK,if_pos h0];exact hi
 ·rw[if_neg h0,lE] at hi
  split at hi
  ·rename_i h2
   rw[List.getElem?_set] at hi
   by_cases h3:j+2=i
   ·rw[if_pos h3]
    rw[if_pos (by omega),if_pos (by omega)] at hi
    exact hi
   ·rw[if_neg h3]
    rw[if_neg (by omega)] at hi
    show kB ((0,some (cN E s 2 rows))::tabB 2 rows) i=some c
    rw[jK,if_neg h0,lE,if_pos h2];exact hi
  ·cases hi
section
variable {P:Program} {n:Fr} {ops:Array Oper} {K:SL->BS->Prop} {S S0 S1:SL} {B B0 B1:BS} {l:List Oper} {o:Oper} {news:List Nat} {acc0:List (List Nat × List Nat)}
theorem kdr{id:Nat}{Q:Exit->PS->Prop}(S1:SL)(B1:BS)(hm:P.follows .mixedOrders=true)(h:DK P n l.toArray (KI S1 B1) [] [] S0 B0 l)(hq:Q .normal ⟨S1,B1⟩)(hb:backB l.toArray=true:=by kernel_rfl)(hp:l.all nT=true:=by kernel_rfl):eI P n (.region id l.toArray true) Q ⟨S0,B0⟩:=fun C a w N hn hs=>by
 obtain ⟨st1,acc,h1,h0,h2⟩:=h
 subst hn
 exact wpIn_region_any hm (draw_sound (C:=C) rfl (by simpa using h1) (by simpa using h0) hb (by simpa using hp) (fun a' w' hs'=>⟨_,h2 C a' w' hs',hq⟩) hs)
theorem wI(h:vG ⟨S,B⟩ ⟨S1,B1⟩)(h7:orderB ops acc0=true:=by kernel_rfl):DK P n ops (KI S1 B1) news acc0 S B []:=⟨⟨S,B⟩,[],.nil,by simpa using h7,h⟩
theorem tab_ld{T E s:TypeId}{x:Operand}{rows:List (List jZ)}{j:Nat}{m:Nat}(hs:qX P T=some (false,1))(hj:j<rows.length)(hm:(rows.getD j []).length=m)(ho:o.op=.load T x:=by exact rfl)(hx:ev (kK S) x=.ref 0 j:=by exact rfl):ROk P o S (dI E s rows) 0 (.own (j+2) E s m) :=
 ⟨cN E s 2 rows,e_ld1 ho hx hs (by
  subst hm
  rw[rowC_get,List.getElem?_eq_getElem hj]
  simp only[Option.map_some,List.getD_eq_getElem?_getD,List.getElem?_eq_getElem hj,Option.getD_some]
  rw[Nat.add_comm]),by show kB ((0,_)::tabB 2 rows) 0=_;rw[jK,if_pos rfl]⟩
end
theorem flat_lenS{s:Nat}:∀ (r:List jZ),(∀ e∈r,e.cells.length=s)->(qI r).length=r.length*s
 |[],_=>by simp [flat_nil]
 |e::r,h=>by
  rw[mY,List.length_append,h e (by simp),List.length_cons,Nat.add_mul,flat_lenS r (fun x hx=>h x (by simp [hx]))]
  omega
theorem tab_pubs{S:SL}{E s:Nat}:∀ (rows:List (List jZ)) (k:Nat) (done:List SV) (B:BS),0<k->(∀ r∈rows,∀ e∈r,e.cells.length=s)->kB B 0=some (done++cN E s k rows)->(∀ (j:Nat) (r:List jZ),rows[j]?=some r->kB B (k+j)=some ((qI r).map .d)) ->
  vG ⟨S,B⟩ ⟨S,[(0,some (done++rows.map fun r=>.d (.sl E s r)))]⟩
 |[],k,done,B,hk,hc,h0,hb=>by
  simp only[cN,List.append_nil] at h0
  simp only[List.map_nil,List.append_nil]
  refine nS (fun t=>.inr rfl) fun i c hi=>?_
  rw[jK] at hi
  split at hi
  ·rename_i e;subst e;rw[h0];exact hi
  ·cases hi
 |r::rs,k,done,B,hk,hc,h0,hb=>by
  have hr:=hc r (by simp)
  have hl:((qI r).map SV.d).length=r.length*s:=by rw[List.length_map,flat_lenS r hr]
  have h1:=eJ (st:=⟨S,B⟩) (j:=0) (k:=k) (s:=s) (m:=r.length) (T:=E) (pre:=done) (post:=cN E s (k+1) rs) (cs:=(qI r).map .d) (es:=r) h0 (by omega) (by have:=hb 0 r rfl;simpa using this) hr rfl (by rw[<- hl,List.take_length])
  have h2:=tab_pubs (S:=S) rs (k+1) (done++[.d (.sl E s r)]) ((0,some (done++.d (.sl E s r)::cN E s (k+1) rs))::(k,none)::B) (by omega) (fun x hx=>hc x (by simp [hx])) (by rw[jK,if_pos rfl,List.append_assoc];rfl) (fun j x hx=>by
   rw[jK,if_neg (by omega),jK,if_neg (by omega),show k+1+j=k+(j+1) by omega]
   exact hb (j+1) x (by simpa using hx))
  rw[List.append_assoc] at h2
  exact h1.trans h2
theorem tab_pub{S:SL}{E s:Nat}(rows:List (List jZ))(hc:∀ r∈rows,∀ e∈r,e.cells.length=s):vG ⟨S,dI E s rows⟩ ⟨S,[(0,some (rows.map fun r=>.d (.sl E s r)))]⟩ :=
 tab_pubs rows 2 [] (dI E s rows) (by decide) hc (by show kB ((0,_)::tabB 2 rows) 0=_;rw[jK,if_pos rfl];rfl) fun j r h=>by
  rw[Nat.add_comm];exact tabA_row h
end Go.Fid
