/- Part 32 of a proof: rules, plain facts, and functions walked. -/
import Derived.Test.YtnajallgoaiahaaGreatDoorM30
import Derived.Test.YtnajallgoaiahaaGreatDoorM31
import Derived.Test.YtnajallgoaiahaaGreatDoorM19
import Derived.Test.YtnajallgoaiahaaGreatDoorM10
set_option linter.all false
set_option maxRecDepth 4000
namespace Go.Proofs.YtnajallgoaiahaaGreatDoor
open Go.Fid
theorem cb50:callB Tryz.prog 50=true:=by kernel_rfl
theorem cb51:callB Tryz.prog 51=true:=by kernel_rfl
theorem u_wF(x:kV)(y z:jV)(bv:List R2)(hbx:∀ x∈bv,GL 1048576 x)(L:List JV)(hdz:DzOk L x)(hLk:∀ e9∈L,nQ 1048576 bv.length e9)(hy:1≤xM x.op→y=kC (jA L x.a).v)(hz:xM x.op=2→z=kC (jA L x.b).v):jR Tryz.prog 110 [(kM x),(jF y),(jF z),(.sl 61 8 (List.map jF (List.map kC bv)))] (.tup [(jF (jV.mk kZ kZ)),(.val (.int .i64 (((14:Nat):Int))))]):=by
 have hk:=hdz.kd
 obtain ⟨a,b,rfl,ha,hb,hz0⟩:=hdz
 rw[hy (by omega),hz hk]
 exact u_vF _ _ _ (cT hLk ha).1 _ (cT hLk hb).1 _ hz0
theorem u_vlR(rb:List jV)(hrb:∀ a∈rb,GOk 1048576 a)(hbl:rb.length≤1000000):jR Tryz.prog 50 [(.sl 61 8 (List.map jF rb))] (.val (.bool ((List.all rb uK)))):=by
 let y1:=(jV.mk kZ kZ)
 refine jJ Tryz.func50 rfl cb50 rfl ?_
 show qG _ _ _ _ ⟨[(0,(vl 61 8 jF rb))],[]⟩
 refine jB<|kx [] [] (zM<|zZ) ?_
 refine jB<|jB<|kx [(5,(vl 61 8 jF rb)),(6,(jP rb.length)),(7,(jP 0))] [] (zM<|zE (uW xI)<|zM<|zZ) ?_
 refine jH<|kA (α:=Nat) (fun i=>⟨[(5,(vl 61 8 jF rb)),(6,(jP rb.length)),(7,(jP i))],[]⟩) (fun i=>i≤rb.length∧(rb.take i).all uK=true) (fun i=>rb.length-i) 0 wk ⟨Nat.zero_le _,by simp⟩ ?_
 rintro i ⟨hi,hal⟩
 refine jB<|kx [(8,(vb (decide (((i:Nat):Int)<((rb.length:Nat):Int)))))] [] (zE xK<|zZ) ?_
 refine jB<|jG rfl (fun h1=>?_) (fun h1=>?_)
 ·replace h1:=uP h1
  refine jD<|jB<|jH<|jB<|kx [(4,(.ref 0 0))] [(0,some (bx (jF (rb.getD i y1))))] (zE (xX xI i y1)<|zE (gE jW)<|zN (qV 0 qO qS)<|zT (qA jW)<|zZ) ?_
  refine jB<|kx [(13,(vb (!(uK (rb.getD i y1)))))] [] (zR (kK jW)<|zE (jY (h_valid (rb.getD i y1) (hZ (gok_get hrb (show i<rb.length by omega)) (by decide))))<|zE mD<|zZ) ?_
  refine jG rfl (fun h2=>?_) (fun h2=>?_)
  ·refine jB<|kx [(2,(vb false))] [] (zM<|zZ) ?_
   refine jE ⟨_,(.tmp (d:=(.val (.bool (false)))) rfl .nil),?_⟩
   rw[all_not (f:=uK) (l:=rb) (i:=i) (d:=(jV.mk kZ kZ)) (by omega) (by simpa using h2)];rfl
  ·refine jD<|kx [(7,(jP (i+1)))] [] (zE (vC (i+1))<|zM<|zZ) ?_
   exact ⟨(i+1),wk,⟨by omega,all_take (d:=(jV.mk kZ kZ)) (by omega) hal (by simpa using h2)⟩,(by first|omega|(dsimp only;omega))⟩
 ·replace h1:=uR h1
  have hie:i=rb.length:=by omega
  rw[hie,List.take_length] at hal
  refine kB<|jB<|kx [(2,(vb true))] [] (zM<|zZ) ?_
  refine jE ⟨_,(.tmp (d:=(.val (.bool (true)))) rfl .nil),?_⟩
  rw[hal];rfl
theorem u_vlB(bv:List R2)(hbx:∀ x∈bv,GL 1048576 x)(hbl:bv.length≤1000000):jR Tryz.prog 50 [(.sl 61 8 (List.map jF (List.map kC bv)))] (.val (.bool true)):=by
 have h:=u_vlR (List.map kC bv) (gok_map hbx) (by rw[List.length_map];exact hbl)
 rw[valid_map hbx] at h
 exact h
theorem u_jetsU(t:List kV)(ht:vR 1048576 t)(bv:List R2)(hbx:∀ x∈bv,GL 1048576 x)(k0:Nat)(hr:DEnd bv t k0)(hbl:bv.length≤1000000):jR Tryz.prog 51 [(.sl 83 7 (List.map kM t)),(.sl 61 8 (List.map jF (List.map kC bv))),(.val (.int .i64 (((1:Nat):Int)))),(.val (.int .i64 (-1)))] (.tup [(jL (dJ bv t k0)),(.val (.int .i64 ((((dC t k0):Nat):Int))))]):=by
 have h0:=tm_0 hr.c0
 have hle:=hr.le
 let y2:=(jV.mk kZ kZ)
 let y1:=(bx (jL (xL.mk y2 [] [])))
 refine jJ Tryz.func51 rfl cb51 rfl ?_
 show qG _ _ _ _ ⟨[(0,(vl 83 7 kM t)),(1,(vl 61 8 jF (List.map kC bv))),(2,(jP 1)),(3,(vi (-1)))],[]⟩
 refine jB<|kx [(8,(.ref 0 0))] [(0,some y1)] (zN (qV 0 cZ fK)<|zM<|zZ) ?_
 refine jB<|jB<|kx [(25,(vb false))] [] (zM<|zE (jY (u_vlB bv hbx hbl))<|zE mD<|zZ) ?_
 refine kU ?_
 refine jD<|jB<|jB<|kx [(36,(vb false))] [] (zM<|zE (vW false xK)<|zM<|zM<|zE (vW false mL)<|zE yP<|zM<|zM<|zE (vW false mL)<|zE yP<|zZ) ?_
 refine kU ?_
 refine jD<|jB<|jB<|kx [(10,(jP (nY ((bv.length:Nat):Int) t)))] [] (zM<|zM<|zE (oLn xI bv.length)<|zE (jY (u_chk t ht ((bv.length:Nat):Int)))<|zM<|zZ) ?_
 refine jB<|kx [(43,(vb ((((nY ((bv.length:Nat):Int) t):Nat):Int) != ((0:Nat):Int))))] [] (zM<|zE nW<|zZ) ?_
 refine jG rfl (fun h=>absurd (Eq.trans (Eq.symm (show (((((nY ((bv.length:Nat):Int) t):Nat):Int) != ((0:Nat):Int)))=false from bne_eq_false_iff_eq.2 (by rw[show (nY ((bv.length:Nat):Int) t)=0 from hr.c0]<;>rfl))) h) (by decide)) (fun _=>?_)
 refine jD<|jB<|kx [(11,(.own 1 95 10 0))] [(1,some (yG jL []))] (zN (oBo 1 dR cZ fK)<|zM<|zZ) ?_
 refine jB<|jB<|kx [(47,(vl 83 7 kM t)),(48,(jP t.length)),(49,(jP 0))] [] (zM<|zE (uW iB)<|zM<|zZ) ?_
 refine jH<|kA (α:=Nat × List xL) (fun (k,o)=>⟨[(1,(vl 61 8 jF (List.map kC bv))),(2,(jP 1)),(3,(vi (-1))),(8,(.ref 0 0)),(11,(.own 1 95 10 o.length)),(47,(vl 83 7 kM t)),(48,(jP t.length)),(49,(jP k))],[(0,some y1),(1,some (yG jL o))]⟩) (fun (k,o)=>k≤k0∧o=List.map qJ (jU bv t k)) (fun (k,o)=>t.length-k) (0,[]) wk ⟨Nat.zero_le _,rfl⟩ ?_
 rintro ⟨k,o⟩ ⟨hk,ho⟩
 have hju:=dP bv t k
 have hol:o.length=k:=by rw[ho,List.length_map,hju]
 have hget:∀ j,j<k→o.getD j (xL.mk (jV.mk kZ kZ) [] [])=qJ ((jU bv t k).getD j jz):=fun j hj=>by rw[ho];exact bR qJ _ jz _ (by omega)
 refine jB<|kx [(50,(vb (decide (((k:Nat):Int)<((t.length:Nat):Int)))))] [] (zE xK<|zZ) ?_
 refine jB<|jG rfl (fun h1=>?_) (fun h1=>?_)
 ·replace h1:=uP h1
  have hl9:k<t.length:=by omega
  have hS:=hr.st hk hl9
  refine jD<|jB<|jH<|jB<|kx [(13,(.ref 2 0))] [(2,some (bx (kM (t.getD k tz))))] (zE (xX iB k (tz:kV))<|zE (gE bM)<|zH (qV 2 ze83 zo83)<|zT (qA bM)<|zZ) ?_
  refine jB<|kx [(14,(.ref 3 0)),(15,(.ref 4 0))] [(3,some y1),(4,some y1)] (zE (eX pl95 cZ fK)<|zE (eX pl95 cZ fK)<|zH (qV 3 cZ fK)<|zH (qV 4 cZ fK)<|zT (qA nL)<|zT (qA nL)<|zZ) ?_
  refine eV (α:=xL) (fun y=>⟨[(1,(vl 61 8 jF (List.map kC bv))),(2,(jP 1)),(3,(vi (-1))),(8,(.ref 0 0)),(11,(.own 1 95 10 o.length)),(13,(.ref 2 0)),(14,(.ref 3 0)),(15,(.ref 4 0)),(47,(vl 83 7 kM t)),(48,(jP t.length)),(49,(jP k))],[(0,some y1),(1,some (yG jL o)),(2,some (bx (kM (t.getD k tz)))),(3,some (bx (jL y))),(4,some y1)]⟩) (fun y=>1≤xM (t.getD k tz).op→y=qJ (jA (jU bv t k) (t.getD k tz).a)) ?_ ?_
  ·refine jB<|kx [(58,(vb (decide (((1:Nat):Int)≤(xM ((t.getD k tz).op))))))] [] (zE (kY yW)<|zR (uM fC)<|zE (jY (r_kids ((t.getD k tz).op)))<|zE oGe<|zZ) ?_
   refine jG rfl (fun h2=>?_) (fun h2=>?_)
   ·replace h2:=uP h2
    obtain ⟨a1,a2⟩:=hS.a (by omega)
    refine kx [] [(3,some (bx (jL (qJ ((jU bv t k).getD (t.getD k tz).a.toNat jz)))))] (zM<|zE (kY gK)<|zR (uM cH)<|zE (oXO dR (((t.getD k tz).a).toNat))<|zR (oQr (jL (o.getD (((t.getD k tz).a).toNat) (xL.mk y2 [] []))) (jL (qJ ((jU bv t k).getD (t.getD k tz).a.toNat jz))) (oLA nL (((t.getD k tz).a).toNat) (xL.mk y2 [] [])) (by exact (congrArg jL (hget _ (show (t.getD k tz).a.toNat<k by omega)))))<|zT (qA nL)<|zZ) ?_
    exact met (qJ (jA (jU bv t k) (t.getD k tz).a)) wk (fun _=>rfl)
   ·replace h2:=uR h2
    refine jD ?_
    exact met (xL.mk (jV.mk kZ kZ) [] []) wk (fun hx=>absurd hx (by omega))
  ·rintro y hy
   refine eV (α:=xL) (fun z=>⟨[(1,(vl 61 8 jF (List.map kC bv))),(2,(jP 1)),(3,(vi (-1))),(8,(.ref 0 0)),(11,(.own 1 95 10 o.length)),(13,(.ref 2 0)),(14,(.ref 3 0)),(15,(.ref 4 0)),(47,(vl 83 7 kM t)),(48,(jP t.length)),(49,(jP k))],[(0,some y1),(1,some (yG jL o)),(2,some (bx (kM (t.getD k tz)))),(3,some (bx (jL y))),(4,some (bx (jL z)))]⟩) (fun z=>xM (t.getD k tz).op=2→z=qJ (jA (jU bv t k) (t.getD k tz).b)) ?_ ?_
   ·refine jB<|kx [(67,(vb ((xM ((t.getD k tz).op)) == ((2:Nat):Int))))] [] (zE (kY yW)<|zR (uM fC)<|zE (jY (r_kids ((t.getD k tz).op)))<|zE xR<|zZ) ?_
    refine jG rfl (fun h3=>?_) (fun h3=>?_)
    ·replace h3:=eq_of_beq h3
     obtain ⟨b1,b2⟩:=hS.b h3
     refine kx [] [(4,some (bx (jL (qJ ((jU bv t k).getD (t.getD k tz).b.toNat jz)))))] (zM<|zE (kY mK)<|zR (uM cH)<|zE (oXO dR (((t.getD k tz).b).toNat))<|zR (oQr (jL (o.getD (((t.getD k tz).b).toNat) (xL.mk y2 [] []))) (jL (qJ ((jU bv t k).getD (t.getD k tz).b.toNat jz))) (oLA nL (((t.getD k tz).b).toNat) (xL.mk y2 [] [])) (by exact (congrArg jL (hget _ (show (t.getD k tz).b.toNat<k by omega)))))<|zT (qA nL)<|zZ) ?_
     exact met (qJ (jA (jU bv t k) (t.getD k tz).b)) wk (fun _=>rfl)
    ·replace h3:=ne_of_beq_false h3
     refine jD ?_
     exact met (xL.mk (jV.mk kZ kZ) [] []) wk (fun hx=>absurd hx h3)
   ·rintro z hz
    refine jB ?_
    rcases hlt0:(decide (k<k0)) with _ | _
    ·have hd9:=hr.dzk hk hl9 (uR hlt0)
     refine kx [(16,(.ref 5 0)),(17,(jP 14))] [(5,some (bx (jF y2)))] (zR (kK bM)<|zE (kY zJ)<|zR (kK jW)<|zE (kY zJ)<|zR (kK jW)<|zM<|zE (jY (u_wF (t.getD k tz) y.value z.value bv hbx (jU bv t k) hd9 (hr.ok k hk) (fun hx=>congrArg xL.value (hy hx)) (fun hx=>congrArg xL.value (hz hx))))<|zM<|zE uT<|zE uT<|zH (qV 5 qO qS)<|zT (qA jW)<|zM<|zZ) ?_
     refine jB<|jB<|kx [(84,(vb true))] [] (zM<|zE (vW true nW)<|zZ) ?_
     refine uY ?_
     refine jB<|kx [(9,(jP 14))] [(0,some y1)] (zE (eX pl95 cZ fK)<|zM<|zT (qA nL)<|zM<|zZ) ?_
     refine jE ⟨_,(kH (cs:=y1) (d:=(jL (xL.mk y2 [] []))) rfl rfl nL rfl rfl (.tmp (d:=(.val (.int .i64 (((14:Nat):Int))))) rfl .nil)),?_⟩
     have hk0:k0=k:=by have:=uR hlt0;omega
     rw[hk0,dJ_n hl9,dC_n hl9];rfl
    ·refine kx [(16,(.ref 5 0)),(17,(jP 0))] [(5,some (bx (jF (kC (nV bv (jU bv t k) (t.getD k tz))))))] (zR (kK bM)<|zE (kY zJ)<|zR (kK jW)<|zE (kY zJ)<|zR (kK jW)<|zM<|zE (jY (u_w (t.getD k tz) y.value z.value bv hbx (jU bv t k) hbl (hr.nd k (uP hlt0)) (hr.ok k hk) (hr.nv k (uP hlt0)) (fun hx=>congrArg xL.value (hy hx)) (fun hx=>congrArg xL.value (hz hx))))<|zM<|zE uT<|zE uT<|zH (qV 5 qO qS)<|zT (qA jW)<|zM<|zZ) ?_
     refine jB<|jB<|kx [(84,(vb false))] [] (zM<|zE (vW false nW)<|zZ) ?_
     refine kU ?_
     refine jD<|jB<|kx [(18,(.ref 6 0))] [(6,some (bx (.agg (jX.cells (jF (kC (nV bv (jU bv t k) (t.getD k tz))))++[(.val (.slice none 0 0)),(.val (.slice none 0 0))]))))] (zR (kK jW)<|zM<|zE (jY (u_held (nV bv (jU bv t k) (t.getD k tz)) (qD ((hr.nv k (uP hlt0)).1) (by decide))))<|zE (eX pl95 cZ zn95)<|zH (qV 6 cZ fK)<|zT (qA nL)<|zZ) ?_
     refine jB<|jB<|kx [(92,(vb true))] [] (zM<|zE (vW true oGe)<|zZ) ?_
     refine uY ?_
     refine jB<|aI 6 8 7 61 8 (cs:=(bx (.agg (jX.cells (jF (kC (nV bv (jU bv t k) (t.getD k tz))))++[(.val (.slice none 0 0)),(.val (.slice none 0 0))])))) (h:=?_)
     refine kS (wk (l:=[(1,(vl 61 8 jF (List.map kC bv))),(2,(jP 1)),(3,(vi (-1))),(8,(.ref 0 0)),(11,(.own 1 95 10 o.length)),(13,(.ref 2 0)),(14,(.ref 3 0)),(15,(.ref 4 0)),(18,(.ref 6 0)),(47,(vl 83 7 kM t)),(48,(jP t.length)),(49,(jP k)),(92,(vb true))]) (b:=[(0,some y1),(1,some (yG jL o)),(2,some (bx (kM (t.getD k tz)))),(3,some (bx (jL y))),(4,some (bx (jL z))),(6,some (bx (jF (kC (nV bv (jU bv t k) (t.getD k tz))))++[(.own 7 61 8 0),(.d (.val (.slice none 0 0)))])),(7,some (yG jF []))])) ?_
     refine aI 6 9 8 86 1 (cs:=(bx (jF (kC (nV bv (jU bv t k) (t.getD k tz))))++[(.own 7 61 8 0),(.d (.val (.slice none 0 0)))])) (h:=?_)
     refine kS (wk (l:=[(1,(vl 61 8 jF (List.map kC bv))),(2,(jP 1)),(3,(vi (-1))),(8,(.ref 0 0)),(11,(.own 1 95 10 o.length)),(13,(.ref 2 0)),(14,(.ref 3 0)),(15,(.ref 4 0)),(18,(.ref 6 0)),(47,(vl 83 7 kM t)),(48,(jP t.length)),(49,(jP k)),(92,(vb true))]) (b:=[(0,some y1),(1,some (yG jL o)),(2,some (bx (kM (t.getD k tz)))),(3,some (bx (jL y))),(4,some (bx (jL z))),(6,some (bx (jF (kC (nV bv (jU bv t k) (t.getD k tz))))++[(.own 7 61 8 0),(.own 8 86 1 0)])),(7,some (yG jF [])),(8,some (bm uL []))])) ?_
     refine kx [(94,(jP bv.length)),(95,(jP 0))] [] (zM<|zE (oLn xI bv.length)<|zM<|zZ) ?_
     refine jH<|kA (α:=Nat × List jV) (fun (i,gl)=>⟨[(1,(vl 61 8 jF (List.map kC bv))),(2,(jP 1)),(3,(vi (-1))),(8,(.ref 0 0)),(11,(.own 1 95 10 o.length)),(13,(.ref 2 0)),(14,(.ref 3 0)),(15,(.ref 4 0)),(18,(.ref 6 0)),(47,(vl 83 7 kM t)),(48,(jP t.length)),(49,(jP k)),(94,(jP bv.length)),(95,(jP i))],[(0,some y1),(1,some (yG jL o)),(2,some (bx (kM (t.getD k tz)))),(3,some (bx (jL y))),(4,some (bx (jL z))),(6,some (bx (jF (kC (nV bv (jU bv t k) (t.getD k tz))))++[(.own 7 61 8 gl.length),(.own 8 86 1 0)])),(7,some (yG jF gl)),(8,some (bm uL []))]⟩) (fun (i,gl)=>i≤bv.length∧gl=List.map kC (List.map (fun (i:Nat)=>nG bv (jU bv t k) (t.getD k tz) i) (List.range i))) (fun (i,gl)=>bv.length-i) (0,[]) wk ⟨Nat.zero_le _,rfl⟩ ?_
     rintro ⟨i,gl⟩ ⟨hi,hg⟩
     have hgl:gl.length=i:=jk_len (G:=(fun (i:Nat)=>nG bv (jU bv t k) (t.getD k tz) i)) hg
     refine jB<|kx [(96,(vb (decide (((i:Nat):Int)<((bv.length:Nat):Int)))))] [] (zE xK<|zZ) ?_
     refine jB<|jG rfl (fun h4=>?_) (fun h4=>?_)
     ·replace h4:=uP h4
      refine jD<|jB<|jH<|jB<|kx [(19,(jP i))] [] (zM<|zM<|zZ) ?_
      refine kd [] [(6,some (bx (jF (kC (nV bv (jU bv t k) (t.getD k tz))))++[(.own 9 61 8 ((gl++[(kC (nG bv (jU bv t k) (t.getD k tz) i))]).length)),(.own 8 86 1 0)])),(9,some (yG jF (gl++[(kC (nG bv (jU bv t k) (t.getD k tz) i))]))),(7,none)] mo (wE (kY xV)<|wR (uM cJ)<|wR (kK bM)<|wR (kK nL)<|wR (kK nL)<|wE (kY zJ)<|wR (kK jW)<|wM<|wE (jY (u_x (t.getD k tz) y z (kC (nV bv (jU bv t k) (t.getD k tz))) i bv (jU bv t k) (hr.nd k (uP hlt0)) (hr.ok k hk) (hr.nv k (uP hlt0)) (by omega) (by assumption) (by assumption) rfl))<|wM<|wE (jY (u_held (nG bv (jU bv t k) (t.getD k tz) i) (qD (nG_gl (hr.nv k (uP hlt0)) (by omega)) (by decide))))<|wE (cN xI qO qS)<|wAS (k:=7) 9 jF gl [(kC (nG bv (jU bv t k) (t.getD k tz) i))] rfl xI qO by61<|wE (kY xV)<|wT (oSx cJ)<|wZ) ?_
      refine kS (wk (l:=[(1,(vl 61 8 jF (List.map kC bv))),(2,(jP 1)),(3,(vi (-1))),(8,(.ref 0 0)),(11,(.own 1 95 10 o.length)),(13,(.ref 2 0)),(14,(.ref 3 0)),(15,(.ref 4 0)),(18,(.ref 6 0)),(47,(vl 83 7 kM t)),(48,(jP t.length)),(49,(jP k)),(94,(jP bv.length)),(95,(jP i))]) (b:=[(0,some y1),(1,some (yG jL o)),(2,some (bx (kM (t.getD k tz)))),(3,some (bx (jL y))),(4,some (bx (jL z))),(6,some (bx (jF (kC (nV bv (jU bv t k) (t.getD k tz))))++[(.own 9 61 8 ((gl++[(kC (nG bv (jU bv t k) (t.getD k tz) i))]).length)),(.own 8 86 1 0)])),(8,some (bm uL [])),(9,some (yG jF (gl++[(kC (nG bv (jU bv t k) (t.getD k tz) i))])))])) ?_
      refine kS (bN (S':=[(1,(vl 61 8 jF (List.map kC bv))),(2,(jP 1)),(3,(vi (-1))),(8,(.ref 0 0)),(11,(.own 1 95 10 o.length)),(13,(.ref 2 0)),(14,(.ref 3 0)),(15,(.ref 4 0)),(18,(.ref 6 0)),(47,(vl 83 7 kM t)),(48,(jP t.length)),(49,(jP k)),(94,(jP bv.length)),(95,(jP i))]) (B':=[(0,some y1),(1,some (yG jL o)),(2,some (bx (kM (t.getD k tz)))),(3,some (bx (jL y))),(4,some (bx (jL z))),(6,some (bx (jF (kC (nV bv (jU bv t k) (t.getD k tz))))++[(.own 7 61 8 ((gl++[(kC (nG bv (jU bv t k) (t.getD k tz) i))]).length)),(.own 8 86 1 0)])),(7,some (yG jF (gl++[(kC (nG bv (jU bv t k) (t.getD k tz) i))]))),(8,some (bm uL []))]) 7 9 6) ?_
      refine kx [(95,(jP (i+1)))] [] (zE (vC (i+1))<|zM<|zZ) ?_
      exact ⟨(i+1,gl++[kC (nG bv (jU bv t k) (t.getD k tz) i)]),wk,⟨by omega,jk_push (G:=(fun (i:Nat)=>nG bv (jU bv t k) (t.getD k tz) i)) hg⟩,(by first|omega|(dsimp only;omega))⟩
     ·replace h4:=uR h4
      refine kB<|jB<|jB<|kx [(114,(vb false))] [] (zM<|zE (vW false xR)<|zZ) ?_
      refine kU ?_
      refine jD<|kS (eD (j:=6) (k:=7) (pre:=(bx (jF (kC (nV bv (jU bv t k) (t.getD k tz)))))) (post:=[(.own 8 86 1 0)]) (es:=List.map jF gl) rfl (by decide) rfl (zL _ _ (fun _=>rfl)) (uJ _ _ rfl) (yS jF gl (fun _=>rfl) rfl)) ?_
      refine kS (wk (l:=[(1,(vl 61 8 jF (List.map kC bv))),(2,(jP 1)),(3,(vi (-1))),(8,(.ref 0 0)),(11,(.own 1 95 10 o.length)),(13,(.ref 2 0)),(14,(.ref 3 0)),(15,(.ref 4 0)),(18,(.ref 6 0)),(47,(vl 83 7 kM t)),(48,(jP t.length)),(49,(jP k)),(114,(vb false))]) (b:=[(0,some y1),(1,some (yG jL o)),(2,some (bx (kM (t.getD k tz)))),(3,some (bx (jL y))),(4,some (bx (jL z))),(6,some (bx (jF (kC (nV bv (jU bv t k) (t.getD k tz))))++[(vl 61 8 jF gl),(.own 8 86 1 0)])),(8,some (bm uL []))])) ?_
      refine kS (eD (j:=6) (k:=8) (pre:=(bx (jF (kC (nV bv (jU bv t k) (t.getD k tz))))++[(vl 61 8 jF gl)])) (post:=[]) (es:=List.map uL []) rfl (by decide) rfl (uQ _ _ (fun _=>rfl)) (uJ _ _ rfl) (vQ _ _ (fun _=>rfl) rfl)) ?_
      refine kS (wk (l:=[(1,(vl 61 8 jF (List.map kC bv))),(2,(jP 1)),(3,(vi (-1))),(8,(.ref 0 0)),(11,(.own 1 95 10 o.length)),(13,(.ref 2 0)),(14,(.ref 3 0)),(15,(.ref 4 0)),(18,(.ref 6 0)),(47,(vl 83 7 kM t)),(48,(jP t.length)),(49,(jP k)),(114,(vb false))]) (b:=[(0,some y1),(1,some (yG jL o)),(2,some (bx (kM (t.getD k tz)))),(3,some (bx (jL y))),(4,some (bx (jL z))),(6,some (bx (jL (xL.mk (kC (nV bv (jU bv t k) (t.getD k tz))) gl []))))])) ?_
      refine kf [(11,(.own 1 95 10 ((o++[(xL.mk (kC (nV bv (jU bv t k) (t.getD k tz))) gl [])]).length)))] [(1,some (yG jL (o++[(xL.mk (kC (nV bv (jU bv t k) (t.getD k tz))) gl [])])))] (zM<|zR (kK nL)<|zE (cN dR cZ fK)<|zAS jL o [(xL.mk (kC (nV bv (jU bv t k) (t.getD k tz))) gl [])] rfl dR cZ by95<|zM<|zF) ?_
      refine kx [(49,(jP (k+1)))] [] (zE (vC (k+1))<|zM<|zZ) ?_
      exact ⟨(k+1,o++[xL.mk (kC (nV bv (jU bv t k) (t.getD k tz))) gl []]),wk,⟨by have:=uP hlt0;omega,jU_nx ho hg (by omega)⟩,(by first|omega|(dsimp only;omega))⟩
 ·replace h1:=uR h1
  refine kB<|jB<|kx [(9,(jP 0))] [(0,some (bx (jL (o.getD (o.length-1) (xL.mk y2 [] [])))))] (zM<|zM<|zE (oLo dR)<|zE (oSb (o.length-1))<|zE (oXO dR (o.length-1))<|zR (oLA nL (o.length-1) (xL.mk y2 [] []))<|zT (qA nL)<|zM<|zZ) ?_
  refine jE ⟨_,(kH (cs:=(bx (jL (o.getD (o.length-1) (xL.mk y2 [] []))))) (d:=(jL (o.getD (o.length-1) (xL.mk y2 [] [])))) rfl rfl nL rfl rfl (.tmp (d:=(.val (.int .i64 (((0:Nat):Int))))) rfl .nil)),?_⟩
  obtain rfl:k=t.length:=by omega
  obtain rfl:k0=t.length:=by omega
  rw[hol,hget _ (show t.length-1<t.length by omega),dJ_y,dC_y];rfl
theorem cb15:callB Tryz.prog 15=true:=by kernel_rfl
theorem cb69:callB Tryz.prog 69=true:=by kernel_rfl
theorem u_jetsO(t:List kV)(ht:vR 1048576 t)(bv:List R2)(hbx:∀ x∈bv,GL 1048576 x)(hT:mW bv t)(hd:dzT bv t=false)(hbl:bv.length≤1000000):jR Tryz.prog 51 [(.sl 83 7 (List.map kM t)),(.sl 61 8 (List.map jF (List.map kC bv))),(.val (.int .i64 (((1:Nat):Int)))),(.val (.int .i64 (-1)))] (.tup [(jL (qJ (vZ bv t))),(.val (.int .i64 (((0:Nat):Int))))]):=by
 have h:=u_jetsU t ht bv hbx t.length (hT.dend hd) hbl
 rw[dJ_y,dC_y] at h
 exact h
theorem u_jetsZ(t:List kV)(ht:vR 1048576 t)(bv:List R2)(hbx:∀ x∈bv,GL 1048576 x)(hT:mW bv t)(hd:dzT bv t=true)(hbl:bv.length≤1000000):jR Tryz.prog 51 [(.sl 83 7 (List.map kM t)),(.sl 61 8 (List.map jF (List.map kC bv))),(.val (.int .i64 (((1:Nat):Int)))),(.val (.int .i64 (-1)))] (.tup [(jL (xL.mk (jV.mk kZ kZ) [] [])),(.val (.int .i64 (((14:Nat):Int))))]):=by
 obtain ⟨k,hk⟩:=dz_fst hd
 have h:=u_jetsU t ht bv hbx k (hT.dfail hk) hbl
 rw[dJ_n hk.lt,dC_n hk.lt] at h
 exact h
theorem u_pts(xs:List Rat)(hx:∀ q∈xs,QL q 1048576)(hxb:xs.length≤1000000):jR Tryz.prog 69 [(.sl 45 4 (List.map jK (List.map jN xs)))] (.sl 61 8 (List.map jF (List.map kC (List.map yF xs)))):=by
 refine jJ Tryz.func69 rfl cb69 rfl ?_
 show qG _ _ _ _ ⟨[(0,(vl 45 4 jK (List.map jN xs)))],[]⟩
 refine jB<|kx [] [] (zE (dD 61 8)<|zZ) ?_
 refine jB<|kx [(3,(.own 0 61 8 0))] [(0,some (yG jF []))] (zN (oBo 0 xI qO qS)<|zM<|zZ) ?_
 refine jB<|jB<|kx [(7,(vl 45 4 jK (List.map jN xs))),(8,(jP xs.length)),(9,(jP 0))] [] (zM<|zE (oLn uE xs.length)<|zM<|zZ) ?_
 refine jH<|kA (α:=Nat × List jV) (fun (i,o)=>⟨[(3,(.own 0 61 8 o.length)),(7,(vl 45 4 jK (List.map jN xs))),(8,(jP xs.length)),(9,(jP i))],[(0,some (yG jF o))]⟩) (fun (i,o)=>i≤xs.length∧o=(xs.take i).map (fun q=>kC (yF q))) (fun (i,o)=>xs.length-i) (0,[]) wk ⟨Nat.zero_le _,by simp⟩ ?_
 rintro ⟨i,o⟩ ⟨hi,ho⟩
 have hol:o.length=i:=by rw[ho,List.length_map,List.length_take];omega
 refine jB<|kx [(10,(vb (decide (((i:Nat):Int)<((xs.length:Nat):Int)))))] [] (zE xK<|zZ) ?_
 refine jB<|jG rfl (fun h1=>?_) (fun h1=>?_)
 ·replace h1:=uP h1
  refine jD<|jB<|jH<|jB<|kx [(5,(.ref 1 0))] [(1,some (bx (jK (jN (xs.getD i 0)))))] (zE (oXm uE jN i 0)<|zE (gE jS)<|zH (qV 1 qU qY)<|zT (qA jS)<|zZ) ?_
  refine kf [(3,(.own 0 61 8 ((o++[(jV.mk (jN (xs.getD i 0)) (jN (xs.getD i 0)))]).length)))] [(0,some (yG jF (o++[(jV.mk (jN (xs.getD i 0)) (jN (xs.getD i 0)))])))] (zM<|zR (kK jS)<|zE (jY (h_point (xs.getD i 0) (xE (dT hx (by decide) i) (by decide))))<|zE (cN xI qO qS)<|zAS jF o [(jV.mk (jN (xs.getD i 0)) (jN (xs.getD i 0)))] rfl xI qO by61<|zM<|zF) ?_
  refine kx [(9,(jP (i+1)))] [] (zE (vC (i+1))<|zM<|zZ) ?_
  exact ⟨(i+1,o++[kC (yF (xs.getD i 0))]),wk,⟨by omega,by rw[ho];exact mS (f:=fun q=>kC (yF q)) (by omega)⟩,(by first|omega|(dsimp only;omega))⟩
 ·replace h1:=uR h1
  refine kB<|jB<|kx [(2,(.own 0 61 8 o.length))] [] (zM<|zM<|zZ) ?_
  refine kS (vD (t:=2) (k:=0) (es:=List.map jF o) rfl rfl (zL _ _ (fun _=>rfl)) (uJ _ _ rfl) (yS jF o (fun _=>rfl) rfl)) ?_
  refine jE ⟨_,(.tmp (d:=(.sl 61 8 (List.map jF o))) rfl .nil),?_⟩
  rw[ho,show i=xs.length by omega,List.take_length,show List.map (fun q=>kC (yF q)) xs=List.map kC (List.map yF xs) from (by rw[List.map_map];rfl)];rfl
theorem u_grd(t:List kV)(ht:vR 1048576 t)(xs:List Rat)(hx:∀ q∈xs,QL q 1048576)(hT:mW (List.map yF xs) t)(hd:dzT (List.map yF xs) t=false)(hxb:xs.length≤1000000):jR Tryz.prog 15 [(.sl 83 7 (List.map kM t)),(.sl 45 4 (List.map jK (List.map jN xs)))] (.tup [(.sl 45 4 (List.map jK (vT xs t))),(.val (.int .i64 (((0:Nat):Int))))]):=by
 have hgx:(List.map yF xs).length=xs.length:=List.length_map _
 have hgl:(vZ (List.map yF xs) t).g.length=xs.length:=by rw[(mW.dend hT hd).last.2.2,List.length_map]
 refine jJ Tryz.func15 rfl cb15 rfl ?_
 show qG _ _ _ _ ⟨[(0,(vl 83 7 kM t)),(1,(vl 45 4 jK (List.map jN xs)))],[]⟩
 refine jB<|kx [] [] (zE (dD 45 4)<|zM<|zZ) ?_
 refine jB<|kx [(6,(.ref 0 0)),(7,(jP 0))] [(0,some (bx (jL (qJ (vZ (List.map yF xs) t)))))] (zM<|zM<|zE (jY (u_pts xs hx hxb))<|zE (jY (u_jetsO t ht (List.map yF xs) (pts_gl hx) hT hd (by omega)))<|zM<|zE uT<|zE uT<|zN (qV 0 cZ fK)<|zT (qA nL)<|zM<|zZ) ?_
 refine jB<|jB<|kx [(19,(vb false))] [] (zM<|zE (vW false nW)<|zZ) ?_
 refine kU ?_
 refine jD<|jB<|kx [(8,(.own 1 45 4 0))] [(1,some (yG jK []))] (zN (oBo 1 uE qU qY)<|zM<|zZ) ?_
 refine jB<|jB<|kx [(23,(vl 61 8 jF (List.map kC ((vZ (List.map yF xs) t).g)))),(24,(jP (((vZ (List.map yF xs) t).g).length))),(25,(jP 0))] [] (zE (kY xV)<|zR (oQr (.sl 61 8 (List.map jF (List.map kC ((vZ (List.map yF xs) t).g)))) (.sl 61 8 (List.map jF (List.map kC ((vZ (List.map yF xs) t).g)))) (uM cJ) (by exact rfl))<|zE (oLn xI (((vZ (List.map yF xs) t).g).length))<|zM<|zZ) ?_
 refine jH<|kA (α:=Nat × List jQ) (fun (i,o)=>⟨[(8,(.own 1 45 4 o.length)),(23,(vl 61 8 jF (List.map kC ((vZ (List.map yF xs) t).g)))),(24,(jP (((vZ (List.map yF xs) t).g).length))),(25,(jP i))],[(1,some (yG jK o))]⟩) (fun (i,o)=>i≤(vZ (List.map yF xs) t).g.length∧o=((vZ (List.map yF xs) t).g.take i).map (fun y=>jN y.1)) (fun (i,o)=>(vZ (List.map yF xs) t).g.length-i) (0,[]) wk ⟨Nat.zero_le _,by simp⟩ ?_
 rintro ⟨i,o⟩ ⟨hi,ho⟩
 have hol:o.length=i:=by rw[ho,List.length_map,List.length_take];omega
 refine jB<|kx [(26,(vb (decide (((i:Nat):Int)<((((vZ (List.map yF xs) t).g).length:Nat):Int)))))] [] (zE xK<|zZ) ?_
 refine jB<|jG rfl (fun h1=>?_) (fun h1=>?_)
 ·replace h1:=uP h1
  refine jD<|jB<|jH<|jB<|kx [(10,(.ref 2 0))] [(2,some (bx (jF (kC (((vZ (List.map yF xs) t).g).getD i z2)))))] (zE (oXm xI kC i z2)<|zE (gE jW)<|zH (qV 2 qO qS)<|zT (qA jW)<|zZ) ?_
  refine kf [(8,(.own 1 45 4 ((o++[(jN ((((vZ (List.map yF xs) t).g).getD i z2).1))]).length)))] [(1,some (yG jK (o++[(jN ((((vZ (List.map yF xs) t).g).getD i z2).1))])))] (zM<|zE (kY vK)<|zR (kK jS)<|zE (cN uE qU qY)<|zAS jK o [(jN ((((vZ (List.map yF xs) t).g).getD i z2).1))] rfl uE qU by45<|zM<|zF) ?_
  refine kx [(25,(jP (i+1)))] [] (zE (vC (i+1))<|zM<|zZ) ?_
  exact ⟨(i+1,o++[jN ((vZ (List.map yF xs) t).g.getD i z2).1]),wk,⟨by omega,by rw[ho];exact gr_step (by omega)⟩,(by first|omega|(dsimp only;omega))⟩
 ·replace h1:=uR h1
  refine kB<|jB<|kx [(4,(.own 1 45 4 o.length)),(5,(jP 0))] [] (zM<|zM<|zM<|zZ) ?_
  refine kS (vD (t:=4) (k:=1) (es:=List.map jK o) rfl rfl (zL _ _ (fun _=>rfl)) (uJ _ _ rfl) (yS jK o (fun _=>rfl) rfl)) ?_
  refine jE ⟨_,(.tmp (d:=(.sl 45 4 (List.map jK o))) rfl (.tmp (d:=(.val (.int .i64 (((0:Nat):Int))))) rfl .nil)),?_⟩
  rw[ho,show i=(vZ (List.map yF xs) t).g.length by omega,List.take_length];rfl
theorem u_grdZ(t:List kV)(ht:vR 1048576 t)(xs:List Rat)(hx:∀ q∈xs,QL q 1048576)(hT:mW (List.map yF xs) t)(hd:dzT (List.map yF xs) t=true)(hxb:xs.length≤1000000):jR Tryz.prog 15 [(.sl 83 7 (List.map kM t)),(.sl 45 4 (List.map jK (List.map jN xs)))] (.tup [(.sl 45 4 (List.map jK [])),(.val (.int .i64 (((14:Nat):Int))))]):=by
 have hgx:(List.map yF xs).length=xs.length:=List.length_map _
 refine jJ Tryz.func15 rfl cb15 rfl ?_
 show qG _ _ _ _ ⟨[(0,(vl 83 7 kM t)),(1,(vl 45 4 jK (List.map jN xs)))],[]⟩
 refine jB<|kx [] [] (zE (dD 45 4)<|zM<|zZ) ?_
 refine jB<|kx [(6,(.ref 0 0)),(7,(jP 14))] [(0,some (bx (jL (xL.mk (jV.mk kZ kZ) [] []))))] (zM<|zM<|zE (jY (u_pts xs hx hxb))<|zE (jY (u_jetsZ t ht (List.map yF xs) (pts_gl hx) hT hd (by omega)))<|zM<|zE uT<|zE uT<|zN (qV 0 cZ fK)<|zT (qA nL)<|zM<|zZ) ?_
 refine jB<|jB<|kx [(19,(vb true))] [] (zM<|zE (vW true nW)<|zZ) ?_
 refine uY ?_
 refine jB<|kx [(4,(vl 45 4 jK [])),(5,(jP 14))] [] (zM<|zE (dD 45 4)<|zM<|zZ) ?_
 refine jE ⟨_,(.tmp (d:=(.sl 45 4 (List.map jK []))) rfl (.tmp (d:=(.val (.int .i64 (((14:Nat):Int))))) rfl .nil)),?_⟩
 rfl
theorem cb89:callB Tryz.prog 89=true:=by kernel_rfl
theorem cb149:callB Tryz.prog 149=true:=by kernel_rfl
theorem i_makeO(x:jQ)(p:Rat)(hx:gW x p 17179869184)(y:jQ)(q:Rat)(hy:gW y q 17179869184)(hv:(kR x&&kR y)=true)(hc:p≤q):jR Tryz.prog 149 [(jK x),(jK y)] (.tup [(jF (jV.mk x y)),(.val (.int .i64 (0)))]):=by
 refine jJ Tryz.func149 rfl cb149 rfl ?_
 show qG _ _ _ _ ⟨[(0,(.d (jK x))),(1,(.d (jK y)))],[]⟩
 refine jB<|kx [(2,(.ref 0 0)),(3,(.ref 1 0)),(4,(.ref 2 0))] [(0,some (bx (jK x))),(1,some (bx (jK y))),(2,some (bx (jF (jV.mk kZ kZ))))] (zN (vA 0)<|zN (vA 1)<|zN (qV 2 qO qS)<|zM<|zZ) ?_
 refine jB<|jB<|kx [(13,(vb (!(kR x)||!(kR y))))] [] ?_ ?_
 ·refine zR (kK jS)<|zE (jY (cQ x p hx))<|zE mD<|zE (oV (vb (!(kR x))) (qC (by kernel_rfl)))<|?_
  rcases hb1:(!(kR x)) with _ | _
  ·exact zR (kK jS)<|zE (jY (cQ y q hy))<|zE mD<|zE eP<|zZ
  ·exact zK<|zK<|zK<|zE gR<|zZ
 refine jG (b:=(!(kR x)||!(kR y))) rfl (fun h2=>?_) (fun h2=>?_)
 ·exfalso;revert h2 hv;cases kR x<;>cases kR y<;>simp
 ·refine jD<|jB<|jB<|kx [(18,(vb (decide (0<(yC p q)))))] [] (zR (kK jS)<|zR (kK jS)<|zE (jY (cY x y p q hx hy))<|zE mL<|zZ) ?_
  refine jG (b:=decide (0<(yC p q))) rfl (fun h3=>?_) (fun h3=>?_)
  ·replace h3:=uP h3
   exact absurd (cmpQ_gt.1 h3) (Rat.not_lt.2 hc)
  ·replace h3:=uR h3
   refine jD<|jB<|kx [(5,(jP 0))] [(2,some (bx (jF (jV.mk x y))))] (zR (kK jS)<|zR (kK jS)<|zE (eX pl61 qO qS)<|zT (qA jW)<|zM<|zZ) ?_
   refine jE ⟨_,(kH (cs:=(bx (jF (jV.mk x y)))) (d:=(jF (jV.mk x y))) rfl rfl jW rfl rfl (.tmp (d:=(.val (.int .i64 (0)))) rfl .nil)),?_⟩
   rfl
end Go.Proofs.YtnajallgoaiahaaGreatDoor
namespace Go.Fid
def rootN(x:Nat):Nat:=Nat.rec (motive:=fun _=>Nat) 0 (fun _ r=>if (r+1)*(r+1)≤x then r+1 else r) x
theorem rootN_go(x:Nat):∀ k,let r:Nat:=Nat.rec (motive:=fun _=>Nat) 0 (fun _ r=>if (r+1)*(r+1)≤x then r+1 else r) k;r*r≤x∧(x<(r+1)*(r+1)∨r=k)
 |0=>⟨Nat.zero_le _,.inr rfl⟩
 |k+1=>by
  obtain ⟨h1,h2⟩:=rootN_go x k
  dsimp only at h1 h2 ⊢
  generalize hr:(Nat.rec (motive:=fun _=>Nat) 0 (fun _ r=>if (r+1)*(r+1)≤x then r+1 else r) k:Nat)=r at h1 h2
  split
  ·rename_i h
   refine ⟨h,?_⟩
   rcases h2 with h2 | h2
   ·omega
   ·right;omega
  ·rename_i h;exact ⟨h1,.inl (by omega)⟩
theorem rootN_le(x:Nat):rootN x*rootN x≤x:=(rootN_go x x).1
theorem lt_rootN(x:Nat):x<(rootN x+1)*(rootN x+1):=by
 rcases (rootN_go x x).2 with h | h
 ·exact h
 ·have h:rootN x=x:=h
  rw[h]
  have:(x+1)*(x+1)=x*x+2*x+1:=by rw[Nat.add_mul,Nat.mul_add];omega
  omega
theorem sq_lt{a b:Nat}(h:a*a<b*b):a<b:=by
 rcases Nat.lt_or_ge a b with h1 | h1
 ·exact h1
 ·have:=Nat.mul_le_mul h1 h1;omega
theorem root_uniq{x r:Nat}(h1:r*r≤x)(h2:x<(r+1)*(r+1)):r=rootN x:=by
 have a1:=sq_lt (Nat.lt_of_le_of_lt h1 (lt_rootN x))
 have a2:=sq_lt (Nat.lt_of_le_of_lt (rootN_le x) h2)
 omega
theorem newton_up{x r:Nat}(hr:0<r):x<((r+x / r) / 2+1)*((r+x / r) / 2+1):=by
 have h1:x<r*(x / r+1):=by
  have:=Nat.div_add_mod x r
  have:=Nat.mod_lt x hr
  rw[Nat.mul_add,Nat.mul_one];omega
 generalize x / r=q at *
 generalize hn:(r+q) / 2=n at *
 have h2:r+(q+1)≤2*(n+1):=by omega
 have h3:4*(r*(q+1))≤(r+(q+1))*(r+(q+1)):=by
  generalize q+1=b
  rcases Nat.le_total r b with h | h
  ·obtain ⟨d,rfl⟩:=Nat.exists_eq_add_of_le h
   have:(r+(r+d))*(r+(r+d))=4*(r*(r+d))+d*d:=by grind
   omega
  ·obtain ⟨d,rfl⟩:=Nat.exists_eq_add_of_le h
   have:(b+d+b)*(b+d+b)=4*((b+d)*b)+d*d:=by grind
   omega
 have h4:=Nat.mul_le_mul h2 h2
 have h5:2*(n+1)*(2*(n+1))=4*((n+1)*(n+1)):=by grind
 omega
theorem newton_end{x r:Nat}(hr:0<r)(h:r≤(r+x / r) / 2):r*r≤x:=by
 have h1:r≤x / r:=by omega
 exact Nat.le_trans (Nat.mul_le_mul_left r h1) (Nat.mul_div_le x r)
theorem newton_pos{x r:Nat}(hx:0<x)(hr:0<r):0<(r+x / r) / 2:=by
 have:=newton_up (x:=x) hr
 rcases Nat.eq_zero_or_pos ((r+x / r) / 2) with h | h
 ·rw[h] at this;omega
 ·exact h
theorem newton_root{x r:Nat}(hr:0<r)(hu:x<(r+1)*(r+1))(h:r≤(r+x / r) / 2):r=rootN x:=root_uniq (newton_end hr h) hu
theorem bit_and(n b:Nat):(n &&& 2 ^ b=0)↔n / 2 ^ b % 2=0:=by
 have hb:n.testBit b=decide (n / 2 ^ b % 2=1):=Nat.testBit_eq_decide_div_mod_eq
 have key:(n &&& 2 ^ b=0)↔n.testBit b=false:=by
  constructor
  ·intro h
   have:=congrArg (fun m:Nat=>m.testBit b) h
   simpa [Nat.testBit_and,Nat.testBit_two_pow] using this
  ·intro h
   apply Nat.eq_of_testBit_eq
   intro i
   rw[Nat.testBit_and,Nat.testBit_two_pow,Nat.zero_testBit]
   by_cases e:b=i
   ·subst e;rw[h];rfl
   ·simp [e]
 rw[key,hb,decide_eq_false_iff_not]
 omega
abbrev yA (k:Nat):Rat:=((((2 ^ k:Nat):Int):Int):Rat)
def pwS(n i:Nat):Nat:=2 ^ (n / 2 ^ (13-i))
theorem pwS_0{n:Nat}(h:n≤4096):[1]=ofNat (pwS n 0):=by
 have e:n / 2 ^ (13-0)=0:=Nat.div_eq_of_lt (by show n<8192;omega)
 unfold pwS;rw[e,Nat.pow_zero,mE (by decide)]
 have:ofNat (1 / 1000000000)=[]:=by rw[show 1 / 1000000000=0 from rfl,uN]
 rw[this]
theorem pwS_13(n:Nat):pwS n 13=2 ^ n:=by unfold pwS;simp
theorem bit_eq{i:Nat}(h:i≤12):4096 / 2 ^ i=2 ^ (12-i):=by
 rw[show (4096:Nat)=2 ^ 12 from rfl,Nat.pow_div h (by decide)]
theorem bit_13:4096 / 2 ^ 13=0:=by decide
theorem bit_pos{i:Nat}(hi:i≤13)(h:(0:Int)<((4096 / 2 ^ i:Nat):Int)):i<13:=by
 by_cases e:i=13
 ·subst e;rw[bit_13] at h;omega
 ·omega
theorem bit_end{i:Nat}(hi:i≤13)(h:¬ (0:Int)<((4096 / 2 ^ i:Nat):Int)):i=13:=by
 by_cases e:i=13
 ·exact e
 ·rw[bit_eq (by omega)] at h
  have:=Nat.pow_pos (n:=12-i) (show 0<2 by decide)
  omega
theorem bit_half(i:Nat):4096 / 2 ^ i / 2=4096 / 2 ^ (i+1):=by rw[Nat.div_div_eq_div_mul,Nat.pow_succ]
theorem pw_half{n i:Nat}(hi:i<13):n / 2 ^ (12-i)=2*(n / 2 ^ (13-i))+n / 2 ^ (12-i) % 2:=by
 have e:n / 2 ^ (13-i)=n / 2 ^ (12-i) / 2:=by
  rw[Nat.div_div_eq_div_mul,← Nat.pow_succ,show (12-i).succ=13-i by omega]
 rw[e];omega
theorem pwS_even{n i:Nat}(hi:i<13)(h:(n &&& 4096 / 2 ^ i)=0):pwS n i*pwS n i=pwS n (i+1):=by
 rw[bit_eq (by omega),bit_and] at h
 have e:=pw_half (n:=n) hi
 unfold pwS
 rw[show 13-(i+1)=12-i by omega,e,h,Nat.add_zero,Nat.two_mul,Nat.pow_add]
theorem pwS_odd{n i:Nat}(hi:i<13)(h:¬ (n &&& 4096 / 2 ^ i)=0):pwS n i*pwS n i*2=pwS n (i+1):=by
 rw[bit_eq (by omega),bit_and] at h
 have e:=pw_half (n:=n) hi
 have h2:n / 2 ^ (12-i) % 2=1:=by omega
 unfold pwS
 rw[show 13-(i+1)=12-i by omega,e,h2,Nat.pow_add,Nat.two_mul,Nat.pow_add,Nat.pow_one]
theorem two_pw(e:Nat):2 ^ e<pw (e+1):=by
 induction e with
 |zero=>simp [pw]
 |succ e ih=>rw[Nat.pow_succ,uX];omega
theorem len_two(e:Nat):(ofNat (2 ^ e)).length≤e+1:=uH (two_pw e)
theorem len_pwS{n:Nat}(h:n≤4096)(i:Nat):(ofNat (pwS n i)).length≤4097:=by
 have:=len_two (n / 2 ^ (13-i))
 have h2:n / 2 ^ (13-i)≤n:=Nat.div_le_self _ _
 unfold pwS;omega
theorem g2:kW (kN 2)=[2]:=by
 rw[grpI_ofZ]
 show ofNat 2=[2]
 rw[mE (by decide),show 2 / 1000000000=0 from rfl,uN]
theorem g2n:ofNat (Int.natAbs 2)=[2]:=by rw[← grpI_ofZ];exact g2
theorem g2len:(kN 2).gs.length=1:=by
 show (ofNat 2).length=1
 rw[show ofNat 2=[2] from g2n];rfl
theorem neg2:(kN 2).neg=false:=rfl
theorem len_sq{n i:Nat}{out:List Nat}(hv:val out=pwS n i)(hn:n≤4096)(hi:i<13):(ofNat (val out*val out)).length≤8195:=by
 rw[hv]
 unfold pwS
 rw[← Nat.pow_add]
 have:=len_two (n / 2 ^ (13-i)+n / 2 ^ (13-i))
 have h2:n / 2 ^ (13-i)≤n:=Nat.div_le_self _ _
 omega
theorem mk_two(n:Nat):xQ false (val (ofNat (pwS n 13)))=kN ((2 ^ n:Nat):Int):=by
 rw[kI,pwS_13]
 unfold kN
 rw[Int.natAbs_natCast,decide_eq_false (Int.not_lt.2 (Int.natCast_nonneg _))]
def qZ(z:Int):Int:=((rootN z.toNat:Nat):Int)
theorem rootI_0(z:Int):0≤qZ z:=Int.natCast_nonneg _
theorem rootI_le{z:Int}(h:0≤z):qZ z*qZ z≤z:=by
 obtain ⟨x,rfl⟩:=Int.eq_ofNat_of_zero_le h
 have:=rootN_le x
 unfold qZ;rw[Int.toNat_natCast]
 have e:((rootN x*rootN x:Nat):Int)≤(x:Int):=by omega
 simpa using e
theorem lt_rootI{z:Int}(h:0≤z):z<(qZ z+1)*(qZ z+1):=by
 obtain ⟨x,rfl⟩:=Int.eq_ofNat_of_zero_le h
 have:=lt_rootN x
 unfold qZ;rw[Int.toNat_natCast]
 have e:(x:Int)<(((rootN x+1)*(rootN x+1):Nat):Int):=by omega
 simpa using e
theorem rootI_self{z:Int}(h:0≤z):qZ z≤z:=by
 have h1:=rootI_le h
 have h2:=rootI_0 z
 by_cases h3:qZ z=0
 ·omega
 ·have:qZ z*1≤qZ z*qZ z:=Int.mul_le_mul_of_nonneg_left (by omega) h2
  omega
theorem iok_root{z:Int}{n:Nat}{x:qB}(h:0≤z)(hz:gO x z n):gO (kN (qZ z)) (qZ z) n:=cE (Nat.le_trans (fV (by have:=rootI_0 z;have:=rootI_self h;omega)) hz.ln)
theorem nw_val(X:Nat)(r:List Nat):val (ofNat (val (ofNat (val r+val (ofNat (val (ofNat X) / val r)))) / 2))=(val r+X / val r) / 2:=by
 rw[kI,kI,kI,kI]
theorem val_app(a b:List Nat):val (a++b)=val a+pw a.length*val b:=by
 induction a with
 |nil=>simp [val,pw]
 |cons d a ih=>
  show d+1000000000*val (a++b)=d+1000000000*val a+pw (a.length+1)*val b
  rw[ih,uX,Nat.mul_add,Nat.mul_assoc];omega
theorem val_zeros(n:Nat):val (List.replicate n 0)=0:=by
 induction n with
 |zero=>rfl
 |succ n ih=>rw[List.replicate_succ];show 0+1000000000*val (List.replicate n 0)=0;rw[ih]
theorem nw_start(n:Nat):val (List.replicate n 0++[1])=pw n:=by
 rw[val_app,val_zeros,List.length_replicate]
 show 0+pw n*(1+1000000000*0)=pw n
 omega
theorem nw_cano(n:Nat):yQ (List.replicate n 0++[1]):=by
 refine ⟨fun d hd=>?_,?_⟩
 ·rcases List.mem_append.1 hd with h | h
  ·rw[(List.mem_replicate.1 h).2];decide
  ·rw[List.mem_singleton.1 h];decide
 ·unfold Top
  rw[List.getD_eq_getElem?_getD]
  simp
theorem nw_top{X:Nat}:X<(val (List.replicate (((ofNat X).length+1) / 2) 0++[1])+1)*(val (List.replicate (((ofNat X).length+1) / 2) 0++[1])+1):=by
 rw[nw_start]
 have h:=aM X
 have h2:pw (ofNat X).length≤pw (((ofNat X).length+1) / 2+((ofNat X).length+1) / 2):=by unfold pw;exact Nat.pow_le_pow_right (by decide) (by omega)
 rw[pw_add] at h2
 have h3:pw (((ofNat X).length+1) / 2)*pw (((ofNat X).length+1) / 2)≤(pw (((ofNat X).length+1) / 2)+1)*(pw (((ofNat X).length+1) / 2)+1):=Nat.mul_le_mul (by omega) (by omega)
 omega
theorem cmpI_ge0{a b:Int}:0≤vF a b↔b≤a:=by
 unfold vF
 by_cases h:a<b
 ·rw[if_pos h];omega
 ·rw[if_neg h];split<;>omega
theorem nw_end{z:Int}{r:List Nat}(z0:0≤z)(h0:0<val r)(hu:z.natAbs<(val r+1)*(val r+1))(h:val r≤(val r+z.natAbs / val r) / 2):xQ false (val r)=kN (qZ z):=by
 have e:=newton_root h0 hu h
 obtain ⟨x,rfl⟩:=Int.eq_ofNat_of_zero_le z0
 rw[Int.natAbs_natCast] at e
 unfold qZ kN
 rw[Int.toNat_natCast,← e,Int.natAbs_natCast,decide_eq_false (by omega)]
theorem two_pos(n:Nat):(0:Int)<((2 ^ n:Nat):Int):=by
 have:=Nat.pow_pos (n:=n) (show 0<2 by decide)
 exact Int.natCast_pos.2 this
theorem neg_abs{z:Int}(z0:0≤z)(h:(kN z).neg=true):False:=by
 have:(decide (z<0)&&z.natAbs != 0)=true:=h
 rw[decide_eq_false (show ¬ z<0 by omega)] at this
 cases this
theorem root_nil{z:Int}(h:(((ofNat z.natAbs).length:Nat):Int)=((0:Nat):Int)):kN (qZ z)=qB.mk false []:=by
 have e:ofNat z.natAbs=[]:=List.eq_nil_of_length_eq_zero (by omega)
 have e2:=bO.1 e
 have e3:z=0:=by omega
 subst e3
 have:qZ 0=0:=by
  have:=rootI_self (z:=0) (by decide);have:=rootI_0 0;omega
 rw[this]
 show qB.mk (decide ((0:Int)<0)&&(Int.natAbs 0 != 0)) (ofNat (Int.natAbs 0))=_
 rw[show Int.natAbs 0=0 from rfl,uN];rfl
theorem nw_ok(X:Nat){r:List Nat}(hr:0<val r)(hX:0<X)(hc:¬ (0:Int)≤vF (((val (ofNat (val (ofNat (val r+val (ofNat (val (ofNat X) / val r)))) / 2)):Nat)):Int) ((val r:Nat):Int)) :
  yQ (ofNat (val (ofNat (val r+val (ofNat (val (ofNat X) / val r)))) / 2))∧0<val (ofNat (val (ofNat (val r+val (ofNat (val (ofNat X) / val r)))) / 2))∧X<(val (ofNat (val (ofNat (val r+val (ofNat (val (ofNat X) / val r)))) / 2))+1)*(val (ofNat (val (ofNat (val r+val (ofNat (val (ofNat X) / val r)))) / 2))+1)∧val (ofNat (val (ofNat (val r+val (ofNat (val (ofNat X) / val r)))) / 2))<val r:=by
 rw[cmpI_ge0,nw_val] at hc
 refine ⟨qK _,?_,?_,?_⟩
 ·rw[nw_val];exact newton_pos hX hr
 ·rw[nw_val];exact newton_up hr
 ·rw[nw_val];omega
theorem nw_stop{X:Nat}{r:List Nat}(hc:(0:Int)≤vF (((val (ofNat (val (ofNat (val r+val (ofNat (val (ofNat X) / val r)))) / 2)):Nat)):Int) ((val r:Nat):Int)):val r≤(val r+X / val r) / 2:=by
 rw[cmpI_ge0,nw_val] at hc;omega
theorem can_len{r s:List Nat}(hr:yQ r)(hs:yQ s)(h:val r≤val s):r.length≤s.length:=by
 rw[can_eq hr,can_eq hs];exact vO h
theorem nw_lens{X:Nat}{r:List Nat}(hx:(ofNat X).length≤400)(hr:r.length≤400)(hc:yQ r):(ofNat (val (ofNat X) / val r)).length≤400∧(ofNat (val r+val (ofNat (val (ofNat X) / val r)))).length≤401∧(ofNat (val (ofNat (val r+val (ofNat (val (ofNat X) / val r)))) / 2)).length≤401:=by
 have h1:(ofNat (val (ofNat X) / val r)).length≤400:=by
  rw[kI];exact Nat.le_trans (vO (Nat.div_le_self _ _)) hx
 have h2:(ofNat (val r+val (ofNat (val (ofNat X) / val r)))).length≤401:=by
  apply uH
  have a1:=xN hc.1
  have a2:=aM (val (ofNat X) / val r)
  have a3:pw r.length≤pw 400:=gX hr
  have a4:pw (ofNat (val (ofNat X) / val r)).length≤pw 400:=gX h1
  rw[kI (val (ofNat X) / val r),uX]
  omega
 refine ⟨h1,h2,?_⟩
 have h3:=kI (val r+val (ofNat (val (ofNat X) / val r)))
 exact Nat.le_trans (vO (by rw[h3];exact Nat.div_le_self _ _)) h2
theorem dV{k:Nat}(h:k≤512):gO (kN ((2 ^ k:Nat):Int)) ((2 ^ k:Nat):Int) 20:=cE (by
 rw[cK,Int.natAbs_natCast]
 refine Nat.lt_of_le_of_lt (Nat.pow_le_pow_right (by decide) h) ?_
 unfold pw
 decide +kernel)
theorem eU{k:Nat}(h:k≤512):QL (((2 ^ k:Nat):Int):Rat) 20:=xT (dV h).ln (by decide)
def cD(x:Rat):Int:=x.num.fdiv ((x.den:Nat):Int)
theorem aN{x:Rat}{n k:Nat}(h:QL x n)(hk:n+1≤k):gO (kN (cD x)) (cD x) k:=cE (Nat.le_trans (lenZ_fdiv _ _) (Nat.le_trans (Nat.succ_le_succ h.1) hk))
theorem flZ_floor(x:Rat):cD x=x.floor:=by
 unfold cD;rw[Rat.floor_def,Int.fdiv_eq_ediv_of_nonneg _ (by omega)]
theorem fl_nn{x:Rat}(h:0≤x):0≤cD x:=by
 rw[flZ_floor,Rat.le_floor_iff];exact h
theorem aZ{x:Rat}{k:Nat}(h:0≤x):0≤x*((((2 ^ k:Nat):Int):Rat)*(((2 ^ k:Nat):Int):Rat)):=by
 have h2:(0:Rat)≤(((2 ^ k:Nat):Int):Rat):=by
  rw[← Rat.intCast_zero];exact Rat.intCast_le_intCast.2 (Int.le_of_lt (two_pos k))
 exact Rat.mul_nonneg h (Rat.mul_nonneg h2 h2)
theorem sgn_nn{x:Rat}(h:0≤x):¬ (nX x)<0:=by
 unfold nX
 have h2:0≤x.num:=Rat.num_nonneg.2 h
 unfold uG
 by_cases e:x.num=0
 ·rw[if_pos e];decide
 ·rw[if_neg e,if_neg (by omega)];decide
def upI(y:Rat):Int:=if ((qZ (cD y)*qZ (cD y):Int):Rat)<y then qZ (cD y)+1 else qZ (cD y)
theorem iok_upI{y:Rat}{n k:Nat}(h:0≤cD y)(hz:gO (kN (cD y)) (cD y) n)(hk:n+1≤k)(hn:1≤n):gO (kN (upI y)) (upI y) k:=cE (by
 have h1:=(iok_root h hz).ln
 unfold upI
 by_cases e:((qZ (cD y)*qZ (cD y):Int):Rat)<y
 ·rw[if_pos e]
  exact lenZ_add h1 (vP (z:=1) (by decide)) (by omega)
 ·rw[if_neg e];omega)
theorem cmpQ_ltR{a b:Rat}:yC a b<0↔a<b:=by
 unfold yC
 by_cases h:a<b
 ·rw[if_pos h];exact ⟨fun _=>h,fun _=>by decide⟩
 ·rw[if_neg h];refine ⟨fun hh=>?_,fun hh=>absurd hh h⟩
  by_cases h2:b<a
  ·rw[if_pos h2] at hh;exact absurd hh (by decide)
  ·rw[if_neg h2] at hh;exact absurd hh (by decide)
theorem upI_t{y:Rat}(h:yC ((qZ (cD y)*qZ (cD y):Int):Rat) y<0):upI y=qZ (cD y)+1:=if_pos (cmpQ_ltR.1 h)
theorem upI_f{y:Rat}(h:¬ yC ((qZ (cD y)*qZ (cD y):Int):Rat) y<0):upI y=qZ (cD y):=if_neg (fun hh=>h (cmpQ_ltR.2 hh))
theorem p2_ne(k:Nat):(((2 ^ k:Nat):Int):Rat)≠0:=by
 intro h
 have:((2 ^ k:Nat):Int)=0:=by rw[← Rat.intCast_zero] at h;exact Rat.intCast_inj.1 h
 have:=two_pos k;omega
theorem divP(a:Int)(k:Nat):Rat.divInt a ((2 ^ k:Nat):Int)=((a:Int):Rat) / (((2 ^ k:Nat):Int):Rat):=by rw[Rat.divInt_eq_div]
theorem p2_pos(k:Nat):(0:Rat)<(((2 ^ k:Nat):Int):Rat):=by
 rw[← Rat.intCast_zero];exact Rat.intCast_lt_intCast.2 (two_pos k)
theorem divP_le{a:Int}{k:Nat}{c:Rat}(h:((a:Int):Rat)≤c*(((2 ^ k:Nat):Int):Rat)):Rat.divInt a ((2 ^ k:Nat):Int)≤c:=by
 rw[divP,← Rat.not_lt,Rat.lt_div_iff (p2_pos k),Rat.not_lt];exact h
theorem flZ_le(x:Rat):((cD x:Int):Rat)≤x:=by rw[flZ_floor];exact Rat.floor_le x
theorem divP_mul(a:Int)(k:Nat):Rat.divInt a ((2 ^ k:Nat):Int)*(((2 ^ k:Nat):Int):Rat)=((a:Int):Rat):=by
 rw[divP,Rat.div_mul_cancel (p2_ne k)]
theorem rt_lo{y:Rat}(hy:0≤y):((qZ (cD y)*qZ (cD y):Int):Rat)≤y:=Rat.le_trans (Rat.intCast_le_intCast.2 (rootI_le (fl_nn hy))) (flZ_le y)
theorem upI_nn(y:Rat):0≤upI y:=by
 have:=rootI_0 (cD y)
 unfold upI;split<;>omega
theorem rt_hi{y:Rat}(hy:0≤y):y≤((upI y*upI y:Int):Rat):=by
 unfold upI
 by_cases e:((qZ (cD y)*qZ (cD y):Int):Rat)<y
 ·rw[if_pos e]
  have h1:=lt_rootI (fl_nn hy)
  have h2:y<((cD y+1:Int):Rat):=by rw[flZ_floor];exact Rat.lt_floor_add_one y
  exact Rat.le_trans (Rat.le_of_lt h2) (Rat.intCast_le_intCast.2 h1)
 ·rw[if_neg e];exact Rat.not_lt.1 e
theorem sq_int{a b:Int}(b0:0≤b)(h:a*a≤b*b):a≤b:=by
 by_cases hh:a≤b
 ·exact hh
 ·have h1:b<a:=by omega
  have h2:b*b<a*a:=by
   have q1:b*b≤b*a:=Int.mul_le_mul_of_nonneg_left (by omega) b0
   have q2:b*a<a*a:=Int.mul_lt_mul_of_pos_right h1 (by omega)
   omega
  omega
theorem rt_valid{p q:Rat}(k:Nat)(hp:0≤p)(h:p≤q):Rat.divInt (qZ (cD (p*((((2 ^ k:Nat):Int):Rat)*(((2 ^ k:Nat):Int):Rat))))) ((2 ^ k:Nat):Int)≤Rat.divInt (upI (q*((((2 ^ k:Nat):Int):Rat)*(((2 ^ k:Nat):Int):Rat)))) ((2 ^ k:Nat):Int):=by
 refine divP_le ?_
 rw[divP_mul]
 refine Rat.intCast_le_intCast.2 (sq_int (upI_nn _) (Rat.intCast_le_intCast.1 ?_))
 have hq:0≤q:=Rat.le_trans hp h
 have hPP:(0:Rat)≤(((2 ^ k:Nat):Int):Rat)*(((2 ^ k:Nat):Int):Rat):=Rat.mul_nonneg (Rat.le_of_lt (p2_pos k)) (Rat.le_of_lt (p2_pos k))
 exact Rat.le_trans (rt_lo (aZ hp)) (Rat.le_trans (Rat.mul_le_mul_of_nonneg_right h hPP) (rt_hi (aZ hq)))
end Go.Fid
