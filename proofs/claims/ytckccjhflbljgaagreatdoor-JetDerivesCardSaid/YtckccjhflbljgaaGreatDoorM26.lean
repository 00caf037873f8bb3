/- Part 26 of a proof: rules, plain facts, and functions walked. -/
import Derived.Test.YtckccjhflbljgaaGreatDoorM25
import Derived.Test.YtckccjhflbljgaaGreatDoorM24
import Derived.Test.YtckccjhflbljgaaGreatDoorM22
import Derived.Test.YtckccjhflbljgaaGreatDoorM20
import Derived.Test.YtckccjhflbljgaaGreatDoorM18
import Derived.OpenShut
import Derived.Test.YtckccjhflbljgaaGreatDoorM4
import Derived.ChangeArms
import Derived.SizedLaws
import Derived.Test.YtckccjhflbljgaaGreatDoorM13
import Derived.Stop.LaidErr
import Derived.Lib.LaidTab
import Derived.ChangeShapes
import Derived.WideShapes
import Derived.RowKit
import Derived.Carry
import Derived.ChangeOld
import Derived.WideKeyElems2
import Derived.Seven
set_option linter.all false
set_option maxRecDepth 4000
namespace Go.Proofs.YtckccjhflbljgaaGreatDoor
open List Tryz
open Go.Fid
theorem by43:zJ prog 43=some 24:=by kernel_rfl
theorem ze43:xH prog 43=some [.slice none 0 0]:=by kernel_rfl
theorem zo43:eO [.slice none 0 0] [.sl 42 8 []]:=by simp [eO,Value.oneCell']
theorem u_jet2U(t:List jS)(ht:gR 1048576 t)(bv:List R2)(hbx:∀ x∈bv,GL 1048576 x)(k0:Nat)(hr:DEnd bv t k0)(hT:Tame2 bv t)(hbl:bv.length<=1000000):jP prog 17 [(.sl 72 7 (map jN t)),(.sl 42 8 (map jG (map kF bv))),(.val (.int .i64 (((2:Nat):Int)))),(.val (.int .i64 (-1)))] (.tup [(jR (dJ2 bv t k0)),(.val (.int .i64 ((((dC t k0):Nat):Int))))]):=by
 have h0:=dF hr.c0
 have hle:=hr.le
 let y2:=(jX.mk qX qX)
 let y1:=(bx (jR (xS.mk y2 [] [])))
 refine vD func17 ?_
 refine jB<|kx [(8,(.ref 0 0))] [(0,some y1)] (zN (vB 0 bT zo46)<|zM<|zZ) ?_
 refine jB<|jB<|kx [(25,(vb false))] [] (zM<|zE (kB (u_vlB bv hbx hbl))<|zE cU<|zZ) ?_
 refine uI ?_
 refine jF<|jB<|jB<|kx [(36,(vb false))] [] (zM<|zE (nA false gX)<|zM<|zM<|zE (nA false eR)<|zE yD<|zM<|zM<|zE (nA false eR)<|zE yD<|zZ) ?_
 refine uI ?_
 refine jF<|jB<|jB<|kx [(10,(kE (yT ((bv.length:Nat):Int) t)))] [] (zM<|zM<|zE (oLn xK bv.length)<|zE (kB (u_chk t ht ((bv.length:Nat):Int)))<|zM<|zZ) ?_
 refine jB<|kx [(43,(vb ((((yT ((bv.length:Nat):Int) t):Nat):Int) != ((0:Nat):Int))))] [] (zM<|zE aZ<|zZ) ?_
 refine jD rfl (λh=>absurd (Eq.trans (Eq.symm (show (((((yT ((bv.length:Nat):Int) t):Nat):Int) != ((0:Nat):Int)))=false from bne_eq_false_iff_eq.2 (by rw[show (yT ((bv.length:Nat):Int) t)=0 from hr.c0]<;>rfl))) h) (by decide)) (λ_=>?_)
 refine jF<|jB<|kx [(11,(.own 1 46 10 0))] [(1,some (uD jR []))] (zN (oBo 1 el88 bT zo46)<|zM<|zZ) ?_
 refine jB<|jB<|kx [(47,(vl 72 7 jN t)),(48,(kE t.length)),(49,(kE 0))] [] (zM<|zE (yA zY)<|zM<|zZ) ?_
 refine jH<|kR (α:=Nat × List xS) (λ(k,o)=>⟨[(1,(vl 42 8 jG (map kF bv))),(2,(kE 2)),(3,(vi (-1))),(8,(.ref 0 0)),(11,(.own 1 46 10 o.length)),(47,(vl 72 7 jN t)),(48,(kE t.length)),(49,(kE k))],[(0,some y1),(1,some (uD jR o))]⟩) (λ(k,o)=>k<=k0/\o=jhU bv t k) (λ(k,o)=>t.length-k) (0,[]) wk ⟨Nat.zero_le _,rfl⟩ ?_
 rintro ⟨k,o⟩ ⟨hk,ho⟩
 have hju:=gZ bv t k
 have hol:o.length=k:=by rw[ho,jhU_len]
 have hget:∀ j,j<k->o.getD j (xS.mk (jX.mk qX qX) [] [])=ofJH ((jU bv t k).getD j jz) ((hU bv t k).getD j hz0) bv.length:=λj hj=>by rw[ho];exact jhU_get hj
 refine jB<|kx [(50,(vb (decide (((k:Nat):Int)<((t.length:Nat):Int)))))] [] (zE gX<|zZ) ?_
 refine jB<|jD rfl (λh1=>?_) (λh1=>?_)
 ·replace h1:=vF h1
  have hl9:k<t.length:=by omega
  have hS:=hr.st hk hl9
  have hHg:∀ (z:Int) (i j:Nat),GL 1048576 (hA (hU bv t k) z i j):=hT.ha (Nat.le_of_lt hl9)
  refine jF<|jB<|jH<|jB<|kx [(13,(.ref 2 0))] [(2,some (bx (jN (t.getD k tz))))] (zE (cB zY k (tz:jS))<|zE (mR cT)<|zH (vB 2 dW fZ)<|zT (qL cT)<|zZ) ?_
  refine jB<|kx [(14,(.ref 3 0)),(15,(.ref 4 0))] [(3,some y1),(4,some y1)] (zE (iS pl46 bT zo46)<|zE (iS pl46 bT zo46)<|zH (vB 3 bT zo46)<|zH (vB 4 bT zo46)<|zT (qL nF)<|zT (qL nF)<|zZ) ?_
  refine iC (α:=xS) (λy=>⟨[(1,(vl 42 8 jG (map kF bv))),(2,(kE 2)),(3,(vi (-1))),(8,(.ref 0 0)),(11,(.own 1 46 10 o.length)),(13,(.ref 2 0)),(14,(.ref 3 0)),(15,(.ref 4 0)),(47,(vl 72 7 jN t)),(48,(kE t.length)),(49,(kE k))],[(0,some y1),(1,some (uD jR o)),(2,some (bx (jN (t.getD k tz)))),(3,some (bx (jR y))),(4,some y1)]⟩) (λy=>1<=qB (t.getD k tz).op->y=(ofJH (jA (jU bv t k) (t.getD k tz).a) (hA (hU bv t k) (t.getD k tz).a) bv.length)) ?_ ?_
  ·refine jB<|kx [(58,(vb (decide (((1:Nat):Int)<=(qB ((t.getD k tz).op))))))] [] (zE (kK xN)<|zR (qH cN)<|zE (kB (r_kids ((t.getD k tz).op)))<|zE oGe<|zZ) ?_
   refine jD rfl (λh2=>?_) (λh2=>?_)
   ·replace h2:=vF h2
    obtain ⟨a1,a2⟩:=hS.a (by omega)
    refine kx [] [(3,some (bx (jR (ofJH (jA (jU bv t k) (t.getD k tz).a) (hA (hU bv t k) (t.getD k tz).a) bv.length))))] (zM<|zE (kK qN)<|zR (qH uN)<|zE (oXO el88 (((t.getD k tz).a).toNat))<|zR (yN (jR (o.getD (((t.getD k tz).a).toNat) (xS.mk y2 [] []))) (jR (ofJH (jA (jU bv t k) (t.getD k tz).a) (hA (hU bv t k) (t.getD k tz).a) bv.length)) (oLA nF (((t.getD k tz).a).toNat) (xS.mk y2 [] [])) (by exact (congrArg jR (hget _ (show (t.getD k tz).a.toNat<k by omega)))))<|zT (qL nF)<|zZ) ?_
    exact met (ofJH (jA (jU bv t k) (t.getD k tz).a) (hA (hU bv t k) (t.getD k tz).a) bv.length) wk (λ_=>rfl)
   ·replace h2:=vT h2
    refine jF ?_
    exact met (xS.mk (jX.mk qX qX) [] []) wk (λhx=>absurd hx (by omega))
  ·rintro y hy
   refine iC (α:=xS) (λz=>⟨[(1,(vl 42 8 jG (map kF bv))),(2,(kE 2)),(3,(vi (-1))),(8,(.ref 0 0)),(11,(.own 1 46 10 o.length)),(13,(.ref 2 0)),(14,(.ref 3 0)),(15,(.ref 4 0)),(47,(vl 72 7 jN t)),(48,(kE t.length)),(49,(kE k))],[(0,some y1),(1,some (uD jR o)),(2,some (bx (jN (t.getD k tz)))),(3,some (bx (jR y))),(4,some (bx (jR z)))]⟩) (λz=>qB (t.getD k tz).op=2->z=(ofJH (jA (jU bv t k) (t.getD k tz).b) (hA (hU bv t k) (t.getD k tz).b) bv.length)) ?_ ?_
   ·refine jB<|kx [(67,(vb ((qB ((t.getD k tz).op)) == ((2:Nat):Int))))] [] (zE (kK xN)<|zR (qH cN)<|zE (kB (r_kids ((t.getD k tz).op)))<|zE xL<|zZ) ?_
    refine jD rfl (λh3=>?_) (λh3=>?_)
    ·replace h3:=eq_of_beq h3
     obtain ⟨b1,b2⟩:=hS.b h3
     refine kx [] [(4,some (bx (jR (ofJH (jA (jU bv t k) (t.getD k tz).b) (hA (hU bv t k) (t.getD k tz).b) bv.length))))] (zM<|zE (kK vE)<|zR (qH uN)<|zE (oXO el88 (((t.getD k tz).b).toNat))<|zR (yN (jR (o.getD (((t.getD k tz).b).toNat) (xS.mk y2 [] []))) (jR (ofJH (jA (jU bv t k) (t.getD k tz).b) (hA (hU bv t k) (t.getD k tz).b) bv.length)) (oLA nF (((t.getD k tz).b).toNat) (xS.mk y2 [] [])) (by exact (congrArg jR (hget _ (show (t.getD k tz).b.toNat<k by omega)))))<|zT (qL nF)<|zZ) ?_
     exact met (ofJH (jA (jU bv t k) (t.getD k tz).b) (hA (hU bv t k) (t.getD k tz).b) bv.length) wk (λ_=>rfl)
    ·replace h3:=ne_of_beq_false h3
     refine jF ?_
     exact met (xS.mk (jX.mk qX qX) [] []) wk (λhx=>absurd hx h3)
   ·rintro z hz
    refine jB ?_
    rcases hlt0:(decide (k<k0)) with _ | _
    ·have hd9:=hr.dzk hk hl9 (vT hlt0)
     refine kx [(16,(.ref 5 0)),(17,(kE 14))] [(5,some (bx (jG y2)))] (zR (kP cT)<|zE (kK yI)<|zR (kP jW)<|zE (kK yI)<|zR (kP jW)<|zM<|zE (kB (u_wF (t.getD k tz) y.value z.value bv hbx (jU bv t k) hd9 (hr.ok k hk) (λhx=>congrArg xS.value (hy hx)) (λhx=>congrArg xS.value (hz hx))))<|zM<|zE zP<|zE zP<|zH (vB 5 uQ uV)<|zT (qL jW)<|zM<|zZ) ?_
     refine jB<|jB<|kx [(84,(vb true))] [] (zM<|zE (nA true aZ)<|zZ) ?_
     refine yP ?_
     refine jB<|kx [(9,(kE 14))] [(0,some y1)] (zE (iS pl46 bT zo46)<|zM<|zT (qL nF)<|zM<|zZ) ?_
     refine jE ⟨_,(kM (cs:=y1) (d:=(jR (xS.mk y2 [] []))) rfl rfl nF rfl rfl (.tmp (d:=(.val (.int .i64 (((14:Nat):Int))))) rfl .nil)),?_⟩
     have hk0:k0=k:=by have:=vT hlt0;omega
     rw[hk0,dJ2_n hl9,dC_n hl9];rfl
    ·refine kx [(16,(.ref 5 0)),(17,(kE 0))] [(5,some (bx (jG (kF (nV bv (jU bv t k) (t.getD k tz))))))] (zR (kP cT)<|zE (kK yI)<|zR (kP jW)<|zE (kK yI)<|zR (kP jW)<|zM<|zE (kB (u_w (t.getD k tz) y.value z.value bv hbx (jU bv t k) hbl (hr.nd k (vF hlt0)) (hr.ok k hk) (hr.nv k (vF hlt0)) (λhx=>congrArg xS.value (hy hx)) (λhx=>congrArg xS.value (hz hx))))<|zM<|zE zP<|zE zP<|zH (vB 5 uQ uV)<|zT (qL jW)<|zM<|zZ) ?_
     refine jB<|jB<|kx [(84,(vb false))] [] (zM<|zE (nA false aZ)<|zZ) ?_
     refine uI ?_
     refine jF<|jB<|kx [(18,(.ref 6 0))] [(6,some (bx (.agg (jY.cells (jG (kF (nV bv (jU bv t k) (t.getD k tz))))++[(.val (.slice none 0 0)),(.val (.slice none 0 0))]))))] (zR (kP jW)<|zM<|zE (kB (u_held (nV bv (jU bv t k) (t.getD k tz)) (kU ((hr.nv k (vF hlt0)).1))))<|zE (iS pl46 bT zn46)<|zH (vB 6 bT zo46)<|zT (qL nF)<|zZ) ?_
     refine jB<|jB<|kx [(92,(vb true))] [] (zM<|zE (nA true oGe)<|zZ) ?_
     refine yP ?_
     refine jB<|lP 6 8 7 42 8 (cs:=(bx (.agg (jY.cells (jG (kF (nV bv (jU bv t k) (t.getD k tz))))++[(.val (.slice none 0 0)),(.val (.slice none 0 0))])))) (h:=?_)
     refine kS (wk (l:=[(1,(vl 42 8 jG (map kF bv))),(2,(kE 2)),(3,(vi (-1))),(8,(.ref 0 0)),(11,(.own 1 46 10 o.length)),(13,(.ref 2 0)),(14,(.ref 3 0)),(15,(.ref 4 0)),(18,(.ref 6 0)),(47,(vl 72 7 jN t)),(48,(kE t.length)),(49,(kE k)),(92,(vb true))]) (b:=[(0,some y1),(1,some (uD jR o)),(2,some (bx (jN (t.getD k tz)))),(3,some (bx (jR y))),(4,some (bx (jR z))),(6,some (bx (jG (kF (nV bv (jU bv t k) (t.getD k tz))))++[(.own 7 42 8 0),(.d (.val (.slice none 0 0)))])),(7,some (uD jG []))])) ?_
     refine lP 6 9 8 43 1 (cs:=(bx (jG (kF (nV bv (jU bv t k) (t.getD k tz))))++[(.own 7 42 8 0),(.d (.val (.slice none 0 0)))])) (h:=?_)
     refine kS (wk (l:=[(1,(vl 42 8 jG (map kF bv))),(2,(kE 2)),(3,(vi (-1))),(8,(.ref 0 0)),(11,(.own 1 46 10 o.length)),(13,(.ref 2 0)),(14,(.ref 3 0)),(15,(.ref 4 0)),(18,(.ref 6 0)),(47,(vl 72 7 jN t)),(48,(kE t.length)),(49,(kE k)),(92,(vb true))]) (b:=[(0,some y1),(1,some (uD jR o)),(2,some (bx (jN (t.getD k tz)))),(3,some (bx (jR y))),(4,some (bx (jR z))),(6,some (bx (jG (kF (nV bv (jU bv t k) (t.getD k tz))))++[(.own 7 42 8 0),(.own 8 43 1 0)])),(7,some (uD jG [])),(8,some (bm qY []))])) ?_
     refine kx [(94,(kE bv.length)),(95,(kE 0))] [] (zM<|zE (oLn xK bv.length)<|zM<|zZ) ?_
     refine jH<|kR (α:=Nat × List jX) (λ(i,gl)=>⟨[(1,(vl 42 8 jG (map kF bv))),(2,(kE 2)),(3,(vi (-1))),(8,(.ref 0 0)),(11,(.own 1 46 10 o.length)),(13,(.ref 2 0)),(14,(.ref 3 0)),(15,(.ref 4 0)),(18,(.ref 6 0)),(47,(vl 72 7 jN t)),(48,(kE t.length)),(49,(kE k)),(94,(kE bv.length)),(95,(kE i))],[(0,some y1),(1,some (uD jR o)),(2,some (bx (jN (t.getD k tz)))),(3,some (bx (jR y))),(4,some (bx (jR z))),(6,some (bx (jG (kF (nV bv (jU bv t k) (t.getD k tz))))++[(.own 7 42 8 gl.length),(.own 8 43 1 0)])),(7,some (uD jG gl)),(8,some (bm qY []))]⟩) (λ(i,gl)=>i<=bv.length/\gl=map kF (map (λ(i:Nat)=>nG bv (jU bv t k) (t.getD k tz) i) (range i))) (λ(i,gl)=>bv.length-i) (0,[]) wk ⟨Nat.zero_le _,rfl⟩ ?_
     rintro ⟨i,gl⟩ ⟨hi,hg⟩
     have hgl:gl.length=i:=jk_len (G:=(λ(i:Nat)=>nG bv (jU bv t k) (t.getD k tz) i)) hg
     refine jB<|kx [(96,(vb (decide (((i:Nat):Int)<((bv.length:Nat):Int)))))] [] (zE gX<|zZ) ?_
     refine jB<|jD rfl (λh4=>?_) (λh4=>?_)
     ·replace h4:=vF h4
      refine jF<|jB<|jH<|jB<|kx [(19,(kE i))] [] (zM<|zM<|zZ) ?_
      refine kd [] [(6,some (bx (jG (kF (nV bv (jU bv t k) (t.getD k tz))))++[(.own 9 42 8 ((gl++[(kF (nG bv (jU bv t k) (t.getD k tz) i))]).length)),(.own 8 43 1 0)])),(9,some (uD jG (gl++[(kF (nG bv (jU bv t k) (t.getD k tz) i))]))),(7,none)] mo (wE (kK vS)<|wR (qH mE)<|wR (kP cT)<|wR (kP nF)<|wR (kP nF)<|wE (kK yI)<|wR (kP jW)<|wM<|wE (kB (u_x (t.getD k tz) y z (kF (nV bv (jU bv t k) (t.getD k tz))) i bv (jU bv t k) (hr.nd k (vF hlt0)) (hr.ok k hk) (hr.nv k (vF hlt0)) (by omega) (λhx=>⟨congrArg xS.value (hy hx),congrArg xS.grad (hy hx)⟩) (λhx=>⟨congrArg xS.value (hz hx),congrArg xS.grad (hz hx)⟩) rfl))<|wM<|wE (kB (u_held (nG bv (jU bv t k) (t.getD k tz) i) (kU (nG_gl (hr.nv k (vF hlt0)) (by omega)))))<|wE (fC xK uQ uV)<|wAS (k:=7) 9 jG gl [(kF (nG bv (jU bv t k) (t.getD k tz) i))] rfl xK uQ by42<|wE (kK vS)<|wT (oSx mE)<|wZ) ?_
      refine kS (wk (l:=[(1,(vl 42 8 jG (map kF bv))),(2,(kE 2)),(3,(vi (-1))),(8,(.ref 0 0)),(11,(.own 1 46 10 o.length)),(13,(.ref 2 0)),(14,(.ref 3 0)),(15,(.ref 4 0)),(18,(.ref 6 0)),(47,(vl 72 7 jN t)),(48,(kE t.length)),(49,(kE k)),(94,(kE bv.length)),(95,(kE i))]) (b:=[(0,some y1),(1,some (uD jR o)),(2,some (bx (jN (t.getD k tz)))),(3,some (bx (jR y))),(4,some (bx (jR z))),(6,some (bx (jG (kF (nV bv (jU bv t k) (t.getD k tz))))++[(.own 9 42 8 ((gl++[(kF (nG bv (jU bv t k) (t.getD k tz) i))]).length)),(.own 8 43 1 0)])),(8,some (bm qY [])),(9,some (uD jG (gl++[(kF (nG bv (jU bv t k) (t.getD k tz) i))])))])) ?_
      refine kS (sim_ren2 (S':=[(1,(vl 42 8 jG (map kF bv))),(2,(kE 2)),(3,(vi (-1))),(8,(.ref 0 0)),(11,(.own 1 46 10 o.length)),(13,(.ref 2 0)),(14,(.ref 3 0)),(15,(.ref 4 0)),(18,(.ref 6 0)),(47,(vl 72 7 jN t)),(48,(kE t.length)),(49,(kE k)),(94,(kE bv.length)),(95,(kE i))]) (B':=[(0,some y1),(1,some (uD jR o)),(2,some (bx (jN (t.getD k tz)))),(3,some (bx (jR y))),(4,some (bx (jR z))),(6,some (bx (jG (kF (nV bv (jU bv t k) (t.getD k tz))))++[(.own 7 42 8 ((gl++[(kF (nG bv (jU bv t k) (t.getD k tz) i))]).length)),(.own 8 43 1 0)])),(7,some (uD jG (gl++[(kF (nG bv (jU bv t k) (t.getD k tz) i))]))),(8,some (bm qY []))]) 7 9 6) ?_
      refine kx [(95,(kE (i+1)))] [] (zE (xO (i+1))<|zM<|zZ) ?_
      exact ⟨(i+1,gl++[kF (nG bv (jU bv t k) (t.getD k tz) i)]),wk,⟨by omega,jk_push (G:=(λ(i:Nat)=>nG bv (jU bv t k) (t.getD k tz) i)) hg⟩,(by first|omega|(dsimp only;omega))⟩
     ·replace h4:=vT h4
      have hgN:gl=map kF (map (nG bv (jU bv t k) (t.getD k tz)) (range bv.length)):=by rw[hg,show i=bv.length by omega]
      refine kO<|jB<|jB<|kx [(114,(vb true))] [] (zM<|zE (nA true xL)<|zZ) ?_
      refine yP ?_
      refine jB<|kS (bX (j:=6) (k:=7) (pre:=(bx (jG (kF (nV bv (jU bv t k) (t.getD k tz)))))) (post:=[(.own 8 43 1 0)]) (es:=map jG gl) rfl (by decide) rfl (gO _ _ (λ_=>rfl)) (vK _ _ rfl) (mA jG gl (λ_=>rfl) rfl)) ?_
      refine kS (wk (l:=[(1,(vl 42 8 jG (map kF bv))),(2,(kE 2)),(3,(vi (-1))),(8,(.ref 0 0)),(11,(.own 1 46 10 o.length)),(13,(.ref 2 0)),(14,(.ref 3 0)),(15,(.ref 4 0)),(18,(.ref 6 0)),(47,(vl 72 7 jN t)),(48,(kE t.length)),(49,(kE k)),(114,(vb true))]) (b:=[(0,some y1),(1,some (uD jR o)),(2,some (bx (jN (t.getD k tz)))),(3,some (bx (jR y))),(4,some (bx (jR z))),(6,some (bx (jG (kF (nV bv (jU bv t k) (t.getD k tz))))++[(vl 42 8 jG gl),(.own 8 43 1 0)])),(8,some (bm qY []))])) ?_
      refine kx [(116,(kE bv.length)),(117,(kE 0))] [] (zM<|zE (oLn xK bv.length)<|zM<|zZ) ?_
      refine jH<|kR (α:=Nat × List (List jX)) (λ(i,hl)=>⟨[(1,(vl 42 8 jG (map kF bv))),(2,(kE 2)),(3,(vi (-1))),(8,(.ref 0 0)),(11,(.own 1 46 10 o.length)),(13,(.ref 2 0)),(14,(.ref 3 0)),(15,(.ref 4 0)),(18,(.ref 6 0)),(47,(vl 72 7 jN t)),(48,(kE t.length)),(49,(kE k)),(116,(kE bv.length)),(117,(kE i))],[(0,some y1),(1,some (uD jR o)),(2,some (bx (jN (t.getD k tz)))),(3,some (bx (jR y))),(4,some (bx (jR z))),(6,some (bx (jG (kF (nV bv (jU bv t k) (t.getD k tz))))++[(vl 42 8 jG gl),(.own 8 43 1 hl.length)])),(8,some (bm qY hl))]⟩) (λ(i,hl)=>i<=bv.length/\hl=mX (nH bv (jU bv t k) (hU bv t k) (t.getD k tz)) i) (λ(i,hl)=>bv.length-i) (0,[]) wk ⟨Nat.zero_le _,rfl⟩ ?_
      rintro ⟨i,hl⟩ ⟨hi,hh⟩
      have hhl:hl.length=i:=by rw[hh,hRows_len]
      refine jB<|kx [(118,(vb (decide (((i:Nat):Int)<((bv.length:Nat):Int)))))] [] (zE gX<|zZ) ?_
      refine jB<|jD rfl (λh5=>?_) (λh5=>?_)
      ·replace h5:=vF h5
       refine jF<|jB<|jH<|jB<|kx [(20,(kE i))] [] (zM<|zM<|zZ) ?_
       refine jB<|kx [(21,(.own 10 42 8 0))] [(10,some (uD jG []))] (zH (oBo 10 xK uQ uV)<|zM<|zZ) ?_
       refine jB<|jB<|pwp_fixC 6 9 (h:=λao cap=>?_)
       refine kS (wk (l:=[(1,(vl 42 8 jG (map kF bv))),(2,(kE 2)),(3,(vi (-1))),(8,(.ref 0 0)),(11,(.own 1 46 10 o.length)),(13,(.ref 2 0)),(14,(.ref 3 0)),(15,(.ref 4 0)),(18,(.ref 6 0)),(20,(kE i)),(21,(.own 10 42 8 0)),(47,(vl 72 7 jN t)),(48,(kE t.length)),(49,(kE k)),(116,(kE bv.length)),(117,(kE i))]) (b:=[(0,some y1),(1,some (uD jR o)),(10,some (uD jG [])),(2,some (bx (jN (t.getD k tz)))),(3,some (bx (jR y))),(4,some (bx (jR z))),(6,some (bx (jG (kF (nV bv (jU bv t k) (t.getD k tz))))++[(vl 42 8 jG gl),(.ownx 8 43 1 hl.length (.slice ao hl.length cap))])),(8,some (bm qY hl))])) ?_
       refine kx [(22,(kE 0))] [] (zM<|zZ) ?_
       refine jH<|kR (α:=Nat × List jX) (λ(q,rl)=>⟨[(1,(vl 42 8 jG (map kF bv))),(2,(kE 2)),(3,(vi (-1))),(8,(.ref 0 0)),(11,(.own 1 46 10 o.length)),(13,(.ref 2 0)),(14,(.ref 3 0)),(15,(.ref 4 0)),(18,(.ref 6 0)),(20,(kE i)),(21,(.own 10 42 8 rl.length)),(22,(kE q)),(47,(vl 72 7 jN t)),(48,(kE t.length)),(49,(kE k)),(116,(kE bv.length)),(117,(kE i))],[(0,some y1),(1,some (uD jR o)),(10,some (uD jG rl)),(2,some (bx (jN (t.getD k tz)))),(3,some (bx (jR y))),(4,some (bx (jR z))),(6,some (bx (jG (kF (nV bv (jU bv t k) (t.getD k tz))))++[(vl 42 8 jG gl),(.ownx 8 43 1 hl.length (.slice ao hl.length cap))])),(8,some (bm qY hl))]⟩) (λ(q,rl)=>q<=i+1/\rl=(range q).map λq=>kF ((nH bv (jU bv t k) (hU bv t k) (t.getD k tz)) i q)) (λ(q,rl)=>i+1-q) (0,[]) wk ⟨Nat.zero_le _,rfl⟩ ?_
       rintro ⟨q,rl⟩ ⟨hq,hrl2⟩
       have hrll:rl.length=q:=by rw[hrl2,length_map,length_range]
       refine jB<|jB<|kx [(123,(vb (decide (((q:Nat):Int)<=((i:Nat):Int)))))] [] (zM<|zM<|zE oLe<|zZ) ?_
       refine jD rfl (λh6=>?_) (λh6=>?_)
       ·replace h6:=vF h6
        refine jF<|jB<|jH<|kf [(21,(.own 10 42 8 ((rl++[(kF (nH bv (jU bv t k) (hU bv t k) (t.getD k tz) i q))]).length)))] [(10,some (uD jG (rl++[(kF (nH bv (jU bv t k) (hU bv t k) (t.getD k tz) i q))])))] (zM<|zR (kP cT)<|zR (kP nF)<|zR (kP nF)<|zR (oLtx nF)<|zM<|zM<|zE (kB (u_sec (t.getD k tz) y z (kF (nV bv (jU bv t k) (t.getD k tz))) gl ((.val (.slice ao hl.length cap))) i q bv (jU bv t k) (hU bv t k) (hr.nd k (vF hlt0)) (hr.ok k hk) (hr.nv k (vF hlt0)) (by omega) (by omega) (by assumption) (by assumption) rfl (by assumption) (by assumption) (hT.nh hl9 i q)))<|zM<|zE (kB (u_held (nH bv (jU bv t k) (hU bv t k) (t.getD k tz) i q) (kU (hT.nh hl9 i q))))<|zE (fC xK uQ uV)<|zAS jG rl [(kF (nH bv (jU bv t k) (hU bv t k) (t.getD k tz) i q))] rfl xK uQ by42 (hB:=by repeat first | exact lE _ | refine iP ?_ | refine clr_map ?_ | refine eS ?_ | refine clr_bx ?_ | refine clr_d ?_ | refine clr_cons rfl ?_)<|zM<|zF) ?_
        refine kx [(22,(kE (q+1)))] [] (zM<|zE (xO (q+1))<|zM<|zZ) ?_
        exact ⟨(q+1,rl++[kF ((nH bv (jU bv t k) (hU bv t k) (t.getD k tz)) i q)]),wk,⟨by omega,hRow_push (h:=(nH bv (jU bv t k) (hU bv t k) (t.getD k tz))) (i:=i) hrl2⟩,(by first|omega|(dsimp only;omega))⟩
       ·replace h6:=vT h6
        refine kO<|kS (xY (t:=21) (k:=10) (es:=map jG rl) rfl rfl (gO _ _ (λ_=>rfl)) (vK _ _ rfl) (mA jG rl (λ_=>rfl) rfl)) ?_
        refine pwp_unfixC 6 9 (h:=?_)
        refine kS (wk (l:=[(1,(vl 42 8 jG (map kF bv))),(2,(kE 2)),(3,(vi (-1))),(8,(.ref 0 0)),(11,(.own 1 46 10 o.length)),(13,(.ref 2 0)),(14,(.ref 3 0)),(15,(.ref 4 0)),(18,(.ref 6 0)),(20,(kE i)),(21,(vl 42 8 jG rl)),(22,(kE q)),(47,(vl 72 7 jN t)),(48,(kE t.length)),(49,(kE k)),(116,(kE bv.length)),(117,(kE i)),(123,(vb (decide (((q:Nat):Int)<=((i:Nat):Int)))))]) (b:=[(0,some y1),(1,some (uD jR o)),(2,some (bx (jN (t.getD k tz)))),(3,some (bx (jR y))),(4,some (bx (jR z))),(6,some (bx (jG (kF (nV bv (jU bv t k) (t.getD k tz))))++[(vl 42 8 jG gl),(.own 8 43 1 hl.length)])),(8,some (bm qY hl))])) ?_
        refine kf [] [(6,some (bx (jG (kF (nV bv (jU bv t k) (t.getD k tz))))++[(vl 42 8 jG gl),(.own 8 43 1 ((hl++[rl]).length))])),(8,some (bm qY (hl++[rl])))] (zE (kK fo46_2)<|zR (qH sh44)<|zM<|zE (fC el44 ze43 zo43)<|zAm 6 9 qY hl [rl] rfl el44 ze43 by43 (hB:=by repeat first | exact clrn_nil _ _ | refine clrn_hide ?_ | refine clrn_self ?_ | refine clrn_map ?_ | refine clrn_none ?_ | refine clrn_bx ?_ | refine clrn_d ?_ | refine clrn_cons rfl ?_) (k:=8)<|zE (kK fo46_2)<|zT (oSx sh44)<|zF) ?_
        refine kx [(117,(kE (i+1)))] [] (zE (xO (i+1))<|zM<|zZ) ?_
        exact ⟨(i+1,hl++[rl]),wk,⟨by omega,hRows_push hh (hRow_done hrl2 (by omega))⟩,(by first|omega|(dsimp only;omega))⟩
      ·replace h5:=vT h5
       refine kO<|kS (bX (j:=6) (k:=8) (pre:=(bx (jG (kF (nV bv (jU bv t k) (t.getD k tz))))++[(vl 42 8 jG gl)])) (post:=[]) (es:=map qY hl) rfl (by decide) rfl (vX _ _ (λ_=>rfl)) (vK _ _ rfl) (xV _ _ (λ_=>rfl) rfl)) ?_
       refine kS (wk (l:=[(1,(vl 42 8 jG (map kF bv))),(2,(kE 2)),(3,(vi (-1))),(8,(.ref 0 0)),(11,(.own 1 46 10 o.length)),(13,(.ref 2 0)),(14,(.ref 3 0)),(15,(.ref 4 0)),(18,(.ref 6 0)),(47,(vl 72 7 jN t)),(48,(kE t.length)),(49,(kE k)),(116,(kE bv.length)),(117,(kE i)),(118,(vb (decide (((i:Nat):Int)<((bv.length:Nat):Int)))))]) (b:=[(0,some y1),(1,some (uD jR o)),(2,some (bx (jN (t.getD k tz)))),(3,some (bx (jR y))),(4,some (bx (jR z))),(6,some (bx (jR (xS.mk (kF (nV bv (jU bv t k) (t.getD k tz))) gl hl))))])) ?_
       refine kf [(11,(.own 1 46 10 ((o++[(xS.mk (kF (nV bv (jU bv t k) (t.getD k tz))) gl hl)]).length)))] [(1,some (uD jR (o++[(xS.mk (kF (nV bv (jU bv t k) (t.getD k tz))) gl hl)])))] (zM<|zR (kP nF)<|zE (fC el88 bT zo46)<|zAS jR o [(xS.mk (kF (nV bv (jU bv t k) (t.getD k tz))) gl hl)] rfl el88 bT by46<|zM<|zF) ?_
       refine kx [(49,(kE (k+1)))] [] (zE (xO (k+1))<|zM<|zZ) ?_
       exact ⟨(k+1,o++[xS.mk (kF (nV bv (jU bv t k) (t.getD k tz))) gl hl]),wk,⟨by have:=vF hlt0;omega,jhU_nx ho hgN (by rw[hh,show i=bv.length by omega])⟩,(by first|omega|(dsimp only;omega))⟩
 ·replace h1:=vT h1
  refine kO<|jB<|kx [(9,(kE 0))] [(0,some (bx (jR (o.getD (o.length-1) (xS.mk y2 [] [])))))] (zM<|zM<|zE (oLo el88)<|zE (oSb (o.length-1))<|zE (oXO el88 (o.length-1))<|zR (oLA nF (o.length-1) (xS.mk y2 [] []))<|zT (qL nF)<|zM<|zZ) ?_
  refine jE ⟨_,(kM (cs:=(bx (jR (o.getD (o.length-1) (xS.mk y2 [] []))))) (d:=(jR (o.getD (o.length-1) (xS.mk y2 [] [])))) rfl rfl nF rfl rfl (.tmp (d:=(.val (.int .i64 (((0:Nat):Int))))) rfl .nil)),?_⟩
  obtain rfl:k=t.length:=by omega
  obtain rfl:k0=t.length:=by omega
  rw[hol,hget _ (show t.length-1<t.length by omega),dJ2_y,dC_y];rfl
section
variable {bx:List R2} {s t:List jS}
end
section
variable {A:Type} {d:A} {f:Nf A}
end
theorem few_sz{n m:Nat}{t:List jS}{z:Nat}(h:dS n m t=true)(h8:z<=8)(hc:yT ((z:Nat):Int) t=0):∀ k,k<t.length->mP (gM t k) (t.getD k tz)<=(m:Int):=λk hk=>by
 have hc8:yT 8 t=0:=tm_mono (by omega) (by decide) hc
 exact (few_of h).2.2 hc8 _ (by unfold tmL;rw[if_pos hc8];exact szU_mem hk)
theorem ar39:arrB prog 39=some (2,5,1):=by kernel_rfl
theorem in3:intB prog 3=some .i64:=by kernel_rfl
theorem sh5:qD prog 5=some (false,1):=by kernel_rfl
theorem un5:(prog.underlying 5).isSome=true:=by kernel_rfl
def Jet2E(xs:List Rat)(t:List jS)(J:xS)(c:Nat):Prop:=jP prog 17 [.sl 72 7 (map jN t),.sl 42 8 (map jG (map kF (map xG xs))),.val (.int .i64 ((2:Nat):Int)),.val (.int .i64 (-1))] (.tup [jR J,.val (.int .i64 ((c:Nat):Int))])
def DerE(n:Nat)(t:List jS)(i:Nat)(T:List jS)(c:Nat):Prop:=jP prog 19 [.sl 72 7 (map jN t),.val (.int .i64 ((n:Nat):Int)),.val (.int .i64 ((i:Nat):Int))] (.tup [.sl 72 7 (map jN T),.val (.int .i64 ((c:Nat):Int))])
theorem w_jdT(t:List jS)(ht:gR 140737488355328 t)(l:List kY)(hl:RowOk 140737488355328 l)(p:A2 Nat)(hs:(dS 20 12 t&&shR 4 8 l)=false)(htl:t.length<=140737488355328):jP prog 4 [(.sl 72 7 (map jN t)),(.sl 32 4 (map jJ l)),(encA39 p)] (.val (.bool (true))):=by
 refine vD func4 ?_
 refine jB<|kx [(5,(.ref 0 0))] [(0,some (bx (encA39 p)))] (zN (xD 0)<|zM<|zZ) ?_
 refine jB<|jB<|kx [(18,(vb false))] [] (zE (kB x_known)<|zE cU<|zZ) ?_
 refine uI ?_
 refine jF<|jB<|jB ?_
 rcases hw:(dS 20 12 t) with _ | _
 ·refine kx [(43,(vb true))] [] (zM<|zE (nA false (kB (u_few t ht 20 (by omega) 12 (by omega) htl)) (by exact hw))<|zE cU<|zM<|zK<|zK<|zK<|zE nO<|zM<|zK<|zK<|zK<|zE nO<|zM<|zK<|zK<|zK<|zE nO<|zM<|zK<|zK<|zK<|zK<|zK<|zE nO<|zZ) ?_
  refine yP ?_
  refine jB<|kx [(6,(vb true))] [] (zM<|zZ) ?_
  refine jE ⟨_,(.tmp (d:=(.val (.bool (true)))) rfl .nil),?_⟩
  rfl
 ·refine kx [(43,(vb true))] [] (zM<|zE (nA true (kB (u_few t ht 20 (by omega) 12 (by omega) htl)) (by exact hw))<|zE cU<|zM<|zM<|zE (nA false (kB (iF l hl)) (by exact (by rw[hw,Bool.true_and] at hs;exact hs)))<|zE cU<|zE yD<|zM<|zK<|zK<|zK<|zE nO<|zM<|zK<|zK<|zK<|zE nO<|zM<|zK<|zK<|zK<|zK<|zK<|zE nO<|zZ) ?_
  refine yP ?_
  refine jB<|kx [(6,(vb true))] [] (zM<|zZ) ?_
  refine jE ⟨_,(.tmp (d:=(.val (.bool (true)))) rfl .nil),?_⟩
  rfl
theorem w_jdG(t:List jS)(ht:gR 1048576 t)(l:List kY)(hl:RowOk 1048576 l)(p:A2 Nat)(hw:dS 20 12 t=true)(hs:shR 4 8 l=true)(hg:l.length=0\/vRow l=false\/yT ((l.length:Nat):Int) t≠0)(hxb:l.length<=1000000)(htl:t.length<=140737488355328):jP prog 4 [(.sl 72 7 (map jN t)),(.sl 32 4 (map jJ l)),(encA39 p)] (.val (.bool (true))):=by
 refine vD func4 ?_
 refine jB<|kx [(5,(.ref 0 0))] [(0,some (bx (encA39 p)))] (zN (xD 0)<|zM<|zZ) ?_
 refine jB<|jB<|kx [(18,(vb false))] [] (zE (kB x_known)<|zE cU<|zZ) ?_
 refine uI ?_
 refine jF<|jB<|jB ?_
 rcases hl0:(decide (l.length=0)) with _ | _
 ·have hl1:=vT hl0
  rcases hv:(!vRow l) with _ | _
  ·have hc1:yT ((l.length:Nat):Int) t≠0:=by rcases hg with h | h | h;exact absurd h hl1;(rw[h] at hv;cases hv);exact h
   refine kx [(43,(vb true))] [] (zM<|zE (nA true (kB (u_few t (tn_up ht) 20 (by omega) 12 (by omega) htl)) (by exact hw))<|zE cU<|zM<|zM<|zE (nA true (kB (iF l (row_up hl))) (by exact hs))<|zE cU<|zE yD<|zM<|zM<|zE (yA uA)<|zE (nA false xL (by exact beq_eq_false_iff_ne.2 (by have hx:=(vT hl0);omega)))<|zE yD<|zM<|zM<|zE (nA true (kB (m_vlist l hl)) (by exact (by simpa using hv)))<|zE cU<|zE yD<|zM<|zM<|zM<|zE (yA uA)<|zE (kB (u_chk t ht ((l.length:Nat):Int)))<|zE (nA true aZ (by exact bne_iff_ne.2 (by have hx:=hc1;omega)))<|zE yD<|zZ) ?_
   refine yP ?_
   refine jB<|kx [(6,(vb true))] [] (zM<|zZ) ?_
   refine jE ⟨_,(.tmp (d:=(.val (.bool (true)))) rfl .nil),?_⟩
   rfl
  ·refine kx [(43,(vb true))] [] (zM<|zE (nA true (kB (u_few t (tn_up ht) 20 (by omega) 12 (by omega) htl)) (by exact hw))<|zE cU<|zM<|zM<|zE (nA true (kB (iF l (row_up hl))) (by exact hs))<|zE cU<|zE yD<|zM<|zM<|zE (yA uA)<|zE (nA false xL (by exact beq_eq_false_iff_ne.2 (by have hx:=(vT hl0);omega)))<|zE yD<|zM<|zM<|zE (nA false (kB (m_vlist l hl)) (by exact (by simpa using hv)))<|zE cU<|zE yD<|zM<|zK<|zK<|zK<|zK<|zK<|zE nO<|zZ) ?_
   refine yP ?_
   refine jB<|kx [(6,(vb true))] [] (zM<|zZ) ?_
   refine jE ⟨_,(.tmp (d:=(.val (.bool (true)))) rfl .nil),?_⟩
   rfl
 ·have hl1:=vF hl0
  rcases hv:(!vRow l) with _ | _
  ·refine kx [(43,(vb true))] [] (zM<|zE (nA true (kB (u_few t (tn_up ht) 20 (by omega) 12 (by omega) htl)) (by exact hw))<|zE cU<|zM<|zM<|zE (nA true (kB (iF l (row_up hl))) (by exact hs))<|zE cU<|zE yD<|zM<|zM<|zE (yA uA)<|zE (nA true xL (by exact beq_iff_eq.2 (by rw[show l.length=0 from (vF hl0)]<;>rfl)))<|zE yD<|zM<|zK<|zK<|zK<|zE nO<|zM<|zK<|zK<|zK<|zK<|zK<|zE nO<|zZ) ?_
   refine yP ?_
   refine jB<|kx [(6,(vb true))] [] (zM<|zZ) ?_
   refine jE ⟨_,(.tmp (d:=(.val (.bool (true)))) rfl .nil),?_⟩
   rfl
  ·refine kx [(43,(vb true))] [] (zM<|zE (nA true (kB (u_few t (tn_up ht) 20 (by omega) 12 (by omega) htl)) (by exact hw))<|zE cU<|zM<|zM<|zE (nA true (kB (iF l (row_up hl))) (by exact hs))<|zE cU<|zE yD<|zM<|zM<|zE (yA uA)<|zE (nA true xL (by exact beq_iff_eq.2 (by rw[show l.length=0 from (vF hl0)]<;>rfl)))<|zE yD<|zM<|zK<|zK<|zK<|zE nO<|zM<|zK<|zK<|zK<|zK<|zK<|zE nO<|zZ) ?_
   refine yP ?_
   refine jB<|kx [(6,(vb true))] [] (zM<|zZ) ?_
   refine jE ⟨_,(.tmp (d:=(.val (.bool (true)))) rfl .nil),?_⟩
   rfl
theorem w_jd(t:List jS)(ht:gR 1048576 t)(xs:List Rat)(hx:∀ q∈xs,QL q 1048576)(p:A2 Nat)(T:List jS)(J:xS)(c:Nat)(H:List jS)(e:Nat)(R:List jX)(hw:dS 20 12 t=true)(hs:shR 4 8 (map jM xs)=true)(hl0:xs.length≠0)(hxb:xs.length<=1000000)(hc1:yT ((xs.length:Nat):Int) t=0)(hp0:p.a0<=255)(hp1:p.a1<=255)(hT:gR 1048576 T)(hTl:T.length<=140737488355328)(hTc:yT ((xs.length:Nat):Int) T=0)(hD1:DerE xs.length t (p.a0 % xs.length) T 0)(hJE:Jet2E xs t J c)(hH:gR 1048576 H)(hHl:H.length<=140737488355328)(hD2:DerE xs.length T (p.a1 % xs.length) H e)(hB:c=0->VRun xs T/\J.grad.length=xs.length/\J.grad.getD (p.a0 % xs.length) (jX.mk qX qX)=jX.mk (jM (uJ xs T)) (jM (uJ xs T)))(hC:c=0->e=0->VRun xs H/\J.hess.length=xs.length/\J.hess.getD (max (p.a0 % xs.length) (p.a1 % xs.length)) []=R/\(min (p.a0 % xs.length) (p.a1 % xs.length))<R.length/\R.getD (min (p.a0 % xs.length) (p.a1 % xs.length)) (jX.mk qX qX)=jX.mk (jM (uJ xs H)) (jM (uJ xs H)))(htl:t.length<=140737488355328):jP prog 4 [(.sl 72 7 (map jN t)),(.sl 32 4 (map jJ (map jM xs))),(encA39 p)] (.val (.bool (true))):=by
 have hxn:(map jM xs).length=xs.length:=length_map _
 have hi0:(p.a0 % xs.length)<xs.length:=Nat.mod_lt _ (by omega)
 have hk0:(p.a1 % xs.length)<xs.length:=Nat.mod_lt _ (by omega)
 have hmx:(max (p.a0 % xs.length) (p.a1 % xs.length))<xs.length:=Nat.max_lt.2 ⟨hi0,hk0⟩
 refine vD func4 ?_
 refine jB<|kx [(5,(.ref 0 0))] [(0,some (bx (encA39 p)))] (zN (xD 0)<|zM<|zZ) ?_
 refine jB<|jB<|kx [(18,(vb false))] [] (zE (kB x_known)<|zE cU<|zZ) ?_
 refine uI ?_
 refine jF<|jB<|jB<|kx [(43,(vb false))] [] (zM<|zE (nA true (kB (u_few t (tn_up ht) 20 (by omega) 12 (by omega) htl)) (by exact hw))<|zE cU<|zM<|zM<|zE (nA true (kB (iF (map jM xs) (row_up (pts_row hx (by omega))))) (by exact hs))<|zE cU<|zE yD<|zM<|zM<|zE (oLn uA xs.length)<|zE (nA false xL (by exact beq_eq_false_iff_ne.2 (by have hx:=hl0;omega)))<|zE yD<|zM<|zM<|zE (nA true (kB (m_vlist (map jM xs) (pts_row hx (by omega)))) (by exact (vrow_of xs)))<|zE cU<|zE yD<|zM<|zM<|zM<|zE (oLn uA xs.length)<|zE (kB (u_chk t ht ((xs.length:Nat):Int)))<|zE (nA false aZ (by exact bne_eq_false_iff_eq.2 (by rw[show (yT ((xs.length:Nat):Int) t)=0 from hc1]<;>rfl)))<|zE yD<|zZ) ?_
 refine uI ?_
 refine jF<|jB<|kd [(7,(kE (p.a0 % xs.length))),(8,(kE (p.a1 % xs.length)))] [] mo (wE (oXr ar39 0)<|wR (qH sh5)<|wE (cA un5 in3 p.a0)<|wM<|wE (oLn uA xs.length)<|wE (oRe (p.a0 % xs.length))<|wE (oXr ar39 1)<|wR (qH sh5)<|wE (cA un5 in3 p.a1)<|wM<|wE (oLn uA xs.length)<|wE (oRe (p.a1 % xs.length))<|wM<|wM<|wZ) ?_
 refine jB<|kx [(9,(.ref 1 0)),(10,(kE c))] [(1,some (bx (jR J)))] (zM<|zM<|zE (kB (u_pts xs hx hxb))<|zE (kB hJE)<|zM<|zE zP<|zE zP<|zN (vB 1 bT zo46)<|zT (qL nF)<|zM<|zZ) ?_
 refine jB<|kx [(11,(vl 72 7 jN T)),(12,(kE 0))] [] (zM<|zM<|zE (oLn uA xs.length)<|zM<|zE (kB hD1)<|zM<|zE zP<|zE zP<|zM<|zM<|zZ) ?_
 refine jB<|jB<|kx [(72,(vb false))] [] (zM<|zE (nA false aZ)<|zZ) ?_
 refine uI ?_
 refine jF<|jB<|jB<|kx [(82,(vb (!(dS 400 400 T))))] [] (zM<|zE (kB (u_few T (tn_up hT) 400 (by omega) 400 (by omega) hTl))<|zE cU<|zZ) ?_
 refine jD (b:=!(dS 400 400 T)) rfl (λh1=>?_) (λh1=>?_)
 ·refine jB<|kx [(6,(vb true))] [] (zM<|zZ) ?_
  refine jE ⟨_,(.tmp (d:=(.val (.bool (true)))) rfl .nil),?_⟩
  first | rfl | (simp only[xG,decide_true];rfl)
 ·refine jF<|jB<|jB<|kx [(87,(vb false))] [] (zM<|zM<|zE (oLn uA xs.length)<|zE (kB (u_chk T hT ((xs.length:Nat):Int)))<|zE (nA false aZ (by exact bne_eq_false_iff_eq.2 (by rw[show (yT ((xs.length:Nat):Int) T)=0 from hTc]<;>rfl)))<|zZ) ?_
  refine uI ?_
  refine jF<|jB<|jB<|kx [(89,(vb (((c:Nat):Int) != ((0:Nat):Int))))] [] (zM<|zE aZ<|zZ) ?_
  refine jD (b:=(((c:Nat):Int) != ((0:Nat):Int))) rfl (λh2=>?_) (λh2=>?_)
  ·replace h2:=bne_iff_ne.1 h2
   refine jB<|kx [(6,(vb true))] [] (zM<|zZ) ?_
   refine jE ⟨_,(.tmp (d:=(.val (.bool (true)))) rfl .nil),?_⟩
   first | rfl | (simp only[xG,decide_true];rfl)
  ·replace h2:=bne_eq_false_iff_eq.1 h2
   have hc0:c=0:=by omega
   obtain ⟨hrT,hJg,hJi⟩:=hB hc0
   refine jF<|jB<|kx [(12,(kE 0)),(13,(.ref 2 0))] [(2,some (bx (jJ (jM (uJ xs T)))))] (zM<|zM<|zE (kB (u_val T hT xs hx hrT hxb))<|zM<|zE zP<|zE zP<|zN (vB 2 uO vP)<|zT (qL jT)<|zM<|zZ) ?_
   refine jB<|jB<|kd [(119,(vb false))] [] mo (wM<|wE (nA false aZ)<|wM<|wR (kP jT)<|wE (kK vS)<|wR (qH mE)<|wM<|wE (cB xK (p.a0 % xs.length) (jX.mk qX qX))<|wE (oFc xP)<|wE (oQd (jJ ((J.grad.getD (p.a0 % xs.length) (jX.mk qX qX)).lo)) (jJ (jM (uJ xs T))) (mR jT) (by exact (congrArg (λa:jX=>jJ a.lo) hJi)))<|wE (nA true (kB (by have h:=g_same (jM (uJ xs T)) (jM (uJ xs T)) (uJ xs T) (uJ xs T) (jO (jZ hrT.last)) (jO (jZ hrT.last));rw[fT] at h;exact h)) (by exact decide_eq_true rfl))<|wE cU<|wE yD<|wM<|wR (kP jT)<|wE (kK vS)<|wR (qH mE)<|wM<|wE (cB xK (p.a0 % xs.length) (jX.mk qX qX))<|wE (oFc xF)<|wE (oQd (jJ ((J.grad.getD (p.a0 % xs.length) (jX.mk qX qX)).hi)) (jJ (jM (uJ xs T))) (mR jT) (by exact (congrArg (λa:jX=>jJ a.hi) hJi)))<|wE (nA true (kB (by have h:=g_same (jM (uJ xs T)) (jM (uJ xs T)) (uJ xs T) (uJ xs T) (jO (jZ hrT.last)) (jO (jZ hrT.last));rw[fT] at h;exact h)) (by exact decide_eq_true rfl))<|wE cU<|wE yD<|wZ) ?_
   refine uI ?_
   refine jF<|jB<|kx [(12,(kE e)),(14,(vl 72 7 jN H))] [] (zM<|zM<|zE (oLn uA xs.length)<|zM<|zE (kB hD2)<|zM<|zE zP<|zE zP<|zM<|zM<|zZ) ?_
   refine jB<|jB ?_
   rcases he0:(decide (e=0)) with _ | _
   ·refine kx [(134,(vb true))] [] (zM<|zE (nA true aZ (by exact bne_iff_ne.2 (by have hx:=(vT he0);omega)))<|zM<|zK<|zK<|zK<|zE nO<|zZ) ?_
    refine yP ?_
    refine jB<|kS (wk (l:=[(1,(vl 32 4 jJ (map jM xs))),(7,(kE (p.a0 % xs.length))),(8,(kE (p.a1 % xs.length))),(9,(.ref 1 0)),(14,(vl 72 7 jN H)),(134,(vb true))]) (b:=[(1,some (bx (jR J)))])) ?_
    refine kx [(6,(vb true))] [] (zM<|zZ) ?_
    refine jE ⟨_,(.tmp (d:=(.val (.bool (true)))) rfl .nil),?_⟩
    first | rfl | (simp only[xG,decide_true];rfl)
   ·obtain ⟨hrH,hJh,hR,hRl,hRe⟩:=hC hc0 (vF he0)
    refine kx [(134,(vb (false||!(dS 400 400 H))))] [] (zM<|zE (nA false aZ (by exact bne_eq_false_iff_eq.2 (by rw[show e=0 from (vF he0)]<;>rfl)))<|zM<|zM<|zE (kB (u_few H (tn_up hH) 400 (by omega) 400 (by omega) hHl))<|zE cU<|zE aK<|zZ) ?_
    refine jD (b:=(false||!(dS 400 400 H))) rfl (λh3=>?_) (λh3=>?_)
    ·refine jB<|kS (wk (l:=[(1,(vl 32 4 jJ (map jM xs))),(7,(kE (p.a0 % xs.length))),(8,(kE (p.a1 % xs.length))),(9,(.ref 1 0)),(14,(vl 72 7 jN H)),(134,(vb (false||!(dS 400 400 H))))]) (b:=[(1,some (bx (jR J)))])) ?_
     refine kx [(6,(vb true))] [] (zM<|zZ) ?_
     refine jE ⟨_,(.tmp (d:=(.val (.bool (true)))) rfl .nil),?_⟩
     first | rfl | (simp only[xG,decide_true];rfl)
    ·refine jF<|jB<|kS (wk (l:=[(1,(vl 32 4 jJ (map jM xs))),(7,(kE (p.a0 % xs.length))),(8,(kE (p.a1 % xs.length))),(9,(.ref 1 0)),(14,(vl 72 7 jN H)),(134,(vb (false||!(dS 400 400 H))))]) (b:=[(1,some (bx (jR J)))])) ?_
     refine kx [(12,(kE 0)),(15,(.ref 3 0))] [(3,some (bx (jJ (jM (uJ xs H)))))] (zM<|zM<|zE (kB (u_val H hH xs hx hrH hxb))<|zM<|zE zP<|zE zP<|zN (vB 3 uO vP)<|zT (qL jT)<|zM<|zZ) ?_
     refine jB<|kx [(16,(.ref 4 0))] [(4,some (bx (jG (kF (xG (uJ xs H))))))] (zE (kK fo46_2)<|zR (qH sh44)<|zM<|zM<|zE (oMx (max (p.a0 % xs.length) (p.a1 % xs.length)))<|zE (cB el44 (max (p.a0 % xs.length) (p.a1 % xs.length)) ([]:List (jX)))<|zE (oQd (.sl 42 8 (map jG (J.hess.getD (max (p.a0 % xs.length) (p.a1 % xs.length)) []))) (.sl 42 8 (map jG R)) (dK mE) (by exact (congrArg (λl:List jX=>jY.sl 42 8 (map jG l)) hR)))<|zM<|zM<|zE (oMn (min (p.a0 % xs.length) (p.a1 % xs.length)))<|zE (cB xK (min (p.a0 % xs.length) (p.a1 % xs.length)) (jX.mk qX qX))<|zE (oQd (jG (R.getD (min (p.a0 % xs.length) (p.a1 % xs.length)) (jX.mk qX qX))) (jG (kF (xG (uJ xs H)))) (mR jW) (by exact (congrArg jG hRe)))<|zN (vB 4 uQ uV)<|zT (qL jW)<|zZ) ?_
     refine jB<|kx [(6,(vb ((true&&(decide ((uJ xs H)=((xG (uJ xs H)).1))))&&(decide ((uJ xs H)=((xG (uJ xs H)).2))))))] [] ?_ ?_
     ·refine zM<|zE (nA true xL)<|zM<|zR (kP jT)<|zE (kK xP)<|zR (kP jT)<|zE (kB (by have h:=g_same (jM (uJ xs H)) (jM ((xG (uJ xs H)).1)) (uJ xs H) ((xG (uJ xs H)).1) (jO (jZ hrH.last)) (jO (jZ (gl_pt hrH.last).1));rw[fT] at h;exact h))<|zE fL<|zE (oV (vb (true&&(decide ((uJ xs H)=((xG (uJ xs H)).1))))) (qA (by kernel_rfl)))<|?_
      rcases hb4:(true&&(decide ((uJ xs H)=((xG (uJ xs H)).1)))) with _ | _
      ·exact zK<|zK<|zK<|zK<|zE yD<|zM<|zZ
      ·exact zR (kP jT)<|zE (kK xF)<|zR (kP jT)<|zE (kB (by have h:=g_same (jM (uJ xs H)) (jM ((xG (uJ xs H)).2)) (uJ xs H) ((xG (uJ xs H)).2) (jO (jZ hrH.last)) (jO (jZ (gl_pt hrH.last).2.1));rw[fT] at h;exact h))<|zE fL<|zM<|zZ
     refine jE ⟨_,(.tmp (d:=(.val (.bool (((true&&(decide ((uJ xs H)=((xG (uJ xs H)).1))))&&(decide ((uJ xs H)=((xG (uJ xs H)).2)))))))) rfl .nil),?_⟩
     first | rfl | (simp only[xG,decide_true];rfl)
end Go.Proofs.YtckccjhflbljgaaGreatDoor
namespace Go.Fid
open List
open Go.RowKit (Below)
mutual
inductive Ty where
 |int (k:IntKind)
 |bool
 |sl (E:TypeId) (s:Nat) (e:Ty)
 |st (fs:TyL)
 |ar (n:Nat) (E:TypeId) (fs:TyL)
inductive TyL where
 |nil
 |cons (t:TypeId) (ty:Ty) (r:TyL)
end
mutual
def Ty.size:Ty->Nat
 |.int _=>1
 |.bool=>1
 |.sl _ _ _=>1
 |.st fs=>fs.size
 |.ar _ _ fs=>fs.size
def TyL.size:TyL->Nat
 |.nil=>0
 |.cons _ ty r=>ty.size+r.size
end
def fieldsB:List Field->Nat->TyL->Bool
 |[],_,.nil=>true
 |f::l,off,.cons t ty r=>Nat.beq f.type t&&(Nat.beq f.offset off&&fieldsB l (off+ty.size) r)
 |_,_,_=>false
def arFs(E:TypeId)(z:Nat):Nat->Nat->List Field
 |0,_=>[]
 | n + 1, i => { name := "", type := E, offset := i * z, embedded := false, tag := "", pkgPath := "", byteOffset := 0 } :: arFs E z n (i + 1)
theorem arFs_mem{E:TypeId}{z:Nat}:∀ {n i:Nat} {f:Field},f∈arFs E z n i->∃ j,j<n/\f.type=E/\f.offset=(i+j)*z
 |0,_,_,h=>by cases h
 |n+1,i,f,h=>by
  rcases mem_cons.1 h with e | h
  ·exact ⟨0,by omega,by rw[e],by rw[e];rfl⟩
  ·obtain ⟨j,h1,h2,h3⟩:=arFs_mem h
   exact ⟨j+1,by omega,h2,by rw[h3];congr 1;omega⟩
mutual
def tyB(P:Program):TypeId->Ty->Bool
 |t,.int k=>match P.underlying t with
  |some (.int k')=>decide (k'=k)
  |_=>false
 |t,.bool=>match P.underlying t with
  |some .bool=>true
  |_=>false
 |t,.sl E s e=>match P.underlying t with
  |some (.slice E')=>Nat.beq E' E&&(Nat.beq (P.cellsOf E) s&&(Nat.beq e.size s&&(Nat.ble 1 s&&(Nat.ble 1 (P.bytesOf E)&&tyB P E e))))
  |_=>false
 |t,.st fs=>match P.underlying t with
  |some (.struct fds)=>Nat.beq (P.cellsOf t) fs.size&&(fieldsB fds.toList 0 fs&&tysB P fs)
  |_=>false
 |t,.ar n E fs=>match P.underlying t with
  |some (.array n' E')=>Nat.beq n' n&&(Nat.beq E' E&&(Nat.beq (P.cellsOf t) fs.size&&(fieldsB (arFs E (P.cellsOf E) n 0) 0 fs&&tysB P fs)))
  |_=>false
def tysB(P:Program):TyL->Bool
 |.nil=>true
 |.cons t ty r=>Nat.beq (P.cellsOf t) ty.size&&(tyB P t ty&&tysB P r)
end
def isSt:Ty->Bool
 |.st _=>true
 |.ar _ _ _=>true
 |_=>false
def mkD(ty:Ty)(ds:List jY):jY:=bif isSt ty then .agg ds else ds.headD (.tup [])
mutual
def Sh:Ty->List jY->Prop
 |.int k,ds=>∃ z,ds=[.val (.int k z)]/\(Lit.int k z).wf=true
 |.bool,ds=>∃ b,ds=[.val (.bool b)]
 |.sl E s e,ds=>∃ es:List (List jY),ds=[.sl E s (es.map (mkD e))]/\es.length<=140737488355328/\∀ x∈es,Sh e x
 |.st fs,ds=>ShL fs ds
 |.ar _ _ fs,ds=>ShL fs ds
def ShL:TyL->List jY->Prop
 |.nil,ds=>ds=[]
 |.cons _ ty r,ds=>∃ a b,ds=a++b/\Sh ty a/\ShL r b
end
mutual
theorem Sh.len:∀ {ty:Ty} {ds:List jY},Sh ty ds->ds.length=ty.size
 |.int k,ds,h=>by obtain ⟨z,rfl,_⟩:=h;rfl
 |.bool,ds,h=>by obtain ⟨b,rfl⟩:=h;rfl
 |.sl E s e,ds,h=>by obtain ⟨es,rfl,_⟩:=h;rfl
 |.st fs,ds,h=>ShL.len (h:ShL fs ds)
 |.ar _ _ fs,ds,h=>ShL.len (h:ShL fs ds)
theorem ShL.len:∀ {fs:TyL} {ds:List jY},ShL fs ds->ds.length=fs.size
 |.nil,ds,h=>by have h:ds=[]:=h;subst h;rfl
 |.cons t ty r,ds,h=>by
  obtain ⟨a,b,rfl,h1,h2⟩:=h
  rw[length_append,Sh.len h1,ShL.len h2];rfl
end
theorem mkD_cells{ty:Ty}{ds:List jY}(h:Sh ty ds):(mkD ty ds).cells=ds:=by
 cases ty with
 |int k=>obtain ⟨z,rfl,_⟩:=h;rfl
 |bool=>obtain ⟨b,rfl⟩:=h;rfl
 |sl E s e=>obtain ⟨es,rfl,_⟩:=h;rfl
 |st fs=>rfl
 |ar n E fs=>rfl
def oldD(w:World):kV:=λ_ g _=>g<w.heap.size
def RepC(w:World)(cs:List Value)(ds:List jY):Prop:=ds.length=cs.length/\(∀ v∈cs,v.oneCell'=true)/\∀ (i:Nat) v d,cs[i]?=some v->ds[i]?=some d->uS w (oldD w) v d
theorem RepC.append{w:World}{cs1 cs2:List Value}{d1 d2:List jY}(h1:RepC w cs1 d1)(h2:RepC w cs2 d2):RepC w (cs1++cs2) (d1++d2):=by
 refine ⟨by rw[length_append,length_append,h1.1,h2.1],λv hv=>?_,λi v d hv hd=>?_⟩
 ·rcases mem_append.1 hv with h | h
  ·exact h1.2.1 v h
  ·exact h2.2.1 v h
 ·by_cases hi:i<cs1.length
  ·rw[getElem?_append_left hi] at hv
   rw[getElem?_append_left (by rw[h1.1];exact hi)] at hd
   exact h1.2.2 i v d hv hd
  ·rw[getElem?_append_right (by omega)] at hv
   rw[getElem?_append_right (by rw[h1.1];omega),h1.1] at hd
   exact h2.2.2 _ v d hv hd
section
variable {H:Type} {enc:TypeId × Value->H} {P:Program} {w:World} {sp:Nat->Bool} {held:Bool}
theorem aC{e:TypeId}:∀ {l:List (DataW H)} {d:DataW H},d∈l->∀ {n:Nat},n∈d.weights P e->n∈DataW.weightsAll P e l
 |[],_,h,_,_=>by cases h
 |x::l,d,h,n,hn=>by
  simp only[DataW.weightsAll]
  rcases mem_cons.1 h with rfl | h
  ·exact mem_append_left _ hn
  ·exact mem_append_right _ (aC h hn)
theorem cells_get{a:Addr}{n:Nat}{cs:List Value}(h:w.cells? 0 a n=some cs):cs.length=n/\∀ i,i<n->w.cell? (a.add i)=cs[i]?:=by
 unfold World.cells? at h
 rw[if_pos (Nat.zero_le _)] at h
 refine ⟨by simpa using mapM_some_length h,λi hi=>?_⟩
 have:=mapM_some_get h i i (by simp [hi])
 exact this
theorem drop_take_split{α:Type}{cs:List α}{off n m:Nat}(h:cs.length=off+(n+m)):cs.drop off=(cs.drop off).take n++cs.drop (off+n):=by
 rw[<- drop_drop,take_append_drop]
mutual
theorem bridge:∀ {ty:Ty} {t:TypeId} {fuel:Nat} {cs:List Value} {x:DataW H × List MemPlace},tyB P t ty=true->DataW.trod enc P w 0 sp held fuel t cs=some x->(∀ n∈x.1.weights P t,n<=reachBytes)->∃ ds,RepC w cs ds/\Sh ty ds
 |.int k,t,fuel,cs,x,ht,h,_=>by
  unfold tyB at ht
  split at ht
  ·rename_i k' hu
   obtain rfl:k'=k:=of_decide_eq_true ht
   obtain ⟨n,rfl,_,hw⟩:=DataW.trod_int hu h
   refine ⟨[.val (.int k' n)],⟨rfl,by simp [Value.oneCell'],λi v d hv hd=>?_⟩,n,rfl,hw⟩
   rcases i with _ | i
   ·simp at hv hd;subst hv;subst hd;exact .val _
   ·simp at hv
  ·cases ht
 |.bool,t,fuel,cs,x,ht,h,_=>by
  unfold tyB at ht
  split at ht
  ·rename_i hu
   obtain ⟨b,rfl,_⟩:=DataW.trod_bool hu h
   refine ⟨[.val (.bool b)],⟨rfl,by simp [Value.oneCell'],λi v d hv hd=>?_⟩,b,rfl⟩
   rcases i with _ | i
   ·simp at hv hd;subst hv;subst hd;exact .val _
   ·simp at hv
  ·cases ht
 |.sl E s e,t,fuel,cs,x,ht,h,hwt=>by
  unfold tyB at ht
  split at ht
  ·rename_i E' hu
   simp only[Bool.and_eq_true] at ht
   obtain ⟨h1,h2,h3,h4,h6,h5⟩:=ht
   obtain rfl:E'=E:=Nat.eq_of_beq_eq_true h1
   have hs:P.cellsOf E'=s:=Nat.eq_of_beq_eq_true h2
   have hes:e.size=s:=Nat.eq_of_beq_eq_true h3
   have hs1:1<=s:=Nat.le_of_ble_eq_true h4
   have one:∀ v:Value,v.oneCell'=true->∀ d,uS w (oldD w) v d->RepC w [v] [d]:=λv h1 d h2=>⟨rfl,by simpa using h1,λi v' d' hv hd=>by
    rcases i with _ | i
    ·simp at hv hd;subst hv;subst hd;exact h2
    ·simp at hv⟩
   rcases DataW.trod_slice hu h with ⟨rfl,_⟩ | ⟨a,len,cap,elems,xT,n,_,rfl,hx,_,hl,hm,qM,hel,_⟩
   ·exact ⟨[.sl E' s []],one _ rfl _ (bB w _ E' s),[],rfl,Nat.zero_le _,by simp⟩
   ·have hws:∀ n∈(elems.length+xT.length)*P.bytesOf E'::(DataW.weightsAll P E' (elems.map (·.1))++DataW.weightsAll P E' (xT.map (·.1))),n<=reachBytes:=by
     intro n hn
     refine hwt n ?_
     rw[hx]
     simp only[DataW.weights,hu,length_map]
     exact hn
    have hlen47:len<=140737488355328:=by
     have h7:=hws _ (mem_cons_self)
     have h8:1<=P.bytesOf E':=Nat.le_of_ble_eq_true h6
     have h9:=Nat.mul_le_mul_left (elems.length+xT.length) h8
     have h10:=reachBytes_lt
     omega
    have each:∀ i,∃ d:List jY × List Value,i<len->(d.2.length=s/\(∀ j,j<s->w.cell? ((a.add (i*s)).add j)=d.2[j]?)/\RepC w d.2 d.1/\Sh e d.1):=by
     intro i
     by_cases hi:i<len
     ·have he:=hel i hi
      rw[getElem?_eq_getElem (by omega),hs] at he
      cases hc:w.cells? 0 (a.add (i*s)) s with
      |none=>rw[hc] at he;cases he
      |some ci=>
       rw[hc] at he
       obtain ⟨g1,g2⟩:=cells_get hc
       have hmem:elems[i]∈elems:=getElem_mem _
       obtain ⟨ds,r1,r2⟩:=bridge (ty:=e) h5 he (λn hn=>hws n (by
        refine mem_cons_of_mem _ (mem_append_left _ ?_)
        exact aC (mem_map_of_mem (f:=(·.1)) hmem) hn))
       exact ⟨(ds,ci),λ_=>⟨g1,g2,r1,r2⟩⟩
     ·exact ⟨([],[]),λh=>absurd h hi⟩
    obtain ⟨F,hF⟩:=Classical.axiomOfChoice each
    have hspot:0<len->a=⟨a.block,a.off,none⟩/\a.block<w.heap.size:=by
     intro h0
     obtain ⟨q1,q2,_,_⟩:=hF 0 h0
     have q3:=q2 0 (by omega)
     rw[getElem?_eq_getElem (by omega)] at q3
     obtain ⟨b,o,sp'⟩:=a
     cases sp' with
     |none=>
      refine ⟨rfl,?_⟩
      unfold World.cell? at q3
      split at q3
      ·rename_i c _ _ hh
       simpa [Addr.add] using (Array.getElem?_eq_some_iff.1 hh).1
      ·cases q3
     |some z=>
      exfalso
      unfold World.cell? at q3
      split at q3
      ·simp [Addr.add] at q3
      ·cases q3
    have hesl:∀ d∈((range len).map λi=>mkD e (F i).1),d.cells.length=s:=by
     intro d hd
     rw[mem_map] at hd
     obtain ⟨i,hi,rfl⟩:=hd
     obtain ⟨q1,q2,q3,q4⟩:=hF i (by simpa using hi)
     rw[mkD_cells q4,Sh.len q4,hes]
    have hfl:=vQ hesl
    rw[length_map,length_range] at hfl
    have hget:∀ q,q<len*s->∃ u d,w.cell? (a.add q)=some u/\(qK ((range len).map λi=>mkD e (F i).1))[q]?=some d/\u.oneCell'=true/\uS w (oldD w) u d:=by
     intro q hq
     have hi:q / s<len:=(Nat.div_lt_iff_lt_mul (by omega)).2 hq
     have hj:q % s<s:=Nat.mod_lt _ (by omega)
     have hqe:q / s*s+q % s=q:=by rw[Nat.mul_comm];exact Nat.div_add_mod q s
     obtain ⟨q1,q2,q3,q4⟩:=hF (q / s) hi
     have c1:=q2 (q % s) hj
     have c2:((a.add (q / s*s)).add (q % s))=a.add q:=by
      rw[(hspot (Nat.lt_of_le_of_lt (Nat.zero_le _) hi)).1,Addr.add_lit,Addr.add_lit,Addr.add_lit,Nat.add_assoc,hqe]
     have hlen1:(F (q / s)).1.length=s:=by rw[q3.1,q1]
     have c4:(F (q / s)).1[q % s]?=some ((F (q / s)).1[q % s]'(by rw[hlen1];exact hj)):=getElem?_eq_getElem _
     have c5:(F (q / s)).2[q % s]?=some ((F (q / s)).2[q % s]'(by rw[q1];exact hj)):=getElem?_eq_getElem _
     rw[c2,c5] at c1
     have c3:=flat_get (es:=(range len).map λi=>mkD e (F i).1) (i:=q / s) (j:=q % s) (e:=mkD e (F (q / s)).1) hesl (by rw[getElem?_map,getElem?_range hi];rfl) hj
     rw[hqe,mkD_cells q4,c4] at c3
     exact ⟨_,_,c1,c3,q3.2.1 _ (getElem_mem _),q3.2.2 (q % s) _ _ c5 c4⟩
    refine ⟨[.sl E' s ((range len).map λi=>mkD e (F i).1)],one _ rfl _ ?_,(range len).map λi=>(F i).1,?_,by simpa using hlen47,?_⟩
    ·rcases Nat.eq_zero_or_pos len with h0 | h0
     ·subst h0
      exact uS.sl 0 0 (λ_=>undef) (by simp) hl hm (by simp) (λh=>absurd h (Nat.lt_irrefl 0)) (by simp [qK]) (by simp [qK]) (by simp [qK]) (by simp [qK])
     ·obtain ⟨ha,hb⟩:=hspot h0
      refine uS.sl a.block a.off (λq=>(w.cell? (a.add q)).getD undef) (by simp) hl hm hesl (λ_=>congrArg some ha) (λq hq=>hb) (λq hq=>?_) (λq hq=>?_) (λq d hd=>?_)
      ·obtain ⟨u,d,g1,_,_,_⟩:=hget q (by omega)
       have e1:a.add q=⟨a.block,a.off+q,none⟩:=by rw[ha,Addr.add_lit]
       rw[<- e1,g1];rfl
      ·obtain ⟨u,d,g1,_,g3,_⟩:=hget q (by omega)
       rw[g1];exact g3
      ·have hq:=(List.getElem?_eq_some_iff.1 hd).1
       obtain ⟨u,d',g1,g2,_,g4⟩:=hget q (by omega)
       rw[hd] at g2
       injection g2 with g2
       subst g2
       rw[g1];exact g4
    ·rw[map_map];rfl
    ·intro y hy
     rw[mem_map] at hy
     obtain ⟨i,hi,rfl⟩:=hy
     exact (hF i (by simpa using hi)).2.2.2
  ·cases ht
 |.st fs,t,fuel,cs,x,ht,h,hwt=>by
  unfold tyB at ht
  split at ht
  ·rename_i fds hu
   simp only[Bool.and_eq_true] at ht
   obtain ⟨h1,h2,h3⟩:=ht
   obtain ⟨xs,n,_,hx,hl,hxl,hf⟩:=DataW.trod_struct hu h
   have hcl:cs.length=0+fs.size:=by rw[hl,Nat.eq_of_beq_eq_true h1,Nat.zero_add]
   have key:=bridgeL (fs:=fs) (off:=0) (cs:=cs) (l:=fds.toList) (n:=n) h2 h3 hcl (λf hfm=>by
    obtain ⟨i,hi⟩:=getElem?_of_mem hfm
    have:=hf i f (by simpa using hi)
    have hlt:i<xs.length:=by
     have:=(List.getElem?_eq_some_iff.1 hi).1
     simp at this;omega
    rw[getElem?_eq_getElem hlt] at this
    refine ⟨_,this,λm hm=>hwt m ?_⟩
    rw[hx]
    simp only[DataW.weights,hu]
    exact DataW.weights_mem_each (j:=i) (by rw[getElem?_map,hi];rfl) (by rw[getElem?_map,getElem?_eq_getElem hlt];rfl) m hm)
   rw[drop_zero] at key
   exact key
  ·cases ht
 |.ar k E fs,t,fuel,cs,x,ht,h,hwt=>by
  unfold tyB at ht
  split at ht
  ·rename_i k' E' hu
   simp only[Bool.and_eq_true] at ht
   obtain ⟨h0,h1,h4,h2,h3⟩:=ht
   obtain rfl:k'=k:=Nat.eq_of_beq_eq_true h0
   obtain rfl:E'=E:=Nat.eq_of_beq_eq_true h1
   obtain ⟨xs,n,_,hx,hl,hxl,hf⟩:=DataW.trod_array hu h
   have hcl:cs.length=0+fs.size:=by rw[hl,Nat.eq_of_beq_eq_true h4,Nat.zero_add]
   have key:=bridgeL (fs:=fs) (off:=0) (cs:=cs) (l:=arFs E' (P.cellsOf E') k' 0) (n:=n) h2 h3 hcl (λf hfm=>by
    obtain ⟨j,hj,ft,fo⟩:=arFs_mem hfm
    have:=hf j hj
    have hlt:j<xs.length:=by omega
    rw[getElem?_eq_getElem hlt] at this
    refine ⟨xs[j],?_,λm hm=>hwt m ?_⟩
    ·rw[ft,fo,Nat.zero_add];exact this
    ·rw[hx]
     simp only[DataW.weights,hu]
     rw[ft] at hm
     exact aC (mem_map_of_mem (f:=(·.1)) (getElem_mem hlt)) hm)
   rw[drop_zero] at key
   exact key
  ·cases ht
theorem bridgeL:∀ {fs:TyL} {l:List Field} {off n:Nat} {cs:List Value},fieldsB l off fs=true->tysB P fs=true->cs.length=off+fs.size->(∀ f∈l,∃ y,DataW.trod enc P w 0 sp held n f.type ((cs.drop f.offset).take (P.cellsOf f.type))=some y/\∀ m∈y.1.weights P f.type,m<=reachBytes) ->
  ∃ ds,RepC w (cs.drop off) ds/\ShL fs ds
 |.nil,l,off,n,cs,h1,h2,h3,h4=>by
  have:cs.drop off=[]:=drop_eq_nil_of_le (by rw[h3];exact Nat.le_refl _)
  rw[this]
  exact ⟨[],⟨rfl,by simp,by simp⟩,rfl⟩
 |.cons t ty r,l,off,n,cs,h1,h2,h3,h4=>by
  cases l with
  |nil=>cases h1
  |cons f l=>
   simp only[fieldsB,Bool.and_eq_true] at h1
   obtain ⟨e1,e2,e3⟩:=h1
   simp only[tysB,Bool.and_eq_true] at h2
   obtain ⟨f1,f2,f3⟩:=h2
   have et:=Nat.eq_of_beq_eq_true e1
   have eo:=Nat.eq_of_beq_eq_true e2
   have ec:=Nat.eq_of_beq_eq_true f1
   obtain ⟨y,hy,hyw⟩:=h4 f (by simp)
   rw[et,eo,ec] at hy
   rw[et] at hyw
   obtain ⟨d1,r1,s1⟩:=bridge (ty:=ty) f2 hy hyw
   have h3':cs.length=off+ty.size+r.size:=by rw[h3];show off+(ty.size+r.size)=_;omega
   obtain ⟨d2,r2,s2⟩:=bridgeL (fs:=r) (off:=off+ty.size) (cs:=cs) (l:=l) (n:=n) e3 f3 h3' (λg hg=>h4 g (by simp [hg]))
   refine ⟨d1++d2,?_,d1,d2,rfl,s1,s2⟩
   rw[drop_take_split (cs:=cs) (off:=off) (n:=ty.size) (m:=r.size) (by omega)]
   exact r1.append r2
end
theorem open_arg{ty:Ty}{t:TypeId}{v:Value}{d:DataW H}{p:List MemPlace}(hty:tyB P t ty=true)(hv:isSt ty=true->∃ cs,v=.agg cs)(hv1:isSt ty=false->v.cells=#[v])(h:DataW.Trod enc P w 0 sp held t v d p)(hwt:∀ n∈d.weights P t,n<=reachBytes) :
  ∃ ds,uS w (oldD w) v (mkD ty ds)/\Sh ty ds:=by
 obtain ⟨fuel,hf⟩:=h
 obtain ⟨ds,hr,hs⟩:=bridge (ty:=ty) hty hf hwt
 refine ⟨ds,?_,hs⟩
 cases hst:isSt ty with
 |true=>
  obtain ⟨cs,rfl⟩:=hv hst
  have e:mkD ty ds=.agg ds:=by unfold mkD;rw[hst];rfl
  rw[e]
  have:=uS.agg (w:=w) (D:=oldD w) (cs:=ds) cs.toList hr.1.symm hr.2.1 hr.2.2
  simpa using this
 |false=>
  have hv2:=hv1 hst
  have hc:=hr.1
  rw[hv2] at hr
  simp only[Array.toList] at hr
  obtain ⟨h1,h2,h3⟩:=hr
  have hl:ds.length=1:=by simpa using h1
  obtain ⟨d0,rfl⟩:=length_eq_one_iff.1 hl
  have e:mkD ty [d0]=d0:=by unfold mkD;rw[hst];rfl
  rw[e]
  exact h3 0 v d0 rfl rfl
end
theorem oldD_ok(w:World)(h:TabOk (oldD w) w):iU (oldD w) w:=⟨λ_ _ _ h=>h,h⟩
end Go.Fid
namespace Go.Proofs.YtckccjhflbljgaaGreatDoor
open List Tryz
open Go.Fid Go.RowKit
theorem powT_of {W : World} (h : Lib.TabIs prog W "internal/strconv.uint64pow10" .u64 Lib.pow10Tab) : TabOk (oldD W) W := λG hG i => by
 obtain rfl:1=G:=Option.some.inj hG
 have hg : prog.globalNamed "internal/strconv.uint64pow10" = some 1 := by kernel_rfl
 have hc:=λi=>World.var?_cell hg h i
 refine ⟨?_,(hc i).trans (by simp [tabV,Lib.pow10Tab,Function.comp_def])⟩
 show 1<W.heap.size
 rcases hG:W.heap[1]? with _ | ob
 ·have:=hc 0
  unfold World.cell? at this
  rw[hG] at this
  simp [Lib.pow10Tab] at this
 ·exact qW hG
theorem powT_ok {W : World} {x y : String × DataW Unit} {l : List (String × DataW Unit)} (h : laidMet prog (x :: y :: ("internal/strconv.uint64pow10", Lib.tabData .u64 Lib.pow10Tab) :: l) W) : TabOk (oldD W) W :=
 powT_of (Lib.tabIs_of_head (g:=1) (t:=208) (e:=137) (n:=20) (by kernel_rfl) (by kernel_rfl) (by kernel_rfl) (by kernel_rfl) (by kernel_rfl) (by kernel_rfl) h.tail.tail)
end Go.Proofs.YtckccjhflbljgaaGreatDoor
namespace Go.Fid
open List
open Go.RowKit (Below)
open Go.ChangeShapes Go.WideShapes Go.RowKit
inductive ShAll:List Ty->List (List jY)->Prop
 |nil:ShAll [] []
 |cons {ty:Ty} {tys:List Ty} {ds:List jY} {dss:List (List jY)} (h:Sh ty ds) (r:ShAll tys dss):ShAll (ty::tys) (ds::dss)
def mkAll:List Ty->List (List jY)->List jY
 |ty::tys,ds::dss=>mkD ty ds::mkAll tys dss
 |_,_=>[]
def formsB(P:Program):List TypeId->List Ty->Bool
 |[],[]=>true
 |t::ts,ty::tys=>tyB P t ty&&formsB P ts tys
 |_,_=>false
section
variable {H:Type} {enc:TypeId × Value->H} {P:Program} {w:World} {sp:Nat->Bool} {held:Bool}
theorem ok_st{ty:Ty}{t:TypeId}{v:Value}{base:Nat}(ht:tyB P t ty=true)(h:Value.okWide P w .any base t v):(isSt ty=true->∃ cs,v=.agg cs)/\(isSt ty=false->v.cells=#[v]):=by
 cases ty with
 |int k=>
  unfold tyB at ht
  split at ht
  ·rename_i k' hu
   obtain ⟨n,rfl⟩:=okWide_int hu h
   exact ⟨(λh=>by cases h),λ_=>rfl⟩
  ·cases ht
 |bool=>
  unfold tyB at ht
  split at ht
  ·rename_i hu
   obtain ⟨b,rfl⟩:=okWide_bool hu h
   exact ⟨(λh=>by cases h),λ_=>rfl⟩
  ·cases ht
 |sl E s e=>
  unfold tyB at ht
  split at ht
  ·rename_i E' hu
   obtain ⟨a,l,c,rfl⟩:=okWide_slice hu h
   exact ⟨(λh=>by cases h),λ_=>rfl⟩
  ·cases ht
 |st fs=>
  unfold tyB at ht
  split at ht
  ·rename_i fds hu
   obtain ⟨cs,rfl,_⟩:=okWide_struct hu h
   exact ⟨λ_=>⟨cs,rfl⟩,(λh=>by cases h)⟩
  ·cases ht
 |ar n E fs=>
  unfold tyB at ht
  split at ht
  ·rename_i n' E' hu
   simp only[Value.okWide,hu] at h
   obtain ⟨cs,rfl,_⟩:=h
   exact ⟨λ_=>⟨cs,rfl⟩,(λh=>by cases h)⟩
  ·cases ht
theorem each_left:∀ {ts us:List TypeId} {ds gs:List (DataW H)} {n:Nat},n∈DataW.weightsEach P ts ds->n∈DataW.weightsEach P (ts++us) (ds++gs)
 |[],_,_,_,_,h=>by simp [DataW.weightsEach] at h
 |t::ts,us,[],gs,n,h=>by simp [DataW.weightsEach] at h
 |t::ts,us,d::ds,gs,n,h=>by
  simp only[DataW.weightsEach] at h
  simp only[cons_append,DataW.weightsEach]
  rcases mem_append.1 h with h | h
  ·exact mem_append_left _ h
  ·exact mem_append_right _ (each_left h)
theorem open_args{base:Nat}:∀ {ts:List TypeId} {tys:List Ty} {vs:List Value} {ds:List (DataW H)} {ps:List MemPlace},formsB P ts tys=true->(∀ (j:Nat) t v,ts[j]?=some t->vs[j]?=some v->Value.okWide P w .any base t v)->DataW.TrodAll enc P w 0 sp held ts vs ds ps->(∀ n∈DataW.weightsEach P ts ds,n<=reachBytes) ->
  ∃ dss,ShAll tys dss/\Args w (oldD w) vs (mkAll tys dss)/\vs.length=ts.length
 |[],[],vs,ds,ps,_,_,h,_=>by
  obtain ⟨rfl,rfl,rfl⟩:=trodAll_nil h
  exact ⟨[],.nil,⟨rfl,by simp⟩,rfl⟩
 |t::ts,ty::tys,vs,ds,ps,hf,hok,h,hwt=>by
  simp only[formsB,Bool.and_eq_true] at hf
  obtain ⟨v,vs',d,ds',p,q,rfl,rfl,rfl,h1,h2⟩:=trodAll_cons h
  obtain ⟨k1,k2⟩:=ok_st hf.1 (hok 0 t v rfl rfl)
  obtain ⟨dd,r1,r2⟩:=open_arg hf.1 k1 k2 h1 (λn hn=>hwt n (by simp only[DataW.weightsEach];exact mem_append_left _ hn))
  obtain ⟨dss,r3,r4,r5⟩:=open_args (ts:=ts) (tys:=tys) hf.2 (λj t v a b=>hok (j+1) t v (by simpa using a) (by simpa using b)) h2 (λn hn=>hwt n (by simp only[DataW.weightsEach];exact mem_append_right _ hn))
  refine ⟨dd::dss,.cons r2 r3,⟨by simp [mkAll,r4.1],λi v' d' hv hd=>?_⟩,by simp [r5]⟩
  rcases i with _ | i
  ·simp [mkAll] at hv hd;subst hv;subst hd;exact r1
  ·exact r4.2 i v' d' (by simpa using hv) (by simpa [mkAll] using hd)
 |[],_::_,_,_,_,hf,_,_,_=>by cases hf
 |_::_,[],_,_,_,hf,_,_,_=>by cases hf
theorem again_all{W W':World}(hl:laidOutB P=true)(hb:Below W.heap.size W W'):∀ {ts:List TypeId} {vs:List Value} {ds:List (DataW H)} {ps:List MemPlace},(ts.all λt=>P.readableRec t&&Nat.blt t P.types.size)=true->(∀ x∈ps,x.block<W.heap.size)->DataW.TrodAll enc P W 0 (λ_=>true) true ts vs ds ps ->
  DataW.TrodAll enc P W' 0 (λb=>decide (b<W.heap.size)) true ts vs ds ps
 |[],vs,ds,ps,_,_,h=>by
  obtain ⟨rfl,rfl,rfl⟩:=trodAll_nil h
  exact rfl
 |t::ts,vs,ds,ps,hr,hlt,h=>by
  obtain ⟨v,vs',d,ds',p,q,rfl,rfl,rfl,h1,h2⟩:=trodAll_cons h
  simp only[all_cons,Bool.and_eq_true] at hr
  exact ⟨p,q,Below.trod hl hr.1.1 (Nat.le_of_ble_eq_true hr.1.2) h1 hb (λx hx=>hlt x (by simp [hx])),again_all hl hb hr.2 (λx hx=>hlt x (by simp [hx])) h2,rfl⟩
end
theorem law_contract{H:Type}{enc:TypeId × Value->H}{P:Program}{f:FuncId}{fn:Func}{s:ChangeSpec}{tys:List Ty}{B:TypeId}(hl:laidOutB P=true)(hvars:s.vars=[])(hres:fn.resultTypes.toList=[B])(hB:P.underlying B=some .bool)
  (hrr:(fn.params.toList.all λt=>P.readableRec t&&Nat.blt t P.types.size)=true) (hty:formsB P fn.params.toList tys=true)
  (hspec:∀ ds:List (DataW H),ds.length=fn.params.toList.length->(s.fn H ds).results=[.lit (.bool true)]/\(s.fn H ds).args=ds/\(s.fn H ds).vars=[])
  (ht:∀ dss,ShAll tys dss->jP P f (mkAll tys dss) (.val (.bool true)))
  (W:World) (htab:TabOk (oldD W) W) (base:Nat) (args:Array Value) (ds gs:List (DataW H)) (before:List MemPlace) (hval:∀ (j:Nat) t v,fn.params[j]?=some t->args[j]?=some v->Value.okWide P W .any base t v)
  (hW:DataW.Whole enc P fn.params.toList s.vars false W args.toList ds gs before) (hwt:(DataW.weightsEach P (fn.params.toList++s.plain.varTypes P) (ds++gs)).all (·<=reachBytes)=true) :
  Calls P f args W λe W'=>∃ v,e=.returned v/\s.post enc P fn false true false false W args v W':=by
 have hW':=hW
 obtain ⟨p,q,hA,hV,rfl,_,_⟩:=hW
 rw[hvars] at hV
 obtain ⟨rfl,rfl⟩:=trodVars_none hV
 obtain ⟨dss,r1,r2,r3⟩:=open_args (P:=P) (w:=W) (base:=base) hty (λj t v a b=>hval j t v (by simpa using a) (by simpa using b)) hA (λn hn=>by
  rw[all_eq_true] at hwt
  have:=hwt n (each_left hn)
  simpa using this)
 have hlt:=hW'.lt
 have qM:ds.length=fn.params.toList.length:=by
  have:∀ {ts:List TypeId} {vs:List Value} {ds:List (DataW H)} {ps:List MemPlace},DataW.TrodAll enc P W 0 (λ_=>true) true ts vs ds ps->ds.length=ts.length:=by
   intro ts
   induction ts with
   |nil=>intro vs ds ps h;obtain ⟨_,rfl,_⟩:=trodAll_nil h;rfl
   |cons t ts ih=>intro vs ds ps h;obtain ⟨v,vs',d,ds',p,q,rfl,rfl,rfl,h1,h2⟩:=trodAll_cons h;simp [ih h2]
  exact this hA
 have hc:=(ht dss r1).run W (oldD W) args.toList (oldD_ok W htab) r2
 refine hc.mono λe W' h=>?_
 obtain ⟨v,D',he,h1,h2,h3⟩:=h
 have hv:=rep_bool h3
 subst hv
 obtain ⟨s1,s2,s3⟩:=hspec ds qM
 refine ⟨_,he,ds,[],_,[],p,[],hW',?_,?_,?_,h1.frame _,λh=>by cases h⟩
 ·rw[append_nil,s1,hres]
  have hsz:fn.resultTypes.size=1:=by
   have:=congrArg List.length hres
   simpa using this
  rw[hsz]
  exact trodAll_mk1 (shut_bool hB true)
 ·rw[append_nil,s2]
  exact again_all hl h1 hrr (λx hx=>hlt x (by simp [hx])) hA
 ·rw[append_nil,s3,hvars]
  exact rfl
theorem sh_slice{α:Type}{E s:Nat}{ty:Ty}{F:α->jY}{L:α->Prop}(hF:∀ x,Sh ty x->∃ a,mkD ty x=F a/\L a){ds:List jY}(h:Sh (.sl E s ty) ds) :
  ∃ l:List α,mkD (.sl E s ty) ds=.sl E s (l.map F)/\(∀ a∈l,L a)/\l.length<=140737488355328:=by
 obtain ⟨es,rfl,h1,h2⟩:=h
 have h3:∀ es:List (List jY),(∀ x∈es,Sh ty x)->∃ l:List α,es.map (mkD ty)=l.map F/\(∀ a∈l,L a)/\l.length=es.length:=by
  intro es
  induction es with
  |nil=>intro _;exact ⟨[],rfl,by simp,rfl⟩
  |cons x es ih=>
   intro hx
   obtain ⟨l,e1,e2,e3⟩:=ih (λy hy=>hx y (by simp [hy]))
   obtain ⟨a,e4,e5⟩:=hF x (hx x (by simp))
   refine ⟨a::l,by rw[map_cons,map_cons,e1,e4],λb hb=>?_,by simp [e3]⟩
   rcases mem_cons.1 hb with rfl | hb
   ·exact e5
   ·exact e2 b hb
 obtain ⟨l,e1,e2,e3⟩:=h3 es h2
 exact ⟨l,by rw[<- e1];rfl,e2,by omega⟩
end Go.Fid
