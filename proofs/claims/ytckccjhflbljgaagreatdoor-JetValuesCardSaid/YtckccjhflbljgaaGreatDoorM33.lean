/- Part 33 of a proof: rules, plain facts, and functions walked. -/
import Derived.Test.YtckccjhflbljgaaGreatDoorM29
import Derived.Test.YtckccjhflbljgaaGreatDoorM32
import Derived.Test.YtckccjhflbljgaaGreatDoorM20
import Derived.Test.YtckccjhflbljgaaGreatDoorM19
import Derived.Test.YtckccjhflbljgaaGreatDoorM31
set_option linter.all false
set_option maxRecDepth 4000
namespace Go.Proofs.YtckccjhflbljgaaGreatDoor
open Go.Fid
theorem mE{α:Type}{o V:List α}{k:Nat}{v:α}(h:o.take k=V)(hk:k<o.length):(o.set k v).take (k+1)=V++[v]:=by
 rw[List.take_succ_eq_append_getElem (by rw[List.length_set];omega),List.getElem_set_self,List.take_set_of_le (Nat.le_refl k),h]
theorem p_valU(t:List kC)(ht:yH 1048576 t)(xs:List Rat)(hx:∀ q∈xs,QL q 1048576)(k0:Nat)(hf:VEnd xs t k0)(hxb:xs.length<=1000000):jR Tryz.prog 11 [(.sl 72 7 (List.map jM t)),(.sl 32 4 (List.map jJ (List.map jO xs)))] (.tup [(jJ (vlR xs t k0)),(.val (.int .i64 ((vlC t k0))))]):=by
 have hxn:((List.map jO xs).length)=xs.length:=List.length_map _
 have h0:=tm_0 hf.c0
 have hk9:=hf.hk
 let y2:=uD
 let y1:=(bx (jJ y2))
 refine uU Tryz.func11 ?_
 refine jB<|kx [(4,(.ref 0 0))] [(0,some y1)] (zN (vC 0 qU uG)<|zM<|zZ) ?_
 refine jB<|jB<|kx [(13,(vl 32 4 jJ (List.map jO xs))),(14,(kG xs.length)),(15,(kG 0))] [] (zM<|zE (oLn uE xs.length)<|zM<|zZ) ?_
 refine jL<|kQ (α:=Nat) (fun i=>⟨[(0,(vl 72 7 jM t)),(1,(vl 32 4 jJ (List.map jO xs))),(4,(.ref 0 0)),(13,(vl 32 4 jJ (List.map jO xs))),(14,(kG xs.length)),(15,(kG i))],[(0,some y1)]⟩) (fun i=>i<=xs.length) (fun i=>xs.length-i) 0 wk (Nat.zero_le _) ?_
 rintro i hi
 refine jB<|kx [(16,(vb (decide (((i:Nat):Int)<((xs.length:Nat):Int)))))] [] (zE gX<|zZ) ?_
 refine jB<|jF rfl (fun h1=>?_) (fun h1=>?_)
 ·replace h1:=vN h1
  refine jG<|jB<|jL<|jB<|kx [(7,(.ref 1 0))] [(1,some (bx (jJ (jO (xs.getD i 0)))))] (zE (oXm uE jO i 0 (hj:=by first | omega | (dsimp only;omega)) (h1:=by first | omega | (dsimp only;omega)))<|zE (cV jS)<|zN (vC 1 qU uG)<|zT (qM jS)<|zZ) ?_
  refine jB<|kx [(21,(vb (!(kL (jO (xs.getD i 0))))))] [] (zR (kR jS)<|zE (kB (eU (jO (xs.getD i 0)) (xs.getD i 0) (jY (kF (ql_getD hx (by decide) i)))))<|zE mH<|zZ) ?_
  refine jF (b:=!(kL (jO (xs.getD i 0)))) rfl (fun h2=>?_) (fun h2=>?_)
  ·exact absurd h2 (by rw[mB];decide)
  ·refine jG<|kx [(15,(kG (i+1)))] [] (zE (vY (i+1))<|zM<|zZ) ?_
   exact ⟨(i+1),wk,(by omega),(by first|omega|(dsimp only;omega))⟩
 ·replace h1:=vX h1
  refine kN<|jB<|jB<|kx [(8,(kG (gC ((xs.length:Nat):Int) t)))] [] (zM<|zM<|zE (oLn uE xs.length)<|zE (kB (j_chk t ht ((xs.length:Nat):Int)))<|zM<|zZ) ?_
  refine jB<|kx [(29,(vb false))] [] (zM<|zE (nH false aK (by exact bne_eq_false_iff_eq.2 (by rw[show (gC ((xs.length:Nat):Int) t)=0 from hf.c0]<;>rfl)))<|zZ) ?_
  refine qW ?_
  refine jG<|jB<|kx [(9,(.own 2 32 4 t.length))] [(2,some (qN jJ (List.replicate t.length y2)))] (zM<|zE (zL xZ)<|zN (oMkS 2 jJ y2 t.length t.length uE qU uG by32 (hlN:=by first | omega | (dsimp only;omega)) (hcM:=by first | omega | (dsimp only;omega)) (hnm:=by first | omega | (dsimp only;omega)) (hb:=by first | omega | (dsimp only;omega)))<|zM<|zZ) ?_
  refine jB<|jB<|kx [(35,(vl 72 7 jM t)),(36,(kG t.length)),(37,(kG 0))] [] (zM<|zE (zL xZ)<|zM<|zZ) ?_
  refine jL<|kQ (α:=Nat × List kV) (fun (k,o)=>⟨[(1,(vl 32 4 jJ (List.map jO xs))),(4,(.ref 0 0)),(9,(.own 2 32 4 t.length)),(35,(vl 72 7 jM t)),(36,(kG t.length)),(37,(kG k))],[(0,some y1),(2,some (qN jJ o))]⟩) (fun (k,o)=>k<=k0/\o.length=t.length/\o.take k=List.map jO (vU xs t k)) (fun (k,o)=>t.length-k) (0,List.replicate t.length y2) wk ⟨Nat.zero_le _,List.length_replicate,rfl⟩ ?_
  rintro ⟨k,o⟩ ⟨hk,hol,ho⟩
  have hget:∀ j,j<k->o.getD j uD=jO ((vU xs t k).getD j 0):=fun j hj=>by rw[<- take_getDr o _ hj,ho];exact map_getD jO _ 0 _ (by rw[vU_len];exact hj)
  have hVq:=(hf.up.le hk).all
  refine jB<|kx [(38,(vb (decide (((k:Nat):Int)<((t.length:Nat):Int)))))] [] (zE gX<|zZ) ?_
  refine jB<|jF rfl (fun h3=>?_) (fun h3=>?_)
  ·replace h3:=vN h3
   have hN:=nd_at hf.c0 (show k<t.length by omega)
   refine jG<|jB<|jL<|jB<|kx [(10,(kG k)),(11,(.ref 3 0))] [(3,some (bx (jM (t.getD k tz))))] (zM<|zE (mV xZ k (tz:kC) (hj:=by first | omega | (dsimp only;omega)) (h1:=by first | omega | (dsimp only;omega)))<|zE (cV dP)<|zH (vC 3 cX eN)<|zM<|zT (qM dP)<|zZ) ?_
   refine jB<|kx [(43,(vi ((t.getD k tz).op)))] [] (zE (kK xY)<|zR (qI dD)<|zZ) ?_
   refine jL<|jB<|kx [(64,(vb ((t.getD k tz).op == ((0:Nat):Int))))] [] (zE xV<|zM<|zZ) ?_
   refine jF (b:=((t.getD k tz).op == ((0:Nat):Int))) rfl (fun h4=>?_) (fun h4=>?_)
   ·replace h4:=eq_of_beq h4
    have hop:=h4
    have hlt:=hf.lt hk (show k<t.length by omega) (by rw[hop];decide)
    refine kx [] [(2,some (qN jJ (o.set k ((t.getD k tz).n))))] (zM<|zM<|zE (kK gV)<|zR (kR jS)<|zE (fS uE k (hj:=by first | omega | (dsimp only;omega)) (h1:=by first | omega | (dsimp only;omega)))<|zT (oSA jS k ((t.getD k tz).n))<|zZ) ?_
    refine kx [(37,(kG (k+1)))] [] (zE (vY (k+1))<|zM<|zZ) ?_
    exact ⟨(k+1,o.set k (t.getD k tz).n),wk,⟨by omega,by rw[List.length_set];exact hol,by rw[mE ho (by omega)];exact vU_nc (vV_0 hop) (hN.con hop)⟩,(by first|omega|(dsimp only;omega))⟩
   ·replace h4:=ne_of_beq_false h4
    refine jB<|kx [(71,(vb ((t.getD k tz).op == ((1:Nat):Int))))] [] (zE xV<|zM<|zZ) ?_
    refine jF (b:=((t.getD k tz).op == ((1:Nat):Int))) rfl (fun h5=>?_) (fun h5=>?_)
    ·replace h5:=eq_of_beq h5
     have hop:=h5
     obtain ⟨a1,a2⟩:=hN.var h5
     have hlt:=hf.lt hk (show k<t.length by omega) (by rw[hop];decide)
     refine kx [] [(2,some (qN jJ (o.set k (jO (xs.getD (((t.getD k tz).a).toNat) 0)))))] (zM<|zM<|zM<|zE (kK qG)<|zR (qI uC)<|zE (oXm uE jO (((t.getD k tz).a).toNat) 0 (hj:=by first | omega | (dsimp only;omega)) (h1:=by first | omega | (dsimp only;omega)))<|zE (cV jS)<|zE (fS uE k (hj:=by first | omega | (dsimp only;omega)) (h1:=by first | omega | (dsimp only;omega)))<|zT (oSA jS k (jO (xs.getD (((t.getD k tz).a).toNat) 0)))<|zZ) ?_
     refine kx [(37,(kG (k+1)))] [] (zE (vY (k+1))<|zM<|zZ) ?_
     exact ⟨(k+1,o.set k (jO (xs.getD ((t.getD k tz).a.toNat) 0))),wk,⟨by omega,by rw[List.length_set];exact hol,by rw[mE ho (by omega)];exact eT (vV_1 hop)⟩,(by first|omega|(dsimp only;omega))⟩
    ·replace h5:=ne_of_beq_false h5
     refine jB<|kx [(81,(vb ((t.getD k tz).op == ((6:Nat):Int))))] [] (zE xV<|zM<|zZ) ?_
     refine jF (b:=((t.getD k tz).op == ((6:Nat):Int))) rfl (fun h6=>?_) (fun h6=>?_)
     ·replace h6:=eq_of_beq h6
      have hop:=h6
      obtain ⟨a1,a2⟩:=hN.un (.inl h6)
      have hlt:=hf.lt hk (show k<t.length by omega) (by rw[hop];decide)
      refine kx [] [(2,some (qN jJ (o.set k (jO (-((vU xs t k).getD ((t.getD k tz).a.toNat) 0))))))] (zM<|zM<|zM<|zE (kK qG)<|zR (qI uC)<|zE (fS uE (((t.getD k tz).a).toNat) (hj:=by first | omega | (dsimp only;omega)) (h1:=by first | omega | (dsimp only;omega)))<|zR (mG (jJ (o.getD (((t.getD k tz).a).toNat) y2)) (jJ (jO ((vU xs t k).getD ((t.getD k tz).a.toNat) 0))) (oLA jS (((t.getD k tz).a).toNat) y2 (h1:=by first | omega | (dsimp only;omega))) (by exact (congrArg jJ (hget _ (show (t.getD k tz).a.toNat<k by omega)))))<|zE (kB (f_neg (jO ((vU xs t k).getD ((t.getD k tz).a.toNat) 0)) ((vU xs t k).getD ((t.getD k tz).a.toNat) 0) (jY (kF (qlg hVq (by decide) ((t.getD k tz).a.toNat))))))<|zE (fS uE k (hj:=by first | omega | (dsimp only;omega)) (h1:=by first | omega | (dsimp only;omega)))<|zT (oSA jS k (jO (-((vU xs t k).getD ((t.getD k tz).a.toNat) 0))))<|zZ) ?_
      refine kx [(37,(kG (k+1)))] [] (zE (vY (k+1))<|zM<|zZ) ?_
      exact ⟨(k+1,o.set k (jO (-((vU xs t k).getD ((t.getD k tz).a.toNat) 0)))),wk,⟨by omega,by rw[List.length_set];exact hol,by rw[mE ho (by omega)];exact eT (vV_6 hop)⟩,(by first|omega|(dsimp only;omega))⟩
     ·replace h6:=ne_of_beq_false h6
      refine jB<|kx [(92,(vb ((t.getD k tz).op == ((7:Nat):Int))))] [] (zE xV<|zM<|zZ) ?_
      refine jF (b:=((t.getD k tz).op == ((7:Nat):Int))) rfl (fun h7=>?_) (fun h7=>?_)
      ·replace h7:=eq_of_beq h7
       have hop:=h7
       obtain ⟨a1,a2⟩:=hN.un (.inr h7)
       have hlt:=hf.lt hk (show k<t.length by omega) (by rw[hop];decide)
       refine kd [] [(2,some (qN jJ (o.set k (jO (((vU xs t k).getD ((t.getD k tz).a.toNat) 0)*((vU xs t k).getD ((t.getD k tz).a.toNat) 0))))))] mo (wM<|wM<|wM<|wE (kK qG)<|wR (qI uC)<|wE (fS uE (((t.getD k tz).a).toNat) (hj:=by first | omega | (dsimp only;omega)) (h1:=by first | omega | (dsimp only;omega)))<|wR (mG (jJ (o.getD (((t.getD k tz).a).toNat) y2)) (jJ (jO ((vU xs t k).getD ((t.getD k tz).a.toNat) 0))) (oLA jS (((t.getD k tz).a).toNat) y2 (h1:=by first | omega | (dsimp only;omega))) (by exact (congrArg jJ (hget _ (show (t.getD k tz).a.toNat<k by omega)))))<|wM<|wE (kK qG)<|wR (qI uC)<|wE (fS uE (((t.getD k tz).a).toNat) (hj:=by first | omega | (dsimp only;omega)) (h1:=by first | omega | (dsimp only;omega)))<|wR (mG (jJ (o.getD (((t.getD k tz).a).toNat) y2)) (jJ (jO ((vU xs t k).getD ((t.getD k tz).a.toNat) 0))) (oLA jS (((t.getD k tz).a).toNat) y2 (h1:=by first | omega | (dsimp only;omega))) (by exact (congrArg jJ (hget _ (show (t.getD k tz).a.toNat<k by omega)))))<|wE (kB (f_mul (jO ((vU xs t k).getD ((t.getD k tz).a.toNat) 0)) (jO ((vU xs t k).getD ((t.getD k tz).a.toNat) 0)) ((vU xs t k).getD ((t.getD k tz).a.toNat) 0) ((vU xs t k).getD ((t.getD k tz).a.toNat) 0) (jY (kF (qlg hVq (by decide) ((t.getD k tz).a.toNat)))) (jY (kF (qlg hVq (by decide) ((t.getD k tz).a.toNat))))))<|wE (fS uE k (hj:=by first | omega | (dsimp only;omega)) (h1:=by first | omega | (dsimp only;omega)))<|wT (oSA jS k (jO (((vU xs t k).getD ((t.getD k tz).a.toNat) 0)*((vU xs t k).getD ((t.getD k tz).a.toNat) 0))))<|wZ) ?_
       refine kx [(37,(kG (k+1)))] [] (zE (vY (k+1))<|zM<|zZ) ?_
       exact ⟨(k+1,o.set k (jO (((vU xs t k).getD ((t.getD k tz).a.toNat) 0)*((vU xs t k).getD ((t.getD k tz).a.toNat) 0)))),wk,⟨by omega,by rw[List.length_set];exact hol,by rw[mE ho (by omega)];exact eT (vV_7 hop)⟩,(by first|omega|(dsimp only;omega))⟩
      ·replace h7:=ne_of_beq_false h7
       refine jB<|kx [(108,(vb ((t.getD k tz).op == ((2:Nat):Int))))] [] (zE xV<|zM<|zZ) ?_
       refine jF (b:=((t.getD k tz).op == ((2:Nat):Int))) rfl (fun h8=>?_) (fun h8=>?_)
       ·replace h8:=eq_of_beq h8
        have hop:=h8
        obtain ⟨⟨a1,a2⟩,b1,b2⟩:=hN.bin (.inl h8)
        have hlt:=hf.lt hk (show k<t.length by omega) (by rw[hop];decide)
        refine kd [] [(2,some (qN jJ (o.set k (jO (((vU xs t k).getD ((t.getD k tz).a.toNat) 0)+((vU xs t k).getD ((t.getD k tz).b.toNat) 0))))))] mo (wM<|wM<|wM<|wE (kK qG)<|wR (qI uC)<|wE (fS uE (((t.getD k tz).a).toNat) (hj:=by first | omega | (dsimp only;omega)) (h1:=by first | omega | (dsimp only;omega)))<|wR (mG (jJ (o.getD (((t.getD k tz).a).toNat) y2)) (jJ (jO ((vU xs t k).getD ((t.getD k tz).a.toNat) 0))) (oLA jS (((t.getD k tz).a).toNat) y2 (h1:=by first | omega | (dsimp only;omega))) (by exact (congrArg jJ (hget _ (show (t.getD k tz).a.toNat<k by omega)))))<|wM<|wE (kK uK)<|wR (qI uC)<|wE (fS uE (((t.getD k tz).b).toNat) (hj:=by first | omega | (dsimp only;omega)) (h1:=by first | omega | (dsimp only;omega)))<|wR (mG (jJ (o.getD (((t.getD k tz).b).toNat) y2)) (jJ (jO ((vU xs t k).getD ((t.getD k tz).b.toNat) 0))) (oLA jS (((t.getD k tz).b).toNat) y2 (h1:=by first | omega | (dsimp only;omega))) (by exact (congrArg jJ (hget _ (show (t.getD k tz).b.toNat<k by omega)))))<|wE (kB (f_add (jO ((vU xs t k).getD ((t.getD k tz).a.toNat) 0)) (jO ((vU xs t k).getD ((t.getD k tz).b.toNat) 0)) ((vU xs t k).getD ((t.getD k tz).a.toNat) 0) ((vU xs t k).getD ((t.getD k tz).b.toNat) 0) (jY (kF (qlg hVq (by decide) ((t.getD k tz).a.toNat)))) (jY (kF (qlg hVq (by decide) ((t.getD k tz).b.toNat))))))<|wE (fS uE k (hj:=by first | omega | (dsimp only;omega)) (h1:=by first | omega | (dsimp only;omega)))<|wT (oSA jS k (jO (((vU xs t k).getD ((t.getD k tz).a.toNat) 0)+((vU xs t k).getD ((t.getD k tz).b.toNat) 0))))<|wZ) ?_
        refine kx [(37,(kG (k+1)))] [] (zE (vY (k+1))<|zM<|zZ) ?_
        exact ⟨(k+1,o.set k (jO (((vU xs t k).getD ((t.getD k tz).a.toNat) 0)+((vU xs t k).getD ((t.getD k tz).b.toNat) 0)))),wk,⟨by omega,by rw[List.length_set];exact hol,by rw[mE ho (by omega)];exact eT (vV_2 hop)⟩,(by first|omega|(dsimp only;omega))⟩
       ·replace h8:=ne_of_beq_false h8
        refine jB<|kx [(124,(vb ((t.getD k tz).op == ((3:Nat):Int))))] [] (zE xV<|zM<|zZ) ?_
        refine jF (b:=((t.getD k tz).op == ((3:Nat):Int))) rfl (fun h9=>?_) (fun h9=>?_)
        ·replace h9:=eq_of_beq h9
         have hop:=h9
         obtain ⟨⟨a1,a2⟩,b1,b2⟩:=hN.bin (.inr (.inl h9))
         have hlt:=hf.lt hk (show k<t.length by omega) (by rw[hop];decide)
         refine kd [] [(2,some (qN jJ (o.set k (jO (((vU xs t k).getD ((t.getD k tz).a.toNat) 0)-((vU xs t k).getD ((t.getD k tz).b.toNat) 0))))))] mo (wM<|wM<|wM<|wE (kK qG)<|wR (qI uC)<|wE (fS uE (((t.getD k tz).a).toNat) (hj:=by first | omega | (dsimp only;omega)) (h1:=by first | omega | (dsimp only;omega)))<|wR (mG (jJ (o.getD (((t.getD k tz).a).toNat) y2)) (jJ (jO ((vU xs t k).getD ((t.getD k tz).a.toNat) 0))) (oLA jS (((t.getD k tz).a).toNat) y2 (h1:=by first | omega | (dsimp only;omega))) (by exact (congrArg jJ (hget _ (show (t.getD k tz).a.toNat<k by omega)))))<|wM<|wE (kK uK)<|wR (qI uC)<|wE (fS uE (((t.getD k tz).b).toNat) (hj:=by first | omega | (dsimp only;omega)) (h1:=by first | omega | (dsimp only;omega)))<|wR (mG (jJ (o.getD (((t.getD k tz).b).toNat) y2)) (jJ (jO ((vU xs t k).getD ((t.getD k tz).b.toNat) 0))) (oLA jS (((t.getD k tz).b).toNat) y2 (h1:=by first | omega | (dsimp only;omega))) (by exact (congrArg jJ (hget _ (show (t.getD k tz).b.toNat<k by omega)))))<|wE (kB (f_sub (jO ((vU xs t k).getD ((t.getD k tz).a.toNat) 0)) (jO ((vU xs t k).getD ((t.getD k tz).b.toNat) 0)) ((vU xs t k).getD ((t.getD k tz).a.toNat) 0) ((vU xs t k).getD ((t.getD k tz).b.toNat) 0) (jY (kF (qlg hVq (by decide) ((t.getD k tz).a.toNat)))) (jY (kF (qlg hVq (by decide) ((t.getD k tz).b.toNat))))))<|wE (fS uE k (hj:=by first | omega | (dsimp only;omega)) (h1:=by first | omega | (dsimp only;omega)))<|wT (oSA jS k (jO (((vU xs t k).getD ((t.getD k tz).a.toNat) 0)-((vU xs t k).getD ((t.getD k tz).b.toNat) 0))))<|wZ) ?_
         refine kx [(37,(kG (k+1)))] [] (zE (vY (k+1))<|zM<|zZ) ?_
         exact ⟨(k+1,o.set k (jO (((vU xs t k).getD ((t.getD k tz).a.toNat) 0)-((vU xs t k).getD ((t.getD k tz).b.toNat) 0)))),wk,⟨by omega,by rw[List.length_set];exact hol,by rw[mE ho (by omega)];exact eT (vV_3 hop)⟩,(by first|omega|(dsimp only;omega))⟩
        ·replace h9:=ne_of_beq_false h9
         refine jB<|kx [(140,(vb ((t.getD k tz).op == ((4:Nat):Int))))] [] (zE xV<|zM<|zZ) ?_
         refine jF (b:=((t.getD k tz).op == ((4:Nat):Int))) rfl (fun h10=>?_) (fun h10=>?_)
         ·replace h10:=eq_of_beq h10
          have hop:=h10
          obtain ⟨⟨a1,a2⟩,b1,b2⟩:=hN.bin (.inr (.inr (.inl h10)))
          have hlt:=hf.lt hk (show k<t.length by omega) (by rw[hop];decide)
          refine kd [] [(2,some (qN jJ (o.set k (jO (((vU xs t k).getD ((t.getD k tz).a.toNat) 0)*((vU xs t k).getD ((t.getD k tz).b.toNat) 0))))))] mo (wM<|wM<|wM<|wE (kK qG)<|wR (qI uC)<|wE (fS uE (((t.getD k tz).a).toNat) (hj:=by first | omega | (dsimp only;omega)) (h1:=by first | omega | (dsimp only;omega)))<|wR (mG (jJ (o.getD (((t.getD k tz).a).toNat) y2)) (jJ (jO ((vU xs t k).getD ((t.getD k tz).a.toNat) 0))) (oLA jS (((t.getD k tz).a).toNat) y2 (h1:=by first | omega | (dsimp only;omega))) (by exact (congrArg jJ (hget _ (show (t.getD k tz).a.toNat<k by omega)))))<|wM<|wE (kK uK)<|wR (qI uC)<|wE (fS uE (((t.getD k tz).b).toNat) (hj:=by first | omega | (dsimp only;omega)) (h1:=by first | omega | (dsimp only;omega)))<|wR (mG (jJ (o.getD (((t.getD k tz).b).toNat) y2)) (jJ (jO ((vU xs t k).getD ((t.getD k tz).b.toNat) 0))) (oLA jS (((t.getD k tz).b).toNat) y2 (h1:=by first | omega | (dsimp only;omega))) (by exact (congrArg jJ (hget _ (show (t.getD k tz).b.toNat<k by omega)))))<|wE (kB (f_mul (jO ((vU xs t k).getD ((t.getD k tz).a.toNat) 0)) (jO ((vU xs t k).getD ((t.getD k tz).b.toNat) 0)) ((vU xs t k).getD ((t.getD k tz).a.toNat) 0) ((vU xs t k).getD ((t.getD k tz).b.toNat) 0) (jY (kF (qlg hVq (by decide) ((t.getD k tz).a.toNat)))) (jY (kF (qlg hVq (by decide) ((t.getD k tz).b.toNat))))))<|wE (fS uE k (hj:=by first | omega | (dsimp only;omega)) (h1:=by first | omega | (dsimp only;omega)))<|wT (oSA jS k (jO (((vU xs t k).getD ((t.getD k tz).a.toNat) 0)*((vU xs t k).getD ((t.getD k tz).b.toNat) 0))))<|wZ) ?_
          refine kx [(37,(kG (k+1)))] [] (zE (vY (k+1))<|zM<|zZ) ?_
          exact ⟨(k+1,o.set k (jO (((vU xs t k).getD ((t.getD k tz).a.toNat) 0)*((vU xs t k).getD ((t.getD k tz).b.toNat) 0)))),wk,⟨by omega,by rw[List.length_set];exact hol,by rw[mE ho (by omega)];exact eT (vV_4 hop)⟩,(by first|omega|(dsimp only;omega))⟩
         ·replace h10:=ne_of_beq_false h10
          have hop:(t.getD k tz).op=5:=by have h9:=hN.op;omega
          obtain ⟨⟨a1,a2⟩,b1,b2⟩:=hN.bin (.inr (.inr (.inr hop)))
          refine jB<|kx [] [] (zM<|zZ) ?_
          refine jB ?_
          rcases hlt0:(decide (k<k0)) with _ | _
          ·refine kd [(12,(vi (divC ((vU xs t k).getD ((t.getD k tz).b.toNat) 0))))] [(2,some (qN jJ (o.set k (divR ((vU xs t k).getD ((t.getD k tz).a.toNat) 0) ((vU xs t k).getD ((t.getD k tz).b.toNat) 0)))))] mo (wM<|wM<|wM<|wE (kK qG)<|wR (qI uC)<|wE (fS uE (((t.getD k tz).a).toNat) (hj:=by first | omega | (dsimp only;omega)) (h1:=by first | omega | (dsimp only;omega)))<|wR (mG (jJ (o.getD (((t.getD k tz).a).toNat) y2)) (jJ (jO ((vU xs t k).getD ((t.getD k tz).a.toNat) 0))) (oLA jS (((t.getD k tz).a).toNat) y2 (h1:=by first | omega | (dsimp only;omega))) (by exact (congrArg jJ (hget _ (show (t.getD k tz).a.toNat<k by omega)))))<|wM<|wE (kK uK)<|wR (qI uC)<|wE (fS uE (((t.getD k tz).b).toNat) (hj:=by first | omega | (dsimp only;omega)) (h1:=by first | omega | (dsimp only;omega)))<|wR (mG (jJ (o.getD (((t.getD k tz).b).toNat) y2)) (jJ (jO ((vU xs t k).getD ((t.getD k tz).b.toNat) 0))) (oLA jS (((t.getD k tz).b).toNat) y2 (h1:=by first | omega | (dsimp only;omega))) (by exact (congrArg jJ (hget _ (show (t.getD k tz).b.toNat<k by omega)))))<|wE (kB (f_divide (jO ((vU xs t k).getD ((t.getD k tz).a.toNat) 0)) (jO ((vU xs t k).getD ((t.getD k tz).b.toNat) 0)) ((vU xs t k).getD ((t.getD k tz).a.toNat) 0) ((vU xs t k).getD ((t.getD k tz).b.toNat) 0) (jY (kF (qlg hVq (by decide) ((t.getD k tz).a.toNat)))) (jY (kF (qlg hVq (by decide) ((t.getD k tz).b.toNat))))))<|wM<|wE xU<|wE xU<|wE (fS uE k (hj:=by first | omega | (dsimp only;omega)) (h1:=by first | omega | (dsimp only;omega)))<|wT (oSA jS k (divR ((vU xs t k).getD ((t.getD k tz).a.toNat) 0) ((vU xs t k).getD ((t.getD k tz).b.toNat) 0)))<|wM<|wZ) ?_
           refine jB<|kx [(62,(vb true))] [] (zM<|zE (nH true aK (by exact bne_iff_ne.2 (by rw[divC_zero (hf.at hk (show k<t.length by omega) hlt0)];decide)))<|zZ) ?_
           refine yR ?_
           refine jB<|kx [(5,(kG 14))] [(0,some y1)] (zE (bC pl32 qU uG)<|zT (qM jS)<|zM<|zZ) ?_
           refine jE ⟨_,(kP (cs:=y1) (d:=(jJ y2)) rfl rfl jS rfl rfl (.tmp (d:=(.val (.int .i64 (((14:Nat):Int))))) rfl .nil)),?_⟩
           obtain ⟨e1,e2⟩:=hf.no hk (show k<t.length by omega) hlt0 (xs:=xs)
           rw[e1,e2];rfl
          ·refine kd [(12,(vi 0))] [(2,some (qN jJ (o.set k (jO (((vU xs t k).getD ((t.getD k tz).a.toNat) 0) / ((vU xs t k).getD ((t.getD k tz).b.toNat) 0))))))] mo (wM<|wM<|wM<|wE (kK qG)<|wR (qI uC)<|wE (fS uE (((t.getD k tz).a).toNat) (hj:=by first | omega | (dsimp only;omega)) (h1:=by first | omega | (dsimp only;omega)))<|wR (mG (jJ (o.getD (((t.getD k tz).a).toNat) y2)) (jJ (jO ((vU xs t k).getD ((t.getD k tz).a.toNat) 0))) (oLA jS (((t.getD k tz).a).toNat) y2 (h1:=by first | omega | (dsimp only;omega))) (by exact (congrArg jJ (hget _ (show (t.getD k tz).a.toNat<k by omega)))))<|wM<|wE (kK uK)<|wR (qI uC)<|wE (fS uE (((t.getD k tz).b).toNat) (hj:=by first | omega | (dsimp only;omega)) (h1:=by first | omega | (dsimp only;omega)))<|wR (mG (jJ (o.getD (((t.getD k tz).b).toNat) y2)) (jJ (jO ((vU xs t k).getD ((t.getD k tz).b.toNat) 0))) (oLA jS (((t.getD k tz).b).toNat) y2 (h1:=by first | omega | (dsimp only;omega))) (by exact (congrArg jJ (hget _ (show (t.getD k tz).b.toNat<k by omega)))))<|wE (kB (by have h:=f_divide (jO ((vU xs t k).getD ((t.getD k tz).a.toNat) 0)) (jO ((vU xs t k).getD ((t.getD k tz).b.toNat) 0)) ((vU xs t k).getD ((t.getD k tz).a.toNat) 0) ((vU xs t k).getD ((t.getD k tz).b.toNat) 0) (jY (kF (qlg hVq (by decide) ((t.getD k tz).a.toNat)))) (jY (kF (qlg hVq (by decide) ((t.getD k tz).b.toNat))));rw[divR_ne (hf.up.dz k (vN hlt0) hop),divC_ne (hf.up.dz k (vN hlt0) hop)] at h;exact h))<|wM<|wE xU<|wE xU<|wE (fS uE k (hj:=by first | omega | (dsimp only;omega)) (h1:=by first | omega | (dsimp only;omega)))<|wT (oSA jS k (jO (((vU xs t k).getD ((t.getD k tz).a.toNat) 0) / ((vU xs t k).getD ((t.getD k tz).b.toNat) 0))))<|wM<|wZ) ?_
           refine jB<|kx [(62,(vb false))] [] (zM<|zE (nH false aK)<|zZ) ?_
           refine qW ?_
           refine jG<|kx [(37,(kG (k+1)))] [] (zE (vY (k+1))<|zM<|zZ) ?_
           exact ⟨(k+1,o.set k (jO (((vU xs t k).getD ((t.getD k tz).a.toNat) 0) / ((vU xs t k).getD ((t.getD k tz).b.toNat) 0)))),wk,⟨by have:=vN hlt0;omega,by rw[List.length_set];exact hol,by rw[mE ho (by omega)];exact eT (vV_5 hop)⟩,(by first|omega|(dsimp only;omega))⟩
  ·replace h3:=vX h3
   refine kN<|jB<|kx [(5,(kG 0))] [(0,some (bx (jJ (o.getD (t.length-1) y2))))] (zM<|zM<|zE (oLo uE)<|zE (oSb (t.length-1))<|zE (fS uE (t.length-1) (hj:=by first | omega | (dsimp only;omega)) (h1:=by first | omega | (dsimp only;omega)))<|zR (oLA jS (t.length-1) y2 (h1:=by first | omega | (dsimp only;omega)))<|zT (qM jS)<|zM<|zZ) ?_
   refine jE ⟨_,(kP (cs:=(bx (jJ (o.getD (t.length-1) y2)))) (d:=(jJ (o.getD (t.length-1) y2))) rfl rfl jS rfl rfl (.tmp (d:=(.val (.int .i64 (((0:Nat):Int))))) rfl .nil)),?_⟩
   obtain rfl:k=t.length:=by omega
   obtain rfl:k0=t.length:=by omega
   rw[hget _ (show t.length-1<t.length by omega),vlR_y,vlC_y];rfl
theorem p_val(t:List kC)(ht:yH 1048576 t)(xs:List Rat)(hx:∀ q∈xs,QL q 1048576)(hr:VRun xs t)(hxb:xs.length<=1000000):jR Tryz.prog 11 [(.sl 72 7 (List.map jM t)),(.sl 32 4 (List.map jJ (List.map jO xs)))] (.tup [(jJ (jO (dZ xs t))),(.val (.int .i64 (((0:Nat):Int))))]):=by
 have h:=p_valU t ht xs hx t.length hr.fin hxb
 rw[vlR_y,vlC_y] at h
 exact h
theorem p_valF(t:List kC)(ht:yH 1048576 t)(xs:List Rat)(hx:∀ q∈xs,QL q 1048576)(hfe:∃ k,VFail xs t k)(hxb:xs.length<=1000000):jR Tryz.prog 11 [(.sl 72 7 (List.map jM t)),(.sl 32 4 (List.map jJ (List.map jO xs)))] (.tup [(jJ uD),(.val (.int .i64 (((14:Nat):Int))))]):=by
 obtain ⟨k,hf⟩:=hfe
 have h:=p_valU t ht xs hx k hf.fin hxb
 rw[(hf.fin.no2 hf.hk).1,(hf.fin.no2 hf.hk).2] at h
 exact h
theorem p_valC(t:List kC)(ht:yH 1048576 t)(xs:List Rat)(hx:∀ q∈xs,QL q 1048576)(hc:gC ((xs.length:Nat):Int) t≠0)(hxb:xs.length<=1000000):jR Tryz.prog 11 [(.sl 72 7 (List.map jM t)),(.sl 32 4 (List.map jJ (List.map jO xs)))] (.tup [(jJ uD),(.val (.int .i64 ((((gC ((xs.length:Nat):Int) t):Nat):Int))))]):=by
 have hxn:((List.map jO xs).length)=xs.length:=List.length_map _
 let y1:=(bx (jJ uD))
 refine uU Tryz.func11 ?_
 refine jB<|kx [(4,(.ref 0 0))] [(0,some y1)] (zN (vC 0 qU uG)<|zM<|zZ) ?_
 refine jB<|jB<|kx [(13,(vl 32 4 jJ (List.map jO xs))),(14,(kG xs.length)),(15,(kG 0))] [] (zM<|zE (oLn uE xs.length)<|zM<|zZ) ?_
 refine jL<|kQ (α:=Nat) (fun i=>⟨[(0,(vl 72 7 jM t)),(1,(vl 32 4 jJ (List.map jO xs))),(4,(.ref 0 0)),(13,(vl 32 4 jJ (List.map jO xs))),(14,(kG xs.length)),(15,(kG i))],[(0,some y1)]⟩) (fun i=>i<=xs.length) (fun i=>xs.length-i) 0 wk (Nat.zero_le _) ?_
 rintro i hi
 refine jB<|kx [(16,(vb (decide (((i:Nat):Int)<((xs.length:Nat):Int)))))] [] (zE gX<|zZ) ?_
 refine jB<|jF rfl (fun h1=>?_) (fun h1=>?_)
 ·replace h1:=vN h1
  refine jG<|jB<|jL<|jB<|kx [(7,(.ref 1 0))] [(1,some (bx (jJ (jO (xs.getD i 0)))))] (zE (oXm uE jO i 0)<|zE (cV jS)<|zN (vC 1 qU uG)<|zT (qM jS)<|zZ) ?_
  refine jB<|kx [(21,(vb (!(kL (jO (xs.getD i 0))))))] [] (zR (kR jS)<|zE (kB (eU (jO (xs.getD i 0)) (xs.getD i 0) (jY (kF (ql_getD hx (by decide) i)))))<|zE mH<|zZ) ?_
  refine jF (b:=!(kL (jO (xs.getD i 0)))) rfl (fun h2=>?_) (fun h2=>?_)
  ·exact absurd h2 (by rw[mB];decide)
  ·refine jG<|kx [(15,(kG (i+1)))] [] (zE (vY (i+1))<|zM<|zZ) ?_
   exact ⟨(i+1),wk,(by omega),(by first|omega|(dsimp only;omega))⟩
 ·replace h1:=vX h1
  refine kN<|jB<|jB<|kx [(8,(kG (gC ((xs.length:Nat):Int) t)))] [] (zM<|zM<|zE (oLn uE xs.length)<|zE (kB (j_chk t ht ((xs.length:Nat):Int)))<|zM<|zZ) ?_
  refine jB<|kx [(29,(vb true))] [] (zM<|zE (nH true aK (by exact bne_iff_ne.2 (by have hx:=hc;omega)))<|zZ) ?_
  refine yR ?_
  refine jB<|kx [(5,(kG (gC ((xs.length:Nat):Int) t)))] [(0,some y1)] (zE (bC pl32 qU uG)<|zM<|zT (qM jS)<|zM<|zZ) ?_
  refine jE ⟨_,(kP (cs:=y1) (d:=(jJ uD)) rfl rfl jS rfl rfl (.tmp (d:=(.val (.int .i64 ((((gC ((xs.length:Nat):Int) t):Nat):Int))))) rfl .nil)),?_⟩
  rfl
theorem u_valC(t:List kC)(ht:yH 1048576 t)(xs:List Rat)(hx:∀ q∈xs,QL q 1048576)(hc:gC ((xs.length:Nat):Int) t≠0)(hxb:xs.length<=1000000):jR Tryz.prog 12 [(.sl 72 7 (List.map jM t)),(.sl 32 4 (List.map jJ (List.map jO xs)))] (.tup [(jJ uD),(.val (.int .i64 ((((gC ((xs.length:Nat):Int) t):Nat):Int))))]):=by
 have hxn:((List.map jO xs).length)=xs.length:=List.length_map _
 refine uU Tryz.func12 ?_
 refine jB<|kx [(4,(.ref 0 0))] [(0,some (bx (jJ uD)))] (zN (vC 0 qU uG)<|zM<|zZ) ?_
 refine jB<|jB<|kx [(15,(vb false))] [] (zM<|zE (nH true (kB (m_vlist (List.map jO xs) (pts_row hx (by omega)))) (by exact (vrow_of xs)))<|zE mH<|zZ) ?_
 refine qW ?_
 refine jG<|jB<|jB<|kx [(6,(kG (gC ((xs.length:Nat):Int) t)))] [] (zM<|zM<|zE (oLn uE xs.length)<|zE (kB (u_chk t ht ((xs.length:Nat):Int)))<|zM<|zZ) ?_
 refine jB<|kx [(22,(vb true))] [] (zM<|zE (nH true aK (by exact bne_iff_ne.2 (by have hx:=hc;omega)))<|zZ) ?_
 refine yR ?_
 refine jB<|kx [(5,(kG (gC ((xs.length:Nat):Int) t)))] [(0,some (bx (jJ uD)))] (zE (bC pl32 qU uG)<|zM<|zT (qM jS)<|zM<|zZ) ?_
 refine jE ⟨_,(kP (cs:=(bx (jJ uD))) (d:=(jJ uD)) rfl rfl jS rfl rfl (.tmp (d:=(.val (.int .i64 ((((gC ((xs.length:Nat):Int) t):Nat):Int))))) rfl .nil)),?_⟩
 rfl
theorem p_valV(t:List kC)(ht:yH 1048576 t)(l:List kV)(hl:RowOk 1048576 l)(hv:vRow l=false)(hxb:l.length<=1000000):jR Tryz.prog 11 [(.sl 72 7 (List.map jM t)),(.sl 32 4 (List.map jJ l))] (.tup [(jJ uD),(.val (.int .i64 (((1:Nat):Int))))]):=by
 have hlb:=hl.2
 let y2:=uD
 let y1:=(bx (jJ y2))
 refine uU Tryz.func11 ?_
 refine jB<|kx [(4,(.ref 0 0))] [(0,some y1)] (zN (vC 0 qU uG)<|zM<|zZ) ?_
 refine jB<|jB<|kx [(13,(vl 32 4 jJ l)),(14,(kG l.length)),(15,(kG 0))] [] (zM<|zE (zL uE)<|zM<|zZ) ?_
 refine jL<|kQ (α:=Nat) (fun i=>⟨[(0,(vl 72 7 jM t)),(1,(vl 32 4 jJ l)),(4,(.ref 0 0)),(13,(vl 32 4 jJ l)),(14,(kG l.length)),(15,(kG i))],[(0,some y1)]⟩) (fun i=>i<=l.length/\(l.take i).all kL=true) (fun i=>l.length-i) 0 wk ⟨Nat.zero_le _,by simp⟩ ?_
 rintro i ⟨hi,hal⟩
 refine jB<|kx [(16,(vb (decide (((i:Nat):Int)<((l.length:Nat):Int)))))] [] (zE gX<|zZ) ?_
 refine jB<|jF rfl (fun h1=>?_) (fun h1=>?_)
 ·replace h1:=vN h1
  refine jG<|jB<|jL<|jB<|kx [(7,(.ref 1 0))] [(1,some (bx (jJ (l.getD i y2))))] (zE (mV uE i y2)<|zE (cV jS)<|zN (vC 1 qU uG)<|zT (qM jS)<|zZ) ?_
  refine jB<|kx [(21,(vb (!(kL (l.getD i y2)))))] [] (zR (kR jS)<|zE (kB (eU (l.getD i y2) (vQ (l.getD i y2)) (jY (qok_at hl.1 (show i<l.length by omega)))))<|zE mH<|zZ) ?_
  refine jF rfl (fun h2=>?_) (fun h2=>?_)
  ·refine jB<|kx [(5,(kG 1))] [(0,some y1)] (zE (bC pl32 qU uG)<|zT (qM jS)<|zM<|zZ) ?_
   refine jE ⟨_,(kP (cs:=y1) (d:=(jJ y2)) rfl rfl jS rfl rfl (.tmp (d:=(.val (.int .i64 (((1:Nat):Int))))) rfl .nil)),?_⟩
   rfl
  ·refine jG<|kx [(15,(kG (i+1)))] [] (zE (vY (i+1))<|zM<|zZ) ?_
   exact ⟨(i+1),wk,⟨by omega,all_up (d:=uD) (by omega) hal (by simpa using h2)⟩,(by first|omega|(dsimp only;omega))⟩
 ·replace h1:=vX h1
  exact absurd hv (by rw[show vRow l=true from by (rw[show i=l.length by omega,List.take_length] at hal;exact hal)];decide)
theorem u_valV(t:List kC)(ht:yH 1048576 t)(l:List kV)(hl:RowOk 1048576 l)(hv:vRow l=false)(hxb:l.length<=1000000):jR Tryz.prog 12 [(.sl 72 7 (List.map jM t)),(.sl 32 4 (List.map jJ l))] (.tup [(jJ uD),(.val (.int .i64 (((1:Nat):Int))))]):=by
 have hlb:=hl.2
 refine uU Tryz.func12 ?_
 refine jB<|kx [(4,(.ref 0 0))] [(0,some (bx (jJ uD)))] (zN (vC 0 qU uG)<|zM<|zZ) ?_
 refine jB<|jB<|kx [(15,(vb true))] [] (zM<|zE (nH false (kB (m_vlist l hl)) (by exact hv))<|zE mH<|zZ) ?_
 refine yR ?_
 refine jB<|kx [(5,(kG 1))] [(0,some (bx (jJ uD)))] (zE (bC pl32 qU uG)<|zT (qM jS)<|zM<|zZ) ?_
 refine jE ⟨_,(kP (cs:=(bx (jJ uD))) (d:=(jJ uD)) rfl rfl jS rfl rfl (.tmp (d:=(.val (.int .i64 (((1:Nat):Int))))) rfl .nil)),?_⟩
 rfl
end Go.Proofs.YtckccjhflbljgaaGreatDoor
namespace Go.Fid
theorem gs0(a:R2):uJ (gw 0) a=gneg a:=by
 unfold uJ gw gneg
 rw[show ((0:Int):Rat)=0 from rfl,Rat.sub_eq_add_neg,Rat.sub_eq_add_neg,Rat.zero_add,Rat.zero_add]
def bV(s:Nat):Nat:=25*s-1
def bG(s:Nat):Nat:=51*(s*s)
def mU(v:R2)(g:Nat->R2)(s:Nat):Prop:=GL (bV s) v/\∀ i,GL (bG s) (g i)
def BdOk(ss:List Int)(L:List JV):Prop:=∀ j,j<L.length->∃ s:Nat,ss.getD j 0=(s:Int)/\1<=s/\mU (L.getD j jz).v (fun i=>(L.getD j jz).g.getD i z2) s
theorem gl_0:GL 3 (gw 0):=gl_w (z:=0) (by omega) (by omega)
theorem gl_1:GL 3 (gw 1):=gl_w (z:=1) (by omega) (by omega)
theorem gl_2:GL 3 (gw 2):=gl_w (z:=2) (by omega) (by omega)
theorem sq_sum(s r:Nat):(s+r)*(s+r)=s*s+r*r+2*(s*r):=by
 rw[Nat.add_mul,Nat.mul_add,Nat.mul_add,Nat.mul_comm r s];omega
theorem sr_le{s r:Nat}(hs:1<=s)(hr:1<=r):s+r<=2*(s*r):=by
 have h1:s*1<=s*r:=Nat.mul_le_mul (Nat.le_refl _) hr
 have h2:1*r<=s*r:=Nat.mul_le_mul hs (Nat.le_refl _)
 omega
theorem mU.pt{v:R2}{g:Nat->R2}(hv:GL 24 v)(hg:∀ i,GL 3 (g i)):mU v g 1:=⟨hv,fun i=>uH (hg i) (by decide)⟩
theorem mU.add{v w:R2}{g h:Nat->R2}{s r:Nat}(hs:1<=s)(hr:1<=r)(a:mU v g s)(b:mU w h r):mU (yY v w) (fun i=>yY (g i) (h i)) (s+r):=by
 have e:=sq_sum s r
 have e2:=sr_le hs hr
 exact ⟨gl_add a.1 b.1 (by unfold bV;omega),fun i=>gl_add (a.2 i) (b.2 i) (by unfold bG;omega)⟩
theorem mU.sub{v w:R2}{g h:Nat->R2}{s r:Nat}(hs:1<=s)(hr:1<=r)(a:mU v g s)(b:mU w h r):mU (uJ v w) (fun i=>uJ (g i) (h i)) (s+r):=by
 have e:=sq_sum s r
 have e2:=sr_le hs hr
 exact ⟨aP a.1 b.1 (by unfold bV;omega),fun i=>aP (a.2 i) (b.2 i) (by unfold bG;omega)⟩
theorem mU.mul{v w:R2}{g h:Nat->R2}{s r:Nat}(hs:1<=s)(hr:1<=r)(a:mU v g s)(b:mU w h r):mU (vS v w) (fun i=>yY (vS v (h i)) (vS w (g i))) (s+r):=by
 have e:=sq_sum s r
 have e2:=sr_le hs hr
 exact ⟨nA a.1 b.1 (by unfold bV;omega),fun i=>gl_add (nA a.1 (b.2 i) (Nat.le_refl _)) (nA b.1 (a.2 i) (Nat.le_refl _)) (by unfold bV bG;omega)⟩
theorem mU.div{v w:R2}{g h:Nat->R2}{s r:Nat}(hs:1<=s)(hr:1<=r)(a:mU v g s)(b:mU w h r):mU (cY v w) (fun i=>cY (uJ (g i) (vS (cY v w) (h i))) w) (s+r):=by
 have e:=sq_sum s r
 have e2:=sr_le hs hr
 have hq:GL (bV (s+r)) (cY v w):=gl_div a.1 b.1 (by unfold bV;omega)
 exact ⟨hq,fun i=>gl_div (aP (a.2 i) (nA hq (b.2 i) (Nat.le_refl _)) (Nat.le_refl _)) b.1 (by unfold bV bG;omega)⟩
theorem mU.neg{v:R2}{g:Nat->R2}{s:Nat}(a:mU v g s):mU (uJ (gw 0) v) (fun i=>uJ (gw 0) (g i)) s :=
 ⟨by rw[gs0];exact gl_neg a.1,fun i=>by show GL _ (uJ (gw 0) (g i));rw[gs0];exact gl_neg (a.2 i)⟩
theorem mU.sq{v:R2}{g:Nat->R2}{s:Nat}(hs:1<=s)(a:mU v g s):mU (gsq v) (fun i=>vS (gw 2) (vS v (g i))) (2*s):=by
 have e:=sq_sum s s
 have e2:=sr_le hs hs
 rw[show 2*s=s+s by omega]
 exact ⟨gl_sq a.1 (by unfold bV;omega),fun i=>nA gl_2 (nA a.1 (a.2 i) (Nat.le_refl _)) (by unfold bV bG;omega)⟩
theorem nJ_get{bx:List R2}{L:List JV}{x:kC}{s:Nat}(h1:1<=s)(h:mU (nV bx L x) (nG bx L x) s):mU (nJ bx L x).v (fun i=>(nJ bx L x).g.getD i z2) s:=by
 refine ⟨h.1,fun i=>?_⟩
 have h2:s*1<=s*s:=Nat.mul_le_mul (Nat.le_refl _) h1
 show GL _ ((nJ bx L x).g.getD i z2)
 unfold nJ jk
 dsimp only
 rw[List.getD_eq_getElem?_getD,List.getElem?_map]
 rcases Nat.lt_or_ge i bx.length with h3 | h3
 ·rw[List.getElem?_range h3];exact h.2 i
 ·rw[List.getElem?_eq_none (by simpa using h3)]
  exact ⟨uV dK (by unfold bG;omega),uV dK (by unfold bG;omega),Rat.le_refl⟩
theorem bd_at{ss:List Int}{L:List JV}(h:BdOk ss L){a:Int}(h0:0<=a)(h1:a<L.length):∃ s:Nat,ss.getD a.toNat 0=(s:Int)/\1<=s/\mU (jA L a).v (fun i=>(jA L a).g.getD i z2) s:=h a.toNat (by omega)
theorem bd_node{z:Int}{ss:List Int}{L:List JV}{bx:List R2}{x:kC}(hk:ndC z ss x=0)(hl:ss.length=L.length)(hq:gZ x.n (vQ x.n) 8)(hb:∀ y∈bx,GL 24 y)(h:BdOk ss L) :
  ∃ s:Nat,fR ss x=(s:Int)/\1<=s/\mU (nV bx L x) (nG bx L x) s:=by
 obtain ⟨h1,h2,h3,_⟩:=nd_0 hk
 unfold dE at h1
 unfold fJ at h2
 rcases mQ x.op with ⟨e,f⟩ | ⟨e,f⟩ | ⟨e,f⟩ | ⟨e,f⟩
 ·refine ⟨1,by unfold fR;rw[if_pos e];rfl,Nat.le_refl _,?_⟩
  rcases f with f | f
  ·refine .pt ?_ fun i=>?_
   ·unfold nV;rw[if_pos f];exact uH (gl_pt hq.ql) (by decide)
   ·unfold nG;rw[if_pos f];exact gl_0
  ·refine .pt ?_ fun i=>?_
   ·unfold nV;rw[if_neg (by omega),if_pos f];exact zG hb (by decide) _
   ·unfold nG;rw[if_neg (by omega),if_pos f];split
    ·exact gl_1
    ·exact gl_0
 ·obtain ⟨s,e1,e2,e3⟩:=bd_at h (a:=x.a) (by omega) (by omega)
  rcases f with f | f
  ·refine ⟨s,by unfold fR;rw[if_neg (by omega),if_pos f];exact e1,e2,?_⟩
   have e4:=e3.neg
   unfold nV nG;simp only[f];exact e4
  ·refine ⟨2*s,by unfold fR;rw[if_neg (by omega),if_neg (by omega),if_pos f,e1];omega,by omega,?_⟩
   have e4:=e3.sq e2
   unfold nV nG;simp only[f];exact e4
 ·obtain ⟨s,e1,e2,e3⟩:=bd_at h (a:=x.a) (by omega) (by omega)
  obtain ⟨r,g1,g2,g3⟩:=bd_at h (a:=x.b) (by omega) (by omega)
  refine ⟨s+r,by unfold fR;rw[if_neg (by omega),if_neg (by omega),if_neg (by omega),e1,g1];omega,by omega,?_⟩
  rcases f with f | f | f | f
  ·have e4:=e3.add e2 g2 g3
   unfold nV nG;simp only[f];exact e4
  ·have e4:=e3.sub e2 g2 g3
   unfold nV nG;simp only[f];exact e4
  ·have e4:=e3.mul e2 g2 g3
   unfold nV nG;simp only[f];exact e4
  ·have e4:=e3.div e2 g2 g3
   unfold nG;unfold nV;simp only[f];exact e4
 ·omega
theorem getD_snoc{α:Type}{l:List α}{x d:α}{j:Nat}:(l++[x]).getD j d=if j<l.length then l.getD j d else if j=l.length then x else d:=by
 rw[List.getD_eq_getElem?_getD,List.getD_eq_getElem?_getD]
 split
 ·rename_i h;rw[List.getElem?_append_left h]
 ·rename_i h
  rw[List.getElem?_append_right (by omega)]
  split
  ·rename_i e;subst e;rw[Nat.sub_self];rfl
  ·rename_i e;rw[List.getElem?_eq_none (by simp;omega)];rfl
structure dQ (bx:List R2) (t:List kC):Prop where
 c0:gC ((bx.length:Nat):Int) t=0
 q:∀ x∈t,gZ x.n (vQ x.n) 8
 b:∀ y∈bx,GL 24 y
 s:∀ k,k<t.length->fR (nS t k) (t.getD k tz)<=140
theorem aG{α:Type}{l:List α}{d:α}{k:Nat}(h:k<l.length):l.getD k d∈l:=by
 rw[List.getD_eq_getElem?_getD,List.getElem?_eq_getElem h];exact List.getElem_mem _
theorem dQ.bd{bx:List R2}{t:List kC}(h:dQ bx t):∀ {k:Nat},k<=t.length->BdOk (nS t k) (jU bx t k)
 |0,_=>fun j hj=>by simp [jU] at hj
 |k+1,hk=>fun j hj=>by
  have ih:=h.bd (k:=k) (by omega)
  have l1:=xW t k
  have l2:=fN bx t k
  rw[fN] at hj
  have g1:(nS t (k+1)).getD j 0=_:=getD_snoc
  have g2:(jU bx t (k+1)).getD j jz=_:=getD_snoc
  rcases Nat.lt_or_ge j k with hjk | hjk
  ·rw[if_pos (by omega)] at g1 g2
   rw[g1,g2];exact ih j (by omega)
  ·rw[if_neg (by omega),if_pos (by omega)] at g1 g2
   rw[g1,g2]
   obtain ⟨s,e1,e2,e3⟩:=bd_node ((tm_0 h.c0).2.2.2.2 k (by omega)) (l1.trans l2.symm) (h.q _ (aG (by omega))) h.b ih
   exact ⟨s,e1,e2,nJ_get e2 e3⟩
theorem bd_200{s:Nat}(h:s<=140):bV s<=1048576/\bG s<=1048576:=by
 have h2:s*s<=140*140:=Nat.mul_le_mul h h
 unfold bV bG;omega
theorem dQ.jok{bx:List R2}{t:List kC}(h:dQ bx t){k:Nat}(hk:k<t.length):nW 1048576 bx.length (nJ bx (jU bx t k) (t.getD k tz)):=by
 obtain ⟨s,e1,e2,e3⟩:=bd_node ((tm_0 h.c0).2.2.2.2 k hk) ((xW t k).trans (fN bx t k).symm) (h.q _ (aG hk)) h.b (h.bd (Nat.le_of_lt hk))
 have e4:=h.s k hk
 obtain ⟨e5,e6⟩:=bd_200 (s:=s) (by omega)
 exact jk_ok (uH e3.1 e5) fun i _=>uH (e3.2 i) e6
theorem dQ.upto{bx:List R2}{t:List kC}(h:dQ bx t):∀ {k},k<=t.length->∀ y∈jU bx t k,nW 1048576 bx.length y
 |0,_,y,hy=>by simp [jU] at hy
 |k+1,hk,y,hy=>by
  rw[jU,List.mem_append] at hy
  rcases hy with hy | hy
  ·exact h.upto (by omega) y hy
  ·rw[List.mem_singleton] at hy;subst hy
   exact h.jok (by omega)
def dzB(bx:List R2)(t:List kC)(k:Nat):Bool:=decide ((t.getD k tz).op=5)&&nO (jA (jU bx t k) (t.getD k tz).b).v.1 (jA (jU bx t k) (t.getD k tz).b).v.2
def dzT(bx:List R2)(t:List kC):Bool:=(List.range t.length).any (dzB bx t)
structure FstDz (bx:List R2) (t:List kC) (k:Nat):Prop where
 lt:k<t.length
 no:∀ j,j<k->dzB bx t j=false
 yes:dzB bx t k=true
theorem fst_any{p:Nat->Bool}:∀ {n:Nat},(List.range n).any p=true->∃ k,k<n/\(∀ j,j<k->p j=false)/\p k=true
 |0,h=>by simp at h
 |n+1,h=>by
  cases hn:(List.range n).any p with
  |true=>
   obtain ⟨k,h1,h2,h3⟩:=fst_any hn
   exact ⟨k,by omega,h2,h3⟩
  |false=>
   rw[List.range_succ,List.any_append,hn] at h
   refine ⟨n,by omega,fun j hj=>?_,by simpa using h⟩
   cases hp:p j with
   |false=>rfl
   |true=>rw[List.any_eq_true.2 ⟨j,List.mem_range.2 hj,hp⟩] at hn;cases hn
theorem dz_no{bx:List R2}{t:List kC}(h:dzT bx t=false){k:Nat}(hk:k<t.length):dzB bx t k=false:=by
 cases hp:dzB bx t k with
 |false=>rfl
 |true=>unfold dzT at h;rw[List.any_eq_true.2 ⟨k,List.mem_range.2 hk,hp⟩] at h;cases h
theorem dz_at{bx:List R2}{t:List kC}{k:Nat}(h:dzB bx t k=false)(ho:(t.getD k tz).op=5):nO (jA (jU bx t k) (t.getD k tz).b).v.1 (jA (jU bx t k) (t.getD k tz).b).v.2=false:=by
 unfold dzB at h;rw[decide_eq_true ho,Bool.true_and] at h;exact h
theorem dQ.run{bx:List R2}{t:List kC}(h:dQ bx t)(hd:dzT bx t=false):JRun bx t:=⟨h.c0,fun k hk=>h.jok hk,fun k hk ho=>dz_at (dz_no hd hk) ho⟩
theorem dQ.up{bx:List R2}{t:List kC}(h:dQ bx t):∀ x∈t,gZ x.n (vQ x.n) 1048576:=fun x hx=>jY (h.q x hx) (by decide)
theorem dQ.nd{bx:List R2}{t:List kC}(h:dQ bx t){k:Nat}(hk:k<t.length)(hd:dzB bx t k=false):aA bx.length (jU bx t k) (t.getD k tz) :=
 nd_ok ((tm_0 h.c0).2.2.2.2 k hk) (xW t k) (h.up _ (aG hk)) (dz_at hd)
def DzOk(L:List JV)(x:kC):Prop:=∃ a b:Nat,x=⟨5,(a:Int),(b:Int),zr⟩/\a<L.length/\b<L.length/\nO (L.getD b jz).v.1 (L.getD b jz).v.2=true
theorem dQ.dz{bx:List R2}{t:List kC}(h:dQ bx t){k:Nat}(hk:k<t.length)(hd:dzB bx t k=true):DzOk (jU bx t k) (t.getD k tz):=by
 have hc:=(tm_0 h.c0).2.2.2.2 k hk
 obtain ⟨h1,h2,h3,_⟩:=nd_0 hc
 rw[xW] at h2
 have hl:=fN bx t k
 unfold dzB at hd
 rw[Bool.and_eq_true,decide_eq_true_eq] at hd
 generalize t.getD k tz=x at *
 generalize jU bx t k=L at *
 obtain ⟨op,a,b,n⟩:=x
 unfold dE at h1
 unfold fJ at h2
 dsimp only at *
 obtain ⟨e,hz⟩:=hd
 subst e
 have e5:uA 5=2:=rfl
 rw[e5] at h2
 have hu:n=zr:=uns_eq (by
  cases hh:unsB n with
  |true=>rfl
  |false=>exact absurd (Or.inr (Or.inr (Or.inr ⟨by decide,hh⟩))) h1)
 obtain ⟨m,hm⟩:=nat_of (a:=a) (by omega)
 subst hm
 obtain ⟨l,hl'⟩:=nat_of (a:=b) (by omega)
 subst hl'
 subst hu
 refine ⟨m,l,rfl,by omega,by omega,?_⟩
 unfold jA at hz
 rwa [Int.toNat_natCast] at hz
theorem nd_mono{z w:Int}(hw:z<=w){ss:List Int}{x:kC}(h:ndC z ss x=0):ndC w ss x=0:=by
 obtain ⟨h1,h2,h3,h4⟩:=nd_0 h
 exact nd_y h1 h2 (fun h=>h3 (by unfold rngN at *;omega)) (by omega)
theorem tm_mono{z w:Int}(hw:z<=w)(h6:w<=64){t:List kC}(h:gC z t=0):gC w t=0:=by
 obtain ⟨h1,h2,h3,h4,h5⟩:=tm_0 h
 exact (tm_yes (by omega) h3 (by omega) fun i hi=>nd_mono hw (h5 i hi)).1
theorem szU_mem{t:List kC}:∀ {n k:Nat},k<n->fR (nS t k) (t.getD k tz)∈nS t n
 |0,k,h=>by omega
 |n+1,k,h=>by
  rw[nS,List.mem_append]
  rcases Nat.lt_or_ge k n with h1 | h1
  ·exact .inl (szU_mem h1)
  ·obtain rfl:k=n:=by omega
   exact .inr (List.mem_singleton.2 rfl)
def StOk(n:Nat)(L:List JV)(x:kC):Prop:=aA n L x\/DzOk L x
theorem StOk.kd{n:Nat}{L:List JV}{x:kC}(h:StOk n L x):uA x.op=0\/uA x.op=1\/uA x.op=2:=by
 rcases h with h | ⟨a,b,rfl,_⟩
 ·cases h<;>first | exact .inl rfl | exact .inr (.inl rfl) | exact .inr (.inr rfl)
 ·exact .inr (.inr rfl)
theorem StOk.a{n:Nat}{L:List JV}{x:kC}(h:StOk n L x)(h1:1<=uA x.op):0<=x.a/\x.a.toNat<L.length:=by
 rcases h with h | ⟨a,b,rfl,ha,_⟩
 ·cases h with
  |c hp=>exact absurd h1 (by show ¬ (1:Int)<=uA 0;decide)
  |v ha=>exact absurd h1 (by show ¬ (1:Int)<=uA 1;decide)
  |add ha hb=>exact ⟨by show 0<=((_:Nat):Int);omega,by show (((_:Nat):Int)).toNat<_;rwa [Int.toNat_natCast]⟩
  |sub ha hb=>exact ⟨by show 0<=((_:Nat):Int);omega,by show (((_:Nat):Int)).toNat<_;rwa [Int.toNat_natCast]⟩
  |mul ha hb=>exact ⟨by show 0<=((_:Nat):Int);omega,by show (((_:Nat):Int)).toNat<_;rwa [Int.toNat_natCast]⟩
  |div ha hb hz=>exact ⟨by show 0<=((_:Nat):Int);omega,by show (((_:Nat):Int)).toNat<_;rwa [Int.toNat_natCast]⟩
  |neg ha=>exact ⟨by show 0<=((_:Nat):Int);omega,by show (((_:Nat):Int)).toNat<_;rwa [Int.toNat_natCast]⟩
  |sq ha=>exact ⟨by show 0<=((_:Nat):Int);omega,by show (((_:Nat):Int)).toNat<_;rwa [Int.toNat_natCast]⟩
 ·exact ⟨by show 0<=((_:Nat):Int);omega,by show (((_:Nat):Int)).toNat<_;rwa [Int.toNat_natCast]⟩
theorem StOk.b{n:Nat}{L:List JV}{x:kC}(h:StOk n L x)(h2:uA x.op=2):0<=x.b/\x.b.toNat<L.length:=by
 rcases h with h | ⟨a,b,rfl,_,hb,_⟩
 ·cases h with
  |c hp=>exact absurd h2 (by show ¬ uA 0=2;decide)
  |v ha=>exact absurd h2 (by show ¬ uA 1=2;decide)
  |add ha hb=>exact ⟨by show 0<=((_:Nat):Int);omega,by show (((_:Nat):Int)).toNat<_;rwa [Int.toNat_natCast]⟩
  |sub ha hb=>exact ⟨by show 0<=((_:Nat):Int);omega,by show (((_:Nat):Int)).toNat<_;rwa [Int.toNat_natCast]⟩
  |mul ha hb=>exact ⟨by show 0<=((_:Nat):Int);omega,by show (((_:Nat):Int)).toNat<_;rwa [Int.toNat_natCast]⟩
  |div ha hb hz=>exact ⟨by show 0<=((_:Nat):Int);omega,by show (((_:Nat):Int)).toNat<_;rwa [Int.toNat_natCast]⟩
  |neg ha=>exact absurd h2 (by show ¬ uA 6=2;decide)
  |sq ha=>exact absurd h2 (by show ¬ uA 7=2;decide)
 ·exact ⟨by show 0<=((_:Nat):Int);omega,by show (((_:Nat):Int)).toNat<_;rwa [Int.toNat_natCast]⟩
theorem aA.op{n:Nat}{L:List JV}{x:kC}(h:aA n L x):x.op=0\/x.op=1\/x.op=2\/x.op=3\/x.op=4\/x.op=5\/x.op=6\/x.op=7:=by
 cases h<;>simp
theorem aA.con{n:Nat}{L:List JV}{x:kC}(h:aA n L x)(e:x.op=0):x.n=jO (vQ x.n)/\QL (vQ x.n) 1048576:=by
 cases h with
 |c hp=>exact ⟨by rw[cL],by rw[cL];exact hp⟩
 |_=>simp at e
theorem aA.var{n:Nat}{L:List JV}{x:kC}(h:aA n L x)(e:x.op=1):0<=x.a/\x.a.toNat<n:=by
 cases h with
 |v ha=>exact ⟨by show 0<=((_:Nat):Int);omega,by show (((_:Nat):Int)).toNat<_;rwa [Int.toNat_natCast]⟩
 |_=>simp at e
theorem DzOk.kd{L:List JV}{x:kC}(h:DzOk L x):uA x.op=2:=by
 obtain ⟨a,b,rfl,_⟩:=h
 rfl
structure DEnd (bx:List R2) (t:List kC) (k0:Nat):Prop where
 c0:gC ((bx.length:Nat):Int) t=0
 le:k0<=t.length
 nd:∀ j,j<k0->aA bx.length (jU bx t j) (t.getD j tz)
 ok:∀ j,j<=k0->∀ y∈jU bx t j,nW 1048576 bx.length y
 nv:∀ j,j<k0->nW 1048576 bx.length (nJ bx (jU bx t j) (t.getD j tz))
 dz:k0<t.length->DzOk (jU bx t k0) (t.getD k0 tz)
theorem DEnd.st{bx:List R2}{t:List kC}{k0 k:Nat}(h:DEnd bx t k0)(hk:k<=k0)(hl:k<t.length):StOk bx.length (jU bx t k) (t.getD k tz):=by
 rcases Nat.lt_or_ge k k0 with h1 | h1
 ·exact .inl (h.nd k h1)
 ·obtain rfl:k=k0:=by omega
  exact .inr (h.dz hl)
theorem DEnd.last{bx:List R2}{t:List kC}(h:DEnd bx t t.length):nW 1048576 bx.length (cC bx t):=by
 have h0:=tm_0 h.c0
 have hl:=fN bx t t.length
 refine h.ok t.length (Nat.le_refl _) _ ?_
 unfold cC
 exact aG (by omega)
end Go.Fid
namespace Go.Proofs.YtckccjhflbljgaaGreatDoor
open Go.Fid
end Go.Proofs.YtckccjhflbljgaaGreatDoor
