/- Part 33 of a proof: rules, plain facts, and functions walked. -/
import Derived.Test.YtckccjhflbljgaaGreatDoorM30
import Derived.Test.YtckccjhflbljgaaGreatDoorM32
import Derived.Test.YtckccjhflbljgaaGreatDoorM20
import Derived.Test.YtckccjhflbljgaaGreatDoorM19
set_option linter.all false
set_option maxRecDepth 4000
namespace Go.Proofs.YtckccjhflbljgaaGreatDoor
open Go.Fid
theorem cG{α:Type}{o V:List α}{k:Nat}{v:α}(h:o.take k=V)(hk:k<o.length):(o.set k v).take (k+1)=V++[v]:=by
 rw[List.take_succ_eq_append_getElem (by rw[List.length_set];omega),List.getElem_set_self,List.take_set_of_le (Nat.le_refl k),h]
theorem p_valU(t:List kC)(ht:nE 1048576 t)(xs:List Rat)(hx:∀ q∈xs,QL q 1048576)(k0:Nat)(hf:VEnd xs t k0)(hxb:xs.length<=1000000):jS Tryz.prog 11 [(.sl 72 7 (List.map jO t)),(.sl 32 4 (List.map jK (List.map jN xs)))] (.tup [(jK (vlR xs t k0)),(.val (.int .i64 ((vlC t k0))))]):=by
 have hxn:((List.map jN xs).length)=xs.length:=List.length_map _
 have h0:=fY hf.c0
 have hk9:=hf.hk
 let y2:=kO
 let y1:=(bx (jK y2))
 refine uW Tryz.func11 ?_
 refine jB<|kx [(4,(.ref 0 0))] [(0,some y1)] (zN (uJ 0 uV vL)<|zM<|zZ) ?_
 refine jB<|jB<|kx [(13,(vl 32 4 jK (List.map jN xs))),(14,(jT xs.length)),(15,(jT 0))] [] (zM<|zE (oLn xG xs.length)<|zM<|zZ) ?_
 refine jH<|kQ (α:=Nat) (fun i=>⟨[(0,(vl 72 7 jO t)),(1,(vl 32 4 jK (List.map jN xs))),(4,(.ref 0 0)),(13,(vl 32 4 jK (List.map jN xs))),(14,(jT xs.length)),(15,(jT i))],[(0,some y1)]⟩) (fun i=>i<=xs.length) (fun i=>xs.length-i) 0 wk (Nat.zero_le _) ?_
 rintro i hi
 refine jB<|kx [(16,(vb (decide (((i:Nat):Int)<((xs.length:Nat):Int)))))] [] (zE yY<|zZ) ?_
 refine jB<|jF rfl (fun h1=>?_) (fun h1=>?_)
 ·replace h1:=vT h1
  refine jE<|jB<|jH<|jB<|kx [(7,(.ref 1 0))] [(1,some (bx (jK (jN (xs.getD i 0)))))] (zE (oXm xG jN i 0 (hj:=by first | omega | (dsimp only;omega)) (h1:=by first | omega | (dsimp only;omega)))<|zE (mT jW)<|zN (uJ 1 uV vL)<|zT (qM jW)<|zZ) ?_
  refine jB<|kx [(21,(vb (!(kX (jN (xs.getD i 0))))))] [] (zR (kR jW)<|zE (kB (f_valid (jN (xs.getD i 0)) (xs.getD i 0) (jP (jY (uF hx (by decide) i)))))<|zE cC<|zZ) ?_
  refine jF (b:=!(kX (jN (xs.getD i 0)))) rfl (fun h2=>?_) (fun h2=>?_)
  ·exact absurd h2 (by rw[fT];decide)
  ·refine jE<|kx [(15,(jT (i+1)))] [] (zE (xD (i+1))<|zM<|zZ) ?_
   exact ⟨(i+1),wk,(by omega),(by first|omega|(dsimp only;omega))⟩
 ·replace h1:=xC h1
  refine kL<|jB<|jB<|kx [(8,(jT (nB ((xs.length:Nat):Int) t)))] [] (zM<|zM<|zE (oLn xG xs.length)<|zE (kB (j_chk t ht ((xs.length:Nat):Int)))<|zM<|zZ) ?_
  refine jB<|kx [(29,(vb false))] [] (zM<|zE (gU false bD (by exact bne_eq_false_iff_eq.2 (by rw[show (nB ((xs.length:Nat):Int) t)=0 from hf.c0]<;>rfl)))<|zZ) ?_
  refine qH ?_
  refine jE<|jB<|kx [(9,(.own 2 32 4 t.length))] [(2,some (qS jK (List.replicate t.length y2)))] (zM<|zE (yH yF)<|zN (oMkS 2 jK y2 t.length t.length xG uV vL by32 (hlN:=by first | omega | (dsimp only;omega)) (hcM:=by first | omega | (dsimp only;omega)) (hnm:=by first | omega | (dsimp only;omega)) (hb:=by first | omega | (dsimp only;omega)))<|zM<|zZ) ?_
  refine jB<|jB<|kx [(35,(vl 72 7 jO t)),(36,(jT t.length)),(37,(jT 0))] [] (zM<|zE (yH yF)<|zM<|zZ) ?_
  refine jH<|kQ (α:=Nat × List qE) (fun (k,o)=>⟨[(1,(vl 32 4 jK (List.map jN xs))),(4,(.ref 0 0)),(9,(.own 2 32 4 t.length)),(35,(vl 72 7 jO t)),(36,(jT t.length)),(37,(jT k))],[(0,some y1),(2,some (qS jK o))]⟩) (fun (k,o)=>k<=k0/\o.length=t.length/\o.take k=List.map jN (vU xs t k)) (fun (k,o)=>t.length-k) (0,List.replicate t.length y2) wk ⟨Nat.zero_le _,List.length_replicate,rfl⟩ ?_
  rintro ⟨k,o⟩ ⟨hk,hol,ho⟩
  have hget:∀ j,j<k->o.getD j kO=jN ((vU xs t k).getD j 0):=fun j hj=>by rw[<- take_getDr o _ hj,ho];exact eF jN _ 0 _ (by rw[vU_len];exact hj)
  have hVq:=(hf.up.le hk).all
  refine jB<|kx [(38,(vb (decide (((k:Nat):Int)<((t.length:Nat):Int)))))] [] (zE yY<|zZ) ?_
  refine jB<|jF rfl (fun h3=>?_) (fun h3=>?_)
  ·replace h3:=vT h3
   have hN:=nd_at hf.c0 (show k<t.length by omega)
   refine jE<|jB<|jH<|jB<|kx [(10,(jT k)),(11,(.ref 3 0))] [(3,some (bx (jO (t.getD k tz))))] (zM<|zE (dA yF k (tz:kC) (hj:=by first | omega | (dsimp only;omega)) (h1:=by first | omega | (dsimp only;omega)))<|zE (mT eK)<|zH (uJ 3 eH aA)<|zM<|zT (qM eK)<|zZ) ?_
   refine jB<|kx [(43,(vi ((t.getD k tz).op)))] [] (zE (kN yA)<|zR (qJ eI)<|zZ) ?_
   refine jH<|jB<|kx [(64,(vb ((t.getD k tz).op == ((0:Nat):Int))))] [] (zE yP<|zM<|zZ) ?_
   refine jF (b:=((t.getD k tz).op == ((0:Nat):Int))) rfl (fun h4=>?_) (fun h4=>?_)
   ·replace h4:=eq_of_beq h4
    have hop:=h4
    have hlt:=hf.lt hk (show k<t.length by omega) (by rw[hop];decide)
    refine kx [] [(2,some (qS jK (o.set k ((t.getD k tz).n))))] (zM<|zM<|zE (kN mD)<|zR (kR jW)<|zE (oXO xG k (hj:=by first | omega | (dsimp only;omega)) (h1:=by first | omega | (dsimp only;omega)))<|zT (oSA jW k ((t.getD k tz).n))<|zZ) ?_
    refine kx [(37,(jT (k+1)))] [] (zE (xD (k+1))<|zM<|zZ) ?_
    exact ⟨(k+1,o.set k (t.getD k tz).n),wk,⟨by omega,by rw[List.length_set];exact hol,by rw[cG ho (by omega)];exact vU_nc (vV_0 hop) (hN.con hop)⟩,(by first|omega|(dsimp only;omega))⟩
   ·replace h4:=ne_of_beq_false h4
    refine jB<|kx [(71,(vb ((t.getD k tz).op == ((1:Nat):Int))))] [] (zE yP<|zM<|zZ) ?_
    refine jF (b:=((t.getD k tz).op == ((1:Nat):Int))) rfl (fun h5=>?_) (fun h5=>?_)
    ·replace h5:=eq_of_beq h5
     have hop:=h5
     obtain ⟨a1,a2⟩:=hN.var h5
     have hlt:=hf.lt hk (show k<t.length by omega) (by rw[hop];decide)
     refine kx [] [(2,some (qS jK (o.set k (jN (xs.getD (((t.getD k tz).a).toNat) 0)))))] (zM<|zM<|zM<|zE (kN qU)<|zR (qJ uT)<|zE (oXm xG jN (((t.getD k tz).a).toNat) 0 (hj:=by first | omega | (dsimp only;omega)) (h1:=by first | omega | (dsimp only;omega)))<|zE (mT jW)<|zE (oXO xG k (hj:=by first | omega | (dsimp only;omega)) (h1:=by first | omega | (dsimp only;omega)))<|zT (oSA jW k (jN (xs.getD (((t.getD k tz).a).toNat) 0)))<|zZ) ?_
     refine kx [(37,(jT (k+1)))] [] (zE (xD (k+1))<|zM<|zZ) ?_
     exact ⟨(k+1,o.set k (jN (xs.getD ((t.getD k tz).a.toNat) 0))),wk,⟨by omega,by rw[List.length_set];exact hol,by rw[cG ho (by omega)];exact vU_nx (vV_1 hop)⟩,(by first|omega|(dsimp only;omega))⟩
    ·replace h5:=ne_of_beq_false h5
     refine jB<|kx [(81,(vb ((t.getD k tz).op == ((6:Nat):Int))))] [] (zE yP<|zM<|zZ) ?_
     refine jF (b:=((t.getD k tz).op == ((6:Nat):Int))) rfl (fun h6=>?_) (fun h6=>?_)
     ·replace h6:=eq_of_beq h6
      have hop:=h6
      obtain ⟨a1,a2⟩:=hN.un (.inl h6)
      have hlt:=hf.lt hk (show k<t.length by omega) (by rw[hop];decide)
      refine kx [] [(2,some (qS jK (o.set k (jN (-((vU xs t k).getD ((t.getD k tz).a.toNat) 0))))))] (zM<|zM<|zM<|zE (kN qU)<|zR (qJ uT)<|zE (oXO xG (((t.getD k tz).a).toNat) (hj:=by first | omega | (dsimp only;omega)) (h1:=by first | omega | (dsimp only;omega)))<|zR (dF (jK (o.getD (((t.getD k tz).a).toNat) y2)) (jK (jN ((vU xs t k).getD ((t.getD k tz).a.toNat) 0))) (oLA jW (((t.getD k tz).a).toNat) y2 (h1:=by first | omega | (dsimp only;omega))) (by exact (congrArg jK (hget _ (show (t.getD k tz).a.toNat<k by omega)))))<|zE (kB (f_neg (jN ((vU xs t k).getD ((t.getD k tz).a.toNat) 0)) ((vU xs t k).getD ((t.getD k tz).a.toNat) 0) (jP (jY (qlg hVq (by decide) ((t.getD k tz).a.toNat))))))<|zE (oXO xG k (hj:=by first | omega | (dsimp only;omega)) (h1:=by first | omega | (dsimp only;omega)))<|zT (oSA jW k (jN (-((vU xs t k).getD ((t.getD k tz).a.toNat) 0))))<|zZ) ?_
      refine kx [(37,(jT (k+1)))] [] (zE (xD (k+1))<|zM<|zZ) ?_
      exact ⟨(k+1,o.set k (jN (-((vU xs t k).getD ((t.getD k tz).a.toNat) 0)))),wk,⟨by omega,by rw[List.length_set];exact hol,by rw[cG ho (by omega)];exact vU_nx (vV_6 hop)⟩,(by first|omega|(dsimp only;omega))⟩
     ·replace h6:=ne_of_beq_false h6
      refine jB<|kx [(92,(vb ((t.getD k tz).op == ((7:Nat):Int))))] [] (zE yP<|zM<|zZ) ?_
      refine jF (b:=((t.getD k tz).op == ((7:Nat):Int))) rfl (fun h7=>?_) (fun h7=>?_)
      ·replace h7:=eq_of_beq h7
       have hop:=h7
       obtain ⟨a1,a2⟩:=hN.un (.inr h7)
       have hlt:=hf.lt hk (show k<t.length by omega) (by rw[hop];decide)
       refine kd [] [(2,some (qS jK (o.set k (jN (((vU xs t k).getD ((t.getD k tz).a.toNat) 0)*((vU xs t k).getD ((t.getD k tz).a.toNat) 0))))))] mo (wM<|wM<|wM<|wE (kN qU)<|wR (qJ uT)<|wE (oXO xG (((t.getD k tz).a).toNat) (hj:=by first | omega | (dsimp only;omega)) (h1:=by first | omega | (dsimp only;omega)))<|wR (dF (jK (o.getD (((t.getD k tz).a).toNat) y2)) (jK (jN ((vU xs t k).getD ((t.getD k tz).a.toNat) 0))) (oLA jW (((t.getD k tz).a).toNat) y2 (h1:=by first | omega | (dsimp only;omega))) (by exact (congrArg jK (hget _ (show (t.getD k tz).a.toNat<k by omega)))))<|wM<|wE (kN qU)<|wR (qJ uT)<|wE (oXO xG (((t.getD k tz).a).toNat) (hj:=by first | omega | (dsimp only;omega)) (h1:=by first | omega | (dsimp only;omega)))<|wR (dF (jK (o.getD (((t.getD k tz).a).toNat) y2)) (jK (jN ((vU xs t k).getD ((t.getD k tz).a.toNat) 0))) (oLA jW (((t.getD k tz).a).toNat) y2 (h1:=by first | omega | (dsimp only;omega))) (by exact (congrArg jK (hget _ (show (t.getD k tz).a.toNat<k by omega)))))<|wE (kB (f_mul (jN ((vU xs t k).getD ((t.getD k tz).a.toNat) 0)) (jN ((vU xs t k).getD ((t.getD k tz).a.toNat) 0)) ((vU xs t k).getD ((t.getD k tz).a.toNat) 0) ((vU xs t k).getD ((t.getD k tz).a.toNat) 0) (jP (jY (qlg hVq (by decide) ((t.getD k tz).a.toNat)))) (jP (jY (qlg hVq (by decide) ((t.getD k tz).a.toNat))))))<|wE (oXO xG k (hj:=by first | omega | (dsimp only;omega)) (h1:=by first | omega | (dsimp only;omega)))<|wT (oSA jW k (jN (((vU xs t k).getD ((t.getD k tz).a.toNat) 0)*((vU xs t k).getD ((t.getD k tz).a.toNat) 0))))<|wZ) ?_
       refine kx [(37,(jT (k+1)))] [] (zE (xD (k+1))<|zM<|zZ) ?_
       exact ⟨(k+1,o.set k (jN (((vU xs t k).getD ((t.getD k tz).a.toNat) 0)*((vU xs t k).getD ((t.getD k tz).a.toNat) 0)))),wk,⟨by omega,by rw[List.length_set];exact hol,by rw[cG ho (by omega)];exact vU_nx (vV_7 hop)⟩,(by first|omega|(dsimp only;omega))⟩
      ·replace h7:=ne_of_beq_false h7
       refine jB<|kx [(108,(vb ((t.getD k tz).op == ((2:Nat):Int))))] [] (zE yP<|zM<|zZ) ?_
       refine jF (b:=((t.getD k tz).op == ((2:Nat):Int))) rfl (fun h8=>?_) (fun h8=>?_)
       ·replace h8:=eq_of_beq h8
        have hop:=h8
        obtain ⟨⟨a1,a2⟩,b1,b2⟩:=hN.bin (.inl h8)
        have hlt:=hf.lt hk (show k<t.length by omega) (by rw[hop];decide)
        refine kd [] [(2,some (qS jK (o.set k (jN (((vU xs t k).getD ((t.getD k tz).a.toNat) 0)+((vU xs t k).getD ((t.getD k tz).b.toNat) 0))))))] mo (wM<|wM<|wM<|wE (kN qU)<|wR (qJ uT)<|wE (oXO xG (((t.getD k tz).a).toNat) (hj:=by first | omega | (dsimp only;omega)) (h1:=by first | omega | (dsimp only;omega)))<|wR (dF (jK (o.getD (((t.getD k tz).a).toNat) y2)) (jK (jN ((vU xs t k).getD ((t.getD k tz).a.toNat) 0))) (oLA jW (((t.getD k tz).a).toNat) y2 (h1:=by first | omega | (dsimp only;omega))) (by exact (congrArg jK (hget _ (show (t.getD k tz).a.toNat<k by omega)))))<|wM<|wE (kN vM)<|wR (qJ uT)<|wE (oXO xG (((t.getD k tz).b).toNat) (hj:=by first | omega | (dsimp only;omega)) (h1:=by first | omega | (dsimp only;omega)))<|wR (dF (jK (o.getD (((t.getD k tz).b).toNat) y2)) (jK (jN ((vU xs t k).getD ((t.getD k tz).b.toNat) 0))) (oLA jW (((t.getD k tz).b).toNat) y2 (h1:=by first | omega | (dsimp only;omega))) (by exact (congrArg jK (hget _ (show (t.getD k tz).b.toNat<k by omega)))))<|wE (kB (f_add (jN ((vU xs t k).getD ((t.getD k tz).a.toNat) 0)) (jN ((vU xs t k).getD ((t.getD k tz).b.toNat) 0)) ((vU xs t k).getD ((t.getD k tz).a.toNat) 0) ((vU xs t k).getD ((t.getD k tz).b.toNat) 0) (jP (jY (qlg hVq (by decide) ((t.getD k tz).a.toNat)))) (jP (jY (qlg hVq (by decide) ((t.getD k tz).b.toNat))))))<|wE (oXO xG k (hj:=by first | omega | (dsimp only;omega)) (h1:=by first | omega | (dsimp only;omega)))<|wT (oSA jW k (jN (((vU xs t k).getD ((t.getD k tz).a.toNat) 0)+((vU xs t k).getD ((t.getD k tz).b.toNat) 0))))<|wZ) ?_
        refine kx [(37,(jT (k+1)))] [] (zE (xD (k+1))<|zM<|zZ) ?_
        exact ⟨(k+1,o.set k (jN (((vU xs t k).getD ((t.getD k tz).a.toNat) 0)+((vU xs t k).getD ((t.getD k tz).b.toNat) 0)))),wk,⟨by omega,by rw[List.length_set];exact hol,by rw[cG ho (by omega)];exact vU_nx (vV_2 hop)⟩,(by first|omega|(dsimp only;omega))⟩
       ·replace h8:=ne_of_beq_false h8
        refine jB<|kx [(124,(vb ((t.getD k tz).op == ((3:Nat):Int))))] [] (zE yP<|zM<|zZ) ?_
        refine jF (b:=((t.getD k tz).op == ((3:Nat):Int))) rfl (fun h9=>?_) (fun h9=>?_)
        ·replace h9:=eq_of_beq h9
         have hop:=h9
         obtain ⟨⟨a1,a2⟩,b1,b2⟩:=hN.bin (.inr (.inl h9))
         have hlt:=hf.lt hk (show k<t.length by omega) (by rw[hop];decide)
         refine kd [] [(2,some (qS jK (o.set k (jN (((vU xs t k).getD ((t.getD k tz).a.toNat) 0)-((vU xs t k).getD ((t.getD k tz).b.toNat) 0))))))] mo (wM<|wM<|wM<|wE (kN qU)<|wR (qJ uT)<|wE (oXO xG (((t.getD k tz).a).toNat) (hj:=by first | omega | (dsimp only;omega)) (h1:=by first | omega | (dsimp only;omega)))<|wR (dF (jK (o.getD (((t.getD k tz).a).toNat) y2)) (jK (jN ((vU xs t k).getD ((t.getD k tz).a.toNat) 0))) (oLA jW (((t.getD k tz).a).toNat) y2 (h1:=by first | omega | (dsimp only;omega))) (by exact (congrArg jK (hget _ (show (t.getD k tz).a.toNat<k by omega)))))<|wM<|wE (kN vM)<|wR (qJ uT)<|wE (oXO xG (((t.getD k tz).b).toNat) (hj:=by first | omega | (dsimp only;omega)) (h1:=by first | omega | (dsimp only;omega)))<|wR (dF (jK (o.getD (((t.getD k tz).b).toNat) y2)) (jK (jN ((vU xs t k).getD ((t.getD k tz).b.toNat) 0))) (oLA jW (((t.getD k tz).b).toNat) y2 (h1:=by first | omega | (dsimp only;omega))) (by exact (congrArg jK (hget _ (show (t.getD k tz).b.toNat<k by omega)))))<|wE (kB (f_sub (jN ((vU xs t k).getD ((t.getD k tz).a.toNat) 0)) (jN ((vU xs t k).getD ((t.getD k tz).b.toNat) 0)) ((vU xs t k).getD ((t.getD k tz).a.toNat) 0) ((vU xs t k).getD ((t.getD k tz).b.toNat) 0) (jP (jY (qlg hVq (by decide) ((t.getD k tz).a.toNat)))) (jP (jY (qlg hVq (by decide) ((t.getD k tz).b.toNat))))))<|wE (oXO xG k (hj:=by first | omega | (dsimp only;omega)) (h1:=by first | omega | (dsimp only;omega)))<|wT (oSA jW k (jN (((vU xs t k).getD ((t.getD k tz).a.toNat) 0)-((vU xs t k).getD ((t.getD k tz).b.toNat) 0))))<|wZ) ?_
         refine kx [(37,(jT (k+1)))] [] (zE (xD (k+1))<|zM<|zZ) ?_
         exact ⟨(k+1,o.set k (jN (((vU xs t k).getD ((t.getD k tz).a.toNat) 0)-((vU xs t k).getD ((t.getD k tz).b.toNat) 0)))),wk,⟨by omega,by rw[List.length_set];exact hol,by rw[cG ho (by omega)];exact vU_nx (vV_3 hop)⟩,(by first|omega|(dsimp only;omega))⟩
        ·replace h9:=ne_of_beq_false h9
         refine jB<|kx [(140,(vb ((t.getD k tz).op == ((4:Nat):Int))))] [] (zE yP<|zM<|zZ) ?_
         refine jF (b:=((t.getD k tz).op == ((4:Nat):Int))) rfl (fun h10=>?_) (fun h10=>?_)
         ·replace h10:=eq_of_beq h10
          have hop:=h10
          obtain ⟨⟨a1,a2⟩,b1,b2⟩:=hN.bin (.inr (.inr (.inl h10)))
          have hlt:=hf.lt hk (show k<t.length by omega) (by rw[hop];decide)
          refine kd [] [(2,some (qS jK (o.set k (jN (((vU xs t k).getD ((t.getD k tz).a.toNat) 0)*((vU xs t k).getD ((t.getD k tz).b.toNat) 0))))))] mo (wM<|wM<|wM<|wE (kN qU)<|wR (qJ uT)<|wE (oXO xG (((t.getD k tz).a).toNat) (hj:=by first | omega | (dsimp only;omega)) (h1:=by first | omega | (dsimp only;omega)))<|wR (dF (jK (o.getD (((t.getD k tz).a).toNat) y2)) (jK (jN ((vU xs t k).getD ((t.getD k tz).a.toNat) 0))) (oLA jW (((t.getD k tz).a).toNat) y2 (h1:=by first | omega | (dsimp only;omega))) (by exact (congrArg jK (hget _ (show (t.getD k tz).a.toNat<k by omega)))))<|wM<|wE (kN vM)<|wR (qJ uT)<|wE (oXO xG (((t.getD k tz).b).toNat) (hj:=by first | omega | (dsimp only;omega)) (h1:=by first | omega | (dsimp only;omega)))<|wR (dF (jK (o.getD (((t.getD k tz).b).toNat) y2)) (jK (jN ((vU xs t k).getD ((t.getD k tz).b.toNat) 0))) (oLA jW (((t.getD k tz).b).toNat) y2 (h1:=by first | omega | (dsimp only;omega))) (by exact (congrArg jK (hget _ (show (t.getD k tz).b.toNat<k by omega)))))<|wE (kB (f_mul (jN ((vU xs t k).getD ((t.getD k tz).a.toNat) 0)) (jN ((vU xs t k).getD ((t.getD k tz).b.toNat) 0)) ((vU xs t k).getD ((t.getD k tz).a.toNat) 0) ((vU xs t k).getD ((t.getD k tz).b.toNat) 0) (jP (jY (qlg hVq (by decide) ((t.getD k tz).a.toNat)))) (jP (jY (qlg hVq (by decide) ((t.getD k tz).b.toNat))))))<|wE (oXO xG k (hj:=by first | omega | (dsimp only;omega)) (h1:=by first | omega | (dsimp only;omega)))<|wT (oSA jW k (jN (((vU xs t k).getD ((t.getD k tz).a.toNat) 0)*((vU xs t k).getD ((t.getD k tz).b.toNat) 0))))<|wZ) ?_
          refine kx [(37,(jT (k+1)))] [] (zE (xD (k+1))<|zM<|zZ) ?_
          exact ⟨(k+1,o.set k (jN (((vU xs t k).getD ((t.getD k tz).a.toNat) 0)*((vU xs t k).getD ((t.getD k tz).b.toNat) 0)))),wk,⟨by omega,by rw[List.length_set];exact hol,by rw[cG ho (by omega)];exact vU_nx (vV_4 hop)⟩,(by first|omega|(dsimp only;omega))⟩
         ·replace h10:=ne_of_beq_false h10
          have hop:(t.getD k tz).op=5:=by have h9:=hN.op;omega
          obtain ⟨⟨a1,a2⟩,b1,b2⟩:=hN.bin (.inr (.inr (.inr hop)))
          refine jB<|kx [] [] (zM<|zZ) ?_
          refine jB ?_
          rcases hlt0:(decide (k<k0)) with _ | _
          ·refine kd [(12,(vi (divC ((vU xs t k).getD ((t.getD k tz).b.toNat) 0))))] [(2,some (qS jK (o.set k (divR ((vU xs t k).getD ((t.getD k tz).a.toNat) 0) ((vU xs t k).getD ((t.getD k tz).b.toNat) 0)))))] mo (wM<|wM<|wM<|wE (kN qU)<|wR (qJ uT)<|wE (oXO xG (((t.getD k tz).a).toNat) (hj:=by first | omega | (dsimp only;omega)) (h1:=by first | omega | (dsimp only;omega)))<|wR (dF (jK (o.getD (((t.getD k tz).a).toNat) y2)) (jK (jN ((vU xs t k).getD ((t.getD k tz).a.toNat) 0))) (oLA jW (((t.getD k tz).a).toNat) y2 (h1:=by first | omega | (dsimp only;omega))) (by exact (congrArg jK (hget _ (show (t.getD k tz).a.toNat<k by omega)))))<|wM<|wE (kN vM)<|wR (qJ uT)<|wE (oXO xG (((t.getD k tz).b).toNat) (hj:=by first | omega | (dsimp only;omega)) (h1:=by first | omega | (dsimp only;omega)))<|wR (dF (jK (o.getD (((t.getD k tz).b).toNat) y2)) (jK (jN ((vU xs t k).getD ((t.getD k tz).b.toNat) 0))) (oLA jW (((t.getD k tz).b).toNat) y2 (h1:=by first | omega | (dsimp only;omega))) (by exact (congrArg jK (hget _ (show (t.getD k tz).b.toNat<k by omega)))))<|wE (kB (f_divide (jN ((vU xs t k).getD ((t.getD k tz).a.toNat) 0)) (jN ((vU xs t k).getD ((t.getD k tz).b.toNat) 0)) ((vU xs t k).getD ((t.getD k tz).a.toNat) 0) ((vU xs t k).getD ((t.getD k tz).b.toNat) 0) (jP (jY (qlg hVq (by decide) ((t.getD k tz).a.toNat)))) (jP (jY (qlg hVq (by decide) ((t.getD k tz).b.toNat))))))<|wM<|wE zJ<|wE zJ<|wE (oXO xG k (hj:=by first | omega | (dsimp only;omega)) (h1:=by first | omega | (dsimp only;omega)))<|wT (oSA jW k (divR ((vU xs t k).getD ((t.getD k tz).a.toNat) 0) ((vU xs t k).getD ((t.getD k tz).b.toNat) 0)))<|wM<|wZ) ?_
           refine jB<|kx [(62,(vb true))] [] (zM<|zE (gU true bD (by exact bne_iff_ne.2 (by rw[divC_zero (hf.at hk (show k<t.length by omega) hlt0)];decide)))<|zZ) ?_
           refine xQ ?_
           refine jB<|kx [(5,(jT 14))] [(0,some y1)] (zE (bH pl32 uV vL)<|zT (qM jW)<|zM<|zZ) ?_
           refine jD ⟨_,(kS (cs:=y1) (d:=(jK y2)) rfl rfl jW rfl rfl (.tmp (d:=(.val (.int .i64 (((14:Nat):Int))))) rfl .nil)),?_⟩
           obtain ⟨e1,e2⟩:=hf.no hk (show k<t.length by omega) hlt0 (xs:=xs)
           rw[e1,e2];rfl
          ·refine kd [(12,(vi 0))] [(2,some (qS jK (o.set k (jN (((vU xs t k).getD ((t.getD k tz).a.toNat) 0) / ((vU xs t k).getD ((t.getD k tz).b.toNat) 0))))))] mo (wM<|wM<|wM<|wE (kN qU)<|wR (qJ uT)<|wE (oXO xG (((t.getD k tz).a).toNat) (hj:=by first | omega | (dsimp only;omega)) (h1:=by first | omega | (dsimp only;omega)))<|wR (dF (jK (o.getD (((t.getD k tz).a).toNat) y2)) (jK (jN ((vU xs t k).getD ((t.getD k tz).a.toNat) 0))) (oLA jW (((t.getD k tz).a).toNat) y2 (h1:=by first | omega | (dsimp only;omega))) (by exact (congrArg jK (hget _ (show (t.getD k tz).a.toNat<k by omega)))))<|wM<|wE (kN vM)<|wR (qJ uT)<|wE (oXO xG (((t.getD k tz).b).toNat) (hj:=by first | omega | (dsimp only;omega)) (h1:=by first | omega | (dsimp only;omega)))<|wR (dF (jK (o.getD (((t.getD k tz).b).toNat) y2)) (jK (jN ((vU xs t k).getD ((t.getD k tz).b.toNat) 0))) (oLA jW (((t.getD k tz).b).toNat) y2 (h1:=by first | omega | (dsimp only;omega))) (by exact (congrArg jK (hget _ (show (t.getD k tz).b.toNat<k by omega)))))<|wE (kB (by have h:=f_divide (jN ((vU xs t k).getD ((t.getD k tz).a.toNat) 0)) (jN ((vU xs t k).getD ((t.getD k tz).b.toNat) 0)) ((vU xs t k).getD ((t.getD k tz).a.toNat) 0) ((vU xs t k).getD ((t.getD k tz).b.toNat) 0) (jP (jY (qlg hVq (by decide) ((t.getD k tz).a.toNat)))) (jP (jY (qlg hVq (by decide) ((t.getD k tz).b.toNat))));rw[divR_ne (hf.up.dz k (vT hlt0) hop),divC_ne (hf.up.dz k (vT hlt0) hop)] at h;exact h))<|wM<|wE zJ<|wE zJ<|wE (oXO xG k (hj:=by first | omega | (dsimp only;omega)) (h1:=by first | omega | (dsimp only;omega)))<|wT (oSA jW k (jN (((vU xs t k).getD ((t.getD k tz).a.toNat) 0) / ((vU xs t k).getD ((t.getD k tz).b.toNat) 0))))<|wM<|wZ) ?_
           refine jB<|kx [(62,(vb false))] [] (zM<|zE (gU false bD)<|zZ) ?_
           refine qH ?_
           refine jE<|kx [(37,(jT (k+1)))] [] (zE (xD (k+1))<|zM<|zZ) ?_
           exact ⟨(k+1,o.set k (jN (((vU xs t k).getD ((t.getD k tz).a.toNat) 0) / ((vU xs t k).getD ((t.getD k tz).b.toNat) 0)))),wk,⟨by have:=vT hlt0;omega,by rw[List.length_set];exact hol,by rw[cG ho (by omega)];exact vU_nx (vV_5 hop)⟩,(by first|omega|(dsimp only;omega))⟩
  ·replace h3:=xC h3
   refine kL<|jB<|kx [(5,(jT 0))] [(0,some (bx (jK (o.getD (t.length-1) y2))))] (zM<|zM<|zE (oLo xG)<|zE (oSb (t.length-1))<|zE (oXO xG (t.length-1) (hj:=by first | omega | (dsimp only;omega)) (h1:=by first | omega | (dsimp only;omega)))<|zR (oLA jW (t.length-1) y2 (h1:=by first | omega | (dsimp only;omega)))<|zT (qM jW)<|zM<|zZ) ?_
   refine jD ⟨_,(kS (cs:=(bx (jK (o.getD (t.length-1) y2)))) (d:=(jK (o.getD (t.length-1) y2))) rfl rfl jW rfl rfl (.tmp (d:=(.val (.int .i64 (((0:Nat):Int))))) rfl .nil)),?_⟩
   obtain rfl:k=t.length:=by omega
   obtain rfl:k0=t.length:=by omega
   rw[hget _ (show t.length-1<t.length by omega),vlR_y,vlC_y];rfl
theorem p_val(t:List kC)(ht:nE 1048576 t)(xs:List Rat)(hx:∀ q∈xs,QL q 1048576)(hr:VRun xs t)(hxb:xs.length<=1000000):jS Tryz.prog 11 [(.sl 72 7 (List.map jO t)),(.sl 32 4 (List.map jK (List.map jN xs)))] (.tup [(jK (jN (yZ xs t))),(.val (.int .i64 (((0:Nat):Int))))]):=by
 have h:=p_valU t ht xs hx t.length hr.fin hxb
 rw[vlR_y,vlC_y] at h
 exact h
end Go.Proofs.YtckccjhflbljgaaGreatDoor
namespace Go.Fid
theorem gs0(a:R2):qZ (gw 0) a=gneg a:=by
 unfold qZ gw gneg
 rw[show ((0:Int):Rat)=0 from rfl,Rat.sub_eq_add_neg,Rat.sub_eq_add_neg,Rat.zero_add,Rat.zero_add]
def bV(s:Nat):Nat:=25*s-1
def bG(s:Nat):Nat:=51*(s*s)
def cM(v:R2)(g:Nat->R2)(s:Nat):Prop:=GL (bV s) v/\∀ i,GL (bG s) (g i)
def BdOk(ss:List Int)(L:List JV):Prop:=∀ j,j<L.length->∃ s:Nat,ss.getD j 0=(s:Int)/\1<=s/\cM (L.getD j jz).v (fun i=>(L.getD j jz).g.getD i z2) s
theorem gl_0:GL 3 (gw 0):=gl_w (z:=0) (by omega) (by omega)
theorem gl_1:GL 3 (gw 1):=gl_w (z:=1) (by omega) (by omega)
theorem gl_2:GL 3 (gw 2):=gl_w (z:=2) (by omega) (by omega)
theorem sq_sum(s r:Nat):(s+r)*(s+r)=s*s+r*r+2*(s*r):=by
 rw[Nat.add_mul,Nat.mul_add,Nat.mul_add,Nat.mul_comm r s];omega
theorem sr_le{s r:Nat}(hs:1<=s)(hr:1<=r):s+r<=2*(s*r):=by
 have h1:s*1<=s*r:=Nat.mul_le_mul (Nat.le_refl _) hr
 have h2:1*r<=s*r:=Nat.mul_le_mul hs (Nat.le_refl _)
 omega
theorem cM.pt{v:R2}{g:Nat->R2}(hv:GL 24 v)(hg:∀ i,GL 3 (g i)):cM v g 1:=⟨hv,fun i=>qQ (hg i) (by decide)⟩
theorem cM.add{v w:R2}{g h:Nat->R2}{s r:Nat}(hs:1<=s)(hr:1<=r)(a:cM v g s)(b:cM w h r):cM (yI v w) (fun i=>yI (g i) (h i)) (s+r):=by
 have e:=sq_sum s r
 have e2:=sr_le hs hr
 exact ⟨gl_add a.1 b.1 (by unfold bV;omega),fun i=>gl_add (a.2 i) (b.2 i) (by unfold bG;omega)⟩
theorem cM.sub{v w:R2}{g h:Nat->R2}{s r:Nat}(hs:1<=s)(hr:1<=r)(a:cM v g s)(b:cM w h r):cM (qZ v w) (fun i=>qZ (g i) (h i)) (s+r):=by
 have e:=sq_sum s r
 have e2:=sr_le hs hr
 exact ⟨aX a.1 b.1 (by unfold bV;omega),fun i=>aX (a.2 i) (b.2 i) (by unfold bG;omega)⟩
theorem cM.mul{v w:R2}{g h:Nat->R2}{s r:Nat}(hs:1<=s)(hr:1<=r)(a:cM v g s)(b:cM w h r):cM (uR v w) (fun i=>yI (uR v (h i)) (uR w (g i))) (s+r):=by
 have e:=sq_sum s r
 have e2:=sr_le hs hr
 exact ⟨gX a.1 b.1 (by unfold bV;omega),fun i=>gl_add (gX a.1 (b.2 i) (Nat.le_refl _)) (gX b.1 (a.2 i) (Nat.le_refl _)) (by unfold bV bG;omega)⟩
theorem cM.div{v w:R2}{g h:Nat->R2}{s r:Nat}(hs:1<=s)(hr:1<=r)(a:cM v g s)(b:cM w h r):cM (mK v w) (fun i=>mK (qZ (g i) (uR (mK v w) (h i))) w) (s+r):=by
 have e:=sq_sum s r
 have e2:=sr_le hs hr
 have hq:GL (bV (s+r)) (mK v w):=gl_div a.1 b.1 (by unfold bV;omega)
 exact ⟨hq,fun i=>gl_div (aX (a.2 i) (gX hq (b.2 i) (Nat.le_refl _)) (Nat.le_refl _)) b.1 (by unfold bV bG;omega)⟩
theorem cM.neg{v:R2}{g:Nat->R2}{s:Nat}(a:cM v g s):cM (qZ (gw 0) v) (fun i=>qZ (gw 0) (g i)) s :=
 ⟨by rw[gs0];exact gl_neg a.1,fun i=>by show GL _ (qZ (gw 0) (g i));rw[gs0];exact gl_neg (a.2 i)⟩
theorem cM.sq{v:R2}{g:Nat->R2}{s:Nat}(hs:1<=s)(a:cM v g s):cM (gsq v) (fun i=>uR (gw 2) (uR v (g i))) (2*s):=by
 have e:=sq_sum s s
 have e2:=sr_le hs hs
 rw[show 2*s=s+s by omega]
 exact ⟨gl_sq a.1 (by unfold bV;omega),fun i=>gX gl_2 (gX a.1 (a.2 i) (Nat.le_refl _)) (by unfold bV bG;omega)⟩
theorem nJ_get{bx:List R2}{L:List JV}{x:kC}{s:Nat}(h1:1<=s)(h:cM (nV bx L x) (nG bx L x) s):cM (nJ bx L x).v (fun i=>(nJ bx L x).g.getD i z2) s:=by
 refine ⟨h.1,fun i=>?_⟩
 have h2:s*1<=s*s:=Nat.mul_le_mul (Nat.le_refl _) h1
 show GL _ ((nJ bx L x).g.getD i z2)
 unfold nJ jk
 dsimp only
 rw[List.getD_eq_getElem?_getD,List.getElem?_map]
 rcases Nat.lt_or_ge i bx.length with h3 | h3
 ·rw[List.getElem?_range h3];exact h.2 i
 ·rw[List.getElem?_eq_none (by simpa using h3)]
  exact ⟨qY eU (by unfold bG;omega),qY eU (by unfold bG;omega),Rat.le_refl⟩
theorem bd_at{ss:List Int}{L:List JV}(h:BdOk ss L){a:Int}(h0:0<=a)(h1:a<L.length):∃ s:Nat,ss.getD a.toNat 0=(s:Int)/\1<=s/\cM (jA L a).v (fun i=>(jA L a).g.getD i z2) s:=h a.toNat (by omega)
theorem bd_node{z:Int}{ss:List Int}{L:List JV}{bx:List R2}{x:kC}(hk:ndC z ss x=0)(hl:ss.length=L.length)(hq:nL x.n (xW x.n) 8)(hb:∀ y∈bx,GL 24 y)(h:BdOk ss L) :
  ∃ s:Nat,bC ss x=(s:Int)/\1<=s/\cM (nV bx L x) (nG bx L x) s:=by
 obtain ⟨h1,h2,h3,_⟩:=nd_0 hk
 unfold dN at h1
 unfold eL at h2
 rcases mE x.op with ⟨e,f⟩ | ⟨e,f⟩ | ⟨e,f⟩ | ⟨e,f⟩
 ·refine ⟨1,by unfold bC;rw[if_pos e];rfl,Nat.le_refl _,?_⟩
  rcases f with f | f
  ·refine .pt ?_ fun i=>?_
   ·unfold nV;rw[if_pos f];exact qQ (gl_pt hq.ql) (by decide)
   ·unfold nG;rw[if_pos f];exact gl_0
  ·refine .pt ?_ fun i=>?_
   ·unfold nV;rw[if_neg (by omega),if_pos f];exact qC hb (by decide) _
   ·unfold nG;rw[if_neg (by omega),if_pos f];split
    ·exact gl_1
    ·exact gl_0
 ·obtain ⟨s,e1,e2,e3⟩:=bd_at h (a:=x.a) (by omega) (by omega)
  rcases f with f | f
  ·refine ⟨s,by unfold bC;rw[if_neg (by omega),if_pos f];exact e1,e2,?_⟩
   have e4:=e3.neg
   unfold nV nG;simp only[f];exact e4
  ·refine ⟨2*s,by unfold bC;rw[if_neg (by omega),if_neg (by omega),if_pos f,e1];omega,by omega,?_⟩
   have e4:=e3.sq e2
   unfold nV nG;simp only[f];exact e4
 ·obtain ⟨s,e1,e2,e3⟩:=bd_at h (a:=x.a) (by omega) (by omega)
  obtain ⟨r,g1,g2,g3⟩:=bd_at h (a:=x.b) (by omega) (by omega)
  refine ⟨s+r,by unfold bC;rw[if_neg (by omega),if_neg (by omega),if_neg (by omega),e1,g1];omega,by omega,?_⟩
  rcases f with f | f | f | f
  ·have e4:=e3.add e2 g2 g3
   unfold nV nG;simp only[f];exact e4
  ·have e4:=e3.sub e2 g2 g3
   unfold nV nG;simp only[f];exact e4
  ·have e4:=e3.mul e2 g2 g3
   unfold nV nG;simp only[f];exact e4
  ·have e4:=e3.div e2 g2 g3
   unfold nG;unfold nV;simp only[f];exact e4
 ·omega
theorem dJ{α:Type}{l:List α}{x d:α}{j:Nat}:(l++[x]).getD j d=if j<l.length then l.getD j d else if j=l.length then x else d:=by
 rw[List.getD_eq_getElem?_getD,List.getD_eq_getElem?_getD]
 split
 ·rename_i h;rw[List.getElem?_append_left h]
 ·rename_i h
  rw[List.getElem?_append_right (by omega)]
  split
  ·rename_i e;subst e;rw[Nat.sub_self];rfl
  ·rename_i e;rw[List.getElem?_eq_none (by simp;omega)];rfl
structure mQ (bx:List R2) (t:List kC):Prop where
 c0:nB ((bx.length:Nat):Int) t=0
 q:∀ x∈t,nL x.n (xW x.n) 8
 b:∀ y∈bx,GL 24 y
 s:∀ k,k<t.length->bC (mS t k) (t.getD k tz)<=140
theorem bK{α:Type}{l:List α}{d:α}{k:Nat}(h:k<l.length):l.getD k d∈l:=by
 rw[List.getD_eq_getElem?_getD,List.getElem?_eq_getElem h];exact List.getElem_mem _
theorem mQ.bd{bx:List R2}{t:List kC}(h:mQ bx t):∀ {k:Nat},k<=t.length->BdOk (mS t k) (jU bx t k)
 |0,_=>fun j hj=>by simp [jU] at hj
 |k+1,hk=>fun j hj=>by
  have ih:=h.bd (k:=k) (by omega)
  have l1:=xV t k
  have l2:=cL bx t k
  rw[cL] at hj
  have g1:(mS t (k+1)).getD j 0=_:=dJ
  have g2:(jU bx t (k+1)).getD j jz=_:=dJ
  rcases Nat.lt_or_ge j k with hjk | hjk
  ·rw[if_pos (by omega)] at g1 g2
   rw[g1,g2];exact ih j (by omega)
  ·rw[if_neg (by omega),if_pos (by omega)] at g1 g2
   rw[g1,g2]
   obtain ⟨s,e1,e2,e3⟩:=bd_node ((fY h.c0).2.2.2.2 k (by omega)) (l1.trans l2.symm) (h.q _ (bK (by omega))) h.b ih
   exact ⟨s,e1,e2,nJ_get e2 e3⟩
theorem bd_200{s:Nat}(h:s<=140):bV s<=1048576/\bG s<=1048576:=by
 have h2:s*s<=140*140:=Nat.mul_le_mul h h
 unfold bV bG;omega
theorem mQ.jok{bx:List R2}{t:List kC}(h:mQ bx t){k:Nat}(hk:k<t.length):nS 1048576 bx.length (nJ bx (jU bx t k) (t.getD k tz)):=by
 obtain ⟨s,e1,e2,e3⟩:=bd_node ((fY h.c0).2.2.2.2 k hk) ((xV t k).trans (cL bx t k).symm) (h.q _ (bK hk)) h.b (h.bd (Nat.le_of_lt hk))
 have e4:=h.s k hk
 obtain ⟨e5,e6⟩:=bd_200 (s:=s) (by omega)
 exact jk_ok (qQ e3.1 e5) fun i _=>qQ (e3.2 i) e6
theorem mQ.upto{bx:List R2}{t:List kC}(h:mQ bx t):∀ {k},k<=t.length->∀ y∈jU bx t k,nS 1048576 bx.length y
 |0,_,y,hy=>by simp [jU] at hy
 |k+1,hk,y,hy=>by
  rw[jU,List.mem_append] at hy
  rcases hy with hy | hy
  ·exact h.upto (by omega) y hy
  ·rw[List.mem_singleton] at hy;subst hy
   exact h.jok (by omega)
def dzB(bx:List R2)(t:List kC)(k:Nat):Bool:=decide ((t.getD k tz).op=5)&&xI (jA (jU bx t k) (t.getD k tz).b).v.1 (jA (jU bx t k) (t.getD k tz).b).v.2
def dzT(bx:List R2)(t:List kC):Bool:=(List.range t.length).any (dzB bx t)
structure FstDz (bx:List R2) (t:List kC) (k:Nat):Prop where
 lt:k<t.length
 no:∀ j,j<k->dzB bx t j=false
 yes:dzB bx t k=true
theorem fst_any{p:Nat->Bool}:∀ {n:Nat},(List.range n).any p=true->∃ k,k<n/\(∀ j,j<k->p j=false)/\p k=true
 |0,h=>by simp at h
 |n+1,h=>by
  cases hn:(List.range n).any p with
  |true=>
   obtain ⟨k,h1,h2,h3⟩:=fst_any hn
   exact ⟨k,by omega,h2,h3⟩
  |false=>
   rw[List.range_succ,List.any_append,hn] at h
   refine ⟨n,by omega,fun j hj=>?_,by simpa using h⟩
   cases hp:p j with
   |false=>rfl
   |true=>rw[List.any_eq_true.2 ⟨j,List.mem_range.2 hj,hp⟩] at hn;cases hn
theorem dz_fst{bx:List R2}{t:List kC}(h:dzT bx t=true):∃ k,FstDz bx t k:=by
 obtain ⟨k,h1,h2,h3⟩:=fst_any h
 exact ⟨k,h1,h2,h3⟩
theorem dz_no{bx:List R2}{t:List kC}(h:dzT bx t=false){k:Nat}(hk:k<t.length):dzB bx t k=false:=by
 cases hp:dzB bx t k with
 |false=>rfl
 |true=>unfold dzT at h;rw[List.any_eq_true.2 ⟨k,List.mem_range.2 hk,hp⟩] at h;cases h
theorem dz_at{bx:List R2}{t:List kC}{k:Nat}(h:dzB bx t k=false)(ho:(t.getD k tz).op=5):xI (jA (jU bx t k) (t.getD k tz).b).v.1 (jA (jU bx t k) (t.getD k tz).b).v.2=false:=by
 unfold dzB at h;rw[decide_eq_true ho,Bool.true_and] at h;exact h
theorem mQ.run{bx:List R2}{t:List kC}(h:mQ bx t)(hd:dzT bx t=false):JRun bx t:=⟨h.c0,fun k hk=>h.jok hk,fun k hk ho=>dz_at (dz_no hd hk) ho⟩
theorem mQ.up{bx:List R2}{t:List kC}(h:mQ bx t):∀ x∈t,nL x.n (xW x.n) 1048576:=fun x hx=>jP (h.q x hx) (by decide)
theorem mQ.nd{bx:List R2}{t:List kC}(h:mQ bx t){k:Nat}(hk:k<t.length)(hd:dzB bx t k=false):bI bx.length (jU bx t k) (t.getD k tz) :=
 nd_ok ((fY h.c0).2.2.2.2 k hk) (xV t k) (h.up _ (bK hk)) (dz_at hd)
def DzOk(L:List JV)(x:kC):Prop:=∃ a b:Nat,x=⟨5,(a:Int),(b:Int),zr⟩/\a<L.length/\b<L.length/\xI (L.getD b jz).v.1 (L.getD b jz).v.2=true
theorem mQ.dz{bx:List R2}{t:List kC}(h:mQ bx t){k:Nat}(hk:k<t.length)(hd:dzB bx t k=true):DzOk (jU bx t k) (t.getD k tz):=by
 have hc:=(fY h.c0).2.2.2.2 k hk
 obtain ⟨h1,h2,h3,_⟩:=nd_0 hc
 rw[xV] at h2
 have hl:=cL bx t k
 unfold dzB at hd
 rw[Bool.and_eq_true,decide_eq_true_eq] at hd
 generalize t.getD k tz=x at *
 generalize jU bx t k=L at *
 obtain ⟨op,a,b,n⟩:=x
 unfold dN at h1
 unfold eL at h2
 dsimp only at *
 obtain ⟨e,hz⟩:=hd
 subst e
 have e5:uA 5=2:=rfl
 rw[e5] at h2
 have hu:n=zr:=uns_eq (by
  cases hh:unsB n with
  |true=>rfl
  |false=>exact absurd (Or.inr (Or.inr (Or.inr ⟨by decide,hh⟩))) h1)
 obtain ⟨m,hm⟩:=nat_of (a:=a) (by omega)
 subst hm
 obtain ⟨l,hl'⟩:=nat_of (a:=b) (by omega)
 subst hl'
 subst hu
 refine ⟨m,l,rfl,by omega,by omega,?_⟩
 unfold jA at hz
 rwa [Int.toNat_natCast] at hz
theorem nd_mono{z w:Int}(hw:z<=w){ss:List Int}{x:kC}(h:ndC z ss x=0):ndC w ss x=0:=by
 obtain ⟨h1,h2,h3,h4⟩:=nd_0 h
 exact nd_y h1 h2 (fun h=>h3 (by unfold rngN at *;omega)) (by omega)
theorem tm_mono{z w:Int}(hw:z<=w)(h6:w<=64){t:List kC}(h:nB z t=0):nB w t=0:=by
 obtain ⟨h1,h2,h3,h4,h5⟩:=fY h
 exact (tm_yes (by omega) h3 (by omega) fun i hi=>nd_mono hw (h5 i hi)).1
theorem szU_mem{t:List kC}:∀ {n k:Nat},k<n->bC (mS t k) (t.getD k tz)∈mS t n
 |0,k,h=>by omega
 |n+1,k,h=>by
  rw[mS,List.mem_append]
  rcases Nat.lt_or_ge k n with h1 | h1
  ·exact .inl (szU_mem h1)
  ·obtain rfl:k=n:=by omega
   exact .inr (List.mem_singleton.2 rfl)
def StOk(n:Nat)(L:List JV)(x:kC):Prop:=bI n L x\/DzOk L x
theorem StOk.kd{n:Nat}{L:List JV}{x:kC}(h:StOk n L x):uA x.op=0\/uA x.op=1\/uA x.op=2:=by
 rcases h with h | ⟨a,b,rfl,_⟩
 ·cases h<;>first | exact .inl rfl | exact .inr (.inl rfl) | exact .inr (.inr rfl)
 ·exact .inr (.inr rfl)
theorem StOk.a{n:Nat}{L:List JV}{x:kC}(h:StOk n L x)(h1:1<=uA x.op):0<=x.a/\x.a.toNat<L.length:=by
 rcases h with h | ⟨a,b,rfl,ha,_⟩
 ·cases h with
  |c hp=>exact absurd h1 (by show ¬ (1:Int)<=uA 0;decide)
  |v ha=>exact absurd h1 (by show ¬ (1:Int)<=uA 1;decide)
  |add ha hb=>exact ⟨by show 0<=((_:Nat):Int);omega,by show (((_:Nat):Int)).toNat<_;rwa [Int.toNat_natCast]⟩
  |sub ha hb=>exact ⟨by show 0<=((_:Nat):Int);omega,by show (((_:Nat):Int)).toNat<_;rwa [Int.toNat_natCast]⟩
  |mul ha hb=>exact ⟨by show 0<=((_:Nat):Int);omega,by show (((_:Nat):Int)).toNat<_;rwa [Int.toNat_natCast]⟩
  |div ha hb hz=>exact ⟨by show 0<=((_:Nat):Int);omega,by show (((_:Nat):Int)).toNat<_;rwa [Int.toNat_natCast]⟩
  |neg ha=>exact ⟨by show 0<=((_:Nat):Int);omega,by show (((_:Nat):Int)).toNat<_;rwa [Int.toNat_natCast]⟩
  |sq ha=>exact ⟨by show 0<=((_:Nat):Int);omega,by show (((_:Nat):Int)).toNat<_;rwa [Int.toNat_natCast]⟩
 ·exact ⟨by show 0<=((_:Nat):Int);omega,by show (((_:Nat):Int)).toNat<_;rwa [Int.toNat_natCast]⟩
theorem StOk.b{n:Nat}{L:List JV}{x:kC}(h:StOk n L x)(h2:uA x.op=2):0<=x.b/\x.b.toNat<L.length:=by
 rcases h with h | ⟨a,b,rfl,_,hb,_⟩
 ·cases h with
  |c hp=>exact absurd h2 (by show ¬ uA 0=2;decide)
  |v ha=>exact absurd h2 (by show ¬ uA 1=2;decide)
  |add ha hb=>exact ⟨by show 0<=((_:Nat):Int);omega,by show (((_:Nat):Int)).toNat<_;rwa [Int.toNat_natCast]⟩
  |sub ha hb=>exact ⟨by show 0<=((_:Nat):Int);omega,by show (((_:Nat):Int)).toNat<_;rwa [Int.toNat_natCast]⟩
  |mul ha hb=>exact ⟨by show 0<=((_:Nat):Int);omega,by show (((_:Nat):Int)).toNat<_;rwa [Int.toNat_natCast]⟩
  |div ha hb hz=>exact ⟨by show 0<=((_:Nat):Int);omega,by show (((_:Nat):Int)).toNat<_;rwa [Int.toNat_natCast]⟩
  |neg ha=>exact absurd h2 (by show ¬ uA 6=2;decide)
  |sq ha=>exact absurd h2 (by show ¬ uA 7=2;decide)
 ·exact ⟨by show 0<=((_:Nat):Int);omega,by show (((_:Nat):Int)).toNat<_;rwa [Int.toNat_natCast]⟩
theorem bI.op{n:Nat}{L:List JV}{x:kC}(h:bI n L x):x.op=0\/x.op=1\/x.op=2\/x.op=3\/x.op=4\/x.op=5\/x.op=6\/x.op=7:=by
 cases h<;>simp
theorem bI.con{n:Nat}{L:List JV}{x:kC}(h:bI n L x)(e:x.op=0):x.n=jN (xW x.n)/\QL (xW x.n) 1048576:=by
 cases h with
 |c hp=>exact ⟨by rw[eV],by rw[eV];exact hp⟩
 |_=>simp at e
theorem bI.var{n:Nat}{L:List JV}{x:kC}(h:bI n L x)(e:x.op=1):0<=x.a/\x.a.toNat<n:=by
 cases h with
 |v ha=>exact ⟨by show 0<=((_:Nat):Int);omega,by show (((_:Nat):Int)).toNat<_;rwa [Int.toNat_natCast]⟩
 |_=>simp at e
theorem DzOk.kd{L:List JV}{x:kC}(h:DzOk L x):uA x.op=2:=by
 obtain ⟨a,b,rfl,_⟩:=h
 rfl
structure DEnd (bx:List R2) (t:List kC) (k0:Nat):Prop where
 c0:nB ((bx.length:Nat):Int) t=0
 le:k0<=t.length
 nd:∀ j,j<k0->bI bx.length (jU bx t j) (t.getD j tz)
 ok:∀ j,j<=k0->∀ y∈jU bx t j,nS 1048576 bx.length y
 nv:∀ j,j<k0->nS 1048576 bx.length (nJ bx (jU bx t j) (t.getD j tz))
 dz:k0<t.length->DzOk (jU bx t k0) (t.getD k0 tz)
theorem DEnd.st{bx:List R2}{t:List kC}{k0 k:Nat}(h:DEnd bx t k0)(hk:k<=k0)(hl:k<t.length):StOk bx.length (jU bx t k) (t.getD k tz):=by
 rcases Nat.lt_or_ge k k0 with h1 | h1
 ·exact .inl (h.nd k h1)
 ·obtain rfl:k=k0:=by omega
  exact .inr (h.dz hl)
theorem DEnd.last{bx:List R2}{t:List kC}(h:DEnd bx t t.length):nS 1048576 bx.length (qN bx t):=by
 have h0:=fY h.c0
 have hl:=cL bx t t.length
 refine h.ok t.length (Nat.le_refl _) _ ?_
 unfold qN
 exact bK (by omega)
end Go.Fid
namespace Go.Proofs.YtckccjhflbljgaaGreatDoor
open Go.Fid
end Go.Proofs.YtckccjhflbljgaaGreatDoor
namespace Go.Proofs.YtckccjhflbljgaaGreatDoor
open Go.Fid
def dgB(x:kC):Bool:=decide (iA x.n<=8)
def szB(m:Nat)(s:Int):Bool:=decide (s<=(m:Int))
def aC(n m:Nat)(t:List kC):Bool:=decide (t.length<=n)&&(t.all dgB&&(decide (nB 8 t≠0)||(dD 8 t).all (szB m)))
theorem fewT_long{n m:Nat}{t:List kC}(h:((n:Nat):Int)<((t.length:Nat):Int)):aC n m t=false:=by unfold aC;rw[decide_eq_false (by omega)];rfl
theorem fewT_dig{n m:Nat}{t:List kC}(h:t.all dgB=false):aC n m t=false:=by unfold aC;rw[h,Bool.false_and,Bool.and_false]
theorem fewT_code{n m:Nat}{t:List kC}(h0:¬ ((n:Nat):Int)<((t.length:Nat):Int))(h:t.all dgB=true)(hc:((nB 8 t:Nat):Int)≠0):aC n m t=true:=by
 unfold aC;rw[decide_eq_true (by omega),h,decide_eq_true (by omega)];rfl
theorem tmL_len{z:Int}{t:List kC}(h:((nB z t:Nat):Int)=0):(dD z t).length=t.length:=by
 unfold dD;rw[if_pos (by omega),xV]
theorem fewT_big{n m:Nat}{t:List kC}(hc:((nB 8 t:Nat):Int)=0)(h:(dD 8 t).all (szB m)=false):aC n m t=false:=by
 unfold aC;rw[h,Bool.or_false,show decide (nB 8 t≠0)=false from decide_eq_false (by omega),Bool.and_false,Bool.and_false]
theorem fewT_yes{n m:Nat}{t:List kC}(h0:¬ ((n:Nat):Int)<((t.length:Nat):Int))(h:t.all dgB=true)(hs:(dD 8 t).all (szB m)=true):aC n m t=true:=by
 unfold aC;rw[decide_eq_true (by omega),h,hs,Bool.or_true];rfl
theorem dgB_y{x:kC}(h:¬ ((8:Nat):Int)<((iA x.n:Nat):Int)):dgB x=true:=decide_eq_true (by omega)
theorem dgB_n{x:kC}(h:((8:Nat):Int)<((iA x.n:Nat):Int)):dgB x=false:=decide_eq_false (by omega)
theorem dg_ok{t:List kC}(h:t.all dgB=true):∀ x∈t,nL x.n (xW x.n) 8:=fun x hx=>by
 have h1:=List.all_eq_true.1 h x hx
 unfold dgB iA at h1
 rw[decide_eq_true_eq] at h1
 exact qok_raw (by decide) (by omega) (by omega)
theorem few_of{n m:Nat}{t:List kC}(h:aC n m t=true):t.length<=n/\(∀ x∈t,nL x.n (xW x.n) 8)/\(nB 8 t=0->∀ s∈dD 8 t,s<=(m:Int)):=by
 unfold aC at h
 rw[Bool.and_eq_true,Bool.and_eq_true,Bool.or_eq_true,decide_eq_true_eq,decide_eq_true_eq] at h
 refine ⟨h.1,dg_ok h.2.1,fun hc s hs=>?_⟩
 rcases h.2.2 with h1 | h1
 ·exact absurd hc h1
 ·have:=List.all_eq_true.1 h1 s hs
  unfold szB at this
  rwa [decide_eq_true_eq] at this
theorem tame_of{n m:Nat}{bx:List R2}{t:List kC}(h:aC n m t=true)(hm:m<=140)(h8:bx.length<=8)(hb:∀ y∈bx,GL 24 y)(hc:nB ((bx.length:Nat):Int) t=0):mQ bx t:=by
 obtain ⟨_,h2,h3⟩:=few_of h
 have hc8:nB 8 t=0:=tm_mono (by omega) (by decide) hc
 refine ⟨hc,h2,hb,fun k hk=>?_⟩
 have h4:=h3 hc8 (bC (mS t k) (t.getD k tz)) (by unfold dD;rw[if_pos hc8];exact szU_mem hk)
 omega
theorem gpt_24{xs:List Rat}(h:∀ q∈xs,QL q 24):∀ y∈List.map gpt xs,GL 24 y:=fun y hy=>by
 obtain ⟨q,hq,rfl⟩:=List.mem_map.1 hy
 exact gl_pt (h q hq)
def exT:List kC:=[⟨1,0,0,zr⟩,⟨1,1,0,zr⟩,⟨4,0,1,zr⟩,⟨7,0,0,zr⟩,⟨2,2,3,zr⟩]
def exD:List kC:=[⟨1,0,0,zr⟩,⟨1,1,0,zr⟩,⟨0,0,0,jN ((2:Int):Rat)⟩,⟨4,2,0,zr⟩,⟨2,1,3,zr⟩]
def exX:List Rat:=zQ [2,3]
def exB:List R2:=[(((1:Int):Rat),((2:Int):Rat)),(((3:Int):Rat),((4:Int):Rat))]
theorem exX_ql:∀ q∈exX,QL q 1048576:=fun q hq=>qY (zQ_ql (by decide) q hq) (by decide)
theorem exB_gl:∀ x∈exB,GL 1048576 x:=by unfold exB;decide +kernel
theorem zr_ok:nL zr (xW zr) 1048576:=⟨rfl,by decide,by decide,by decide⟩
theorem exT_ok:∀ x∈exT,nL x.n (xW x.n) 1048576:=fun x hx=>by
 have:x.n=zr:=by
  unfold exT at hx
  simp only[List.mem_cons,List.not_mem_nil,or_false] at hx
  rcases hx with rfl | rfl | rfl | rfl | rfl<;>rfl
 rw[this]
 exact zr_ok
theorem exD_ok:∀ x∈exD,nL x.n (xW x.n) 1048576:=fun x hx=>by
 have:x.n=zr\/x.n=jN ((2:Int):Rat):=by
  unfold exD at hx
  simp only[List.mem_cons,List.not_mem_nil,or_false] at hx
  rcases hx with rfl | rfl | rfl | rfl | rfl<;>first | exact .inl rfl | exact .inr rfl
 rcases this with h | h
 ·rw[h];exact zr_ok
 ·rw[h,eV];exact jY (ql_i)
theorem exT_c0:nB ((2:Nat):Int) exT=0:=by decide +kernel
theorem exT_run:VRun exX exT:=by
 refine ⟨by decide +kernel,⟨fun k hk=>?_,fun k hk=>?_⟩⟩
 ·match k,hk with
  |0,_=>unfold QL;decide +kernel
  |1,_=>unfold QL;decide +kernel
  |2,_=>unfold QL;decide +kernel
  |3,_=>unfold QL;decide +kernel
  |4,_=>unfold QL;decide +kernel
 ·match k,hk with
  |0,_=>intro h;revert h;decide
  |1,_=>intro h;revert h;decide
  |2,_=>intro h;revert h;decide
  |3,_=>intro h;revert h;decide
  |4,_=>intro h;revert h;decide
theorem exD_run:VRun exX exD:=by
 refine ⟨by decide +kernel,⟨fun k hk=>?_,fun k hk=>?_⟩⟩
 ·match k,hk with
  |0,_=>unfold QL;decide +kernel
  |1,_=>unfold QL;decide +kernel
  |2,_=>unfold QL;decide +kernel
  |3,_=>unfold QL;decide +kernel
  |4,_=>unfold QL;decide +kernel
 ·match k,hk with
  |0,_=>intro h;revert h;decide
  |1,_=>intro h;revert h;decide
  |2,_=>intro h;revert h;decide
  |3,_=>intro h;revert h;decide
  |4,_=>intro h;revert h;decide
theorem exB_run:JRun exB exT:=by
 refine ⟨by decide +kernel,fun k hk=>?_,fun k hk=>?_⟩
 ·match k,hk with
  |0,_=>exact ⟨by decide +kernel,by decide +kernel,rfl⟩
  |1,_=>exact ⟨by decide +kernel,by decide +kernel,rfl⟩
  |2,_=>exact ⟨by decide +kernel,by decide +kernel,rfl⟩
  |3,_=>exact ⟨by decide +kernel,by decide +kernel,rfl⟩
  |4,_=>exact ⟨by decide +kernel,by decide +kernel,rfl⟩
 ·match k,hk with
  |0,_=>intro h;revert h;decide
  |1,_=>intro h;revert h;decide
  |2,_=>intro h;revert h;decide
  |3,_=>intro h;revert h;decide
  |4,_=>intro h;revert h;decide
theorem ex_10:yZ exX exT=((10:Int):Rat):=by decide +kernel
theorem ex_7:yZ exX exD=((7:Int):Rat):=by decide +kernel
theorem ex_v:(qN exB exT).v=(((4:Int):Rat),((12:Int):Rat)):=by decide +kernel
theorem ex_g:(qN exB exT).g=[(((5:Int):Rat),((8:Int):Rat)),(((1:Int):Rat),((2:Int):Rat))]:=by decide +kernel
instance:DecidableEq kW:=fun a b=>if h:a.neg=b.neg/\a.gs=b.gs then isTrue (by cases a;cases b;obtain ⟨rfl,rfl⟩:=h;rfl) else isFalse (fun e=>h (by rw[e];exact ⟨rfl,rfl⟩))
instance:DecidableEq qE:=fun a b=>if h:a.num=b.num/\a.den=b.den then isTrue (by cases a;cases b;obtain ⟨rfl,rfl⟩:=h;rfl) else isFalse (fun e=>h (by rw[e];exact ⟨rfl,rfl⟩))
instance:DecidableEq kC:=fun a b=>if h:a.op=b.op/\a.a=b.a/\a.b=b.b/\a.n=b.n then isTrue (by cases a;cases b;obtain ⟨rfl,rfl,rfl,rfl⟩:=h;rfl) else isFalse (fun e=>h (by rw[e];exact ⟨rfl,rfl,rfl,rfl⟩))
theorem ex_d:DRT 0 exT=exD:=by decide +kernel
theorem ex_c:DRC 0 exT=0:=by decide +kernel
end Go.Proofs.YtckccjhflbljgaaGreatDoor
