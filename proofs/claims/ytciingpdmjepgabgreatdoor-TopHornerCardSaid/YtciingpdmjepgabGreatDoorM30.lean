/- Part 30 of a proof: rules, plain facts, and functions walked. -/
import Derived.Test.YtciingpdmjepgabGreatDoorM29
import Derived.Test.YtciingpdmjepgabGreatDoorM18
import Derived.Test.YtciingpdmjepgabGreatDoorM21
import Derived.Test.YtciingpdmjepgabGreatDoorM23
import Derived.Test.YtciingpdmjepgabGreatDoorM22
import Derived.Test.YtciingpdmjepgabGreatDoorM24
import Derived.Test.YtciingpdmjepgabGreatDoorM25
import Derived.Test.YtciingpdmjepgabGreatDoorM12
import Derived.Test.YtciingpdmjepgabGreatDoorM11
set_option linter.all false
set_option maxRecDepth 4000
namespace Go.Proofs.YtciingpdmjepgabGreatDoor
open Go.Fid
theorem nY{α:Type}{o V:List α}{k:Nat}{v:α}(h:o.take k=V)(hk:k<o.length):(o.set k v).take (k+1)=V++[v]:=by
 rw[List.take_succ_eq_append_getElem (by rw[List.length_set];omega),List.getElem_set_self,List.take_set_of_le (Nat.le_refl k),h]
theorem p_valU(t:List kI)(ht:TnsOk 1048576 t)(xs:List Rat)(hx:∀ q∈xs,QL q 1048576)(k0:Nat)(hf:VEnd xs t k0)(hxb:xs.length<=1000000):jW Tryz.prog 10 [(.sl 35 7 (List.map qE t)),(.sl 28 4 (List.map jK (List.map jP xs)))] (.tup [(jK (vlR xs t k0)),(.val (.int .i64 ((vlC t k0))))]):=by
 have hxn:((List.map jP xs).length)=xs.length:=List.length_map _
 have h0:=tm_0 hf.c0
 have hk9:=hf.hk
 let y2:=qY
 let y1:=(bx (jK y2))
 refine uW Tryz.func10 ?_
 refine jB<|kx [(4,(.ref 0 0))] [(0,some y1)] (zN (uT 0 uU uX)<|zM<|zZ) ?_
 refine jB<|jB<|kx [(13,(vl 28 4 jK (List.map jP xs))),(14,(jS xs.length)),(15,(jS 0))] [] (zM<|zE (oLn xD xs.length)<|zM<|zZ) ?_
 refine jG<|kU (α:=Nat) (fun i=>⟨[(0,(vl 35 7 qE t)),(1,(vl 28 4 jK (List.map jP xs))),(4,(.ref 0 0)),(13,(vl 28 4 jK (List.map jP xs))),(14,(jS xs.length)),(15,(jS i))],[(0,some y1)]⟩) (fun i=>i<=xs.length) (fun i=>xs.length-i) 0 wk (Nat.zero_le _) ?_
 rintro i hi
 refine jB<|kx [(16,(vb (decide (((i:Nat):Int)<((xs.length:Nat):Int)))))] [] (zE xO<|zZ) ?_
 refine jB<|jH rfl (fun h1=>?_) (fun h1=>?_)
 ·replace h1:=xF h1
  refine jF<|jB<|jG<|jB<|kx [(7,(.ref 1 0))] [(1,some (bx (jK (jP (xs.getD i 0)))))] (zE (oXm xD jP i 0 (hj:=by first | omega | (dsimp only;omega)) (h1:=by first | omega | (dsimp only;omega)))<|zE (nX jR)<|zN (uT 1 uU uX)<|zT (qK jR)<|zZ) ?_
  refine jB<|kx [(21,(vb (!(kL (jP (xs.getD i 0))))))] [] (zR (kT jR)<|zE (kH (bL (jP (xs.getD i 0)) (xs.getD i 0) (kE (kN (dF hx (by decide) i)))))<|zE eL<|zZ) ?_
  refine jH (b:=!(kL (jP (xs.getD i 0)))) rfl (fun h2=>?_) (fun h2=>?_)
  ·exact absurd h2 (by rw[eH];decide)
  ·refine jF<|kx [(15,(jS (i+1)))] [] (zE (vD (i+1))<|zM<|zZ) ?_
   exact ⟨(i+1),wk,(by omega),(by first|omega|(dsimp only;omega))⟩
 ·replace h1:=xH h1
  refine kK<|jB<|jB<|kx [(8,(jS (dQ ((xs.length:Nat):Int) t)))] [] (zM<|zM<|zE (oLn xD xs.length)<|zE (kH (j_chk t ht ((xs.length:Nat):Int)))<|zM<|zZ) ?_
  refine jB<|kx [(29,(vb false))] [] (zM<|zE (xC false oNe (by exact bne_eq_false_iff_eq.2 (by rw[show (dQ ((xs.length:Nat):Int) t)=0 from hf.c0]<;>rfl)))<|zZ) ?_
  refine qH ?_
  refine jF<|jB<|kx [(9,(.own 2 28 4 t.length))] [(2,some (qP jK (List.replicate t.length y2)))] (zM<|zE (zV el37)<|zN (oMkS 2 jK y2 t.length t.length xD uU uX by28 (hlN:=by first | omega | (dsimp only;omega)) (hcM:=by first | omega | (dsimp only;omega)) (hnm:=by first | omega | (dsimp only;omega)) (hb:=by first | omega | (dsimp only;omega)))<|zM<|zZ) ?_
  refine jB<|jB<|kx [(35,(vl 35 7 qE t)),(36,(jS t.length)),(37,(jS 0))] [] (zM<|zE (zV el37)<|zM<|zZ) ?_
  refine jG<|kU (α:=Nat × List kP) (fun (k,o)=>⟨[(1,(vl 28 4 jK (List.map jP xs))),(4,(.ref 0 0)),(9,(.own 2 28 4 t.length)),(35,(vl 35 7 qE t)),(36,(jS t.length)),(37,(jS k))],[(0,some y1),(2,some (qP jK o))]⟩) (fun (k,o)=>k<=k0/\o.length=t.length/\o.take k=List.map jP (vU xs t k)) (fun (k,o)=>t.length-k) (0,List.replicate t.length y2) wk ⟨Nat.zero_le _,List.length_replicate,rfl⟩ ?_
  rintro ⟨k,o⟩ ⟨hk,hol,ho⟩
  have hget:∀ j,j<k->o.getD j qY=jP ((vU xs t k).getD j 0):=fun j hj=>by rw[<- take_getDr o _ hj,ho];exact dW jP _ 0 _ (by rw[vU_len];exact hj)
  have hVq:=(hf.up.le hk).all
  refine jB<|kx [(38,(vb (decide (((k:Nat):Int)<((t.length:Nat):Int)))))] [] (zE xO<|zZ) ?_
  refine jB<|jH rfl (fun h3=>?_) (fun h3=>?_)
  ·replace h3:=xF h3
   have hN:=nd_at hf.c0 (show k<t.length by omega)
   refine jF<|jB<|jG<|jB<|kx [(10,(jS k)),(11,(.ref 3 0))] [(3,some (bx (qE (t.getD k tz))))] (zM<|zE (dS el37 k (tz:kI) (hj:=by first | omega | (dsimp only;omega)) (h1:=by first | omega | (dsimp only;omega)))<|zE (nX sh35)<|zH (uT 3 ze35 zo35)<|zM<|zT (qK sh35)<|zZ) ?_
   refine jB<|kx [(43,(vi ((t.getD k tz).op)))] [] (zE (kW yF)<|zR (qR fS)<|zZ) ?_
   refine jG<|jB<|kx [(64,(vb ((t.getD k tz).op == ((0:Nat):Int))))] [] (zE nT<|zM<|zZ) ?_
   refine jH (b:=((t.getD k tz).op == ((0:Nat):Int))) rfl (fun h4=>?_) (fun h4=>?_)
   ·replace h4:=eq_of_beq h4
    have hop:=h4
    have hlt:=hf.lt hk (show k<t.length by omega) (by rw[hop];decide)
    refine kx [] [(2,some (qP jK (o.set k ((t.getD k tz).n))))] (zM<|zM<|zE (kW fG)<|zR (kT jR)<|zE (oXO xD k (hj:=by first | omega | (dsimp only;omega)) (h1:=by first | omega | (dsimp only;omega)))<|zT (oSA jR k ((t.getD k tz).n))<|zZ) ?_
    refine kx [(37,(jS (k+1)))] [] (zE (vD (k+1))<|zM<|zZ) ?_
    exact ⟨(k+1,o.set k (t.getD k tz).n),wk,⟨by omega,by rw[List.length_set];exact hol,by rw[nY ho (by omega)];exact vU_nc (vV_0 hop) (hN.con hop)⟩,(by first|omega|(dsimp only;omega))⟩
   ·replace h4:=ne_of_beq_false h4
    refine jB<|kx [(71,(vb ((t.getD k tz).op == ((1:Nat):Int))))] [] (zE nT<|zM<|zZ) ?_
    refine jH (b:=((t.getD k tz).op == ((1:Nat):Int))) rfl (fun h5=>?_) (fun h5=>?_)
    ·replace h5:=eq_of_beq h5
     have hop:=h5
     obtain ⟨a1,a2⟩:=hN.var h5
     have hlt:=hf.lt hk (show k<t.length by omega) (by rw[hop];decide)
     refine kx [] [(2,some (qP jK (o.set k (jP (xs.getD (((t.getD k tz).a).toNat) 0)))))] (zM<|zM<|zM<|zE (kW xP)<|zR (qR gN)<|zE (oXm xD jP (((t.getD k tz).a).toNat) 0 (hj:=by first | omega | (dsimp only;omega)) (h1:=by first | omega | (dsimp only;omega)))<|zE (nX jR)<|zE (oXO xD k (hj:=by first | omega | (dsimp only;omega)) (h1:=by first | omega | (dsimp only;omega)))<|zT (oSA jR k (jP (xs.getD (((t.getD k tz).a).toNat) 0)))<|zZ) ?_
     refine kx [(37,(jS (k+1)))] [] (zE (vD (k+1))<|zM<|zZ) ?_
     exact ⟨(k+1,o.set k (jP (xs.getD ((t.getD k tz).a.toNat) 0))),wk,⟨by omega,by rw[List.length_set];exact hol,by rw[nY ho (by omega)];exact vU_nx (vV_1 hop)⟩,(by first|omega|(dsimp only;omega))⟩
    ·replace h5:=ne_of_beq_false h5
     refine jB<|kx [(81,(vb ((t.getD k tz).op == ((6:Nat):Int))))] [] (zE nT<|zM<|zZ) ?_
     refine jH (b:=((t.getD k tz).op == ((6:Nat):Int))) rfl (fun h6=>?_) (fun h6=>?_)
     ·replace h6:=eq_of_beq h6
      have hop:=h6
      obtain ⟨a1,a2⟩:=hN.un (.inl h6)
      have hlt:=hf.lt hk (show k<t.length by omega) (by rw[hop];decide)
      refine kx [] [(2,some (qP jK (o.set k (jP (-((vU xs t k).getD ((t.getD k tz).a.toNat) 0))))))] (zM<|zM<|zM<|zE (kW xP)<|zR (qR gN)<|zE (oXO xD (((t.getD k tz).a).toNat) (hj:=by first | omega | (dsimp only;omega)) (h1:=by first | omega | (dsimp only;omega)))<|zR (oQr (jK (o.getD (((t.getD k tz).a).toNat) y2)) (jK (jP ((vU xs t k).getD ((t.getD k tz).a.toNat) 0))) (oLA jR (((t.getD k tz).a).toNat) y2 (h1:=by first | omega | (dsimp only;omega))) (by exact (congrArg jK (hget _ (show (t.getD k tz).a.toNat<k by omega)))))<|zE (kH (f_neg (jP ((vU xs t k).getD ((t.getD k tz).a.toNat) 0)) ((vU xs t k).getD ((t.getD k tz).a.toNat) 0) (kE (kN (qlg hVq (by decide) ((t.getD k tz).a.toNat))))))<|zE (oXO xD k (hj:=by first | omega | (dsimp only;omega)) (h1:=by first | omega | (dsimp only;omega)))<|zT (oSA jR k (jP (-((vU xs t k).getD ((t.getD k tz).a.toNat) 0))))<|zZ) ?_
      refine kx [(37,(jS (k+1)))] [] (zE (vD (k+1))<|zM<|zZ) ?_
      exact ⟨(k+1,o.set k (jP (-((vU xs t k).getD ((t.getD k tz).a.toNat) 0)))),wk,⟨by omega,by rw[List.length_set];exact hol,by rw[nY ho (by omega)];exact vU_nx (vV_6 hop)⟩,(by first|omega|(dsimp only;omega))⟩
     ·replace h6:=ne_of_beq_false h6
      refine jB<|kx [(92,(vb ((t.getD k tz).op == ((7:Nat):Int))))] [] (zE nT<|zM<|zZ) ?_
      refine jH (b:=((t.getD k tz).op == ((7:Nat):Int))) rfl (fun h7=>?_) (fun h7=>?_)
      ·replace h7:=eq_of_beq h7
       have hop:=h7
       obtain ⟨a1,a2⟩:=hN.un (.inr h7)
       have hlt:=hf.lt hk (show k<t.length by omega) (by rw[hop];decide)
       refine kd [] [(2,some (qP jK (o.set k (jP (((vU xs t k).getD ((t.getD k tz).a.toNat) 0)*((vU xs t k).getD ((t.getD k tz).a.toNat) 0))))))] mo (wM<|wM<|wM<|wE (kW xP)<|wR (qR gN)<|wE (oXO xD (((t.getD k tz).a).toNat) (hj:=by first | omega | (dsimp only;omega)) (h1:=by first | omega | (dsimp only;omega)))<|wR (oQr (jK (o.getD (((t.getD k tz).a).toNat) y2)) (jK (jP ((vU xs t k).getD ((t.getD k tz).a.toNat) 0))) (oLA jR (((t.getD k tz).a).toNat) y2 (h1:=by first | omega | (dsimp only;omega))) (by exact (congrArg jK (hget _ (show (t.getD k tz).a.toNat<k by omega)))))<|wM<|wE (kW xP)<|wR (qR gN)<|wE (oXO xD (((t.getD k tz).a).toNat) (hj:=by first | omega | (dsimp only;omega)) (h1:=by first | omega | (dsimp only;omega)))<|wR (oQr (jK (o.getD (((t.getD k tz).a).toNat) y2)) (jK (jP ((vU xs t k).getD ((t.getD k tz).a.toNat) 0))) (oLA jR (((t.getD k tz).a).toNat) y2 (h1:=by first | omega | (dsimp only;omega))) (by exact (congrArg jK (hget _ (show (t.getD k tz).a.toNat<k by omega)))))<|wE (kH (f_mul (jP ((vU xs t k).getD ((t.getD k tz).a.toNat) 0)) (jP ((vU xs t k).getD ((t.getD k tz).a.toNat) 0)) ((vU xs t k).getD ((t.getD k tz).a.toNat) 0) ((vU xs t k).getD ((t.getD k tz).a.toNat) 0) (kE (kN (qlg hVq (by decide) ((t.getD k tz).a.toNat)))) (kE (kN (qlg hVq (by decide) ((t.getD k tz).a.toNat))))))<|wE (oXO xD k (hj:=by first | omega | (dsimp only;omega)) (h1:=by first | omega | (dsimp only;omega)))<|wT (oSA jR k (jP (((vU xs t k).getD ((t.getD k tz).a.toNat) 0)*((vU xs t k).getD ((t.getD k tz).a.toNat) 0))))<|wZ) ?_
       refine kx [(37,(jS (k+1)))] [] (zE (vD (k+1))<|zM<|zZ) ?_
       exact ⟨(k+1,o.set k (jP (((vU xs t k).getD ((t.getD k tz).a.toNat) 0)*((vU xs t k).getD ((t.getD k tz).a.toNat) 0)))),wk,⟨by omega,by rw[List.length_set];exact hol,by rw[nY ho (by omega)];exact vU_nx (vV_7 hop)⟩,(by first|omega|(dsimp only;omega))⟩
      ·replace h7:=ne_of_beq_false h7
       refine jB<|kx [(108,(vb ((t.getD k tz).op == ((2:Nat):Int))))] [] (zE nT<|zM<|zZ) ?_
       refine jH (b:=((t.getD k tz).op == ((2:Nat):Int))) rfl (fun h8=>?_) (fun h8=>?_)
       ·replace h8:=eq_of_beq h8
        have hop:=h8
        obtain ⟨⟨a1,a2⟩,b1,b2⟩:=hN.bin (.inl h8)
        have hlt:=hf.lt hk (show k<t.length by omega) (by rw[hop];decide)
        refine kd [] [(2,some (qP jK (o.set k (jP (((vU xs t k).getD ((t.getD k tz).a.toNat) 0)+((vU xs t k).getD ((t.getD k tz).b.toNat) 0))))))] mo (wM<|wM<|wM<|wE (kW xP)<|wR (qR gN)<|wE (oXO xD (((t.getD k tz).a).toNat) (hj:=by first | omega | (dsimp only;omega)) (h1:=by first | omega | (dsimp only;omega)))<|wR (oQr (jK (o.getD (((t.getD k tz).a).toNat) y2)) (jK (jP ((vU xs t k).getD ((t.getD k tz).a.toNat) 0))) (oLA jR (((t.getD k tz).a).toNat) y2 (h1:=by first | omega | (dsimp only;omega))) (by exact (congrArg jK (hget _ (show (t.getD k tz).a.toNat<k by omega)))))<|wM<|wE (kW mS)<|wR (qR gN)<|wE (oXO xD (((t.getD k tz).b).toNat) (hj:=by first | omega | (dsimp only;omega)) (h1:=by first | omega | (dsimp only;omega)))<|wR (oQr (jK (o.getD (((t.getD k tz).b).toNat) y2)) (jK (jP ((vU xs t k).getD ((t.getD k tz).b.toNat) 0))) (oLA jR (((t.getD k tz).b).toNat) y2 (h1:=by first | omega | (dsimp only;omega))) (by exact (congrArg jK (hget _ (show (t.getD k tz).b.toNat<k by omega)))))<|wE (kH (f_add (jP ((vU xs t k).getD ((t.getD k tz).a.toNat) 0)) (jP ((vU xs t k).getD ((t.getD k tz).b.toNat) 0)) ((vU xs t k).getD ((t.getD k tz).a.toNat) 0) ((vU xs t k).getD ((t.getD k tz).b.toNat) 0) (kE (kN (qlg hVq (by decide) ((t.getD k tz).a.toNat)))) (kE (kN (qlg hVq (by decide) ((t.getD k tz).b.toNat))))))<|wE (oXO xD k (hj:=by first | omega | (dsimp only;omega)) (h1:=by first | omega | (dsimp only;omega)))<|wT (oSA jR k (jP (((vU xs t k).getD ((t.getD k tz).a.toNat) 0)+((vU xs t k).getD ((t.getD k tz).b.toNat) 0))))<|wZ) ?_
        refine kx [(37,(jS (k+1)))] [] (zE (vD (k+1))<|zM<|zZ) ?_
        exact ⟨(k+1,o.set k (jP (((vU xs t k).getD ((t.getD k tz).a.toNat) 0)+((vU xs t k).getD ((t.getD k tz).b.toNat) 0)))),wk,⟨by omega,by rw[List.length_set];exact hol,by rw[nY ho (by omega)];exact vU_nx (vV_2 hop)⟩,(by first|omega|(dsimp only;omega))⟩
       ·replace h8:=ne_of_beq_false h8
        refine jB<|kx [(124,(vb ((t.getD k tz).op == ((3:Nat):Int))))] [] (zE nT<|zM<|zZ) ?_
        refine jH (b:=((t.getD k tz).op == ((3:Nat):Int))) rfl (fun h9=>?_) (fun h9=>?_)
        ·replace h9:=eq_of_beq h9
         have hop:=h9
         obtain ⟨⟨a1,a2⟩,b1,b2⟩:=hN.bin (.inr (.inl h9))
         have hlt:=hf.lt hk (show k<t.length by omega) (by rw[hop];decide)
         refine kd [] [(2,some (qP jK (o.set k (jP (((vU xs t k).getD ((t.getD k tz).a.toNat) 0)-((vU xs t k).getD ((t.getD k tz).b.toNat) 0))))))] mo (wM<|wM<|wM<|wE (kW xP)<|wR (qR gN)<|wE (oXO xD (((t.getD k tz).a).toNat) (hj:=by first | omega | (dsimp only;omega)) (h1:=by first | omega | (dsimp only;omega)))<|wR (oQr (jK (o.getD (((t.getD k tz).a).toNat) y2)) (jK (jP ((vU xs t k).getD ((t.getD k tz).a.toNat) 0))) (oLA jR (((t.getD k tz).a).toNat) y2 (h1:=by first | omega | (dsimp only;omega))) (by exact (congrArg jK (hget _ (show (t.getD k tz).a.toNat<k by omega)))))<|wM<|wE (kW mS)<|wR (qR gN)<|wE (oXO xD (((t.getD k tz).b).toNat) (hj:=by first | omega | (dsimp only;omega)) (h1:=by first | omega | (dsimp only;omega)))<|wR (oQr (jK (o.getD (((t.getD k tz).b).toNat) y2)) (jK (jP ((vU xs t k).getD ((t.getD k tz).b.toNat) 0))) (oLA jR (((t.getD k tz).b).toNat) y2 (h1:=by first | omega | (dsimp only;omega))) (by exact (congrArg jK (hget _ (show (t.getD k tz).b.toNat<k by omega)))))<|wE (kH (f_sub (jP ((vU xs t k).getD ((t.getD k tz).a.toNat) 0)) (jP ((vU xs t k).getD ((t.getD k tz).b.toNat) 0)) ((vU xs t k).getD ((t.getD k tz).a.toNat) 0) ((vU xs t k).getD ((t.getD k tz).b.toNat) 0) (kE (kN (qlg hVq (by decide) ((t.getD k tz).a.toNat)))) (kE (kN (qlg hVq (by decide) ((t.getD k tz).b.toNat))))))<|wE (oXO xD k (hj:=by first | omega | (dsimp only;omega)) (h1:=by first | omega | (dsimp only;omega)))<|wT (oSA jR k (jP (((vU xs t k).getD ((t.getD k tz).a.toNat) 0)-((vU xs t k).getD ((t.getD k tz).b.toNat) 0))))<|wZ) ?_
         refine kx [(37,(jS (k+1)))] [] (zE (vD (k+1))<|zM<|zZ) ?_
         exact ⟨(k+1,o.set k (jP (((vU xs t k).getD ((t.getD k tz).a.toNat) 0)-((vU xs t k).getD ((t.getD k tz).b.toNat) 0)))),wk,⟨by omega,by rw[List.length_set];exact hol,by rw[nY ho (by omega)];exact vU_nx (vV_3 hop)⟩,(by first|omega|(dsimp only;omega))⟩
        ·replace h9:=ne_of_beq_false h9
         refine jB<|kx [(140,(vb ((t.getD k tz).op == ((4:Nat):Int))))] [] (zE nT<|zM<|zZ) ?_
         refine jH (b:=((t.getD k tz).op == ((4:Nat):Int))) rfl (fun h10=>?_) (fun h10=>?_)
         ·replace h10:=eq_of_beq h10
          have hop:=h10
          obtain ⟨⟨a1,a2⟩,b1,b2⟩:=hN.bin (.inr (.inr (.inl h10)))
          have hlt:=hf.lt hk (show k<t.length by omega) (by rw[hop];decide)
          refine kd [] [(2,some (qP jK (o.set k (jP (((vU xs t k).getD ((t.getD k tz).a.toNat) 0)*((vU xs t k).getD ((t.getD k tz).b.toNat) 0))))))] mo (wM<|wM<|wM<|wE (kW xP)<|wR (qR gN)<|wE (oXO xD (((t.getD k tz).a).toNat) (hj:=by first | omega | (dsimp only;omega)) (h1:=by first | omega | (dsimp only;omega)))<|wR (oQr (jK (o.getD (((t.getD k tz).a).toNat) y2)) (jK (jP ((vU xs t k).getD ((t.getD k tz).a.toNat) 0))) (oLA jR (((t.getD k tz).a).toNat) y2 (h1:=by first | omega | (dsimp only;omega))) (by exact (congrArg jK (hget _ (show (t.getD k tz).a.toNat<k by omega)))))<|wM<|wE (kW mS)<|wR (qR gN)<|wE (oXO xD (((t.getD k tz).b).toNat) (hj:=by first | omega | (dsimp only;omega)) (h1:=by first | omega | (dsimp only;omega)))<|wR (oQr (jK (o.getD (((t.getD k tz).b).toNat) y2)) (jK (jP ((vU xs t k).getD ((t.getD k tz).b.toNat) 0))) (oLA jR (((t.getD k tz).b).toNat) y2 (h1:=by first | omega | (dsimp only;omega))) (by exact (congrArg jK (hget _ (show (t.getD k tz).b.toNat<k by omega)))))<|wE (kH (f_mul (jP ((vU xs t k).getD ((t.getD k tz).a.toNat) 0)) (jP ((vU xs t k).getD ((t.getD k tz).b.toNat) 0)) ((vU xs t k).getD ((t.getD k tz).a.toNat) 0) ((vU xs t k).getD ((t.getD k tz).b.toNat) 0) (kE (kN (qlg hVq (by decide) ((t.getD k tz).a.toNat)))) (kE (kN (qlg hVq (by decide) ((t.getD k tz).b.toNat))))))<|wE (oXO xD k (hj:=by first | omega | (dsimp only;omega)) (h1:=by first | omega | (dsimp only;omega)))<|wT (oSA jR k (jP (((vU xs t k).getD ((t.getD k tz).a.toNat) 0)*((vU xs t k).getD ((t.getD k tz).b.toNat) 0))))<|wZ) ?_
          refine kx [(37,(jS (k+1)))] [] (zE (vD (k+1))<|zM<|zZ) ?_
          exact ⟨(k+1,o.set k (jP (((vU xs t k).getD ((t.getD k tz).a.toNat) 0)*((vU xs t k).getD ((t.getD k tz).b.toNat) 0)))),wk,⟨by omega,by rw[List.length_set];exact hol,by rw[nY ho (by omega)];exact vU_nx (vV_4 hop)⟩,(by first|omega|(dsimp only;omega))⟩
         ·replace h10:=ne_of_beq_false h10
          have hop:(t.getD k tz).op=5:=by have h9:=hN.op;omega
          obtain ⟨⟨a1,a2⟩,b1,b2⟩:=hN.bin (.inr (.inr (.inr hop)))
          refine jB<|kx [] [] (zM<|zZ) ?_
          refine jB ?_
          rcases hlt0:(decide (k<k0)) with _ | _
          ·refine kd [(12,(vi (divC ((vU xs t k).getD ((t.getD k tz).b.toNat) 0))))] [(2,some (qP jK (o.set k (divR ((vU xs t k).getD ((t.getD k tz).a.toNat) 0) ((vU xs t k).getD ((t.getD k tz).b.toNat) 0)))))] mo (wM<|wM<|wM<|wE (kW xP)<|wR (qR gN)<|wE (oXO xD (((t.getD k tz).a).toNat) (hj:=by first | omega | (dsimp only;omega)) (h1:=by first | omega | (dsimp only;omega)))<|wR (oQr (jK (o.getD (((t.getD k tz).a).toNat) y2)) (jK (jP ((vU xs t k).getD ((t.getD k tz).a.toNat) 0))) (oLA jR (((t.getD k tz).a).toNat) y2 (h1:=by first | omega | (dsimp only;omega))) (by exact (congrArg jK (hget _ (show (t.getD k tz).a.toNat<k by omega)))))<|wM<|wE (kW mS)<|wR (qR gN)<|wE (oXO xD (((t.getD k tz).b).toNat) (hj:=by first | omega | (dsimp only;omega)) (h1:=by first | omega | (dsimp only;omega)))<|wR (oQr (jK (o.getD (((t.getD k tz).b).toNat) y2)) (jK (jP ((vU xs t k).getD ((t.getD k tz).b.toNat) 0))) (oLA jR (((t.getD k tz).b).toNat) y2 (h1:=by first | omega | (dsimp only;omega))) (by exact (congrArg jK (hget _ (show (t.getD k tz).b.toNat<k by omega)))))<|wE (kH (f_divide (jP ((vU xs t k).getD ((t.getD k tz).a.toNat) 0)) (jP ((vU xs t k).getD ((t.getD k tz).b.toNat) 0)) ((vU xs t k).getD ((t.getD k tz).a.toNat) 0) ((vU xs t k).getD ((t.getD k tz).b.toNat) 0) (kE (kN (qlg hVq (by decide) ((t.getD k tz).a.toNat)))) (kE (kN (qlg hVq (by decide) ((t.getD k tz).b.toNat))))))<|wM<|wE xX<|wE xX<|wE (oXO xD k (hj:=by first | omega | (dsimp only;omega)) (h1:=by first | omega | (dsimp only;omega)))<|wT (oSA jR k (divR ((vU xs t k).getD ((t.getD k tz).a.toNat) 0) ((vU xs t k).getD ((t.getD k tz).b.toNat) 0)))<|wM<|wZ) ?_
           refine jB<|kx [(62,(vb true))] [] (zM<|zE (xC true oNe (by exact bne_iff_ne.2 (by rw[divC_zero (hf.at hk (show k<t.length by omega) hlt0)];decide)))<|zZ) ?_
           refine uG ?_
           refine jB<|kx [(5,(jS 14))] [(0,some y1)] (zE (oBd pl28 uU uX)<|zT (qK jR)<|zM<|zZ) ?_
           refine jE ⟨_,(kQ (cs:=y1) (d:=(jK y2)) rfl rfl jR rfl rfl (.tmp (d:=(.val (.int .i64 (((14:Nat):Int))))) rfl .nil)),?_⟩
           obtain ⟨e1,e2⟩:=hf.no hk (show k<t.length by omega) hlt0 (xs:=xs)
           rw[e1,e2];rfl
          ·refine kd [(12,(vi 0))] [(2,some (qP jK (o.set k (jP (((vU xs t k).getD ((t.getD k tz).a.toNat) 0) / ((vU xs t k).getD ((t.getD k tz).b.toNat) 0))))))] mo (wM<|wM<|wM<|wE (kW xP)<|wR (qR gN)<|wE (oXO xD (((t.getD k tz).a).toNat) (hj:=by first | omega | (dsimp only;omega)) (h1:=by first | omega | (dsimp only;omega)))<|wR (oQr (jK (o.getD (((t.getD k tz).a).toNat) y2)) (jK (jP ((vU xs t k).getD ((t.getD k tz).a.toNat) 0))) (oLA jR (((t.getD k tz).a).toNat) y2 (h1:=by first | omega | (dsimp only;omega))) (by exact (congrArg jK (hget _ (show (t.getD k tz).a.toNat<k by omega)))))<|wM<|wE (kW mS)<|wR (qR gN)<|wE (oXO xD (((t.getD k tz).b).toNat) (hj:=by first | omega | (dsimp only;omega)) (h1:=by first | omega | (dsimp only;omega)))<|wR (oQr (jK (o.getD (((t.getD k tz).b).toNat) y2)) (jK (jP ((vU xs t k).getD ((t.getD k tz).b.toNat) 0))) (oLA jR (((t.getD k tz).b).toNat) y2 (h1:=by first | omega | (dsimp only;omega))) (by exact (congrArg jK (hget _ (show (t.getD k tz).b.toNat<k by omega)))))<|wE (kH (by have h:=f_divide (jP ((vU xs t k).getD ((t.getD k tz).a.toNat) 0)) (jP ((vU xs t k).getD ((t.getD k tz).b.toNat) 0)) ((vU xs t k).getD ((t.getD k tz).a.toNat) 0) ((vU xs t k).getD ((t.getD k tz).b.toNat) 0) (kE (kN (qlg hVq (by decide) ((t.getD k tz).a.toNat)))) (kE (kN (qlg hVq (by decide) ((t.getD k tz).b.toNat))));rw[divR_ne (hf.up.dz k (xF hlt0) hop),divC_ne (hf.up.dz k (xF hlt0) hop)] at h;exact h))<|wM<|wE xX<|wE xX<|wE (oXO xD k (hj:=by first | omega | (dsimp only;omega)) (h1:=by first | omega | (dsimp only;omega)))<|wT (oSA jR k (jP (((vU xs t k).getD ((t.getD k tz).a.toNat) 0) / ((vU xs t k).getD ((t.getD k tz).b.toNat) 0))))<|wM<|wZ) ?_
           refine jB<|kx [(62,(vb false))] [] (zM<|zE (xC false oNe)<|zZ) ?_
           refine qH ?_
           refine jF<|kx [(37,(jS (k+1)))] [] (zE (vD (k+1))<|zM<|zZ) ?_
           exact ⟨(k+1,o.set k (jP (((vU xs t k).getD ((t.getD k tz).a.toNat) 0) / ((vU xs t k).getD ((t.getD k tz).b.toNat) 0)))),wk,⟨by have:=xF hlt0;omega,by rw[List.length_set];exact hol,by rw[nY ho (by omega)];exact vU_nx (vV_5 hop)⟩,(by first|omega|(dsimp only;omega))⟩
  ·replace h3:=xH h3
   refine kK<|jB<|kx [(5,(jS 0))] [(0,some (bx (jK (o.getD (t.length-1) y2))))] (zM<|zM<|zE (oLo xD)<|zE (oSb (t.length-1))<|zE (oXO xD (t.length-1) (hj:=by first | omega | (dsimp only;omega)) (h1:=by first | omega | (dsimp only;omega)))<|zR (oLA jR (t.length-1) y2 (h1:=by first | omega | (dsimp only;omega)))<|zT (qK jR)<|zM<|zZ) ?_
   refine jE ⟨_,(kQ (cs:=(bx (jK (o.getD (t.length-1) y2)))) (d:=(jK (o.getD (t.length-1) y2))) rfl rfl jR rfl rfl (.tmp (d:=(.val (.int .i64 (((0:Nat):Int))))) rfl .nil)),?_⟩
   obtain rfl:k=t.length:=by omega
   obtain rfl:k0=t.length:=by omega
   rw[hget _ (show t.length-1<t.length by omega),vlR_y,vlC_y];rfl
theorem p_val(t:List kI)(ht:TnsOk 1048576 t)(xs:List Rat)(hx:∀ q∈xs,QL q 1048576)(hr:VRun xs t)(hxb:xs.length<=1000000):jW Tryz.prog 10 [(.sl 35 7 (List.map qE t)),(.sl 28 4 (List.map jK (List.map jP xs)))] (.tup [(jK (jP (lastV xs t))),(.val (.int .i64 (((0:Nat):Int))))]):=by
 have h:=p_valU t ht xs hx t.length hr.fin hxb
 rw[vlR_y,vlC_y] at h
 exact h
end Go.Proofs.YtciingpdmjepgabGreatDoor
namespace Go.Fid
def hwT:List kI:=[⟨1,0,0,zr⟩,⟨7,0,0,zr⟩]
def hwX:List Rat:=[((3:Int):Rat)]
def hwP:List Rat:=[((0:Int):Rat),((0:Int):Rat),((1:Int):Rat)]
theorem hwT_ok:∀ x∈hwT,gD x.n (xZ x.n) 1048576:=fun x hx=>by
 have:x.n=zr:=by
  unfold hwT at hx
  simp only[List.mem_cons,List.not_mem_nil,or_false] at hx
  rcases hx with rfl | rfl<;>rfl
 rw[this]
 exact ⟨rfl,by decide,by decide,by decide⟩
theorem hwX_ql:∀ q∈hwX,QL q 1048576:=by unfold hwX QL;decide +kernel
theorem hwP_ql:∀ q∈hwP,QL q 40:=by unfold hwP QL;decide +kernel
theorem hw_run:VRun hwX hwT:=by
 refine ⟨by decide +kernel,⟨fun k hk=>?_,fun k hk=>?_⟩⟩
 ·match k,hk with
  |0,_=>unfold QL;decide +kernel
  |1,_=>unfold QL;decide +kernel
 ·match k,hk with
  |0,_=>intro h;revert h;decide
  |1,_=>intro h;revert h;decide
theorem hw_9:lastV hwX hwT=((9:Int):Rat):=by decide +kernel
theorem hw_e:yY ((3:Int):Rat) hwP=((9:Int):Rat):=by decide +kernel
end Go.Fid
namespace Go.Proofs.YtciingpdmjepgabGreatDoor
open Go.Fid
theorem pl35:mP Tryz.prog 35=some [(0,1),(1,1),(2,1),(3,4)]:=by kernel_rfl
theorem bD(p:Rat)(hp:QL p 1048576)(q:Rat)(hq:QL q 1048576):jW Tryz.prog 14 [(jK (jP p)),(jK (jP q))] (.val (.bool ((decide (p=q))))):=by
 refine uW Tryz.func14 ?_
 refine jB<|kx [(2,(.ref 0 0)),(3,(.ref 1 0))] [(0,some (bx (jK (jP p)))),(1,some (bx (jK (jP q))))] (zN (xA 0)<|zN (xA 1)<|zM<|zZ) ?_
 refine jB<|kx [(4,(vb (decide (p=q))))] [] (zR (kT jR)<|zR (kT jR)<|zE (kH (by have h:=g_same (jP p) (jP q) p q (kE (kN hp)) (kE (kN hq));rw[sameR_of] at h;exact h))<|zM<|zZ) ?_
 refine jE ⟨_,(.tmp (d:=(.val (.bool ((decide (p=q)))))) rfl .nil),?_⟩
 rfl
theorem h_int(z:Nat)(hz:z<=9):jW Tryz.prog 16 [(.val (.int .i64 (((z:Nat):Int))))] (jK (jP ((((z:Nat):Int):Int):Rat))):=by
 refine uW Tryz.func16 ?_
 refine jB<|kx [(2,(.ref 0 0))] [(0,some (bx (jK qY)))] (zN (uT 0 uU uX)<|zZ) ?_
 refine jB<|kx [] [(0,some (bx (jK (jP ((((z:Nat):Int):Int):Rat)))))] (zM<|zE (kH (g_whole ((z:Nat):Int) (by omega) (by omega)))<|zT (qK jR)<|zZ) ?_
 refine jE ⟨_,(kQ (cs:=(bx (jK (jP ((((z:Nat):Int):Int):Rat))))) (d:=(jK (jP ((((z:Nat):Int):Int):Rat)))) rfl rfl jR rfl rfl .nil),?_⟩
 rfl
theorem h_awake :jW Tryz.prog 4 [] (.val (.bool (true))):=by
 refine uW Tryz.func4 ?_
 refine jB<|kx [] [] (zM<|zZ) ?_
 refine jB ?_
 have bn1:QL ((((3:Nat):Int):Int):Rat) 3:=(mI (mR (by omega) (by omega)))
 refine kx [(1,(.ref 0 0)),(2,(jS 0))] [(0,some (bx (jK (jP ((9:Int):Rat)))))] (zE (oBd pl35 ze35 zo35)<|zE (oBd pl35 ze35 zo35)<|zE (oQd (.sl 35 7 (List.map qE [(kI.mk ((1:Nat):Int) 0 0 qY),(kI.mk ((7:Nat):Int) 0 0 qY)])) (.sl 35 7 (List.map qE hwT)) (dM el37 ze35 zo35) (by exact rfl))<|zE (kH (h_int 3 (by omega)))<|zE (oQd (.sl 28 4 (List.map jK [(jP ((((3:Nat):Int):Int):Rat))])) (.sl 28 4 (List.map jK (List.map jP hwX))) (dM xD uU uX) (by exact rfl))<|zE (kH (p_val hwT hwT_ok hwX hwX_ql hw_run (by decide)))<|zM<|zE (oQd (jK (jP (lastV hwX hwT))) (jK (jP ((9:Int):Rat))) xX (by exact (congrArg (fun q=>jK (jP q)) hw_9)))<|zE xX<|zN (uT 0 uU uX)<|zT (qK jR)<|zM<|zZ) ?_
 refine jB ?_
 have bn2:QL ((((9:Nat):Int):Int):Rat) 3:=(mI (mR (by omega) (by omega)))
 have bn3:QL ((((0:Nat):Int):Int):Rat) 3:=(mI (mR (by omega) (by omega)))
 have bn4:QL ((((1:Nat):Int):Int):Rat) 3:=(mI (mR (by omega) (by omega)))
 refine kd [(0,(vb true))] [] mo (wM<|wE (xC true nT)<|wM<|wR (kT jR)<|wE (kH (h_int 9 (by omega)))<|wE (xC true (kH (bD ((9:Int):Rat) (kS (mI (mR))) ((((9:Nat):Int):Int):Rat) (kS bn2))) (by exact decide_eq_true rfl))<|wE yT<|wM<|wE (kH (h_int 0 (by omega)))<|wE (kH (h_int 0 (by omega)))<|wE (kH (h_int 1 (by omega)))<|wE (oQd (.sl 28 4 (List.map jK [(jP ((((0:Nat):Int):Int):Rat)),(jP ((((0:Nat):Int):Int):Rat)),(jP ((((1:Nat):Int):Int):Rat))])) (.sl 28 4 (List.map jK (List.map jP hwP))) (dM eN uU uX) (by exact rfl))<|wE (kH (h_int 3 (by omega)))<|wE (oQd (jK (jP (yY ((((3:Nat):Int):Int):Rat) hwP))) (jK (jP ((9:Int):Rat))) (kH (y_ev hwP hwP_ql ((((3:Nat):Int):Int):Rat) (kS bn1) (by decide))) (by exact (congrArg (fun q=>jK (jP q)) hw_e)))<|wE (kH (h_int 9 (by omega)))<|wE (xC true (kH (bD ((9:Int):Rat) (kS (mI (mR))) ((((9:Nat):Int):Int):Rat) (kS bn2))) (by exact decide_eq_true rfl))<|wE yT<|wM<|wZ) ?_
 refine jE ⟨_,(.tmp (d:=(.val (.bool (true)))) rfl .nil),?_⟩
 rfl
theorem row_2{x d:kP}{p q:Rat}{n:Nat}(hx:gD x p n)(hd:gD d q n):RowOk n [x,d]:=by
 refine ⟨fun y hy=>?_,by simp⟩
 simp only[List.mem_cons,List.not_mem_nil,or_false] at hy
 rcases hy with rfl | rfl
 ·rw[hx.v];exact hx
 ·rw[hd.v];exact hd
def grH(p:List kP)(x d:kP):Bool:=(((((!(vaP p)||decide (((p.length:Nat):Int)<((1:Nat):Int)))||!(shR 6 2 p))||!(kL x))||!(kL d))||!(shR 2 2 [x,d]))
theorem u_brief(x:kP)(p:Rat)(hx:gD x p 140737488355328):jW Tryz.prog 20 [(jK x)] (.val (.bool ((brX x)))):=by
 refine uW Tryz.func20 ?_
 refine jB<|kx [(1,(.ref 0 0))] [(0,some (bx (jK x)))] (zN (xA 0)<|zM<|zZ) ?_
 refine jB<|kd [(3,(vl 74 1 jC x.num.gs)),(4,(vl 74 1 jC x.den.gs))] [] mo (wE (kW xN)<|wE (kW uR)<|wR (qR vZ)<|wE (kW vQ)<|wE (kW uR)<|wR (qR vZ)<|wM<|wM<|wZ) ?_
 refine jB<|jB<|kx [(18,(vb (decide (1<((x.num.gs.length:Nat):Int))||decide (1<((x.den.gs.length:Nat):Int)))))] [] ?_ ?_
 ·refine zM<|zE (zV kC)<|zE mB<|zE (oV (vb (decide (1<((x.num.gs.length:Nat):Int)))) (qF (by kernel_rfl)))<|?_
  rcases hb1:(decide (1<((x.num.gs.length:Nat):Int))) with _ | _
  ·replace hb1:=xH hb1
   exact zM<|zE (zV kC)<|zE mB<|zE aG<|zZ
  ·replace hb1:=xF hb1
   exact zK<|zK<|zK<|zE yT<|zZ
 refine jH rfl (fun h2=>?_) (fun h2=>?_)
 ·refine jB<|kx [(2,(vb false))] [] (zM<|zZ) ?_
  refine jE ⟨_,(.tmp (d:=(.val (.bool (false)))) rfl .nil),?_⟩
  unfold brX;rw[if_pos h2];rfl
 ·refine jF<|jB<|kx [(2,(vb (((((x.num.gs.length:Nat):Int) == 0)||decide ((((x.num.gs.getD 0 0):Nat):Int)<100000))&&((((x.den.gs.length:Nat):Int) == 0)||decide ((((x.den.gs.getD 0 0):Nat):Int)<=100)))))] [] ?_ ?_
  ·refine zM<|zE (zV kC)<|zE nT<|zE (oV (vb (((x.num.gs.length:Nat):Int) == 0)) (qF (by kernel_rfl)))<|?_
   rcases hb3:(((x.num.gs.length:Nat):Int) == 0) with _ | _
   ·replace hb3:=ne_of_beq_false hb3
    refine zM<|zE (dS kC 0 (0:Nat))<|zE (gJ uK)<|zE xO<|zE aG<|zE (oV (vb (false||decide ((((x.num.gs.getD 0 0):Nat):Int)<100000))) (qF (by kernel_rfl)))<|?_
    rcases hb4:(false||decide ((((x.num.gs.getD 0 0):Nat):Int)<100000)) with _ | _
    ·exact zK<|zK<|zK<|zK<|zK<|zK<|zK<|zK<|zK<|zE gK<|zM<|zZ
    ·refine zM<|zE (zV kC)<|zE nT<|zE (oV (vb (((x.den.gs.length:Nat):Int) == 0)) (qF (by kernel_rfl)))<|?_
     rcases hb5:(((x.den.gs.length:Nat):Int) == 0) with _ | _
     ·replace hb5:=ne_of_beq_false hb5
      exact zM<|zE (dS kC 0 (0:Nat))<|zE (gJ uK)<|zE oLe<|zE aG<|zE oPa<|zM<|zZ
     ·replace hb5:=eq_of_beq hb5
      exact zK<|zK<|zK<|zK<|zE yT<|zE yT<|zM<|zZ
   ·replace hb3:=eq_of_beq hb3
    refine zK<|zK<|zK<|zK<|zE yT<|zM<|zM<|zE (zV kC)<|zE nT<|zE (oV (vb (((x.den.gs.length:Nat):Int) == 0)) (qF (by kernel_rfl)))<|?_
    rcases hb6:(((x.den.gs.length:Nat):Int) == 0) with _ | _
    ·replace hb6:=ne_of_beq_false hb6
     exact zM<|zE (dS kC 0 (0:Nat))<|zE (gJ uK)<|zE oLe<|zE aG<|zE oPa<|zM<|zZ
    ·replace hb6:=eq_of_beq hb6
     exact zK<|zK<|zK<|zK<|zE yT<|zE yT<|zM<|zZ
  refine jE ⟨_,(.tmp (d:=(.val (.bool ((((((x.num.gs.length:Nat):Int) == 0)||decide ((((x.num.gs.getD 0 0):Nat):Int)<100000))&&((((x.den.gs.length:Nat):Int) == 0)||decide ((((x.den.gs.getD 0 0):Nat):Int)<=100))))))) rfl .nil),?_⟩
  unfold brX;rw[if_neg (by rw[h2];decide)];rfl
theorem u_short(l:List kP)(hl:RowOk 140737488355328 l)(c:Nat)(hc:c<=1000)(n:Nat)(hn:n<=1000):jW Tryz.prog 6 [(.sl 28 4 (List.map jK l)),(.val (.int .i64 (((c:Nat):Int)))),(.val (.int .i64 (((n:Nat):Int))))] (.val (.bool ((shR c n l)))):=by
 have hb:=hl.2
 let y1:=qY
 refine uW Tryz.func6 ?_
 refine jB<|kx [] [] (zM<|zZ) ?_
 refine jB<|jB<|kx [(11,(vb (decide (((c:Nat):Int)<((l.length:Nat):Int)))))] [] (zM<|zE (zV xD)<|zM<|zE mB<|zZ) ?_
 refine jH rfl (fun h1=>?_) (fun h1=>?_)
 ·replace h1:=xF h1
  refine jB<|kx [(6,(vb false))] [] (zM<|zZ) ?_
  refine jE ⟨_,(.tmp (d:=(.val (.bool (false)))) rfl .nil),?_⟩
  rw[shR_long (by omega)];rfl
 ·replace h1:=xH h1
  have hlk:=h1
  refine jF<|jB<|jB<|kx [(7,(jS 0))] [] (zM<|zZ) ?_
  refine jG<|kU (α:=Nat) (fun i=>⟨[(0,(vl 28 4 jK l)),(2,(jS n)),(7,(jS i))],[]⟩) (fun i=>i<=l.length/\(l.take i).all (shX n)=true) (fun i=>l.length-i) 0 wk ⟨Nat.zero_le _,by simp⟩ ?_
  rintro i ⟨hi,hal⟩
  refine jB<|jB<|kx [(15,(vb (decide (((i:Nat):Int)<((l.length:Nat):Int)))))] [] (zM<|zM<|zE (zV xD)<|zE xO<|zZ) ?_
  refine jH rfl (fun h2=>?_) (fun h2=>?_)
  ·replace h2:=xF h2
   refine jF<|jB<|jG<|jB<|kx [(36,(vb (decide (((n:Nat):Int)<(((digR (l.getD i y1)):Nat):Int))||(decide (((n:Nat):Int)<=6)&&!(brX (l.getD i y1))))))] [] ?_ ?_
   ·refine zM<|zM<|zE (dS xD i y1)<|zE (nX jR)<|zE (kH (g_digits (l.getD i y1) (xZ (l.getD i y1)) (qok_at hl.1 (show i<l.length by omega))))<|zM<|zE mB<|zE (oV (vb (decide (((n:Nat):Int)<(((digR (l.getD i y1)):Nat):Int)))) (qF (by kernel_rfl)))<|?_
    rcases hb3:(decide (((n:Nat):Int)<(((digR (l.getD i qY)):Nat):Int))) with _ | _
    ·replace hb3:=xH hb3
     refine zM<|zE oLe<|zE (oV (vb (decide (((n:Nat):Int)<=6))) (qF (by kernel_rfl)))<|?_
     rcases hb4:(decide (((n:Nat):Int)<=6)) with _ | _
     ·replace hb4:=xH hb4
      exact zK<|zK<|zK<|zK<|zK<|zK<|zE gK<|zE gK<|zZ
     ·replace hb4:=xF hb4
      exact zM<|zM<|zE (dS xD i y1)<|zE (nX jR)<|zE (kH (u_brief (l.getD i y1) (xZ (l.getD i y1)) (qok_at hl.1 (show i<l.length by omega))))<|zE eL<|zE oPa<|zE aG<|zZ
    ·replace hb3:=xF hb3
     exact zK<|zK<|zK<|zK<|zK<|zK<|zK<|zK<|zK<|zK<|zE yT<|zZ
   refine jH rfl (fun h5=>?_) (fun h5=>?_)
   ·refine jB<|kx [(6,(vb false))] [] (zM<|zZ) ?_
    refine jE ⟨_,(.tmp (d:=(.val (.bool (false)))) rfl .nil),?_⟩
    rw[shR_no (all_no (i:=i) (d:=qY) (by omega) (shX_t h5))];rfl
   ·have hfi:shX n (l.getD i qY)=true:=shX_f h5
    refine jF<|kx [(7,(jS (i+1)))] [] (zM<|zE (vD (i+1))<|zM<|zZ) ?_
    exact ⟨(i+1),wk,⟨by omega,all_up (d:=qY) (by omega) hal hfi⟩,(by omega)⟩
  ·replace h2:=xH h2
   have hie:i=l.length:=by omega
   rw[hie,List.take_length] at hal
   refine kK<|jB<|kx [(6,(vb true))] [] (zM<|zZ) ?_
   refine jE ⟨_,(.tmp (d:=(.val (.bool (true)))) rfl .nil),?_⟩
   rw[shR_yes hlk hal];rfl
theorem w_hg(p:List kP)(hp:RowOk 35184372087808 p)(x:kP)(xq:Rat)(hx:gD x xq 35184372087808)(d:kP)(dq:Rat)(hd:gD d dq 35184372087808)(hb:p.length<=140737488355328)(hg:grH p x d=true):jW Tryz.prog 3 [(.sl 28 4 (List.map jK p)),(jK x),(jK d)] (.val (.bool (true))):=by
 have hxd:RowOk 35184372087808 [x,d]:=row_2 hx hd
 refine uW Tryz.func3 ?_
 refine jB<|kx [(4,(.ref 0 0)),(5,(.ref 1 0))] [(0,some (bx (jK x))),(1,some (bx (jK d)))] (zN (xA 0)<|zN (xA 1)<|zM<|zZ) ?_
 refine jB<|jB<|kx [(24,(vb false))] [] (zE (kH h_awake)<|zE eL<|zZ) ?_
 refine qH ?_
 refine jF<|jB<|jB<|kx [(54,(vb (((((!(vaP p)||decide (((p.length:Nat):Int)<((1:Nat):Int)))||!(shR 6 2 p))||!(kL x))||!(kL d))||!(shR 2 2 [x,d]))))] [] ?_ ?_
 ·refine zM<|zE (kH (y_va p hp hb))<|zE eL<|zE (oV (vb (!(vaP p))) (qF (by kernel_rfl)))<|?_
  rcases hb1:(!(vaP p)) with _ | _
  ·refine zM<|zE (zV eN)<|zE xO<|zE aG<|zE (oV (vb (false||decide (((p.length:Nat):Int)<((1:Nat):Int)))) (qF (by kernel_rfl)))<|?_
   rcases hb2:(false||decide (((p.length:Nat):Int)<((1:Nat):Int))) with _ | _
   ·replace hb2:=xH (p:=(((p.length:Nat):Int)<((1:Nat):Int))) hb2
    refine zM<|zE (kH (u_short p (row_up hp) 6 (by omega) 2 (by omega)))<|zE eL<|zE aG<|zE (oV (vb (false||!(shR 6 2 p))) (qF (by kernel_rfl)))<|?_
    rcases hb3:(false||!(shR 6 2 p)) with _ | _
    ·refine zR (kT jR)<|zE (kH (aQ x xq hx))<|zE eL<|zE aG<|zE (oV (vb (false||!(kL x))) (qF (by kernel_rfl)))<|?_
     rcases hb4:(false||!(kL x)) with _ | _
     ·refine zR (kT jR)<|zE (kH (aQ d dq hd))<|zE eL<|zE aG<|zE (oV (vb (false||!(kL d))) (qF (by kernel_rfl)))<|?_
      rcases hb5:(false||!(kL d)) with _ | _
      ·exact zR (kT jR)<|zR (kT jR)<|zE (oQd (.sl 28 4 (List.map jK [x,d])) (.sl 28 4 (List.map jK [x,d])) (dM xD uU uX) (by exact rfl))<|zE (kH (u_short [x,d] (row_up hxd) 2 (by omega) 2 (by omega)))<|zE eL<|zE aG<|zZ
      ·exact zK<|zK<|zK<|zK<|zK<|zE yT<|zZ
     ·exact zK<|zK<|zK<|zE yT<|zM<|zK<|zK<|zK<|zK<|zK<|zE yT<|zZ
    ·exact zK<|zK<|zK<|zE yT<|zM<|zK<|zK<|zK<|zE yT<|zM<|zK<|zK<|zK<|zK<|zK<|zE yT<|zZ
   ·replace hb2:=xF (p:=(((p.length:Nat):Int)<((1:Nat):Int))) hb2
    exact zK<|zK<|zK<|zE yT<|zM<|zK<|zK<|zK<|zE yT<|zM<|zK<|zK<|zK<|zE yT<|zM<|zK<|zK<|zK<|zK<|zK<|zE yT<|zZ
  ·exact zK<|zK<|zK<|zE yT<|zM<|zK<|zK<|zK<|zE yT<|zM<|zK<|zK<|zK<|zE yT<|zM<|zK<|zK<|zK<|zE yT<|zM<|zK<|zK<|zK<|zK<|zK<|zE yT<|zZ
 refine jH rfl (fun h6=>?_) (fun h6=>?_)
 ·refine jB<|kx [(6,(vb true))] [] (zM<|zZ) ?_
  refine jE ⟨_,(.tmp (d:=(.val (.bool (true)))) rfl .nil),?_⟩
  rfl
 ·exact absurd ((show grH p x d=false from h6).symm.trans hg) (by decide)
end Go.Proofs.YtciingpdmjepgabGreatDoor
