/- Part 18 of a proof: rules, plain facts, and functions walked. -/
import Derived.Test.YtciingpdmjepgaaGreatM17
set_option linter.all false
set_option maxRecDepth 4000
namespace Go.Proofs.YtciingpdmjepgaaGreat
open Go.Fid
theorem r_neg(x:kR)(hx:x.gs.length<=1099511627776):jU Tryz.prog 109 [(jL x)] (jL (kG (-qB x))):=by
 have hvx:=gs_val2 x
 refine vD Tryz.func109 ?_
 refine jA<|kx [(1,(.ref 0 0)),(2,(.ref 1 0))] [(0,some (bx (jL x))),(1,some (bx (jL (kR.mk false []))))] (zN (yB 0)<|zN (vL 1 vY vZ)<|zZ) ?_
 refine jA<|kx [] [(0,some (bx (jL (kG (qB x)))))] (zR (qE jP)<|zE (kD (r_value x (by omega)))<|zT (qO jP)<|zZ) ?_
 refine jA<|kx [] [(1,some (bx (jL (xV (!((kG (qB x)).neg)) (val (ofNat (Int.natAbs (qB x))))))))] (zE (jY vT)<|zR (jZ aH)<|zE eU<|zE (jY gN)<|zR (jZ gM)<|zE (kD (nE (!((kG (qB x)).neg)) (ofNat (Int.natAbs (qB x))) (by first | assumption | exact kB _ | exact (kZ _).1 | exact (kX _).1) (by omega)))<|zT (qO jP)<|zZ) ?_
 refine jG ⟨_,(qK (cs:=(bx (jL (xV (!((kG (qB x)).neg)) (val (ofNat (Int.natAbs (qB x)))))))) (d:=(jL (xV (!((kG (qB x)).neg)) (val (ofNat (Int.natAbs (qB x))))))) rfl rfl jP rfl rfl .nil),?_⟩
 rw[<- rneg_eq];rfl
theorem r_sign(x:kR)(hx:x.gs.length<=1099511627776):jU Tryz.prog 25 [(jL x)] (.val (.int .i64 ((kW (qB x))))):=by
 have hvx:=gs_val2 x
 refine vD Tryz.func25 ?_
 refine jA<|kx [(1,(.ref 0 0))] [(0,some (bx (jL x)))] (zN (yB 0)<|zM<|zZ) ?_
 refine jA<|kx [] [(0,some (bx (jL (kG (qB x)))))] (zR (qE jP)<|zE (kD (r_value x (by omega)))<|zT (qO jP)<|zZ) ?_
 refine jA<|jA<|kx [(8,(vb ((((ofNat (Int.natAbs (qB x))).length:Nat):Int) == 0)))] [] (zE (jY gN)<|zR (jZ gM)<|zE (vV kE (L:=(ofNat (Int.natAbs (qB x)))))<|zE zW<|zZ) ?_
 refine jF rfl (fun h1=>?_) (fun h1=>?_)
 ·replace h1:=eq_of_beq h1
  refine jA<|kx [(2,(jN 0))] [] (zM<|zZ) ?_
  refine jG ⟨_,(.tmp (d:=(.val (.int .i64 (0)))) rfl .nil),?_⟩
  rw[rsign_zero h1];rfl
 ·replace h1:=ne_of_beq_false h1
  refine jD<|jA<|jA<|kx [(10,(vb ((kG (qB x)).neg)))] [] (zE (jY vT)<|zR (jZ aH)<|zZ) ?_
  refine jF (b:=(kG (qB x)).neg) rfl (fun h2=>?_) (fun h2=>?_)
  ·refine jA<|kx [(2,(vi (-1)))] [] (zM<|zZ) ?_
   refine jG ⟨_,(.tmp (d:=(.val (.int .i64 (-1)))) rfl .nil),?_⟩
   rw[rsign_neg h1 h2];rfl
  ·refine jD<|jA<|kx [(2,(jN 1))] [] (zM<|zZ) ?_
   refine jG ⟨_,(.tmp (d:=(.val (.int .i64 (1)))) rfl .nil),?_⟩
   rw[rsign_pos h1 h2];rfl
theorem r_add(x:kR)(y:kR)(hx:x.gs.length<=1099511627776)(hy:y.gs.length<=1099511627776):jU Tryz.prog 108 [(jL x),(jL y)] (jL (kG (qB x+qB y))):=by
 have hvx:=gs_val2 x
 have hvy:=gs_val2 y
 refine vD Tryz.func108 ?_
 refine jA<|kx [(2,(.ref 0 0)),(3,(.ref 1 0)),(4,(.ref 2 0))] [(0,some (bx (jL x))),(1,some (bx (jL y))),(2,some (bx (jL (kR.mk false []))))] (zN (yB 0)<|zN (yB 1)<|zN (vL 2 vY vZ)<|zZ) ?_
 refine jA<|kd [] [(0,some (bx (jL (kG (qB x))))),(1,some (bx (jL (kG (qB y)))))] mo (wR (qE jP)<|wE (kD (r_value x (by omega)))<|wR (qE jP)<|wE (kD (r_value y (by omega)))<|wT (qO jP)<|wT (qO jP)<|wZ) ?_
 refine jA<|jA<|kx [(13,(vb (((kG (qB x)).neg) == ((kG (qB y)).neg))))] [] (zE (jY vT)<|zR (jZ aH)<|zE (jY vT)<|zR (jZ aH)<|zE (oEb bo4)<|zZ) ?_
 refine jF rfl (fun h1=>?_) (fun h1=>?_)
 ·replace h1:=eq_of_beq h1
  refine jA<|kd [] [(2,some (bx (jL (xV ((kG (qB x)).neg) (val (ofNat (val (ofNat (Int.natAbs (qB x)))+val (ofNat (Int.natAbs (qB y))))))))))] mo (wE (jY vT)<|wR (jZ aH)<|wE (jY gN)<|wR (jZ gM)<|wE (jY gN)<|wR (jZ gM)<|wE (kD (r_plus (ofNat (Int.natAbs (qB x))) (ofNat (Int.natAbs (qB y))) (by first | assumption | exact kB _ | exact (kZ _).1 | exact (kX _).1) (by first | assumption | exact kB _ | exact (kZ _).1 | exact (kX _).1) (by omega) (by omega)))<|wE (kD (nE ((kG (qB x)).neg) (ofNat (val (ofNat (Int.natAbs (qB x)))+val (ofNat (Int.natAbs (qB y))))) (by first | assumption | exact kB _ | exact (kZ _).1 | exact (kX _).1) (by first | omega | exact Nat.le_trans (add_len (kB _) (kB _)) (by omega) | exact Nat.le_trans (sub_len (kB _)) (by omega))))<|wT (qO jP)<|wZ) ?_
  refine jG ⟨_,(qK (cs:=(bx (jL (xV ((kG (qB x)).neg) (val (ofNat (val (ofNat (Int.natAbs (qB x)))+val (ofNat (Int.natAbs (qB y)))))))))) (d:=(jL (xV ((kG (qB x)).neg) (val (ofNat (val (ofNat (Int.natAbs (qB x)))+val (ofNat (Int.natAbs (qB y))))))))) rfl rfl jP rfl rfl .nil),?_⟩
  rw[<- rsum_same h1];rfl
 ·replace h1:=ne_of_beq_false h1
  refine jD<|jA<|jA<|kx [(27,(vb (decide (0<=(uM ((val (ofNat (Int.natAbs (qB x))):Nat):Int) ((val (ofNat (Int.natAbs (qB y))):Nat):Int))))))] [] (zE (jY gN)<|zR (jZ gM)<|zE (jY gN)<|zR (jZ gM)<|zE (kD (r_size (ofNat (Int.natAbs (qB x))) (ofNat (Int.natAbs (qB y))) (by first | assumption | exact kZ _ | exact kX _) (by first | assumption | exact kZ _ | exact kX _) (by omega) (by omega)))<|zE oGe<|zZ) ?_
  refine jF rfl (fun h2=>?_) (fun h2=>?_)
  ·replace h2:=uY h2
   refine jA<|kd [] [(2,some (bx (jL (xV ((kG (qB x)).neg) (val (ofNat (val (ofNat (Int.natAbs (qB x)))-val (ofNat (Int.natAbs (qB y))))))))))] mo (wE (jY vT)<|wR (jZ aH)<|wE (jY gN)<|wR (jZ gM)<|wE (jY gN)<|wR (jZ gM)<|wE (kD (r_minus (ofNat (Int.natAbs (qB x))) (ofNat (Int.natAbs (qB y))) (by first | assumption | exact kB _ | exact (kZ _).1 | exact (kX _).1) (by first | assumption | exact kB _ | exact (kZ _).1 | exact (kX _).1) (by have:=aS h2;omega) (by omega)))<|wE (kD (nE ((kG (qB x)).neg) (ofNat (val (ofNat (Int.natAbs (qB x)))-val (ofNat (Int.natAbs (qB y))))) (by first | assumption | exact kB _ | exact (kZ _).1 | exact (kX _).1) (by first | omega | exact Nat.le_trans (add_len (kB _) (kB _)) (by omega) | exact Nat.le_trans (sub_len (kB _)) (by omega))))<|wT (qO jP)<|wZ) ?_
   refine jG ⟨_,(qK (cs:=(bx (jL (xV ((kG (qB x)).neg) (val (ofNat (val (ofNat (Int.natAbs (qB x)))-val (ofNat (Int.natAbs (qB y)))))))))) (d:=(jL (xV ((kG (qB x)).neg) (val (ofNat (val (ofNat (Int.natAbs (qB x)))-val (ofNat (Int.natAbs (qB y))))))))) rfl rfl jP rfl rfl .nil),?_⟩
   rw[<- rsum_first h1 (by have:=aS h2;omega)];rfl
  ·replace h2:=uZ h2
   refine jD<|jA<|kd [] [(2,some (bx (jL (xV ((kG (qB y)).neg) (val (ofNat (val (ofNat (Int.natAbs (qB y)))-val (ofNat (Int.natAbs (qB x))))))))))] mo (wE (jY vT)<|wR (jZ aH)<|wE (jY gN)<|wR (jZ gM)<|wE (jY gN)<|wR (jZ gM)<|wE (kD (r_minus (ofNat (Int.natAbs (qB y))) (ofNat (Int.natAbs (qB x))) (by first | assumption | exact kB _ | exact (kZ _).1 | exact (kX _).1) (by first | assumption | exact kB _ | exact (kZ _).1 | exact (kX _).1) (by have:=cmpI_lt h2;omega) (by omega)))<|wE (kD (nE ((kG (qB y)).neg) (ofNat (val (ofNat (Int.natAbs (qB y)))-val (ofNat (Int.natAbs (qB x))))) (by first | assumption | exact kB _ | exact (kZ _).1 | exact (kX _).1) (by first | omega | exact Nat.le_trans (add_len (kB _) (kB _)) (by omega) | exact Nat.le_trans (sub_len (kB _)) (by omega))))<|wT (qO jP)<|wZ) ?_
   refine jG ⟨_,(qK (cs:=(bx (jL (xV ((kG (qB y)).neg) (val (ofNat (val (ofNat (Int.natAbs (qB y)))-val (ofNat (Int.natAbs (qB x)))))))))) (d:=(jL (xV ((kG (qB y)).neg) (val (ofNat (val (ofNat (Int.natAbs (qB y)))-val (ofNat (Int.natAbs (qB x))))))))) rfl rfl jP rfl rfl .nil),?_⟩
   rw[<- rsum_second h1 (by have:=cmpI_lt h2;omega)];rfl
theorem r_sub(x:kR)(y:kR)(hx:x.gs.length<=1099511627776)(hy:y.gs.length<=1099511627776):jU Tryz.prog 91 [(jL x),(jL y)] (jL (kG (qB x-qB y))):=by
 have hv:=gs_neg y
 refine vD Tryz.func91 ?_
 refine jA<|kx [(2,(.ref 0 0)),(3,(.ref 1 0)),(4,(.ref 2 0))] [(0,some (bx (jL x))),(1,some (bx (jL y))),(2,some (bx (jL (kR.mk false []))))] (zN (yB 0)<|zN (yB 1)<|zN (vL 2 vY vZ)<|zZ) ?_
 refine jA<|kd [] [(2,some (bx (jL (kG (qB x+qB (kG (-qB y)))))))] mo (wR (qE jP)<|wR (qE jP)<|wE (kD (r_neg y (by omega)))<|wE (kD (r_add x (kG (-qB y)) (by omega) (by omega)))<|wT (qO jP)<|wZ) ?_
 refine jG ⟨_,(qK (cs:=(bx (jL (kG (qB x+qB (kG (-qB y))))))) (d:=(jL (kG (qB x+qB (kG (-qB y)))))) rfl rfl jP rfl rfl .nil),?_⟩
 rw[toZ_ofZ,<- Int.sub_eq_add_neg];rfl
theorem r_short(a:List Nat)(d:Nat)(hda:Dig a)(hd0:0<d)(hd1:d<=1000000000)(hla:a.length<=17592186044416):jU Tryz.prog 110 [(.sl 135 1 (List.map jC a)),(.val (.int .u64 (((d:Nat):Int))))] (.tup [(.sl 135 1 (List.map jC (ofNat (val a / d)))),(.val (.int .u64 ((((val a % d):Nat):Int))))]):=by
 refine vD Tryz.func110 ?_
 refine jA<|kx [] [] (zE (fH 135 1)<|zM<|zZ) ?_
 refine jA<|kx [(6,(.own 0 135 1 a.length))] [(0,some (bm jC (List.replicate a.length 0)))] (zM<|zE (vV kE)<|zN (oMk 0 jC (0:Nat) a.length a.length kE uW xY nC)<|zM<|zZ) ?_
 refine jA<|kx [(7,(yH 0))] [] (zM<|zZ) ?_
 refine jA<|jA<|kx [(8,(vi (((a.length:Nat):Int)-1)))] [] (zM<|zE (vV kE)<|zE (zSb (((a.length:Nat):Int)-1))<|zM<|zZ) ?_
 refine jH<|kF (α:=Nat × List Nat × Nat) (fun (k,q,vE)=>⟨[(0,(vl 135 1 jC a)),(1,(yH d)),(6,(.own 0 135 1 a.length)),(7,(yH vE)),(8,(vi (((k:Nat):Int)-1)))],[(0,some (bm jC q))]⟩) (fun (k,q,vE)=>k<=a.length/\q.length=a.length/\Dig q/\vE<d/\val (a.drop k)=val (q.drop k)*d+vE) (fun (k,q,vE)=>k) (a.length,List.replicate a.length 0,0) wk ⟨Nat.le_refl _,by simp,xF _,hd0,by simp [val]⟩ ?_
 rintro ⟨k,q,vE⟩ ⟨hk,uB,hdq,hr,hv⟩
 refine jA<|jA<|kx [(17,(vb (decide (0<=(((k:Nat):Int)-1)))))] [] (zM<|zE oGe<|zZ) ?_
 refine jF (b:=decide (0<=(((k:Nat):Int)-1))) rfl (fun h1=>?_) (fun h1=>?_)
 ·replace h1:=uY h1
  obtain ⟨i,rfl⟩:∃ i,k=i+1:=⟨k-1,by omega⟩
  rw[show (((i+1:Nat):Int)-1)=((i:Nat):Int) from by omega]
  have hg:=hda.getD i
  obtain ⟨hb1,hb2⟩:=short_bound hr hd1 hg
  refine jD<|jA<|jH<|jA<|kx [(8,(jN i)),(9,(yH ((vE*1000000000)+(a.getD i 0))))] [] (zM<|zE (oMl (vE*1000000000))<|zM<|zM<|zE (nA kE i (0:Nat))<|zE (mV qM)<|zE (nR xW xM (a.getD i 0))<|zE (uL ((vE*1000000000)+(a.getD i 0)))<|zM<|zZ) ?_
  refine jA<|kx [] [(0,some (bm jC (q.set i (((vE*1000000000)+(a.getD i 0)) / d))))] (zM<|zM<|zM<|zM<|zE (oQu (((vE*1000000000)+(a.getD i 0)) / d))<|zE (nR yS yT (((vE*1000000000)+(a.getD i 0)) / d))<|zE (oXo kE i)<|zT (oSp qM i (((vE*1000000000)+(a.getD i 0)) / d))<|zZ) ?_
  refine kx [(7,(yH (((vE*1000000000)+(a.getD i 0)) % d)))] [] (zM<|zM<|zE (oRe (((vE*1000000000)+(a.getD i 0)) % d))<|zM<|zZ) ?_
  refine kx [(8,(vi (((i:Nat):Int)-1)))] [] (zM<|zE (zSb (((i:Nat):Int)-1))<|zM<|zZ) ?_
  exact ⟨(i,q.set i ((vE*1000000000+a.getD i 0) / d),(vE*1000000000+a.getD i 0) % d),wk,⟨by omega,by simpa using uB,hdq.set _ hb2,Nat.mod_lt _ hd0,rshort_step (by omega) hv rfl⟩,(by first|omega|(dsimp only;omega))⟩
 ·replace h1:=uZ h1
  obtain rfl:k=0:=by omega
  obtain ⟨e1,e2⟩:=short_end (a:=a) (q:=q) (by rw[Nat.sub_self];exact hv) hr
  refine jS<|jA<|kU (xR (t:=6) (k:=0) (es:=List.map jC q) rfl rfl (vP _ _ (fun _=>rfl)) (vN _ _ uB) (xO _ _ (fun _=>rfl) uB)) ?_
  refine kx [(4,(vl 135 1 jC (ofNat (val q)))),(5,(yH vE))] [] (zM<|zE (kD (nE false q (by first | assumption | exact kB _ | exact (kZ _).1 | exact (kX _).1) (by omega)))<|zE (oF1 fP gM)<|zM<|zM<|zM<|zZ) ?_
  refine jG ⟨_,(.tmp (d:=(.sl 135 1 (List.map jC (ofNat (val q))))) rfl (.tmp (d:=(.val (.int .u64 (((vE:Nat):Int))))) rfl .nil)),?_⟩
  rw[<- e1,<- e2];rfl
theorem r_pair(l:List Nat)(hd:Dig l)(h2:l.length<=2):jU Tryz.prog 94 [(.sl 135 1 (List.map jC l))] (.val (.int .u64 ((((val l):Nat):Int)))):=by
 have h0:=hd.getD 0
 have h1:=hd.getD 1
 refine vD Tryz.func94 ?_
 refine jA<|kx [] [] (zM<|zZ) ?_
 refine jA<|kx [(2,(yH (((l.getD 1 0)*1000000000)+(l.getD 0 0))))] [] (zM<|zE (kD (eW l 1 (by first | assumption | exact kB _ | exact (kZ _).1 | exact (kX _).1)))<|zE (oMl ((l.getD 1 0)*1000000000))<|zM<|zE (kD (eW l 0 (by first | assumption | exact kB _ | exact (kZ _).1 | exact (kX _).1)))<|zE (uL (((l.getD 1 0)*1000000000)+(l.getD 0 0)))<|zM<|zZ) ?_
 refine jG ⟨_,(.tmp (d:=(.val (.int .u64 ((((((l.getD 1 0)*1000000000)+(l.getD 0 0)):Nat):Int))))) rfl .nil),?_⟩
 rw[val_pair h2];rfl
theorem r_parts(a b:List Nat)(hda:yA a)(hdb:yA b)(hb0:0<b.length)(hla:a.length<=1099511627776)(hlb:b.length<=1099511627776):jU Tryz.prog 92 [(.sl 135 1 (List.map jC a)),(.sl 135 1 (List.map jC b))] (.tup [(.sl 135 1 (List.map jC (ofNat (val a / val b)))),(.sl 135 1 (List.map jC (ofNat (val a % val b))))]):=by
 have hsc:=fW hdb hb0
 have htp:=aT hdb hb0
 have hbp:=nS hdb hb0
 refine vD Tryz.func92 ?_
 refine jA<|kx [] [] (zE (fH 135 1)<|zE (fH 135 1)<|zZ) ?_
 refine jA<|kx [(6,(jN b.length))] [] (zM<|zE (vV kE)<|zM<|zZ) ?_
 refine jA<|jA<|kx [(19,(vb (((b.length:Nat):Int) == 1)))] [] (zM<|zE zW<|zZ) ?_
 refine jF (b:=(((b.length:Nat):Int) == 1)) rfl (fun h1=>?_) (fun h1=>?_)
 ·replace h1:=eq_of_beq h1
  have hg0:=hdb.1.getD 0
  have hv1:=val_len1 (b:=b) (by omega)
  have hb00:0<b.getD 0 0:=by omega
  have hrl:val a % b.getD 0 0<1000000000:=Nat.lt_trans (Nat.mod_lt _ hb00) (by omega)
  refine jA<|kx [(7,(vl 135 1 jC (ofNat (val a / (b.getD 0 0))))),(8,(yH (val a % (b.getD 0 0))))] [] (zM<|zM<|zE (nA kE 0 (0:Nat))<|zE (mV qM)<|zE (nR xW xM (b.getD 0 0))<|zE (kD (r_short a (b.getD 0 0) hda.1 (by omega) (by omega) (by omega)))<|zM<|zE vF<|zE vF<|zM<|zM<|zZ) ?_
  refine jA<|kx [(4,(vl 135 1 jC (ofNat (val a / (b.getD 0 0))))),(5,(vl 135 1 jC (ofNat (val [(val a % (b.getD 0 0))]))))] [] (zM<|zM<|zE (nR yS yT (val a % (b.getD 0 0)))<|zE (eG kE uW xY)<|zE (kD (nE false [(val a % (b.getD 0 0))] (xL.2 ⟨by omega,yF⟩) (by simp)))<|zE (oF1 fP gM)<|zM<|zM<|zZ) ?_
  refine jG ⟨_,(.tmp (d:=(.sl 135 1 (List.map jC (ofNat (val a / (b.getD 0 0)))))) rfl (.tmp (d:=(.sl 135 1 (List.map jC (ofNat (val [(val a % (b.getD 0 0))]))))) rfl .nil)),?_⟩
  rw[hv1,nW];rfl
 ·replace h1:=ne_of_beq_false h1
  refine jD<|jA<|jA<|kx [(38,(vb (decide ((uM ((val a:Nat):Int) ((val b:Nat):Int))<0))))] [] (zM<|zM<|zE (kD (r_size a b (by first | assumption | exact kZ _ | exact kX _) (by first | assumption | exact kZ _ | exact kX _) (by omega) (by omega)))<|zE uT<|zZ) ?_
  refine jF rfl (fun h2=>?_) (fun h2=>?_)
  ·replace h2:=uY h2
   refine jA<|kx [(4,(vl 135 1 jC [])),(5,(vl 135 1 jC a))] [] (zE (eG kE uW xY)<|zM<|zM<|zM<|zZ) ?_
   refine jG ⟨_,(.tmp (d:=(.sl 135 1 (List.map jC []))) rfl (.tmp (d:=(.sl 135 1 (List.map jC a))) rfl .nil)),?_⟩
   have hlt:=cmpI_neg h2
   rw[Nat.div_eq_of_lt hlt,Nat.mod_eq_of_lt hlt,uG,<- can_eq hda];rfl
  ·replace h2:=uZ h2
   obtain ⟨u,hue⟩:∃ u,u=ofNat (val a*mG b):=⟨_,rfl⟩
   obtain ⟨v,hve⟩:∃ v,v=ofNat (val b*mG b):=⟨_,rfl⟩
   have hu:Dig u:=by rw[hue];exact kB _
   have hcv:yA v:=by rw[hve];exact kZ _
   have hvd:=hcv.1
   have hvl:v.length=b.length:=by rw[hve];exact scl_len hdb hb0
   have hvv:val v=val b*mG b:=by rw[hve];exact kI _
   have huv:val u=val a*mG b:=by rw[hue];exact kI _
   have hab:=len_of_le hda hdb (cmpI_nn h2)
   have hul:a.length<=u.length/\u.length<=a.length+1:=by rw[hue];exact scl_lenA hda hdb hb0
   have hvp:=nS hcv (by omega)
   have hpv:pw (b.length-1)<=val v:=by have h1:=val_top hvd (by omega);have h3:=aT hcv (by omega);rw[hvl] at h1 h3;have h2:=Nat.mul_le_mul_right (pw (b.length-1)) h3.1;omega
   refine jD<|jA<|kx [(9,(yH (mG b)))] [] (zM<|zM<|zE (oSb (b.length-1))<|zE (nA kE (b.length-1) (0:Nat))<|zE (mV qM)<|zE (nR xW xM (b.getD (b.length-1) 0))<|zE (uL ((b.getD (b.length-1) 0)+1))<|zE (oQu (mG b) (hr:=by exact (quo_u64 1000000000 (b.getD (b.length-1) 0+1))))<|zM<|zZ) ?_
   refine jA<|kx [(0,(vl 135 1 jC u)),(1,(vl 135 1 jC v))] [] (zM<|zM<|zE (kD (hue▸r_scaled a (mG b) hda.1 (by omega) (by omega)))<|zM<|zM<|zE (kD (hve▸r_scaled b (mG b) hdb.1 (by omega) (by omega)))<|zM<|zM<|zZ) ?_
   refine jA<|kx [(10,(vl 135 1 jC (ofNat (val (List.drop ((u.length-b.length)+1) u)))))] [] (zM<|zM<|zE (vV kE)<|zM<|zE (oSb (u.length-b.length))<|zE (uL ((u.length-b.length)+1))<|zE (e_slc (l:=((u.length-b.length)+1)) (h:=(List.map jC u).length) (kl:=.i64) (kh:=.i64) (es':=List.map jC (List.drop ((u.length-b.length)+1) u)) (by exact rfl) kE (by exact rfl) (by exact rfl) (by exact rfl) (by simp only[List.length_map];omega) (Nat.le_refl _) (by rw[List.take_length,List.map_drop]))<|zE (kD (nE false (List.drop ((u.length-b.length)+1) u) (hu.drop _) (by rw[List.length_drop];omega)))<|zE (oF1 fP gM)<|zM<|zZ) ?_
   refine jA<|kx [(11,(.own 0 135 1 ((u.length-b.length)+1)))] [(0,some (bm jC (List.replicate ((u.length-b.length)+1) 0)))] (zM<|zE (vV kE)<|zM<|zE (oSb (u.length-b.length))<|zE (uL ((u.length-b.length)+1))<|zN (oMk 0 jC (0:Nat) ((u.length-b.length)+1) ((u.length-b.length)+1) kE uW xY nC)<|zM<|zZ) ?_
   refine jA<|jA<|kx [(12,(vi ((((u.length-b.length)+1:Nat):Int)-1)))] [] (zM<|zE (vV kE)<|zM<|zE (zSb ((((u.length-b.length)+1:Nat):Int)-1))<|zM<|zZ) ?_
   refine jH<|kF (α:=Nat × List Nat × List Nat) (fun (k,r,q)=>⟨[(0,(vl 135 1 jC u)),(1,(vl 135 1 jC v)),(6,(jN b.length)),(9,(yH (mG b))),(10,(vl 135 1 jC r)),(11,(.own 0 135 1 ((u.length-b.length)+1))),(12,(vi (((k:Nat):Int)-1)))],[(0,some (bm jC q))]⟩) (fun (k,r,q)=>yA r/\k<=((u.length-b.length)+1)/\q.length=((u.length-b.length)+1)/\Dig q/\val r<val v/\val (u.drop k)=val v*val (q.drop k)+val r) (fun (k,r,q)=>k) (((u.length-b.length)+1),ofNat (val (List.drop ((u.length-b.length)+1) u)),List.replicate ((u.length-b.length)+1) 0) wk ⟨kZ _,Nat.le_refl _,by simp,xF _,by rw[kI];have h7:=uV (hu.drop ((u.length-b.length)+1));rw[List.length_drop,show u.length-((u.length-b.length)+1)=b.length-1 by omega] at h7;omega,by rw[kI];simp [val]⟩ ?_
   rintro ⟨k,r,q⟩ ⟨hrc,hk,hql,hqd,hr,hv⟩
   refine jA<|jA<|kx [(75,(vb (decide (0<=(((k:Nat):Int)-1)))))] [] (zM<|zE oGe<|zZ) ?_
   refine jF (b:=decide (0<=(((k:Nat):Int)-1))) rfl (fun h3=>?_) (fun h3=>?_)
   ·replace h3:=uY h3
    obtain ⟨i,rfl⟩:∃ i,k=i+1:=⟨k-1,by omega⟩
    rw[show (((i+1:Nat):Int)-1)=((i:Nat):Int) from by omega]
    have hgu:=hu.getD i
    have hW:(u.getD i 0+1000000000*val r)<1000000000*val v:=by omega
    have hrs:=rshift_val u hv
    obtain ⟨hg1,hg2⟩:=rguess hvd hvl hb0 hW
    have hgv:=hvd.getD (b.length-1)
    have hgw1:=(kB (u.getD i 0+1000000000*val r)).getD b.length
    have hgw2:=(kB (u.getD i 0+1000000000*val r)).getD (b.length-1)
    have hrl:r.length<=b.length:=by have h9:=vI (Nat.le_of_lt hr);rwa [<- can_eq hrc,<- can_eq hcv,hvl] at h9
    have hwl:(ofNat (u.getD i 0+1000000000*val r)).length<=b.length+1:=qP (by rw[qY];have:=uV hvd;rw[hvl] at this;omega)
    refine jD<|jA<|jH<|jA<|kx [(10,(vl 135 1 jC (ofNat ((u.getD i 0)+1000000000*val r)))),(12,(jN i))] [] (zM<|zM<|zM<|zE (nA kE i (0:Nat))<|zE (mV qM)<|zE (kD (r_shifted r (u.getD i 0) hrc.1 (by omega) (by omega)))<|zM<|zZ) ?_
    refine jA<|kd [(13,(yH (((((ofNat ((u.getD i 0)+1000000000*val r)).getD b.length 0)*1000000000)+((ofNat ((u.getD i 0)+1000000000*val r)).getD (b.length-1) 0)) / ((v.getD (b.length-1) 0)+1))))] [] mo (wM<|wM<|wE (kD (eW (ofNat ((u.getD i 0)+1000000000*val r)) b.length (kB _)))<|wE (oMl (((ofNat ((u.getD i 0)+1000000000*val r)).getD b.length 0)*1000000000))<|wM<|wM<|wE (oSb (b.length-1))<|wE (kD (eW (ofNat ((u.getD i 0)+1000000000*val r)) (b.length-1) (by first | assumption | exact kB _ | exact (kZ _).1 | exact (kX _).1)))<|wE (uL ((((ofNat ((u.getD i 0)+1000000000*val r)).getD b.length 0)*1000000000)+((ofNat ((u.getD i 0)+1000000000*val r)).getD (b.length-1) 0)))<|wM<|wM<|wE (oSb (b.length-1))<|wE (nA kE (b.length-1) (0:Nat))<|wE (mV qM)<|wE (nR xW xM (v.getD (b.length-1) 0))<|wE (uL ((v.getD (b.length-1) 0)+1))<|wE (oQu (((((ofNat ((u.getD i 0)+1000000000*val r)).getD b.length 0)*1000000000)+((ofNat ((u.getD i 0)+1000000000*val r)).getD (b.length-1) 0)) / ((v.getD (b.length-1) 0)+1)))<|wM<|wZ) ?_
    refine jA<|kx [(10,(vl 135 1 jC (ofNat (val (ofNat ((u.getD i 0)+1000000000*val r))-val (ofNat (val v*(((((ofNat ((u.getD i 0)+1000000000*val r)).getD b.length 0)*1000000000)+((ofNat ((u.getD i 0)+1000000000*val r)).getD (b.length-1) 0)) / ((v.getD (b.length-1) 0)+1))))))))] [] (zM<|zM<|zM<|zE (kD (r_scaled v (((((ofNat ((u.getD i 0)+1000000000*val r)).getD b.length 0)*1000000000)+((ofNat ((u.getD i 0)+1000000000*val r)).getD (b.length-1) 0)) / ((v.getD (b.length-1) 0)+1)) hvd (by omega) (by omega)))<|zE (kD (r_minus (ofNat ((u.getD i 0)+1000000000*val r)) (ofNat (val v*(((((ofNat ((u.getD i 0)+1000000000*val r)).getD b.length 0)*1000000000)+((ofNat ((u.getD i 0)+1000000000*val r)).getD (b.length-1) 0)) / ((v.getD (b.length-1) 0)+1)))) (kB _) (kB _) (by rw[kI,kI,Nat.mul_comm];exact hg1) (by omega)))<|zM<|zZ) ?_
    refine jA<|jH<|kF (α:=Nat × List Nat) (fun (G,r2)=>⟨[(0,(vl 135 1 jC u)),(1,(vl 135 1 jC v)),(6,(jN b.length)),(9,(yH (mG b))),(10,(vl 135 1 jC r2)),(11,(.own 0 135 1 ((u.length-b.length)+1))),(12,(jN i)),(13,(yH G))],[(0,some (bm jC q))]⟩) (fun (G,r2)=>yA r2/\val v*G+val r2=(u.getD i 0+1000000000*val r)) (fun (G,r2)=>val r2) ((((ofNat (u.getD i 0+1000000000*val r)).getD b.length 0*1000000000+(ofNat (u.getD i 0+1000000000*val r)).getD (b.length-1) 0) / (v.getD (b.length-1) 0+1)),ofNat (val (ofNat (u.getD i 0+1000000000*val r))-val (ofNat (val v*(((ofNat (u.getD i 0+1000000000*val r)).getD b.length 0*1000000000+(ofNat (u.getD i 0+1000000000*val r)).getD (b.length-1) 0) / (v.getD (b.length-1) 0+1)))))) wk ⟨kZ _,by rw[kI,kI,kI];rw[Nat.mul_comm] at hg1;omega⟩ ?_
    rintro ⟨G,r2⟩ ⟨hr2,hr2v⟩
    have hr2l:r2.length<=b.length+1:=by have h9:=vI (show val r2<=(u.getD i 0+1000000000*val r) by omega);rw[<- can_eq hr2] at h9;omega
    refine jA<|jA<|kx [(109,(vb (decide (0<=(uM ((val r2:Nat):Int) ((val v:Nat):Int))))))] [] (zM<|zM<|zE (kD (r_size r2 v hr2 hcv (by omega) (by omega)))<|zE oGe<|zZ) ?_
    refine jF rfl (fun h4=>?_) (fun h4=>?_)
    ·replace h4:=uY h4
     have hge:=aS h4
     have hG:=rquo_lt hr2v hW
     have hr2l:r2.length<=b.length+1:=by have h9:=vI (show val r2<=(u.getD i 0+1000000000*val r) by omega);rw[<- can_eq hr2] at h9;omega
     refine jD<|jH<|jA<|kx [(10,(vl 135 1 jC (ofNat (val r2-val v))))] [] (zM<|zM<|zE (kD (r_minus r2 v hr2.1 hvd (by omega) (by omega)))<|zM<|zZ) ?_
     refine kx [(13,(yH (G+1)))] [] (zM<|zE (uL (G+1))<|zM<|zZ) ?_
     exact ⟨(G+1,ofNat (val r2-val v)),wk,(by have hge:=aS h4;exact ⟨kZ _,by rw[kI,Nat.mul_add,Nat.mul_one];omega⟩),(by have hge:=aS h4;dsimp only;rw[kI];omega)⟩
    ·replace h4:=uZ h4
     have hG:=rquo_lt hr2v hW
     have hlt:val r2<val v:=by have h9:=cmpI_lt h4;omega
     refine jS<|kx [] [(0,some (bm jC (q.set i G)))] (zM<|zM<|zM<|zE (nR yS yT G)<|zE (oXo kE i)<|zT (oSp qM i G)<|zZ) ?_
     refine kx [(12,(vi (((i:Nat):Int)-1)))] [] (zM<|zE (zSb (((i:Nat):Int)-1))<|zM<|zZ) ?_
     exact ⟨(i,r2,q.set i G),wk,⟨hr2,by omega,by simpa using hql,hqd.set _ hG,hlt,rround (by omega) (by rw[hr2v];exact hrs)⟩,(by first|omega|(dsimp only;omega))⟩
   ·replace h3:=uZ h3
    obtain rfl:k=0:=by omega
    obtain ⟨e1,e2⟩:=scl_div (a:=a) (b:=b) (q:=q) (u:=r) hdb hb0 (by rw[List.drop_zero,List.drop_zero] at hv;rw[nL,Nat.one_mul,List.drop_zero,<- huv,<- hvv,hv];omega) (by rw[List.drop_zero,<- hvv];exact hr)
    have hrl:r.length<=b.length:=by have h9:=vI (Nat.le_of_lt hr);rwa [<- can_eq hrc,<- can_eq hcv,hvl] at h9
    refine jS<|jA<|kx [(14,(vl 135 1 jC (ofNat (val r / (mG b)))))] [] (zM<|zM<|zE (kD (r_short r (mG b) hrc.1 (by omega) (by omega) (by omega)))<|zM<|zE vF<|zE vF<|zM<|zM<|zZ) ?_
    refine jA<|kU (xR (t:=11) (k:=0) (es:=List.map jC q) rfl rfl (vP _ _ (fun _=>rfl)) (vN _ _ hql) (xO _ _ (fun _=>rfl) hql)) ?_
    refine kx [(4,(vl 135 1 jC (ofNat (val q)))),(5,(vl 135 1 jC (ofNat (val r / (mG b)))))] [] (zM<|zE (kD (nE false q hqd (by omega)))<|zE (oF1 fP gM)<|zM<|zM<|zM<|zZ) ?_
    refine jG ⟨_,(.tmp (d:=(.sl 135 1 (List.map jC (ofNat (val q))))) rfl (.tmp (d:=(.sl 135 1 (List.map jC (ofNat (val r / (mG b)))))) rfl .nil)),?_⟩
    rw[<- e1,<- e2];rfl
theorem r_gcd(x:kR)(y:kR)(hx:x.gs.length<=1099511627776)(hy:y.gs.length<=1099511627776):jU Tryz.prog 77 [(jL x),(jL y)] (jL (kG ((Int.gcd (qB x) (qB y):Nat):Int))):=by
 have hvx:=gs_val2 x
 have hvy:=gs_val2 y
 refine vD Tryz.func77 ?_
 refine jA<|kx [(2,(.ref 0 0)),(3,(.ref 1 0)),(4,(.ref 2 0))] [(0,some (bx (jL x))),(1,some (bx (jL y))),(2,some (bx (jL (kR.mk false []))))] (zN (yB 0)<|zN (yB 1)<|zN (vL 2 vY vZ)<|zZ) ?_
 refine jA<|kd [(5,(vl 135 1 jC (ofNat (Int.natAbs (qB x))))),(6,(vl 135 1 jC (ofNat (Int.natAbs (qB y)))))] [] mo (wR (qE jP)<|wE (kD (r_value x (by omega)))<|wE (oF1 fP gM)<|wR (qE jP)<|wE (kD (r_value y (by omega)))<|wE (oF1 fP gM)<|wM<|wM<|wZ) ?_
 refine jA<|jH<|kF (α:=List Nat × List Nat) (fun (a,b)=>⟨[(4,(.ref 2 0)),(5,(vl 135 1 jC a)),(6,(vl 135 1 jC b))],[(2,some (bx (jL (kR.mk false []))))]⟩) (fun (a,b)=>yA a/\yA b/\a.length<=1099511627776/\b.length<=1099511627776/\Nat.gcd (val a) (val b)=Int.gcd (qB x) (qB y)) (fun (a,b)=>val b) ((ofNat (Int.natAbs (qB x))),(ofNat (Int.natAbs (qB y)))) wk ⟨kZ _,kZ _,by omega,by omega,by rw[kI,kI];rfl⟩ ?_
 rintro ⟨a,b⟩ ⟨ha,hb,hla,hlb,hg⟩
 refine jA<|jA<|kx [(29,(vb (decide (0<((b.length:Nat):Int))&&(decide (2<((a.length:Nat):Int))||decide (2<((b.length:Nat):Int))))))] [] ?_ ?_
 ·refine zM<|zE (vV kE)<|zE cC<|zE (oV (vb (decide (0<((b.length:Nat):Int)))) (kA (by kernel_rfl)))<|?_
  rcases hb1:(decide (0<((b.length:Nat):Int))) with _ | _
  ·replace hb1:=uZ hb1
   exact zK<|zK<|zK<|zK<|zK<|zK<|zK<|zK<|zE mJ<|zZ
  ·replace hb1:=uY hb1
   refine zM<|zE (vV kE)<|zE cC<|zE (oV (vb (decide (2<((a.length:Nat):Int)))) (kA (by kernel_rfl)))<|?_
   rcases hb2:(decide (2<((a.length:Nat):Int))) with _ | _
   ·replace hb2:=uZ hb2
    exact zM<|zE (vV kE)<|zE cC<|zE zG<|zE aC<|zZ
   ·replace hb2:=uY hb2
    exact zK<|zK<|zK<|zE uP<|zE uP<|zZ
 refine jF rfl (fun h3=>?_) (fun h3=>?_)
 ·have hbl:0<b.length:=by rw[Bool.and_eq_true,decide_eq_true_eq] at h3;omega
  have hb0:=nS hb hbl
  refine jD<|jH<|jA<|kx [(8,(vl 135 1 jC (ofNat (val a % val b))))] [] (zM<|zM<|zE (kD (r_parts a b ha hb (by omega) (by omega) (by omega)))<|zM<|zE vF<|zE vF<|zM<|zM<|zZ) ?_
  refine kx [(5,(vl 135 1 jC b)),(6,(vl 135 1 jC (ofNat (val a % val b))))] [] (zM<|zM<|zM<|zM<|zZ) ?_
  exact ⟨(b,ofNat (val a % val b)),wk,⟨hb,kZ _,hlb,Nat.le_trans (len_rem a ha _) hla,by rw[kI,<- hg,Nat.gcd_comm,<- Nat.gcd_rec,Nat.gcd_comm]⟩,(by dsimp only;rw[kI];exact Nat.mod_lt _ hb0)⟩
 ·have hex:=h3
  refine jS<|jA<|jA<|kx [(40,(vb (((b.length:Nat):Int) == 0)))] [] (zM<|zE (vV kE)<|zE zW<|zZ) ?_
  refine jF (b:=(((b.length:Nat):Int) == 0)) rfl (fun h4=>?_) (fun h4=>?_)
  ·replace h4:=eq_of_beq h4
   have hb1:b=[]:=List.eq_nil_of_length_eq_zero (by omega)
   rw[hb1,val_nil,Nat.gcd_zero_right] at hg
   refine jA<|kx [] [(2,some (bx (jL (xV false (val a)))))] (zM<|zE (kD (nE false a ha.1 (by omega)))<|zT (qO jP)<|zZ) ?_
   refine jG ⟨_,(qK (cs:=(bx (jL (xV false (val a))))) (d:=(jL (xV false (val a)))) rfl rfl jP rfl rfl .nil),?_⟩
   rw[<- hg,mkI_false];rfl
  ·replace h4:=ne_of_beq_false h4
   have hl2:a.length<=2/\b.length<=2:=by simp only[Bool.and_eq_false_iff,Bool.or_eq_false_iff,decide_eq_false_iff_not] at hex;omega
   refine jD<|jA<|kx [(9,(yH (val a))),(10,(yH (val b)))] [] (zM<|zE (kD (r_pair a ha.1 (by omega)))<|zM<|zE (kD (r_pair b hb.1 (by omega)))<|zM<|zM<|zZ) ?_
   refine jA<|jH<|kF (α:=Nat × Nat) (fun (m,n)=>⟨[(4,(.ref 2 0)),(9,(yH m)),(10,(yH n))],[(2,some (bx (jL (kR.mk false []))))]⟩) (fun (m,n)=>m<1000000000000000000/\n<1000000000000000000/\Nat.gcd m n=Int.gcd (qB x) (qB y)) (fun (m,n)=>n) (val a,val b) wk ⟨val_len2 ha.1 hl2.1,val_len2 hb.1 hl2.2,hg⟩ ?_
   rintro ⟨m,n⟩ ⟨hm,hn,hg2⟩
   refine jA<|jA<|kx [(48,(vb (decide (0<((n:Nat):Int)))))] [] (zM<|zE cC<|zZ) ?_
   refine jF (b:=decide (0<((n:Nat):Int))) rfl (fun h5=>?_) (fun h5=>?_)
   ·replace h5:=uY h5
    refine jD<|jH<|kd [(9,(yH n)),(10,(yH (m % n)))] [] mo (wM<|wM<|wM<|wE (oRe (m % n))<|wM<|wM<|wZ) ?_
    exact ⟨(n,m % n),wk,⟨hn,Nat.lt_of_le_of_lt (Nat.mod_le _ _) hm,by rw[<- hg2,Nat.gcd_comm,<- Nat.gcd_rec,Nat.gcd_comm]⟩,(by dsimp only;exact Nat.mod_lt _ (by omega))⟩
   ·replace h5:=uZ h5
    obtain rfl:n=0:=by omega
    rw[Nat.gcd_zero_right] at hg2
    have hmv:val [m % 1000000000,m / 1000000000]=m:=by simp only[val];omega
    refine jS<|jA<|kx [] [(2,some (bx (jL (xV false (val [(m % 1000000000),(m / 1000000000)])))))] (zM<|zE (oRe (m % 1000000000))<|zE (nR yS yT (m % 1000000000))<|zM<|zE (oQu (m / 1000000000))<|zE (nR yS yT (m / 1000000000))<|zE (eG kE uW xY)<|zE (kD (nE false [(m % 1000000000),(m / 1000000000)] (xL.2 ⟨Nat.mod_lt _ (by decide),xL.2 ⟨by omega,yF⟩⟩) (by simp)))<|zT (qO jP)<|zZ) ?_
    refine jG ⟨_,(qK (cs:=(bx (jL (xV false (val [(m % 1000000000),(m / 1000000000)]))))) (d:=(jL (xV false (val [(m % 1000000000),(m / 1000000000)])))) rfl rfl jP rfl rfl .nil),?_⟩
    rw[<- hg2,hmv,mkI_false];rfl
theorem r_compare(x:kR)(y:kR)(hx:x.gs.length<=274877906944)(hy:y.gs.length<=274877906944):jU Tryz.prog 76 [(jL x),(jL y)] (.val (.int .i64 ((uM (qB x) (qB y))))):=by
 have hv:=gs_sub x y
 refine vD Tryz.func76 ?_
 refine jA<|kx [(2,(.ref 0 0)),(3,(.ref 1 0))] [(0,some (bx (jL x))),(1,some (bx (jL y)))] (zN (yB 0)<|zN (yB 1)<|zM<|zZ) ?_
 refine jA<|kx [(4,(vi (kW (qB (kG (qB x-qB y))))))] [] (zR (qE jP)<|zR (qE jP)<|zE (kD (r_sub x y (by omega) (by omega)))<|zE (kD (r_sign (kG (qB x-qB y)) (by omega)))<|zM<|zZ) ?_
 refine jG ⟨_,(.tmp (d:=(.val (.int .i64 ((kW (qB (kG (qB x-qB y)))))))) rfl .nil),?_⟩
 rw[toZ_ofZ,signI_sub];rfl
theorem s_neg{x:kR}{a:Int}{m:Nat}(hx:xI x a m)(hm:m<=274877906944:=by decide):jU Tryz.prog 86 [(jL x)] (jL (kG (-a))):=by
 obtain ⟨rfl,hx'⟩:=hx
 exact t_neg x (by omega)
theorem dY{x:kR}{a:Int}{m:Nat}(hx:xI x a m)(hm:m<=274877906944:=by decide):jU Tryz.prog 69 [(jL x)] (.val (.int .i64 (kW a))):=by
 obtain ⟨rfl,hx'⟩:=hx
 exact t_sign x (by omega)
theorem s_add{x y:kR}{a b:Int}{m n:Nat}(hx:xI x a m)(hy:xI y b n)(hm:m<=274877906944:=by decide)(hn:n<=274877906944:=by decide):jU Tryz.prog 62 [(jL x),(jL y)] (jL (kG (a+b))):=by
 obtain ⟨rfl,hx'⟩:=hx;obtain ⟨rfl,hy'⟩:=hy
 exact t_add x y (by omega) (by omega)
theorem fD{x y:kR}{a b:Int}{m n:Nat}(hx:xI x a m)(hy:xI y b n)(hm:m<=274877906944:=by decide)(hn:n<=274877906944:=by decide):jU Tryz.prog 45 [(jL x),(jL y)] (jL (kG (a*b))):=by
 obtain ⟨rfl,hx'⟩:=hx;obtain ⟨rfl,hy'⟩:=hy
 exact t_mul x y (by omega) (by omega)
theorem s_compare{x y:kR}{a b:Int}{m n:Nat}(hx:xI x a m)(hy:xI y b n)(hm:m<=274877906944)(hn:n<=274877906944):jU Tryz.prog 122 [(jL x),(jL y)] (.val (.int .i64 (uM a b))):=by
 obtain ⟨rfl,hx'⟩:=hx;obtain ⟨rfl,hy'⟩:=hy
 exact t_compareI x y (by omega) (by omega)
theorem s_gcd{x y:kR}{a b:Int}{m n:Nat}(hx:xI x a m)(hy:xI y b n)(hm:m<=274877906944:=by decide)(hn:n<=274877906944:=by decide):jU Tryz.prog 85 [(jL x),(jL y)] (jL (kG ((Int.gcd a b:Nat):Int))):=by
 obtain ⟨rfl,hx'⟩:=hx;obtain ⟨rfl,hy'⟩:=hy
 exact t_gcdI x y (by omega) (by omega)
theorem cJ{x y:kR}{a b:Int}{m n:Nat}(hx:xI x a m)(hy:xI y b n)(hm:m<=274877906944)(hn:n<=274877906944)(hb:b≠0):jU Tryz.prog 87 [(jL x),(jL y)] (.tup [(jL (kG (a.fdiv b))),(jL (kG (a.fmod b))),(.val (.int .i64 0))]):=by
 obtain ⟨rfl,hx'⟩:=hx;obtain ⟨rfl,hy'⟩:=hy
 exact t_divideI x y (by omega) (by omega) hb
theorem rs_sign{x:kR}{a:Int}{m:Nat}(hx:xI x a m)(hm:m<=274877906944:=by decide):jU Tryz.prog 25 [(jL x)] (.val (.int .i64 (kW a))):=by
 obtain ⟨rfl,hx'⟩:=hx
 exact r_sign x (by omega)
theorem rs_compare{x y:kR}{a b:Int}{m n:Nat}(hx:xI x a m)(hy:xI y b n)(hm:m<=274877906944)(hn:n<=274877906944):jU Tryz.prog 76 [(jL x),(jL y)] (.val (.int .i64 (uM a b))):=by
 obtain ⟨rfl,hx'⟩:=hx;obtain ⟨rfl,hy'⟩:=hy
 exact r_compare x y (by omega) (by omega)
theorem rs_gcd{x y:kR}{a b:Int}{m n:Nat}(hx:xI x a m)(hy:xI y b n)(hm:m<=274877906944)(hn:n<=274877906944):jU Tryz.prog 77 [(jL x),(jL y)] (jL (kG ((Int.gcd a b:Nat):Int))):=by
 obtain ⟨rfl,hx'⟩:=hx;obtain ⟨rfl,hy'⟩:=hy
 exact r_gcd x y (by omega) (by omega)
theorem fo51_0:uF Tryz.prog 51 0=some 0:=by kernel_rfl
theorem cT:uF Tryz.prog 51 1=some 2:=by kernel_rfl
theorem pl51:mY Tryz.prog 51=some [(0,2),(2,2)]:=by kernel_rfl
theorem xG:kQ Tryz.prog 51=some (true,4):=by kernel_rfl
theorem eM:uO Tryz.prog 51=some [.bool false,.slice none 0 0,.bool false,.slice none 0 0]:=by kernel_rfl
theorem fG:nH [.bool false,.slice none 0 0,.bool false,.slice none 0 0] [.val (.bool false),.sl 135 1 [],.val (.bool false),.sl 135 1 []]:=by simp [nH,Value.oneCell']
theorem f_reduced(num den:kR)(a b:Int)(hnum:xI num a 68719476736)(hden:xI den b 68719476736)(hb:b≠0):jU Tryz.prog 70 [(jL num),(jL den)] (qA (gQ (Rat.divInt a b))):=by
 refine vD Tryz.func70 ?_
 refine jA<|kx [(2,(.ref 0 0)),(3,(.ref 1 0)),(4,(.ref 2 0))] [(0,some (bx (jL num))),(1,some (bx (jL den))),(2,some (bx (qA oZr)))] (zN (yB 0)<|zN (yB 1)<|zN (vL 2 eM fG)<|zZ) ?_
 refine jA<|jA<|kx [(8,(vb (decide ((kW b)<0))))] [] (zR (qE jP)<|zE (kD (dY hden))<|zE uT<|zZ) ?_
 refine jF (b:=decide ((kW b)<0)) rfl (fun h1=>?_) (fun h1=>?_)
 ·replace h1:=uY h1
  have hlt:=signI_lt.1 h1
  have hb2:-b≠0:=by omega
  refine kd [] [(0,some (bx (jL (kG (-a))))),(1,some (bx (jL (kG (-b)))))] mo (wR (qE jP)<|wE (kD (s_neg hnum))<|wR (qE jP)<|wE (kD (s_neg hden))<|wT (qO jP)<|wT (qO jP)<|wZ) ?_
  refine jA<|kx [(5,(.ref 3 0))] [(3,some (bx (jL (kG ((Int.gcd (-a) (-b):Nat):Int)))))] (zR (qE jP)<|zR (qE jP)<|zE (kD (s_gcd (cE hnum) (cE hden)))<|zN (vL 3 vY vZ)<|zT (qO jP)<|zZ) ?_
  refine jA<|kx [] [(0,some (bx (jL (kG ((-a).fdiv (((Int.gcd (-a) (-b):Nat):Int)))))))] (zR (qE jP)<|zR (qE jP)<|zE (kD (cJ (cE hnum) (vX (k:=68719476736) (cE hnum) (cE hden)) (by decide) (by decide) (gcd_ne (by omega))))<|zM<|zE vF<|zE vF<|zE vF<|zT (qO jP)<|zZ) ?_
  refine jA<|kx [] [(1,some (bx (jL (kG ((-b).fdiv (((Int.gcd (-a) (-b):Nat):Int)))))))] (zR (qE jP)<|zR (qE jP)<|zE (kD (cJ (cE hden) (vX (k:=68719476736) (cE hnum) (cE hden)) (by decide) (by decide) (gcd_ne (by omega))))<|zM<|zE vF<|zE vF<|zE vF<|zT (qO jP)<|zZ) ?_
  refine jA<|kx [] [(2,some (bx (qA (vO.mk (kG ((-a).fdiv (((Int.gcd (-a) (-b):Nat):Int)))) (kG ((-b).fdiv (((Int.gcd (-a) (-b):Nat):Int))))))))] (zR (qE jP)<|zR (qE jP)<|zE (oBd pl51 eM fG)<|zT (qO xG)<|zZ) ?_
  refine jG ⟨_,(qK (cs:=(bx (qA (vO.mk (kG ((-a).fdiv (((Int.gcd (-a) (-b):Nat):Int)))) (kG ((-b).fdiv (((Int.gcd (-a) (-b):Nat):Int)))))))) (d:=(qA (vO.mk (kG ((-a).fdiv (((Int.gcd (-a) (-b):Nat):Int)))) (kG ((-b).fdiv (((Int.gcd (-a) (-b):Nat):Int))))))) rfl rfl xG rfl rfl .nil),?_⟩
  rw[red_neg hlt];rfl
 ·replace h1:=uZ h1
  have hge:¬ b<0:=fun hh=>h1 (signI_lt.2 hh)
  refine jD<|jA<|kx [(5,(.ref 4 0))] [(4,some (bx (jL (kG ((Int.gcd a b:Nat):Int)))))] (zR (qE jP)<|zR (qE jP)<|zE (kD (s_gcd hnum hden))<|zN (vL 4 vY vZ)<|zT (qO jP)<|zZ) ?_
  refine jA<|kx [] [(0,some (bx (jL (kG (a.fdiv (((Int.gcd a b:Nat):Int)))))))] (zR (qE jP)<|zR (qE jP)<|zE (kD (cJ hnum (vX (k:=68719476736) hnum hden) (by decide) (by decide) (gcd_ne (by omega))))<|zM<|zE vF<|zE vF<|zE vF<|zT (qO jP)<|zZ) ?_
  refine jA<|kx [] [(1,some (bx (jL (kG (b.fdiv (((Int.gcd a b:Nat):Int)))))))] (zR (qE jP)<|zR (qE jP)<|zE (kD (cJ hden (vX (k:=68719476736) hnum hden) (by decide) (by decide) (gcd_ne (by omega))))<|zM<|zE vF<|zE vF<|zE vF<|zT (qO jP)<|zZ) ?_
  refine jA<|kx [] [(2,some (bx (qA (vO.mk (kG (a.fdiv (((Int.gcd a b:Nat):Int)))) (kG (b.fdiv (((Int.gcd a b:Nat):Int))))))))] (zR (qE jP)<|zR (qE jP)<|zE (oBd pl51 eM fG)<|zT (qO xG)<|zZ) ?_
  refine jG ⟨_,(qK (cs:=(bx (qA (vO.mk (kG (a.fdiv (((Int.gcd a b:Nat):Int)))) (kG (b.fdiv (((Int.gcd a b:Nat):Int)))))))) (d:=(qA (vO.mk (kG (a.fdiv (((Int.gcd a b:Nat):Int)))) (kG (b.fdiv (((Int.gcd a b:Nat):Int))))))) rfl rfl xG rfl rfl .nil),?_⟩
  rw[red_pos hge hb];rfl
theorem f_whole(n:Int)(hlo:-9223372036854775808<=n:=by decide)(hhi:n<=9223372036854775807:=by decide):jU Tryz.prog 48 [(.val (.int .i64 (n)))] (qA (gQ ((n:Int):Rat))):=by
 refine vD Tryz.func48 ?_
 refine jA<|kx [(2,(.ref 0 0))] [(0,some (bx (qA oZr)))] (zN (vL 0 eM fG)<|zZ) ?_
 refine jA<|kx [] [(0,some (bx (qA (vO.mk (kG n) (kG 1)))))] (zM<|zE (kD (nI n (by omega) (by omega)))<|zE (kD (nI 1))<|zE (oBd pl51 eM fG)<|zT (qO xG)<|zZ) ?_
 refine jG ⟨_,(qK (cs:=(bx (qA (vO.mk (kG n) (kG 1))))) (d:=(qA (vO.mk (kG n) (kG 1)))) rfl rfl xG rfl rfl .nil),?_⟩
 rfl
theorem f_valid(x:vO)(p:Rat)(hx:QOk x p 17179869184):jU Tryz.prog 106 [(qA x)] (.val (.bool ((yX x)))):=by
 refine vD Tryz.func106 ?_
 refine jA<|kx [(1,(.ref 0 0))] [(0,some (bx (qA x)))] (zN (yB 0)<|zM<|zZ) ?_
 refine jA<|jA<|kx [(18,(vb ((!(qS x.num)||!(qS x.den))||decide ((kW (qB x.den))<=0))))] [] ?_ ?_
 ·refine zE (jY fo51_0)<|zR (qE jP)<|zE (kD (t_valid x.num (Nat.le_trans (xT hx.n1).l (by decide))))<|zE eU<|zE (oV (vb (!(qS x.num))) (kA (by kernel_rfl)))<|?_
  rcases hb1:(!(qS x.num)) with _ | _
  ·refine zE (jY cT)<|zR (qE jP)<|zE (kD (t_valid x.den (Nat.le_trans (xT hx.n2).l (by decide))))<|zE eU<|zE zG<|zE (oV (vb (false||!(qS x.den))) (kA (by kernel_rfl)))<|?_
   rcases hb2:(false||!(qS x.den)) with _ | _
   ·exact zE (jY cT)<|zR (qE jP)<|zE (kD (dY (xT hx.n2)))<|zE oLe<|zE zG<|zZ
   ·exact zK<|zK<|zK<|zK<|zE uP<|zZ
  ·exact zK<|zK<|zK<|zK<|zE uP<|zM<|zK<|zK<|zK<|zK<|zE uP<|zZ
 refine jF rfl (fun h3=>?_) (fun h3=>?_)
 ·refine jA<|kx [(2,(vb false))] [] (zM<|zZ) ?_
  refine jG ⟨_,(.tmp (d:=(.val (.bool (false)))) rfl .nil),?_⟩
  rw[validR_no h3];rfl
 ·refine jD<|jA<|kx [(2,(vb ((uM (((Int.gcd (qB x.num) (qB x.den):Nat):Int)) 1) == 0)))] [] (zE (jY fo51_0)<|zR (qE jP)<|zE (jY cT)<|zR (qE jP)<|zE (kD (s_gcd (xT hx.n1) (xT hx.n2)))<|zE (kD (nI 1))<|zE (kD (s_compare (vX (k:=17179869184) (xT hx.n1) (xT hx.n2)) (iok_small (z:=1)) (by decide) (by decide)))<|zE zW<|zM<|zZ) ?_
  refine jG ⟨_,(.tmp (d:=(.val (.bool (((uM (((Int.gcd (qB x.num) (qB x.den):Nat):Int)) 1) == 0))))) rfl .nil),?_⟩
  rw[validR_yes h3];rfl
theorem f_copied(x:vO)(p:Rat)(hx:QOk x p 17179869184):jU Tryz.prog 107 [(qA x)] (qA (vO.mk (kG (-(-qB x.num))) (kG (-(-qB x.den))))):=by
 refine vD Tryz.func107 ?_
 refine jA<|kx [(1,(.ref 0 0)),(2,(.ref 1 0))] [(0,some (bx (qA x))),(1,some (bx (qA oZr)))] (zN (yB 0)<|zN (vL 1 eM fG)<|zZ) ?_
 refine jA<|kd [] [(1,some (bx (qA (vO.mk (kG (-(-(qB x.num)))) (kG (-(-(qB x.den))))))))] mo (wE (jY fo51_0)<|wR (qE jP)<|wE (kD (s_neg (xT hx.n1)))<|wE (kD (s_neg (cE (xT hx.n1))))<|wE (jY cT)<|wR (qE jP)<|wE (kD (s_neg (xT hx.n2)))<|wE (kD (s_neg (cE (xT hx.n2))))<|wE (oBd pl51 eM fG)<|wT (qO xG)<|wZ) ?_
 refine jG ⟨_,(qK (cs:=(bx (qA (vO.mk (kG (-(-(qB x.num)))) (kG (-(-(qB x.den)))))))) (d:=(qA (vO.mk (kG (-(-(qB x.num)))) (kG (-(-(qB x.den))))))) rfl rfl xG rfl rfl .nil),?_⟩
 rfl
theorem f_value(x:vO)(p:Rat)(hx:QOk x p 17179869184):jU Tryz.prog 90 [(qA x)] (qA (gQ p)):=by
 refine vD Tryz.func90 ?_
 refine jA<|kx [(1,(.ref 0 0)),(2,(.ref 1 0))] [(0,some (bx (qA x))),(1,some (bx (qA oZr)))] (zN (yB 0)<|zN (vL 1 eM fG)<|zZ) ?_
 refine jA<|jA<|kx [(4,(vb (yX x)))] [] (zR (qE xG)<|zE (kD (f_valid x p hx))<|zZ) ?_
 refine jF (b:=(yX x)) rfl (fun h1=>?_) (fun h1=>?_)
 ·refine jA<|kx [] [(1,some (bx (qA (vO.mk (kG (-(-qB x.num))) (kG (-(-qB x.den)))))))] (zR (qE xG)<|zE (kD (f_copied x p hx))<|zT (qO xG)<|zZ) ?_
  refine jG ⟨_,(qK (cs:=(bx (qA (vO.mk (kG (-(-qB x.num))) (kG (-(-qB x.den))))))) (d:=(qA (vO.mk (kG (-(-qB x.num))) (kG (-(-qB x.den)))))) rfl rfl xG rfl rfl .nil),?_⟩
  rw[<- hx.v,<- copied_eq h1];rfl
 ·refine jD<|jA<|kx [] [(1,some (bx (qA (gQ ((0:Int):Rat)))))] (zE (kD (f_whole 0))<|zT (qO xG)<|zZ) ?_
  refine jG ⟨_,(qK (cs:=(bx (qA (gQ ((0:Int):Rat))))) (d:=(qA (gQ ((0:Int):Rat)))) rfl rfl xG rfl rfl .nil),?_⟩
  rw[<- hx.v,toQ_bad h1];rfl
theorem f_neg(x:vO)(p:Rat)(hx:QOk x p 17179869184):jU Tryz.prog 74 [(qA x)] (qA (gQ (-p))):=by
 refine vD Tryz.func74 ?_
 refine jA<|kx [(1,(.ref 0 0)),(2,(.ref 1 0))] [(0,some (bx (qA x))),(1,some (bx (qA oZr)))] (zN (yB 0)<|zN (vL 1 eM fG)<|zZ) ?_
 refine jA<|kx [] [(0,some (bx (qA (gQ p))))] (zR (qE xG)<|zE (kD (f_value x p hx))<|zT (qO xG)<|zZ) ?_
 refine jA<|kd [] [(1,some (bx (qA (vO.mk (kG (-p.num)) ((gQ p).den)))))] mo (wE (jY fo51_0)<|wR (qE jP)<|wE (kD (s_neg (eO hx.ql)))<|wE (jY cT)<|wR (qE jP)<|wE (oBd pl51 eM fG)<|wT (qO xG)<|wZ) ?_
 refine jG ⟨_,(qK (cs:=(bx (qA (vO.mk (kG (-p.num)) ((gQ p).den))))) (d:=(qA (vO.mk (kG (-p.num)) ((gQ p).den)))) rfl rfl xG rfl rfl .nil),?_⟩
 rfl
theorem f_add(x:vO)(y:vO)(p:Rat)(q:Rat)(hx:QOk x p 17179869184)(hy:QOk y q 17179869184):jU Tryz.prog 73 [(qA x),(qA y)] (qA (gQ (p+q))):=by
 refine vD Tryz.func73 ?_
 refine jA<|kx [(2,(.ref 0 0)),(3,(.ref 1 0)),(4,(.ref 2 0))] [(0,some (bx (qA x))),(1,some (bx (qA y))),(2,some (bx (qA oZr)))] (zN (yB 0)<|zN (yB 1)<|zN (vL 2 eM fG)<|zZ) ?_
 refine jA<|kd [] [(0,some (bx (qA (gQ p)))),(1,some (bx (qA (gQ q))))] mo (wR (qE xG)<|wE (kD (f_value x p hx))<|wR (qE xG)<|wE (kD (f_value y q hy))<|wT (qO xG)<|wT (qO xG)<|wZ) ?_
 refine jA<|kd [] [(2,some (bx (qA (gQ (Rat.divInt ((p.num*(q.den:Int))+(q.num*(p.den:Int))) ((p.den:Int)*(q.den:Int)))))))] mo (wE (jY fo51_0)<|wR (qE jP)<|wE (jY cT)<|wR (qE jP)<|wE (kD (fD (eO hx.ql) (cA hy.ql)))<|wE (jY fo51_0)<|wR (qE jP)<|wE (jY cT)<|wR (qE jP)<|wE (kD (fD (eO hy.ql) (cA hx.ql)))<|wE (kD (s_add (xS (k:=34359738368) (eO hx.ql) (cA hy.ql)) (xS (k:=34359738368) (eO hy.ql) (cA hx.ql))))<|wE (jY cT)<|wR (qE jP)<|wE (jY cT)<|wR (qE jP)<|wE (kD (fD (cA hx.ql) (cA hy.ql)))<|wE (kD (f_reduced (kG ((p.num*(q.den:Int))+(q.num*(p.den:Int)))) (kG ((p.den:Int)*(q.den:Int))) ((p.num*(q.den:Int))+(q.num*(p.den:Int))) ((p.den:Int)*(q.den:Int)) (mA (hM (k:=34359738369) (xS (k:=34359738368) (eO hx.ql) (cA hy.ql)) (xS (k:=34359738368) (eO hy.ql) (cA hx.ql)))) (mA (xS (k:=34359738368) (cA hx.ql) (cA hy.ql))) (mul_ne (den_ne _) (den_ne _))))<|wT (qO xG)<|wZ) ?_
 refine jG ⟨_,(qK (cs:=(bx (qA (gQ (Rat.divInt ((p.num*(q.den:Int))+(q.num*(p.den:Int))) ((p.den:Int)*(q.den:Int))))))) (d:=(qA (gQ (Rat.divInt ((p.num*(q.den:Int))+(q.num*(p.den:Int))) ((p.den:Int)*(q.den:Int)))))) rfl rfl xG rfl rfl .nil),?_⟩
 rw[add_divInt];rfl
theorem f_sub(x:vO)(y:vO)(p:Rat)(q:Rat)(hx:QOk x p 17179869184)(hy:QOk y q 17179869184):jU Tryz.prog 47 [(qA x),(qA y)] (qA (gQ (p-q))):=by
 refine vD Tryz.func47 ?_
 refine jA<|kx [(2,(.ref 0 0)),(3,(.ref 1 0)),(4,(.ref 2 0))] [(0,some (bx (qA x))),(1,some (bx (qA y))),(2,some (bx (qA oZr)))] (zN (yB 0)<|zN (yB 1)<|zN (vL 2 eM fG)<|zZ) ?_
 refine jA<|kd [] [(2,some (bx (qA (gQ (p+(-q))))))] mo (wR (qE xG)<|wR (qE xG)<|wE (kD (f_neg y q hy))<|wE (kD (f_add x (gQ (-q)) p (-q) hx (qok_of (ql_neg hy.ql))))<|wT (qO xG)<|wZ) ?_
 refine jG ⟨_,(qK (cs:=(bx (qA (gQ (p+(-q)))))) (d:=(qA (gQ (p+(-q))))) rfl rfl xG rfl rfl .nil),?_⟩
 rw[Rat.sub_eq_add_neg];rfl
theorem ft51_0:aP Tryz.prog 51 0=some (0,49):=by kernel_rfl
theorem g_whole1(n:Int)(hlo:-9223372036854775808<=n:=by decide)(hhi:n<=9223372036854775807:=by decide):jU Tryz.prog 78 [(.val (.int .i64 (n)))] (jL (kG n)):=by
 refine vD Tryz.func78 ?_
 refine jA<|kx [(2,(.ref 0 0))] [(0,some (bx (jL (kR.mk false []))))] (zN (vL 0 vY vZ)<|zZ) ?_
 refine jA<|kx [] [(0,some (bx (jL (kG n))))] (zM<|zE (kD (r_of n (by omega) (by omega)))<|zT (qO jP)<|zZ) ?_
 refine jG ⟨_,(qK (cs:=(bx (jL (kG n)))) (d:=(jL (kG n))) rfl rfl jP rfl rfl .nil),?_⟩
 rfl
theorem g_whole(n:Int)(hlo:-9223372036854775808<=n)(hhi:n<=9223372036854775807):jU Tryz.prog 51 [(.val (.int .i64 (n)))] (qA (gQ ((n:Int):Rat))):=by
 refine vD Tryz.func51 ?_
 refine jA<|kx [(2,(.ref 0 0))] [(0,some (bx (qA oZr)))] (zN (vL 0 eM fG)<|zZ) ?_
 refine jA<|kx [] [(0,some (bx (qA (vO.mk (kG n) (kG 1)))))] (zM<|zE (kD (g_whole1 n (by omega) (by omega)))<|zE (kD (g_whole1 1))<|zE (oBd pl51 eM fG)<|zT (qO xG)<|zZ) ?_
 refine jG ⟨_,(qK (cs:=(bx (qA (vO.mk (kG n) (kG 1))))) (d:=(qA (vO.mk (kG n) (kG 1)))) rfl rfl xG rfl rfl .nil),?_⟩
 rfl
theorem g_valid(x:vO)(p:Rat)(hx:QOk x p 17179869184):jU Tryz.prog 50 [(qA x)] (.val (.bool ((yX x)))):=by
 refine vD Tryz.func50 ?_
 refine jA<|kx [(1,(.ref 0 0))] [(0,some (bx (qA x)))] (zN (yB 0)<|zM<|zZ) ?_
 refine jA<|jA<|kx [(18,(vb ((!(qS x.num)||!(qS x.den))||decide ((kW (qB x.den))<=0))))] [] ?_ ?_
 ·refine zE (jY fo51_0)<|zR (qE jP)<|zE (kD (r_valid x.num (Nat.le_trans (xT hx.n1).l (by decide))))<|zE eU<|zE (oV (vb (!(qS x.num))) (kA (by kernel_rfl)))<|?_
  rcases hb1:(!(qS x.num)) with _ | _
  ·refine zE (jY cT)<|zR (qE jP)<|zE (kD (r_valid x.den (Nat.le_trans (xT hx.n2).l (by decide))))<|zE eU<|zE zG<|zE (oV (vb (false||!(qS x.den))) (kA (by kernel_rfl)))<|?_
   rcases hb2:(false||!(qS x.den)) with _ | _
   ·exact zE (jY cT)<|zR (qE jP)<|zE (kD (rs_sign (xT hx.n2)))<|zE oLe<|zE zG<|zZ
   ·exact zK<|zK<|zK<|zK<|zE uP<|zZ
  ·exact zK<|zK<|zK<|zK<|zE uP<|zM<|zK<|zK<|zK<|zK<|zE uP<|zZ
 refine jF rfl (fun h3=>?_) (fun h3=>?_)
 ·refine jA<|kx [(2,(vb false))] [] (zM<|zZ) ?_
  refine jG ⟨_,(.tmp (d:=(.val (.bool (false)))) rfl .nil),?_⟩
  rw[validR_no h3];rfl
 ·refine jD<|jA<|kx [(2,(vb ((uM (((Int.gcd (qB x.num) (qB x.den):Nat):Int)) 1) == 0)))] [] (zE (jY fo51_0)<|zR (qE jP)<|zE (jY cT)<|zR (qE jP)<|zE (kD (rs_gcd (xT hx.n1) (xT hx.n2) (by decide) (by decide)))<|zE (kD (g_whole1 1))<|zE (kD (rs_compare (vX (k:=17179869184) (xT hx.n1) (xT hx.n2)) (iok_small (z:=1)) (by decide) (by decide)))<|zE zW<|zM<|zZ) ?_
  refine jG ⟨_,(.tmp (d:=(.val (.bool (((uM (((Int.gcd (qB x.num) (qB x.den):Nat):Int)) 1) == 0))))) rfl .nil),?_⟩
  rw[validR_yes h3];rfl
theorem g_value(x:vO)(p:Rat)(hx:QOk x p 17179869184):jU Tryz.prog 26 [(qA x)] (qA (gQ p)):=by
 refine vD Tryz.func26 ?_
 refine jA<|kx [(1,(.ref 0 0)),(2,(.ref 1 0))] [(0,some (bx (qA x))),(1,some (bx (qA oZr)))] (zN (yB 0)<|zN (vL 1 eM fG)<|zZ) ?_
 refine jA<|jA<|kx [(4,(vb (yX x)))] [] (zR (qE xG)<|zE (kD (g_valid x p hx))<|zZ) ?_
 refine jF (b:=(yX x)) rfl (fun h1=>?_) (fun h1=>?_)
 ·refine jA<|kx [] [(1,some (bx (qA x)))] (zR (qE xG)<|zT (qO xG)<|zZ) ?_
  refine jG ⟨_,(qK (cs:=(bx (qA x))) (d:=(qA x)) rfl rfl xG rfl rfl .nil),?_⟩
  rw[<- hx.v,ofQ_toQ h1];rfl
 ·refine jD<|jA<|kx [] [(1,some (bx (qA (gQ ((0:Int):Rat)))))] (zE (kD (g_whole 0 (by decide) (by decide)))<|zT (qO xG)<|zZ) ?_
  refine jG ⟨_,(qK (cs:=(bx (qA (gQ ((0:Int):Rat))))) (d:=(qA (gQ ((0:Int):Rat)))) rfl rfl xG rfl rfl .nil),?_⟩
  rw[<- hx.v,toQ_bad h1];rfl
theorem g_sign(x:vO)(p:Rat)(hx:QOk x p 17179869184):jU Tryz.prog 9 [(qA x)] (.val (.int .i64 ((signQ p)))):=by
 refine vD Tryz.func9 ?_
 refine jA<|kx [(1,(.ref 0 0))] [(0,some (bx (qA x)))] (zN (yB 0)<|zM<|zZ) ?_
 refine jA<|kx [(2,(vi (kW p.num)))] [] (zR (qE xG)<|zE (kD (g_value x p hx))<|zE (oFv ft51_0 jP)<|zE (kD (rs_sign (eO hx.ql)))<|zM<|zZ) ?_
 refine jG ⟨_,(.tmp (d:=(.val (.int .i64 ((kW p.num))))) rfl .nil),?_⟩
 rfl
end Go.Proofs.YtciingpdmjepgaaGreat
