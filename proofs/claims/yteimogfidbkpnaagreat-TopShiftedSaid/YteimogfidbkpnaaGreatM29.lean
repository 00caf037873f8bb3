/- Part 29 of a proof: rules, plain facts, and functions walked. -/
import Derived.Test.YteimogfidbkpnaaGreatM24
import Derived.Test.YteimogfidbkpnaaGreatM28
set_option linter.all false
set_option maxRecDepth 4000
namespace Go.Proofs.YteimogfidbkpnaaGreat
open Go.Fid
theorem cb3:callB Tryz.prog 3=true:=by kernel_rfl
theorem in3:intB Tryz.prog 3=some .i64:=by kernel_rfl
theorem un5:(Tryz.prog.underlying 5).isSome=true:=by kernel_rfl
theorem zn24:gD [.int .i64 0,.int .i64 0,.int .i64 0,.slice none 0 0] [.val (.int .i64 0),.val (.int .i64 0),.val (.int .i64 0),.val (.slice none 0 0)]:=by simp [gD,Value.oneCell']
theorem w_ts0(w h mx:Int)(px:List Int)(n:Nat)(hn:n≤255)(x y:Int)(hl:¬ px.length≤100):jR Tryz.prog 3 [(jN (kG.mk w h mx px)),(.val (.int .u8 (((n:Nat):Int)))),(qH (qI.mk x y))] (.val (.bool (true))):=by
 refine jH Tryz.func3 rfl cb3 rfl ?_
 show qS _ _ _ _ ⟨[(0,(.d (jN (kG.mk w h mx px)))),(1,(vyn n)),(2,(.d (qH (qI.mk x y))))],[]⟩
 refine jA<|kx [(3,(.ref 0 0)),(5,(.ref 1 0))] [(0,some (bx (jN (kG.mk w h mx px)))),(1,some (bx (qH (qI.mk x y))))] (zN (vL 0)<|zN (vL 1)<|zM<|zZ) ?_
 refine jA<|jA<|kx [(20,(vb false))] [] (zE (jX t_rect)<|zE oNt<|zZ) ?_
 refine kY ?_
 refine jC<|jA<|kx [(7,(jL (n % 4)))] [] (zM<|zE (gM un5 in3 n)<|zE (oRe (n % 4))<|zM<|zZ) ?_
 refine jA<|jA<|kx [(54,(vb true))] [] (zE (kJ uY)<|zR (kX xT)<|zE (yU vI)<|zE (vG true gF (by exact decide_eq_true (by show (100:Int)<((px.length:Nat):Int);omega)))<|zM<|zK<|zK<|zK<|zK<|zE xB<|zM<|zK<|zK<|zK<|zE xB<|zM<|zK<|zK<|zK<|zK<|zK<|zK<|zE xB<|zM<|zK<|zK<|zK<|zK<|zK<|zK<|zE xB<|zZ) ?_
 refine qB ?_
 refine jA<|kx [(6,(vb true))] [] (zM<|zZ) ?_
 refine jE ⟨_,(.tmp (d:=(.val (.bool (true)))) rfl .nil),?_⟩
 rfl
theorem w_ts1(w h mx:Int)(px:List Int)(n:Nat)(hn:n≤255)(x y:Int)(hbp:px.length≤1000000)(hc:gG w h mx px≠0):jR Tryz.prog 3 [(jN (kG.mk w h mx px)),(.val (.int .u8 (((n:Nat):Int)))),(qH (qI.mk x y))] (.val (.bool (true))):=by
 refine jH Tryz.func3 rfl cb3 rfl ?_
 show qS _ _ _ _ ⟨[(0,(.d (jN (kG.mk w h mx px)))),(1,(vyn n)),(2,(.d (qH (qI.mk x y))))],[]⟩
 refine jA<|kx [(3,(.ref 0 0)),(5,(.ref 1 0))] [(0,some (bx (jN (kG.mk w h mx px)))),(1,some (bx (qH (qI.mk x y))))] (zN (vL 0)<|zN (vL 1)<|zM<|zZ) ?_
 refine jA<|jA<|kx [(20,(vb false))] [] (zE (jX t_rect)<|zE oNt<|zZ) ?_
 refine kY ?_
 refine jC<|jA<|kx [(7,(jL (n % 4)))] [] (zM<|zE (gM un5 in3 n)<|zE (oRe (n % 4))<|zM<|zZ) ?_
 refine jA<|jA<|kx [(54,(vb ((((decide (100<((px.length:Nat):Int))||decide (x<(((n % 4):Nat):Int)))||decide (y<0))||decide ((IntKind.i64.wrap (w-3))<x))||decide ((IntKind.i64.wrap (h-3))<y))))] [] ?_ ?_
 ·refine zE (kJ uY)<|zR (kX xT)<|zE (yU vI)<|zE gF<|zE (oV (vb (decide (100<((px.length:Nat):Int)))) (kT (by kernel_rfl)))<|?_
  rcases hb1:(decide (100<((px.length:Nat):Int))) with _ | _
  ·replace hb1:=vK hb1
   refine zE (kJ vX)<|zR (kX qC)<|zM<|zE uE<|zE nS<|zE (oV (vb (false||decide (x<(((n % 4):Nat):Int)))) (kT (by kernel_rfl)))<|?_
   rcases hb2:(false||decide (x<(((n % 4):Nat):Int))) with _ | _
   ·replace hb2:=vK (p:=(x<(((n % 4):Nat):Int))) hb2
    refine zE (kJ vR)<|zR (kX qC)<|zE uE<|zE nS<|zE (oV (vb (false||decide (y<0))) (kT (by kernel_rfl)))<|?_
    rcases hb3:(false||decide (y<0)) with _ | _
    ·replace hb3:=vK (p:=(y<0)) hb3
     refine zE (kJ vX)<|zR (kX qC)<|zE (kJ uC)<|zR (kX qC)<|zE (cN (IntKind.i64.wrap (w-3)) (hr:=by exact rfl))<|zE gF<|zE nS<|zE (oV (vb (false||decide ((IntKind.i64.wrap (w-3))<x))) (kT (by kernel_rfl)))<|?_
     rcases hb4:(false||decide ((IntKind.i64.wrap (w-3))<x)) with _ | _
     ·replace hb4:=vK (p:=((IntKind.i64.wrap (w-3))<x)) hb4
      exact zE (kJ vR)<|zR (kX qC)<|zE (kJ zL)<|zR (kX qC)<|zE (cN (IntKind.i64.wrap (h-3)) (hr:=by exact rfl))<|zE gF<|zE nS<|zZ
     ·replace hb4:=vM (p:=((IntKind.i64.wrap (w-3))<x)) hb4
      exact zK<|zK<|zK<|zK<|zK<|zK<|zE xB<|zZ
    ·replace hb3:=vM (p:=(y<0)) hb3
     exact zK<|zK<|zK<|zK<|zK<|zK<|zE xB<|zM<|zK<|zK<|zK<|zK<|zK<|zK<|zE xB<|zZ
   ·replace hb2:=vM (p:=(x<(((n % 4):Nat):Int))) hb2
    exact zK<|zK<|zK<|zE xB<|zM<|zK<|zK<|zK<|zK<|zK<|zK<|zE xB<|zM<|zK<|zK<|zK<|zK<|zK<|zK<|zE xB<|zZ
  ·replace hb1:=vM hb1
   exact zK<|zK<|zK<|zK<|zE xB<|zM<|zK<|zK<|zK<|zE xB<|zM<|zK<|zK<|zK<|zK<|zK<|zK<|zE xB<|zM<|zK<|zK<|zK<|zK<|zK<|zK<|zE xB<|zZ
 refine jG rfl (fun h5=>?_) (fun h5=>?_)
 ·refine jA<|kx [(6,(vb true))] [] (zM<|zZ) ?_
  refine jE ⟨_,(.tmp (d:=(.val (.bool (true)))) rfl .nil),?_⟩
  rfl
 ·refine jC<|jA<|jA<|kx [(57,(vb true))] [] (zR (kI zQ)<|zE (jX (p_rchk w h mx px hbp))<|zE (vG true oNe (by exact bne_iff_ne.2 hc))<|zZ) ?_
  refine qB ?_
  refine jA<|kx [(6,(vb true))] [] (zM<|zZ) ?_
  refine jE ⟨_,(.tmp (d:=(.val (.bool (true)))) rfl .nil),?_⟩
  rfl
theorem w_ts2(w h:Nat)(mx:Int)(px:List Int)(n:Nat)(hn:n≤255)(x y:Int)(hbp:px.length≤1000000)(hw:1≤w∧w≤64)(hh:1≤h∧h≤64)(hg:¬ (px.length≤100∧((n % 4:Nat):Int)≤x∧0≤y∧x+3≤(w:Int)∧y+3≤(h:Int))):jR Tryz.prog 3 [(jN (kG.mk ((w:Nat):Int) ((h:Nat):Int) mx px)),(.val (.int .u8 (((n:Nat):Int)))),(qH (qI.mk x y))] (.val (.bool (true))):=by
 refine jH Tryz.func3 rfl cb3 rfl ?_
 show qS _ _ _ _ ⟨[(0,(.d (jN (kG.mk ((w:Nat):Int) ((h:Nat):Int) mx px)))),(1,(vyn n)),(2,(.d (qH (qI.mk x y))))],[]⟩
 refine jA<|kx [(3,(.ref 0 0)),(5,(.ref 1 0))] [(0,some (bx (jN (kG.mk ((w:Nat):Int) ((h:Nat):Int) mx px)))),(1,some (bx (qH (qI.mk x y))))] (zN (vL 0)<|zN (vL 1)<|zM<|zZ) ?_
 refine jA<|jA<|kx [(20,(vb false))] [] (zE (jX t_rect)<|zE oNt<|zZ) ?_
 refine kY ?_
 refine jC<|jA<|kx [(7,(jL (n % 4)))] [] (zM<|zE (gM un5 in3 n)<|zE (oRe (n % 4))<|zM<|zZ) ?_
 refine jA<|jA<|kx [(54,(vb ((((decide (100<((px.length:Nat):Int))||decide (x<(((n % 4):Nat):Int)))||decide (y<0))||decide ((((w:Nat):Int)-3)<x))||decide ((((h:Nat):Int)-3)<y))))] [] ?_ ?_
 ·refine zE (kJ uY)<|zR (kX xT)<|zE (yU vI)<|zE gF<|zE (oV (vb (decide (100<((px.length:Nat):Int)))) (kT (by kernel_rfl)))<|?_
  rcases hb1:(decide (100<((px.length:Nat):Int))) with _ | _
  ·replace hb1:=vK hb1
   refine zE (kJ vX)<|zR (kX qC)<|zM<|zE uE<|zE nS<|zE (oV (vb (false||decide (x<(((n % 4):Nat):Int)))) (kT (by kernel_rfl)))<|?_
   rcases hb2:(false||decide (x<(((n % 4):Nat):Int))) with _ | _
   ·replace hb2:=vK (p:=(x<(((n % 4):Nat):Int))) hb2
    refine zE (kJ vR)<|zR (kX qC)<|zE uE<|zE nS<|zE (oV (vb (false||decide (y<0))) (kT (by kernel_rfl)))<|?_
    rcases hb3:(false||decide (y<0)) with _ | _
    ·replace hb3:=vK (p:=(y<0)) hb3
     refine zE (kJ vX)<|zR (kX qC)<|zE (kJ uC)<|zR (kX qC)<|zE (cN (((w:Nat):Int)-3) (hr:=by exact (qV rfl (by simp only[xZ];omega) (by simp only[zD];omega))))<|zE gF<|zE nS<|zE (oV (vb (false||decide ((((w:Nat):Int)-3)<x))) (kT (by kernel_rfl)))<|?_
     rcases hb4:(false||decide ((((w:Nat):Int)-3)<x)) with _ | _
     ·replace hb4:=vK (p:=((((w:Nat):Int)-3)<x)) hb4
      exact zE (kJ vR)<|zR (kX qC)<|zE (kJ zL)<|zR (kX qC)<|zE (cN (((h:Nat):Int)-3) (hr:=by exact (qV rfl (by simp only[xZ];omega) (by simp only[zD];omega))))<|zE gF<|zE nS<|zZ
     ·replace hb4:=vM (p:=((((w:Nat):Int)-3)<x)) hb4
      exact zK<|zK<|zK<|zK<|zK<|zK<|zE xB<|zZ
    ·replace hb3:=vM (p:=(y<0)) hb3
     exact zK<|zK<|zK<|zK<|zK<|zK<|zE xB<|zM<|zK<|zK<|zK<|zK<|zK<|zK<|zE xB<|zZ
   ·replace hb2:=vM (p:=(x<(((n % 4):Nat):Int))) hb2
    exact zK<|zK<|zK<|zE xB<|zM<|zK<|zK<|zK<|zK<|zK<|zK<|zE xB<|zM<|zK<|zK<|zK<|zK<|zK<|zK<|zE xB<|zZ
  ·replace hb1:=vM hb1
   exact zK<|zK<|zK<|zK<|zE xB<|zM<|zK<|zK<|zK<|zE xB<|zM<|zK<|zK<|zK<|zK<|zK<|zK<|zE xB<|zM<|zK<|zK<|zK<|zK<|zK<|zK<|zE xB<|zZ
 refine jG rfl (fun h5=>?_) (fun h5=>?_)
 ·refine jA<|kx [(6,(vb true))] [] (zM<|zZ) ?_
  refine jE ⟨_,(.tmp (d:=(.val (.bool (true)))) rfl .nil),?_⟩
  rfl
 ·exfalso;simp at h5;omega
theorem w_ts3(w h:Nat)(mx:Int)(px:List Int)(n:Nat)(hn:n≤255)(x y:Nat)(hv:RstOk w h px)(m1:1≤mx)(m2:mx≤65535)(hpm:∀ z∈px,0≤z∧z≤mx)(hc:gG ((w:Nat):Int) ((h:Nat):Int) mx px=0)(h100:px.length≤100)(hd:n % 4≤x)(hx:x+3≤w)(hy:y+3≤h)(hf:mL px w x y 9=true):jR Tryz.prog 3 [(jN (kG.mk ((w:Nat):Int) ((h:Nat):Int) mx px)),(.val (.int .u8 (((n:Nat):Int)))),(qH (qI.mk ((x:Nat):Int) ((y:Nat):Int)))] (.val (.bool (true))):=by
 obtain ⟨w1,w2,h1,h2,hl,hbd⟩:=hv
 have hp:=pxb_of m2 hpm
 have hwh:=hC (w:=w) (h:=h) (by omega) (by omega) hl
 let y2:=(bx (qH (qI.mk ((x:Nat):Int) ((y:Nat):Int))))
 let y1:=(bx (jN (kG.mk ((w:Nat):Int) ((h:Nat):Int) mx px)))
 refine jH Tryz.func3 rfl cb3 rfl ?_
 show qS _ _ _ _ ⟨[(0,(.d (jN (kG.mk ((w:Nat):Int) ((h:Nat):Int) mx px)))),(1,(vyn n)),(2,(.d (qH (qI.mk ((x:Nat):Int) ((y:Nat):Int)))))],[]⟩
 refine jA<|kx [(3,(.ref 0 0)),(5,(.ref 1 0))] [(0,some y1),(1,some y2)] (zN (vL 0)<|zN (vL 1)<|zM<|zZ) ?_
 refine jA<|jA<|kx [(20,(vb false))] [] (zE (jX t_rect)<|zE oNt<|zZ) ?_
 refine kY ?_
 refine jC<|jA<|kx [(7,(jL (n % 4)))] [] (zM<|zE (gM un5 in3 n)<|zE (oRe (n % 4))<|zM<|zZ) ?_
 refine jA<|jA<|kx [(54,(vb ((((decide (((100:Nat):Int)<((px.length:Nat):Int))||decide (((x:Nat):Int)<(((n % 4):Nat):Int)))||decide (((y:Nat):Int)<((0:Nat):Int)))||decide ((((w-3):Nat):Int)<((x:Nat):Int)))||decide ((((h-3):Nat):Int)<((y:Nat):Int)))))] [] ?_ ?_
 ·refine zE (kJ uY)<|zR (kX xT)<|zE (yU vI (L:=px))<|zE gF<|zE (oV (vb (decide (((100:Nat):Int)<((px.length:Nat):Int)))) (kT (by kernel_rfl)))<|?_
  rcases hb1:(decide (((100:Nat):Int)<((px.length:Nat):Int))) with _ | _
  ·replace hb1:=vK hb1
   refine zE (kJ vX)<|zR (kX qC)<|zM<|zE uE<|zE nS<|zE (oV (vb (false||decide (((x:Nat):Int)<(((n % 4):Nat):Int)))) (kT (by kernel_rfl)))<|?_
   rcases hb2:(false||decide (((x:Nat):Int)<(((n % 4):Nat):Int))) with _ | _
   ·replace hb2:=vK (p:=(((x:Nat):Int)<(((n % 4):Nat):Int))) hb2
    refine zE (kJ vR)<|zR (kX qC)<|zE uE<|zE nS<|zE (oV (vb (false||decide (((y:Nat):Int)<((0:Nat):Int)))) (kT (by kernel_rfl)))<|?_
    rcases hb3:(false||decide (((y:Nat):Int)<((0:Nat):Int))) with _ | _
    ·replace hb3:=vK (p:=(((y:Nat):Int)<((0:Nat):Int))) hb3
     refine zE (kJ vX)<|zR (kX qC)<|zE (kJ uC)<|zR (kX qC)<|zE (cO (w-3))<|zE gF<|zE nS<|zE (oV (vb (false||decide ((((w-3):Nat):Int)<((x:Nat):Int)))) (kT (by kernel_rfl)))<|?_
     rcases hb4:(false||decide ((((w-3):Nat):Int)<((x:Nat):Int))) with _ | _
     ·replace hb4:=vK (p:=((((w-3):Nat):Int)<((x:Nat):Int))) hb4
      exact zE (kJ vR)<|zR (kX qC)<|zE (kJ zL)<|zR (kX qC)<|zE (cO (h-3))<|zE gF<|zE nS<|zZ
     ·replace hb4:=vM (p:=((((w-3):Nat):Int)<((x:Nat):Int))) hb4
      exact zK<|zK<|zK<|zK<|zK<|zK<|zE xB<|zZ
    ·replace hb3:=vM (p:=(((y:Nat):Int)<((0:Nat):Int))) hb3
     exact zK<|zK<|zK<|zK<|zK<|zK<|zE xB<|zM<|zK<|zK<|zK<|zK<|zK<|zK<|zE xB<|zZ
   ·replace hb2:=vM (p:=(((x:Nat):Int)<(((n % 4):Nat):Int))) hb2
    exact zK<|zK<|zK<|zE xB<|zM<|zK<|zK<|zK<|zK<|zK<|zK<|zE xB<|zM<|zK<|zK<|zK<|zK<|zK<|zK<|zE xB<|zZ
  ·replace hb1:=vM hb1
   exact zK<|zK<|zK<|zK<|zE xB<|zM<|zK<|zK<|zK<|zE xB<|zM<|zK<|zK<|zK<|zK<|zK<|zK<|zE xB<|zM<|zK<|zK<|zK<|zK<|zK<|zK<|zE xB<|zZ
 refine jG rfl (fun h5=>?_) (fun h5=>?_)
 ·exfalso;simp at h5;omega
 ·refine jC<|jA<|jA<|kx [(57,(vb false))] [] (zR (kI zQ)<|zE (jX (p_rchk ((w:Nat):Int) ((h:Nat):Int) mx px (by omega)))<|zE (vG false oNe (by exact bne_eq_false_iff_eq.2 hc))<|zZ) ?_
  refine kY ?_
  refine jC<|jA<|kx [(8,(.ref 2 0))] [(2,some (bx (.agg [(.val (.int .i64 (((w:Nat):Int)))),(.val (.int .i64 (((h:Nat):Int)))),(.val (.int .i64 (mx))),(.val (.slice none 0 0))])))] (zE (kJ uC)<|zR (kX qC)<|zE (kJ zL)<|zR (kX qC)<|zE (kJ dT)<|zR (kX qC)<|zE (oBd pl24 ze24 zn24)<|zN (uX 2 ze24 zo24)<|zT (qF zQ)<|zZ) ?_
  refine jA<|kx [(9,(vb true))] [] (zM<|zZ) ?_
  refine jA<|jA<|pwp_own 2 3 3 3 1 (cs:=(bx (.agg [(.val (.int .i64 (((w:Nat):Int)))),(.val (.int .i64 (((h:Nat):Int)))),(.val (.int .i64 (mx))),(.val (.slice none 0 0))]))) (h:=?_)
  refine kE (wk (l:=[(3,(.ref 0 0)),(5,(.ref 1 0)),(7,(jL (n % 4))),(8,(.ref 2 0)),(9,(vb true))]) (b:=[(0,some y1),(1,some y2),(2,some [(jL w),(jL h),(vi mx),(.own 3 3 1 0)]),(3,some (bm jT []))])) ?_
  refine kx [(67,(jL px.length)),(68,(jL 0))] [] (zE (kJ uY)<|zR (kX xT)<|zE (yU vI (L:=px))<|zM<|zZ) ?_
  refine jD<|kP (α:=Nat × List Int) (fun (k,l)=>⟨[(3,(.ref 0 0)),(5,(.ref 1 0)),(7,(jL (n % 4))),(8,(.ref 2 0)),(9,(vb true)),(67,(jL px.length)),(68,(jL k))],[(0,some y1),(1,some y2),(2,some [(jL w),(jL h),(vi mx),(.own 3 3 1 l.length)]),(3,some (bm jT l))]⟩) (fun (k,l)=>k≤px.length∧l=mvL px w (n % 4) k) (fun (k,l)=>px.length-k) (0,[]) wk ⟨Nat.zero_le _,rfl⟩ ?_
  rintro ⟨k,l⟩ ⟨hk,hl0⟩
  have hlk:l.length=k:=by rw[hl0];exact mvL_len _ _ _ _
  refine jA<|kx [(69,(vb (decide (((k:Nat):Int)<((px.length:Nat):Int)))))] [] (zE uE<|zZ) ?_
  refine jA<|jG rfl (fun h6=>?_) (fun h6=>?_)
  ·replace h6:=vM h6
   have hkl:k<px.length:=by omega
   have hix:=mv_ix (d:=n % 4) hl hkl w1
   have hkw:k % w<w:=Nat.mod_lt _ (by omega)
   have hkd:k / w<h:=div_in (hl▸hkl) w1
   have hk2:=dK (w:=w) hkd (show 0<w by omega)
   have hmn:(if k % w+n % 4<w-1 then k % w+n % 4 else w-1)=min (k % w+n % 4) (w-1):=by rw[Nat.min_def];split<;>split<;>omega
   refine jC<|jA<|jD<|jA<|kx [(10,(jL k))] [] (zM<|zM<|zZ) ?_
   refine jA<|kd [(11,(jL (min ((k % w)+(n % 4)) (w-1))))] [] mo (wM<|wE (kJ uC)<|wR (kX qC)<|wE (oRe (k % w) (h0:=by exact (by show ((w:Nat):Int)≠0;omega)))<|wM<|wE (qP ((k % w)+(n % 4)))<|wE (kJ uC)<|wR (kX qC)<|wE (cO (w-1))<|wE (oMn (min ((k % w)+(n % 4)) (w-1)))<|wM<|wZ) ?_
   refine kd [] [(2,some [(jL w),(jL h),(vi mx),(.own 4 3 1 ((l++[(px.getD (((k / w)*w)+(min ((k % w)+(n % 4)) (w-1))) 0)]).length))]),(4,some (bm jT (l++[(px.getD (((k / w)*w)+(min ((k % w)+(n % 4)) (w-1))) 0)]))),(3,none)] mo (wE (kJ uY)<|wR (kX xT)<|wE (kJ uY)<|wR (kX xT)<|wM<|wE (kJ uC)<|wR (kX qC)<|wE (oQu (k / w) (h0:=by exact (by show ((w:Nat):Int)≠0;omega)))<|wE (kJ uC)<|wR (kX qC)<|wE (oMl ((k / w)*w))<|wM<|wE (qP (((k / w)*w)+(min ((k % w)+(n % 4)) (w-1))))<|wE (nG vI (((k / w)*w)+(min ((k % w)+(n % 4)) (w-1))) (0:Int) (L:=px))<|wE (xE qC)<|wE (oBs vI ze3 zo3)<|wA (k:=3) 4 jT l [(px.getD (((k / w)*w)+(min ((k % w)+(n % 4)) (w-1))) 0)] rfl vI ze3 by3<|wE (kJ uY)<|wT (oSx xT)<|wZ) ?_
   refine kE (wk (l:=[(3,(.ref 0 0)),(5,(.ref 1 0)),(7,(jL (n % 4))),(8,(.ref 2 0)),(9,(vb true)),(67,(jL px.length)),(68,(jL k))]) (b:=[(0,some y1),(1,some y2),(2,some [(jL w),(jL h),(vi mx),(.own 4 3 1 ((l++[(px.getD (((k / w)*w)+(min ((k % w)+(n % 4)) (w-1))) 0)]).length))]),(4,some (bm jT (l++[(px.getD (((k / w)*w)+(min ((k % w)+(n % 4)) (w-1))) 0)])))])) ?_
   refine kE (sim_ren2 (S':=[(3,(.ref 0 0)),(5,(.ref 1 0)),(7,(jL (n % 4))),(8,(.ref 2 0)),(9,(vb true)),(67,(jL px.length)),(68,(jL k))]) (B':=[(0,some y1),(1,some y2),(2,some [(jL w),(jL h),(vi mx),(.own 3 3 1 ((l++[(px.getD (((k / w)*w)+(min ((k % w)+(n % 4)) (w-1))) 0)]).length))]),(3,some (bm jT (l++[(px.getD (((k / w)*w)+(min ((k % w)+(n % 4)) (w-1))) 0)])))]) 3 4 2) ?_
   refine kx [(68,(jL (k+1)))] [] (zE (qP (k+1))<|zM<|zZ) ?_
   exact ⟨(k+1,l++[(px.getD (k / w*w+min (k % w+n % 4) (w-1)) 0)]),wk,⟨by omega,by rw[mvL_s,← hl0];rfl⟩,(by first|omega|(dsimp only;omega))⟩
  ·replace h6:=vK h6
   have hle:l=mvL px w (n % 4) px.length:=by rw[hl0,show k=px.length by omega]
   have hll:l.length=w*h:=by rw[hle,mvL_len,hl]
   have hlm:=mv_mem (d:=n % 4) hl w1 hpm
   rw[← hle] at hlm
   have hlp:=pxb_of m2 hlm
   have hlc:gG ((w:Nat):Int) ((h:Nat):Int) mx l=0:=rst_chk w1 w2 h1 h2 hll m1 m2 (px_ok.2 hlm)
   have uB:l.length≤100:=by omega
   refine jV<|jA<|jA<|kx [(100,(jL 0))] [] (zM<|zZ) ?_
   refine jD<|kP (α:=Nat) (fun k=>⟨[(3,(.ref 0 0)),(5,(.ref 1 0)),(7,(jL (n % 4))),(8,(.ref 2 0)),(9,(vb (mL px w x y k))),(100,(jL k))],[(0,some y1),(1,some y2),(2,some [(jL w),(jL h),(vi mx),(.own 3 3 1 l.length)]),(3,some (bm jT l))]⟩) (fun k=>k≤9) (fun k=>9-k) 0 wk (Nat.zero_le _) ?_
   rintro k hk
   refine jA<|kx [(101,(vb (decide (((k:Nat):Int)<((9:Nat):Int)))))] [] (zE uE<|zZ) ?_
   refine jA<|jG rfl (fun h7=>?_) (fun h7=>?_)
   ·replace h7:=vM h7
    have hk9:k<9:=by omega
    have hix:=dK (w:=w) (show y+k / 3<h by omega) (show x+k % 3<w by omega)
    have hix0:=dK (w:=w) (show y<h by omega) (show x<w by omega)
    rw[← hl] at hix hix0
    refine jC<|jA<|jD<|jA<|kx [(12,(jL k))] [] (zM<|zM<|zZ) ?_
    refine kd [(9,(vb ((mL px w x y k)&&((px.getD ((((y+(k / 3))*w)+x)+(k % 3)) 0) == (px.getD ((y*w)+x) 0)))))] [] mo ?_ ?_
    ·refine wM<|wE (oV (vb (mL px w x y k)) (kT (by kernel_rfl)))<|?_
     rcases hb8:(mL px w x y k) with _ | _
     ·exact wK<|wK<|wK<|wK<|wK<|wK<|wK<|wK<|wK<|wK<|wK<|wK<|wK<|wK<|wK<|wK<|wK<|wK<|wK<|wK<|wK<|wK<|wK<|wK<|wK<|wK<|wK<|wK<|wK<|wK<|wK<|wE cB<|wM<|wZ
     ·exact wE (kJ uY)<|wR (kX xT)<|wE (kJ vR)<|wR (kX qC)<|wM<|wE (oQu (k / 3))<|wE (qP (y+(k / 3)))<|wE (kJ uC)<|wR (kX qC)<|wE (oMl ((y+(k / 3))*w))<|wE (kJ vX)<|wR (kX qC)<|wE (qP (((y+(k / 3))*w)+x))<|wM<|wE (oRe (k % 3))<|wE (qP ((((y+(k / 3))*w)+x)+(k % 3)))<|wE (nG vI ((((y+(k / 3))*w)+x)+(k % 3)) (0:Int) (L:=px))<|wE (xE qC)<|wE (kJ uY)<|wR (kX xT)<|wE (kJ vR)<|wR (kX qC)<|wE (kJ uC)<|wR (kX qC)<|wE (oMl (y*w))<|wE (kJ vX)<|wR (kX qC)<|wE (qP ((y*w)+x))<|wE (nG vI ((y*w)+x) (0:Int) (L:=px))<|wE (xE qC)<|wE oEq<|wE oPa<|wM<|wZ
    refine kx [(100,(jL (k+1)))] [] (zE (qP (k+1))<|zM<|zZ) ?_
    exact ⟨(k+1),wk,(by omega),(by omega)⟩
   ·replace h7:=vK h7
    have hk9:k=9:=by omega
    have hq0:QL ((0:Int):Rat) 12:=xO (ql_i3 (by decide) (by decide)) (by decide)
    have hlt:(0:Int)<dN ((1:Int):Rat) ((0:Int):Rat):=by decide +kernel
    obtain ⟨a,b,hres,hab⟩:=ts_flat (l:=l) hf hx hy
    refine jV<|jA<|kE (dY (j:=2) (k:=3) (pre:=[(jL w),(jL h),(vi mx)]) (post:=[]) (es:=List.map jT l) rfl (by decide) rfl (qZ _ _ (fun _=>rfl)) (uR _ _ rfl) (uS _ _ (fun _=>rfl) rfl)) ?_
    refine kE (wk (l:=[(3,(.ref 0 0)),(5,(.ref 1 0)),(7,(jL (n % 4))),(8,(.ref 2 0)),(9,(vb (mL px w x y k))),(100,(jL k)),(101,(vb (decide (((k:Nat):Int)<((9:Nat):Int)))))]) (b:=[(0,some y1),(1,some y2),(2,some (bx (jN (kG.mk ((w:Nat):Int) ((h:Nat):Int) mx l))))])) ?_
    refine kd [(13,(vl 26 2 qH [(qI.mk 0 0)])),(14,(vl 4 1 xI [false])),(15,(jL 0))] [] mo (wR (kI zQ)<|wR (kI zQ)<|wR (kI sh26)<|wE (oBs mJ ze26 zo26)<|wE (jX (g_whole 1 (by decide) (by decide)))<|wE (jX (c_shN px w h mx l x y ((1:Int):Rat) (xO (kN (z:=1) (uM (by decide)) (by decide)) (by decide)) a b ((0:Int):Rat) (by omega) (by omega) hll hlp hl hp hlc hc hx hy rfl (by assumption) (by assumption) (by omega) (by assumption)))<|wM<|wE vQ<|wE vQ<|wE vQ<|wM<|wM<|wM<|wZ) ?_
    refine jA<|jA<|kx [(159,(vb false))] [] (zM<|zE (vG false oNe)<|zM<|zM<|zE (oLn mJ 1)<|zE (vG false oNe)<|zE cB<|zM<|zM<|zE (oLn el31 1)<|zE (vG false oNe)<|zE cB<|zZ) ?_
    refine kY ?_
    refine jC<|jA<|jA<|kx [(160,(vb true))] [] (zE (oQd (.val (.bool ((mL px w x y k)))) (.val (.bool (true))) (oV (vb (mL px w x y k)) (kT (by kernel_rfl))) (by exact (by rw[hk9,hf])))<|zZ) ?_
    refine qB ?_
    refine jA<|kx [(6,(vb true))] [] (zM<|zE (dP el31 0)<|zE (xE sh4)<|zE oNt<|zM<|zZ) ?_
    refine jE ⟨_,(.tmp (d:=(.val (.bool (true)))) rfl .nil),?_⟩
    rfl
theorem w_ts4(w h:Nat)(mx:Int)(px:List Int)(n:Nat)(hn:n≤255)(x y:Nat)(hv:RstOk w h px)(m1:1≤mx)(m2:mx≤65535)(hpm:∀ z∈px,0≤z∧z≤mx)(hc:gG ((w:Nat):Int) ((h:Nat):Int) mx px=0)(h100:px.length≤100)(hd:n % 4≤x)(hx:x+3≤w)(hy:y+3≤h)(hf:mL px w x y 9=false):jR Tryz.prog 3 [(jN (kG.mk ((w:Nat):Int) ((h:Nat):Int) mx px)),(.val (.int .u8 (((n:Nat):Int)))),(qH (qI.mk ((x:Nat):Int) ((y:Nat):Int)))] (.val (.bool (true))):=by
 obtain ⟨w1,w2,h1,h2,hl,hbd⟩:=hv
 have hp:=pxb_of m2 hpm
 have hwh:=hC (w:=w) (h:=h) (by omega) (by omega) hl
 let y2:=(bx (qH (qI.mk ((x:Nat):Int) ((y:Nat):Int))))
 let y1:=(bx (jN (kG.mk ((w:Nat):Int) ((h:Nat):Int) mx px)))
 refine jH Tryz.func3 rfl cb3 rfl ?_
 show qS _ _ _ _ ⟨[(0,(.d (jN (kG.mk ((w:Nat):Int) ((h:Nat):Int) mx px)))),(1,(vyn n)),(2,(.d (qH (qI.mk ((x:Nat):Int) ((y:Nat):Int)))))],[]⟩
 refine jA<|kx [(3,(.ref 0 0)),(5,(.ref 1 0))] [(0,some y1),(1,some y2)] (zN (vL 0)<|zN (vL 1)<|zM<|zZ) ?_
 refine jA<|jA<|kx [(20,(vb false))] [] (zE (jX t_rect)<|zE oNt<|zZ) ?_
 refine kY ?_
 refine jC<|jA<|kx [(7,(jL (n % 4)))] [] (zM<|zE (gM un5 in3 n)<|zE (oRe (n % 4))<|zM<|zZ) ?_
 refine jA<|jA<|kx [(54,(vb ((((decide (((100:Nat):Int)<((px.length:Nat):Int))||decide (((x:Nat):Int)<(((n % 4):Nat):Int)))||decide (((y:Nat):Int)<((0:Nat):Int)))||decide ((((w-3):Nat):Int)<((x:Nat):Int)))||decide ((((h-3):Nat):Int)<((y:Nat):Int)))))] [] ?_ ?_
 ·refine zE (kJ uY)<|zR (kX xT)<|zE (yU vI (L:=px))<|zE gF<|zE (oV (vb (decide (((100:Nat):Int)<((px.length:Nat):Int)))) (kT (by kernel_rfl)))<|?_
  rcases hb1:(decide (((100:Nat):Int)<((px.length:Nat):Int))) with _ | _
  ·replace hb1:=vK hb1
   refine zE (kJ vX)<|zR (kX qC)<|zM<|zE uE<|zE nS<|zE (oV (vb (false||decide (((x:Nat):Int)<(((n % 4):Nat):Int)))) (kT (by kernel_rfl)))<|?_
   rcases hb2:(false||decide (((x:Nat):Int)<(((n % 4):Nat):Int))) with _ | _
   ·replace hb2:=vK (p:=(((x:Nat):Int)<(((n % 4):Nat):Int))) hb2
    refine zE (kJ vR)<|zR (kX qC)<|zE uE<|zE nS<|zE (oV (vb (false||decide (((y:Nat):Int)<((0:Nat):Int)))) (kT (by kernel_rfl)))<|?_
    rcases hb3:(false||decide (((y:Nat):Int)<((0:Nat):Int))) with _ | _
    ·replace hb3:=vK (p:=(((y:Nat):Int)<((0:Nat):Int))) hb3
     refine zE (kJ vX)<|zR (kX qC)<|zE (kJ uC)<|zR (kX qC)<|zE (cO (w-3))<|zE gF<|zE nS<|zE (oV (vb (false||decide ((((w-3):Nat):Int)<((x:Nat):Int)))) (kT (by kernel_rfl)))<|?_
     rcases hb4:(false||decide ((((w-3):Nat):Int)<((x:Nat):Int))) with _ | _
     ·replace hb4:=vK (p:=((((w-3):Nat):Int)<((x:Nat):Int))) hb4
      exact zE (kJ vR)<|zR (kX qC)<|zE (kJ zL)<|zR (kX qC)<|zE (cO (h-3))<|zE gF<|zE nS<|zZ
     ·replace hb4:=vM (p:=((((w-3):Nat):Int)<((x:Nat):Int))) hb4
      exact zK<|zK<|zK<|zK<|zK<|zK<|zE xB<|zZ
    ·replace hb3:=vM (p:=(((y:Nat):Int)<((0:Nat):Int))) hb3
     exact zK<|zK<|zK<|zK<|zK<|zK<|zE xB<|zM<|zK<|zK<|zK<|zK<|zK<|zK<|zE xB<|zZ
   ·replace hb2:=vM (p:=(((x:Nat):Int)<(((n % 4):Nat):Int))) hb2
    exact zK<|zK<|zK<|zE xB<|zM<|zK<|zK<|zK<|zK<|zK<|zK<|zE xB<|zM<|zK<|zK<|zK<|zK<|zK<|zK<|zE xB<|zZ
  ·replace hb1:=vM hb1
   exact zK<|zK<|zK<|zK<|zE xB<|zM<|zK<|zK<|zK<|zE xB<|zM<|zK<|zK<|zK<|zK<|zK<|zK<|zE xB<|zM<|zK<|zK<|zK<|zK<|zK<|zK<|zE xB<|zZ
 refine jG rfl (fun h5=>?_) (fun h5=>?_)
 ·exfalso;simp at h5;omega
 ·refine jC<|jA<|jA<|kx [(57,(vb false))] [] (zR (kI zQ)<|zE (jX (p_rchk ((w:Nat):Int) ((h:Nat):Int) mx px (by omega)))<|zE (vG false oNe (by exact bne_eq_false_iff_eq.2 hc))<|zZ) ?_
  refine kY ?_
  refine jC<|jA<|kx [(8,(.ref 2 0))] [(2,some (bx (.agg [(.val (.int .i64 (((w:Nat):Int)))),(.val (.int .i64 (((h:Nat):Int)))),(.val (.int .i64 (mx))),(.val (.slice none 0 0))])))] (zE (kJ uC)<|zR (kX qC)<|zE (kJ zL)<|zR (kX qC)<|zE (kJ dT)<|zR (kX qC)<|zE (oBd pl24 ze24 zn24)<|zN (uX 2 ze24 zo24)<|zT (qF zQ)<|zZ) ?_
  refine jA<|kx [(9,(vb true))] [] (zM<|zZ) ?_
  refine jA<|jA<|pwp_own 2 3 3 3 1 (cs:=(bx (.agg [(.val (.int .i64 (((w:Nat):Int)))),(.val (.int .i64 (((h:Nat):Int)))),(.val (.int .i64 (mx))),(.val (.slice none 0 0))]))) (h:=?_)
  refine kE (wk (l:=[(3,(.ref 0 0)),(5,(.ref 1 0)),(7,(jL (n % 4))),(8,(.ref 2 0)),(9,(vb true))]) (b:=[(0,some y1),(1,some y2),(2,some [(jL w),(jL h),(vi mx),(.own 3 3 1 0)]),(3,some (bm jT []))])) ?_
  refine kx [(67,(jL px.length)),(68,(jL 0))] [] (zE (kJ uY)<|zR (kX xT)<|zE (yU vI (L:=px))<|zM<|zZ) ?_
  refine jD<|kP (α:=Nat × List Int) (fun (k,l)=>⟨[(3,(.ref 0 0)),(5,(.ref 1 0)),(7,(jL (n % 4))),(8,(.ref 2 0)),(9,(vb true)),(67,(jL px.length)),(68,(jL k))],[(0,some y1),(1,some y2),(2,some [(jL w),(jL h),(vi mx),(.own 3 3 1 l.length)]),(3,some (bm jT l))]⟩) (fun (k,l)=>k≤px.length∧l=mvL px w (n % 4) k) (fun (k,l)=>px.length-k) (0,[]) wk ⟨Nat.zero_le _,rfl⟩ ?_
  rintro ⟨k,l⟩ ⟨hk,hl0⟩
  have hlk:l.length=k:=by rw[hl0];exact mvL_len _ _ _ _
  refine jA<|kx [(69,(vb (decide (((k:Nat):Int)<((px.length:Nat):Int)))))] [] (zE uE<|zZ) ?_
  refine jA<|jG rfl (fun h6=>?_) (fun h6=>?_)
  ·replace h6:=vM h6
   have hkl:k<px.length:=by omega
   have hix:=mv_ix (d:=n % 4) hl hkl w1
   have hkw:k % w<w:=Nat.mod_lt _ (by omega)
   have hkd:k / w<h:=div_in (hl▸hkl) w1
   have hk2:=dK (w:=w) hkd (show 0<w by omega)
   have hmn:(if k % w+n % 4<w-1 then k % w+n % 4 else w-1)=min (k % w+n % 4) (w-1):=by rw[Nat.min_def];split<;>split<;>omega
   refine jC<|jA<|jD<|jA<|kx [(10,(jL k))] [] (zM<|zM<|zZ) ?_
   refine jA<|kd [(11,(jL (min ((k % w)+(n % 4)) (w-1))))] [] mo (wM<|wE (kJ uC)<|wR (kX qC)<|wE (oRe (k % w) (h0:=by exact (by show ((w:Nat):Int)≠0;omega)))<|wM<|wE (qP ((k % w)+(n % 4)))<|wE (kJ uC)<|wR (kX qC)<|wE (cO (w-1))<|wE (oMn (min ((k % w)+(n % 4)) (w-1)))<|wM<|wZ) ?_
   refine kd [] [(2,some [(jL w),(jL h),(vi mx),(.own 4 3 1 ((l++[(px.getD (((k / w)*w)+(min ((k % w)+(n % 4)) (w-1))) 0)]).length))]),(4,some (bm jT (l++[(px.getD (((k / w)*w)+(min ((k % w)+(n % 4)) (w-1))) 0)]))),(3,none)] mo (wE (kJ uY)<|wR (kX xT)<|wE (kJ uY)<|wR (kX xT)<|wM<|wE (kJ uC)<|wR (kX qC)<|wE (oQu (k / w) (h0:=by exact (by show ((w:Nat):Int)≠0;omega)))<|wE (kJ uC)<|wR (kX qC)<|wE (oMl ((k / w)*w))<|wM<|wE (qP (((k / w)*w)+(min ((k % w)+(n % 4)) (w-1))))<|wE (nG vI (((k / w)*w)+(min ((k % w)+(n % 4)) (w-1))) (0:Int) (L:=px))<|wE (xE qC)<|wE (oBs vI ze3 zo3)<|wA (k:=3) 4 jT l [(px.getD (((k / w)*w)+(min ((k % w)+(n % 4)) (w-1))) 0)] rfl vI ze3 by3<|wE (kJ uY)<|wT (oSx xT)<|wZ) ?_
   refine kE (wk (l:=[(3,(.ref 0 0)),(5,(.ref 1 0)),(7,(jL (n % 4))),(8,(.ref 2 0)),(9,(vb true)),(67,(jL px.length)),(68,(jL k))]) (b:=[(0,some y1),(1,some y2),(2,some [(jL w),(jL h),(vi mx),(.own 4 3 1 ((l++[(px.getD (((k / w)*w)+(min ((k % w)+(n % 4)) (w-1))) 0)]).length))]),(4,some (bm jT (l++[(px.getD (((k / w)*w)+(min ((k % w)+(n % 4)) (w-1))) 0)])))])) ?_
   refine kE (sim_ren2 (S':=[(3,(.ref 0 0)),(5,(.ref 1 0)),(7,(jL (n % 4))),(8,(.ref 2 0)),(9,(vb true)),(67,(jL px.length)),(68,(jL k))]) (B':=[(0,some y1),(1,some y2),(2,some [(jL w),(jL h),(vi mx),(.own 3 3 1 ((l++[(px.getD (((k / w)*w)+(min ((k % w)+(n % 4)) (w-1))) 0)]).length))]),(3,some (bm jT (l++[(px.getD (((k / w)*w)+(min ((k % w)+(n % 4)) (w-1))) 0)])))]) 3 4 2) ?_
   refine kx [(68,(jL (k+1)))] [] (zE (qP (k+1))<|zM<|zZ) ?_
   exact ⟨(k+1,l++[(px.getD (k / w*w+min (k % w+n % 4) (w-1)) 0)]),wk,⟨by omega,by rw[mvL_s,← hl0];rfl⟩,(by first|omega|(dsimp only;omega))⟩
  ·replace h6:=vK h6
   have hle:l=mvL px w (n % 4) px.length:=by rw[hl0,show k=px.length by omega]
   have hll:l.length=w*h:=by rw[hle,mvL_len,hl]
   have hlm:=mv_mem (d:=n % 4) hl w1 hpm
   rw[← hle] at hlm
   have hlp:=pxb_of m2 hlm
   have hlc:gG ((w:Nat):Int) ((h:Nat):Int) mx l=0:=rst_chk w1 w2 h1 h2 hll m1 m2 (px_ok.2 hlm)
   have uB:l.length≤100:=by omega
   refine jV<|jA<|jA<|kx [(100,(jL 0))] [] (zM<|zZ) ?_
   refine jD<|kP (α:=Nat) (fun k=>⟨[(3,(.ref 0 0)),(5,(.ref 1 0)),(7,(jL (n % 4))),(8,(.ref 2 0)),(9,(vb (mL px w x y k))),(100,(jL k))],[(0,some y1),(1,some y2),(2,some [(jL w),(jL h),(vi mx),(.own 3 3 1 l.length)]),(3,some (bm jT l))]⟩) (fun k=>k≤9) (fun k=>9-k) 0 wk (Nat.zero_le _) ?_
   rintro k hk
   refine jA<|kx [(101,(vb (decide (((k:Nat):Int)<((9:Nat):Int)))))] [] (zE uE<|zZ) ?_
   refine jA<|jG rfl (fun h7=>?_) (fun h7=>?_)
   ·replace h7:=vM h7
    have hk9:k<9:=by omega
    have hix:=dK (w:=w) (show y+k / 3<h by omega) (show x+k % 3<w by omega)
    have hix0:=dK (w:=w) (show y<h by omega) (show x<w by omega)
    rw[← hl] at hix hix0
    refine jC<|jA<|jD<|jA<|kx [(12,(jL k))] [] (zM<|zM<|zZ) ?_
    refine kd [(9,(vb ((mL px w x y k)&&((px.getD ((((y+(k / 3))*w)+x)+(k % 3)) 0) == (px.getD ((y*w)+x) 0)))))] [] mo ?_ ?_
    ·refine wM<|wE (oV (vb (mL px w x y k)) (kT (by kernel_rfl)))<|?_
     rcases hb8:(mL px w x y k) with _ | _
     ·exact wK<|wK<|wK<|wK<|wK<|wK<|wK<|wK<|wK<|wK<|wK<|wK<|wK<|wK<|wK<|wK<|wK<|wK<|wK<|wK<|wK<|wK<|wK<|wK<|wK<|wK<|wK<|wK<|wK<|wK<|wK<|wE cB<|wM<|wZ
     ·exact wE (kJ uY)<|wR (kX xT)<|wE (kJ vR)<|wR (kX qC)<|wM<|wE (oQu (k / 3))<|wE (qP (y+(k / 3)))<|wE (kJ uC)<|wR (kX qC)<|wE (oMl ((y+(k / 3))*w))<|wE (kJ vX)<|wR (kX qC)<|wE (qP (((y+(k / 3))*w)+x))<|wM<|wE (oRe (k % 3))<|wE (qP ((((y+(k / 3))*w)+x)+(k % 3)))<|wE (nG vI ((((y+(k / 3))*w)+x)+(k % 3)) (0:Int) (L:=px))<|wE (xE qC)<|wE (kJ uY)<|wR (kX xT)<|wE (kJ vR)<|wR (kX qC)<|wE (kJ uC)<|wR (kX qC)<|wE (oMl (y*w))<|wE (kJ vX)<|wR (kX qC)<|wE (qP ((y*w)+x))<|wE (nG vI ((y*w)+x) (0:Int) (L:=px))<|wE (xE qC)<|wE oEq<|wE oPa<|wM<|wZ
    refine kx [(100,(jL (k+1)))] [] (zE (qP (k+1))<|zM<|zZ) ?_
    exact ⟨(k+1),wk,(by omega),(by omega)⟩
   ·replace h7:=vK h7
    have hk9:k=9:=by omega
    have hq0:QL ((1:Int):Rat) 12:=xO (ql_i3 (by decide) (by decide)) (by decide)
    have hge:¬ (0:Int)<dN ((1:Int):Rat) ((1:Int):Rat):=by decide +kernel
    obtain ⟨a,b,hres,hab,hat,hsc,hfst⟩:=ts_one hl hf hd (by omega) hx hy
    rw[← hle] at hres hsc
    refine jV<|jA<|kE (dY (j:=2) (k:=3) (pre:=[(jL w),(jL h),(vi mx)]) (post:=[]) (es:=List.map jT l) rfl (by decide) rfl (qZ _ _ (fun _=>rfl)) (uR _ _ rfl) (uS _ _ (fun _=>rfl) rfl)) ?_
    refine kE (wk (l:=[(3,(.ref 0 0)),(5,(.ref 1 0)),(7,(jL (n % 4))),(8,(.ref 2 0)),(9,(vb (mL px w x y k))),(100,(jL k)),(101,(vb (decide (((k:Nat):Int)<((9:Nat):Int)))))]) (b:=[(0,some y1),(1,some y2),(2,some (bx (jN (kG.mk ((w:Nat):Int) ((h:Nat):Int) mx l))))])) ?_
    refine kd [(13,(vl 26 2 qH [(qI.mk (a-((x:Nat):Int)) (b-((y:Nat):Int)))])),(14,(vl 4 1 xI [true])),(15,(jL 0))] [] mo (wR (kI zQ)<|wR (kI zQ)<|wR (kI sh26)<|wE (oBs mJ ze26 zo26)<|wE (jX (g_whole 1 (by decide) (by decide)))<|wE (jX (c_shY px w h mx l x y ((1:Int):Rat) (xO (kN (z:=1) (uM (by decide)) (by decide)) (by decide)) a b ((1:Int):Rat) (by omega) (by omega) hll hlp hl hp hlc hc hx hy rfl (by assumption) (by assumption) (by omega) (by assumption)))<|wM<|wE vQ<|wE vQ<|wE vQ<|wM<|wM<|wM<|wZ) ?_
    refine jA<|jA<|kx [(159,(vb false))] [] (zM<|zE (vG false oNe)<|zM<|zM<|zE (oLn mJ 1)<|zE (vG false oNe)<|zE cB<|zM<|zM<|zE (oLn el31 1)<|zE (vG false oNe)<|zE cB<|zZ) ?_
    refine kY ?_
    refine jC<|jA<|jA<|kx [(160,(vb false))] [] (zE (oQd (.val (.bool ((mL px w x y k)))) (.val (.bool (false))) (oV (vb (mL px w x y k)) (kT (by kernel_rfl))) (by exact (by rw[hk9,hf])))<|zZ) ?_
    refine kY ?_
    refine jC<|jA<|jA<|kx [(191,(vb ((false||decide (((0:Nat):Int)<(b-((y:Nat):Int))))||(((b-((y:Nat):Int)) == ((0:Nat):Int))&&decide (-(((n % 4):Nat):Int)<(a-((x:Nat):Int)))))))] [] ?_ ?_
    ·refine zM<|zE (dP el31 0)<|zE (xE sh4)<|zE oNt<|zM<|zM<|zE (dP mJ 0)<|zE (mZ vR)<|zE (xE qC)<|zE gF<|zE nS<|zE (oV (vb (false||decide (((0:Nat):Int)<(b-((y:Nat):Int))))) (kT (by kernel_rfl)))<|?_
     rcases hb9:(false||decide (((0:Nat):Int)<(b-((y:Nat):Int)))) with _ | _
     ·replace hb9:=vK (p:=(((0:Nat):Int)<(b-((y:Nat):Int)))) hb9
      refine zM<|zE (dP mJ 0)<|zE (mZ vR)<|zE (xE qC)<|zE oEq<|zE (oV (vb ((b-((y:Nat):Int)) == ((0:Nat):Int))) (kT (by kernel_rfl)))<|?_
      rcases hb10:((b-((y:Nat):Int)) == ((0:Nat):Int)) with _ | _
      ·replace hb10:=ne_of_beq_false hb10
       exact zK<|zK<|zK<|zK<|zK<|zK<|zK<|zE cB<|zE cB<|zZ
      ·replace hb10:=eq_of_beq hb10
       exact zM<|zE (dP mJ 0)<|zE (mZ vX)<|zE (xE qC)<|zM<|zE (oNg (-(((n % 4):Nat):Int)))<|zE gF<|zE oPa<|zE nS<|zZ
     ·replace hb9:=vM (p:=(((0:Nat):Int)<(b-((y:Nat):Int)))) hb9
      exact zK<|zK<|zK<|zK<|zK<|zK<|zK<|zK<|zK<|zK<|zK<|zK<|zK<|zK<|zE xB<|zZ
    refine jG rfl (fun h11=>?_) (fun h11=>?_)
    ·exfalso;simp at h11;omega
    ·refine jC<|jA<|kx [(16,(.ref 5 0))] [(5,some (bx (.agg [(.val (.int .i64 (((3:Nat):Int)))),(.val (.int .i64 (((3:Nat):Int)))),(.val (.int .i64 (mx))),(.val (.slice none 0 0))])))] (zE (kJ dT)<|zR (kX qC)<|zE (oBd pl24 ze24 zn24)<|zN (uX 5 ze24 zo24)<|zT (qF zQ)<|zZ) ?_
     refine jA<|jA<|pwp_own 5 3 6 3 1 (cs:=(bx (.agg [(.val (.int .i64 (((3:Nat):Int)))),(.val (.int .i64 (((3:Nat):Int)))),(.val (.int .i64 (mx))),(.val (.slice none 0 0))]))) (h:=?_)
     refine kE (wk (l:=[(3,(.ref 0 0)),(5,(.ref 1 0)),(8,(.ref 2 0)),(13,(vl 26 2 qH [(qI.mk (a-((x:Nat):Int)) (b-((y:Nat):Int)))])),(16,(.ref 5 0))]) (b:=[(0,some y1),(1,some y2),(2,some (bx (jN (kG.mk ((w:Nat):Int) ((h:Nat):Int) mx l)))),(5,some [(jL 3),(jL 3),(vi mx),(.own 6 3 1 0)]),(6,some (bm jT []))])) ?_
     refine kx [(195,(jL 0))] [] (zM<|zZ) ?_
     refine jD<|kP (α:=Nat × List Int) (fun (j,u)=>⟨[(3,(.ref 0 0)),(5,(.ref 1 0)),(8,(.ref 2 0)),(13,(vl 26 2 qH [(qI.mk (a-((x:Nat):Int)) (b-((y:Nat):Int)))])),(16,(.ref 5 0)),(195,(jL j))],[(0,some y1),(1,some y2),(2,some (bx (jN (kG.mk ((w:Nat):Int) ((h:Nat):Int) mx l)))),(5,some [(jL 3),(jL 3),(vi mx),(.own 6 3 1 u.length)]),(6,some (bm jT u))]⟩) (fun (j,u)=>j≤9∧u=cropL px w x y j) (fun (j,u)=>9-j) (0,[]) wk ⟨Nat.zero_le _,rfl⟩ ?_
     rintro ⟨j,u⟩ ⟨hj,hu⟩
     have huj:u.length=j:=by rw[hu];exact cropL_len _ _ _ _ _
     refine jA<|kx [(196,(vb (decide (((j:Nat):Int)<((9:Nat):Int)))))] [] (zE uE<|zZ) ?_
     refine jA<|jG rfl (fun h12=>?_) (fun h12=>?_)
     ·replace h12:=vM h12
      have hj9:j<9:=by omega
      have hix:=dK (w:=w) (show y+j / 3<h by omega) (show x+j % 3<w by omega)
      rw[← hl] at hix
      refine jC<|jA<|jD<|jA<|kx [(17,(jL j))] [] (zM<|zM<|zZ) ?_
      refine kd [] [(5,some [(jL 3),(jL 3),(vi mx),(.own 7 3 1 ((u++[(px.getD ((((y+(j / 3))*w)+x)+(j % 3)) 0)]).length))]),(7,some (bm jT (u++[(px.getD ((((y+(j / 3))*w)+x)+(j % 3)) 0)]))),(6,none)] mo (wE (kJ uY)<|wR (kX xT)<|wE (kJ uY)<|wR (kX xT)<|wE (kJ vR)<|wR (kX qC)<|wM<|wE (oQu (j / 3))<|wE (qP (y+(j / 3)))<|wE (kJ uC)<|wR (kX qC)<|wE (oMl ((y+(j / 3))*w))<|wE (kJ vX)<|wR (kX qC)<|wE (qP (((y+(j / 3))*w)+x))<|wM<|wE (oRe (j % 3))<|wE (qP ((((y+(j / 3))*w)+x)+(j % 3)))<|wE (nG vI ((((y+(j / 3))*w)+x)+(j % 3)) (0:Int) (L:=px))<|wE (xE qC)<|wE (oBs vI ze3 zo3)<|wA (k:=6) 7 jT u [(px.getD ((((y+(j / 3))*w)+x)+(j % 3)) 0)] rfl vI ze3 by3<|wE (kJ uY)<|wT (oSx xT)<|wZ) ?_
      refine kE (wk (l:=[(3,(.ref 0 0)),(5,(.ref 1 0)),(8,(.ref 2 0)),(13,(vl 26 2 qH [(qI.mk (a-((x:Nat):Int)) (b-((y:Nat):Int)))])),(16,(.ref 5 0)),(195,(jL j))]) (b:=[(0,some y1),(1,some y2),(2,some (bx (jN (kG.mk ((w:Nat):Int) ((h:Nat):Int) mx l)))),(5,some [(jL 3),(jL 3),(vi mx),(.own 7 3 1 ((u++[(px.getD ((((y+(j / 3))*w)+x)+(j % 3)) 0)]).length))]),(7,some (bm jT (u++[(px.getD ((((y+(j / 3))*w)+x)+(j % 3)) 0)])))])) ?_
      refine kE (sim_ren2 (S':=[(3,(.ref 0 0)),(5,(.ref 1 0)),(8,(.ref 2 0)),(13,(vl 26 2 qH [(qI.mk (a-((x:Nat):Int)) (b-((y:Nat):Int)))])),(16,(.ref 5 0)),(195,(jL j))]) (B':=[(0,some y1),(1,some y2),(2,some (bx (jN (kG.mk ((w:Nat):Int) ((h:Nat):Int) mx l)))),(5,some [(jL 3),(jL 3),(vi mx),(.own 6 3 1 ((u++[(px.getD ((((y+(j / 3))*w)+x)+(j % 3)) 0)]).length))]),(6,some (bm jT (u++[(px.getD ((((y+(j / 3))*w)+x)+(j % 3)) 0)])))]) 6 7 5) ?_
      refine kx [(195,(jL (j+1)))] [] (zE (qP (j+1))<|zM<|zZ) ?_
      exact ⟨(j+1,u++[px.getD ((y+j / 3)*w+x+j % 3) 0]),wk,⟨by omega,by rw[cropL_s,← hu]⟩,(by first|omega|(dsimp only;omega))⟩
     ·replace h12:=vK h12
      have hue:u=kL px w x y:=by rw[hu,show j=9 by omega];rfl
      have hul:u.length=9:=by rw[hue];exact yY _ _ _ _
      have hum:=win_mem hl hpm hx hy
      rw[← hue] at hum
      have hup:=pxb_of m2 hum
      have huc:gG ((3:Nat):Int) ((3:Nat):Int) mx u=0:=rst_chk (by decide) (by decide) (by decide) (by decide) hul m1 m2 (px_ok.2 hum)
      have hsu:scF u l w a b=((1:Int):Rat):=by rw[hue];exact hsc
      refine jV<|jA<|kE (dY (j:=5) (k:=6) (pre:=[(jL 3),(jL 3),(vi mx)]) (post:=[]) (es:=List.map jT u) rfl (by decide) rfl (qZ _ _ (fun _=>rfl)) (uR _ _ rfl) (uS _ _ (fun _=>rfl) rfl)) ?_
      refine kE (wk (l:=[(3,(.ref 0 0)),(5,(.ref 1 0)),(8,(.ref 2 0)),(13,(vl 26 2 qH [(qI.mk (a-((x:Nat):Int)) (b-((y:Nat):Int)))])),(16,(.ref 5 0)),(195,(jL j)),(196,(vb (decide (((j:Nat):Int)<((9:Nat):Int)))))]) (b:=[(0,some y1),(1,some y2),(2,some (bx (jN (kG.mk ((w:Nat):Int) ((h:Nat):Int) mx l)))),(5,some (bx (jN (kG.mk ((3:Nat):Int) ((3:Nat):Int) mx u))))])) ?_
      refine kd [(15,(jL 0)),(18,(.ref 8 0))] [(8,some (bx (jI (jF ((1:Int):Rat)))))] mo (wR (kI zQ)<|wR (kI zQ)<|wE (kJ vX)<|wR (kX qC)<|wM<|wE (dP mJ 0)<|wE (mZ vX)<|wE (xE qC)<|wE (oQd (.val (.int .i64 ((((x:Nat):Int)+(a-((x:Nat):Int)))))) (.val (.int .i64 (a))) (zAd (((x:Nat):Int)+(a-((x:Nat):Int))) (hr:=by exact (qV rfl (by simp only[xZ];omega) (by simp only[zD];omega)))) (by exact (by rw[show ((x:Nat):Int)+(a-((x:Nat):Int))=a by omega])))<|wE (kJ vR)<|wR (kX qC)<|wM<|wE (dP mJ 0)<|wE (mZ vR)<|wE (xE qC)<|wE (oQd (.val (.int .i64 ((((y:Nat):Int)+(b-((y:Nat):Int)))))) (.val (.int .i64 (b))) (zAd (((y:Nat):Int)+(b-((y:Nat):Int))) (hr:=by exact (qV rfl (by simp only[xZ];omega) (by simp only[zD];omega)))) (by exact (by rw[show ((y:Nat):Int)+(b-((y:Nat):Int))=b by omega])))<|wE (jX (c_score mx u w h mx l a b (by omega) (by omega) hll hlp hul hup hlc huc hat))<|wM<|wE (oQd (jI (jF (scF u l w a b))) (jI (jF ((1:Int):Rat))) vQ (by exact (by rw[hsu])))<|wE vQ<|wN (uX 8 qW uI)<|wT (qF jP)<|wM<|wZ) ?_
      refine jA<|kd [(6,(vb true))] [] mo (wM<|wE (vG true oEq)<|wM<|wR (kI jP)<|wE (jX (g_whole 1 (by decide) (by decide)))<|wE (vG true (jX (by have h:=g_same (jF ((1:Int):Rat)) (jF ((1:Int):Rat)) ((1:Int):Rat) ((1:Int):Rat) (kO (kQ hq0) (by decide)) (kO (kQ (kN (z:=1) (uM (by decide)) (by decide))) (by decide));rw[sameR_of] at h;exact h)) (by exact decide_eq_true rfl))<|wE xB<|wM<|wZ) ?_
      refine jE ⟨_,(.tmp (d:=(.val (.bool (true)))) rfl .nil),?_⟩
      rfl
end Go.Proofs.YteimogfidbkpnaaGreat
