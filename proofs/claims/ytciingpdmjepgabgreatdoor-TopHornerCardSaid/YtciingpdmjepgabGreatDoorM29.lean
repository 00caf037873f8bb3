/- Part 29 of a proof: rules, plain facts, and functions walked. -/
import Derived.Test.YtciingpdmjepgabGreatDoorM28
import Derived.Test.YtciingpdmjepgabGreatDoorM24
import Derived.Test.YtciingpdmjepgabGreatDoorM23
import Derived.Test.YtciingpdmjepgabGreatDoorM27
import Derived.Test.YtciingpdmjepgabGreatDoorM12
import Derived.Test.YtciingpdmjepgabGreatDoorM21
set_option linter.all false
set_option maxRecDepth 4000
namespace Go.Proofs.YtciingpdmjepgabGreatDoor
open Go.Fid
theorem by28:vJ Tryz.prog 28=some 64:=by kernel_rfl
theorem eN:uB Tryz.prog 23=some (28,4):=by kernel_rfl
theorem y_cl(l:List Rat)(hl:∀ q∈l,QL q 40)(hb:l.length<=1000)(hz:nzT l):jW Tryz.prog 28 [(.sl 28 4 (List.map jK (List.map jP l)))] (.sl 28 4 (List.map jK (List.map jP l))):=by
 refine uW Tryz.func28 ?_
 refine jB<|kx [] [] (zE (oNl 28 4)<|zZ) ?_
 refine jB<|kx [(3,(.own 0 28 4 0))] [(0,some (qP jK []))] (zM<|zE (oLn xD l.length)<|zN (oMk0 0 l.length eN uU uX by28)<|zM<|zZ) ?_
 refine jB<|jB<|kx [(10,(vl 28 4 jK (List.map jP l))),(11,(jS l.length)),(12,(jS 0))] [] (zM<|zE (oLn xD l.length)<|zM<|zZ) ?_
 refine jG<|kU (α:=Nat × List kP) (fun (i,o)=>⟨[(3,(.own 0 28 4 o.length)),(10,(vl 28 4 jK (List.map jP l))),(11,(jS l.length)),(12,(jS i))],[(0,some (qP jK o))]⟩) (fun (i,o)=>i<=l.length/\o=(l.take i).map jP) (fun (i,o)=>l.length-i) (0,[]) wk ⟨Nat.zero_le _,by simp⟩ ?_
 rintro ⟨i,o⟩ ⟨hi,ho⟩
 have hol:o.length=i:=by rw[ho,List.length_map,List.length_take];omega
 refine jB<|kx [(13,(vb (decide (((i:Nat):Int)<((l.length:Nat):Int)))))] [] (zE xO<|zZ) ?_
 refine jB<|jH rfl (fun h1=>?_) (fun h1=>?_)
 ·replace h1:=xF h1
  refine jF<|jB<|jG<|jB<|kx [(5,(.ref 1 0))] [(1,some (bx (jK (jP (l.getD i 0)))))] (zE (oXm xD jP i 0)<|zE (nX jR)<|zH (uT 1 uU uX)<|zT (qK jR)<|zZ) ?_
  refine kf [(3,(.own 0 28 4 ((o++[(jP (l.getD i 0))]).length)))] [(0,some (qP jK (o++[(jP (l.getD i 0))])))] (zM<|zR (kT jR)<|zE (kH (gO (jP (l.getD i 0)) (l.getD i 0) (kE (kN (dF hl (by decide) i)))))<|zE (dM eN uU uX)<|zAS jK o [(jP (l.getD i 0))] rfl eN uU by28<|zM<|zF) ?_
  refine kx [(12,(jS (i+1)))] [] (zE (vD (i+1))<|zM<|zZ) ?_
  exact ⟨(i+1,o++[jP (l.getD i 0)]),wk,⟨by omega,by rw[ho];exact mapt_step (f:=jP) (by omega)⟩,(by first|omega|(dsimp only;omega))⟩
 ·replace h1:=xH h1
  have ho2:=cl_o (l:=l) (show i=l.length by omega) ho
  have hol2:o.length=l.length:=by omega
  refine kK<|jB<|kx [(6,(jS o.length))] [] (zM<|zE (oLo eN)<|zM<|zZ) ?_
  refine jB<|jG<|vB 1 ?_
  refine vT<|jB<|jB<|kx [(34,(vb (decide (0<((o.length:Nat):Int))&&((mY (l.getD (l.length-1) 0)) == 0))))] [] ?_ ?_
  ·refine zM<|zE mB<|zE (oV (vb (decide (0<((o.length:Nat):Int)))) (qF (by kernel_rfl)))<|?_
   rcases hb2:(decide (0<((o.length:Nat):Int))) with _ | _
   ·replace hb2:=xH hb2
    exact zK<|zK<|zK<|zK<|zK<|zK<|zK<|zE gK<|zZ
   ·replace hb2:=xF hb2
    exact zM<|zM<|zE (oSb (o.length-1))<|zE (oXO eN (o.length-1))<|zR (oQr (jK (o.getD (o.length-1) qY)) (jK (jP (l.getD (l.length-1) 0))) (oLA jR (o.length-1) qY) (by exact (congrArg jK (cl_last ho2 (by omega)))))<|zE (kH (f_sign (jP (l.getD (l.length-1) 0)) (l.getD (l.length-1) 0) (kE (kN (dF hl (by decide) _)))))<|zE nT<|zE oPa<|zZ
  refine jH rfl (fun h3=>?_) (fun h3=>?_)
  ·exact (cl_no hz hol2 h3).elim
  ·refine kK<|jB<|kM (vS (t:=3) (k:=0) (es:=List.map jK o) rfl rfl (xQ _ _ (fun _=>rfl)) (uD _ _ rfl) (yB jK o (fun _=>rfl) rfl)) ?_
   refine kx [(2,(vl 28 4 jK o))] [] (zM<|zM<|zM<|zE (oS3 o.length eN)<|zM<|zZ) ?_
   refine jE ⟨_,(.tmp (d:=(.sl 28 4 (List.map jK o))) rfl .nil),?_⟩
   rw[ho2];rfl
theorem y_dv(l:List Rat)(hl:∀ q∈l,QL q 39)(hb:l.length<=900)(hz:nzT l):jW Tryz.prog 8 [(.sl 28 4 (List.map jK (List.map jP l)))] (.sl 28 4 (List.map jK (List.map jP (nW l)))):=by
 refine uW Tryz.func8 ?_
 refine jB<|kx [] [] (zE (oNl 28 4)<|zZ) ?_
 refine jB<|kx [(3,(.own 0 28 4 0))] [(0,some (qP jK []))] (zO 0 28 4<|zZ) ?_
 refine jB<|jB<|kx [(4,(jS 1))] [] (zM<|zZ) ?_
 refine jG<|kU (α:=Nat × List kP) (fun (k,o)=>⟨[(0,(vl 28 4 jK (List.map jP l))),(3,(.own 0 28 4 o.length)),(4,(jS (k+1)))],[(0,some (qP jK o))]⟩) (fun (k,o)=>k<=l.length-1/\o=((nW l).take k).map jP) (fun (k,o)=>l.length-k) (0,[]) wk ⟨Nat.zero_le _,by simp⟩ ?_
 rintro ⟨k,o⟩ ⟨hi,ho⟩
 have hdl:=bK l
 have hol:o.length=k:=by rw[ho,List.length_map,List.length_take];omega
 refine jB<|jB<|kx [(8,(vb (decide (((k+1:Nat):Int)<((l.length:Nat):Int)))))] [] (zM<|zM<|zE (oLn eN l.length)<|zE xO<|zZ) ?_
 refine jH rfl (fun h1=>?_) (fun h1=>?_)
 ·replace h1:=xF h1
  refine jF<|jB<|jG<|kd [(3,(.own 1 28 4 ((o++[(jP (((((k+1:Nat):Int):Int):Rat)*(l.getD (k+1) 0)))]).length)))] [(1,some (qP jK (o++[(jP (((((k+1:Nat):Int):Int):Rat)*(l.getD (k+1) 0)))]))),(0,none)] mo (wM<|wM<|wE (kH (f_whole ((k+1:Nat):Int) (by omega) (by omega)))<|wM<|wM<|wE (oXm eN jP (k+1) 0)<|wE (nX jR)<|wE (kH (f_mul (jP ((((k+1:Nat):Int):Int):Rat)) (jP (l.getD (k+1) 0)) ((((k+1:Nat):Int):Int):Rat) (l.getD (k+1) 0) (kE (kN (mI (z:=((k+1:Nat):Int)) (mR (by omega) (by omega))))) (kE (kN (dF hl (by decide) (k+1))))))<|wE (dM xD uU uX)<|wAS (k:=0) 1 jK o [(jP (((((k+1:Nat):Int):Int):Rat)*(l.getD (k+1) 0)))] rfl xD uU by28<|wM<|wZ) ?_
  refine kM (sim_ren (S':=[(0,(vl 28 4 jK (List.map jP l))),(3,(.own 0 28 4 ((o++[(jP (((((k+1:Nat):Int):Int):Rat)*(l.getD (k+1) 0)))]).length))),(4,(jS (k+1)))]) (B':=[(0,some (qP jK (o++[(jP (((((k+1:Nat):Int):Int):Rat)*(l.getD (k+1) 0)))])))]) 0 1) ?_
  refine kx [(4,(jS (k+1+1)))] [] (zM<|zE (vD (k+1+1))<|zM<|zZ) ?_
  exact ⟨(k+1,o++[jP ((((k+1:Nat):Int):Rat)*(l.getD (k+1) 0))]),wk,⟨by omega,by rw[ho,<- dvP_get (by omega)];exact mapt_step (f:=jP) (by omega)⟩,(by first|omega|(dsimp only;omega))⟩
 ·replace h1:=xH h1
  have ho2:=dv_o (l:=l) (show k=l.length-1 by omega) ho
  have hz2:=nz_dvP hz
  have hdl:=bK l
  refine kK<|jB<|kM (vS (t:=3) (k:=0) (es:=List.map jK o) rfl rfl (xQ _ _ (fun _=>rfl)) (uD _ _ rfl) (yB jK o (fun _=>rfl) rfl)) ?_
  refine kx [(2,(vl 28 4 jK (List.map jP (nW l))))] [] (zE (oQd (.sl 28 4 (List.map jK o)) (.sl 28 4 (List.map jK (List.map jP (nW l)))) (oV (vl 28 4 jK o) (qF (by kernel_rfl))) (by exact (congrArg (fun l=>jT.sl 28 4 (List.map jK l)) ho2)))<|zE (kH (y_cl (nW l) (gE (by omega) hl) (by omega) (by assumption)))<|zM<|zZ) ?_
  refine jE ⟨_,(.tmp (d:=(.sl 28 4 (List.map jK (List.map jP (nW l))))) rfl .nil),?_⟩
  rfl
theorem y_dv1(l:List Rat)(hl:∀ q∈l,QL q 10)(hb:l.length<=900)(hz:nzT l):jW Tryz.prog 8 [(.sl 28 4 (List.map jK (List.map jP l)))] (.sl 28 4 (List.map jK (List.map jP (nW l)))):=y_dv l (vA hl) hb hz
theorem y_zero :jW Tryz.prog 29 [] (jK (jP 0)):=by
 refine uW Tryz.func29 ?_
 refine jB<|kx [(0,(.ref 0 0))] [(0,some (bx (jK qY)))] (zN (uT 0 uU uX)<|zZ) ?_
 refine jB<|kx [] [(0,some (bx (jK (jP ((0:Int):Rat)))))] (zE (kH (f_whole 0))<|zT (qK jR)<|zZ) ?_
 refine jE ⟨_,(kQ (cs:=(bx (jK (jP ((0:Int):Rat))))) (d:=(jK (jP ((0:Int):Rat)))) rfl rfl jR rfl rfl .nil),?_⟩
 rfl
theorem y_ev(l:List Rat)(hl:∀ q∈l,QL q 40)(x:Rat)(hx:QL x 40)(hb:l.length<=10):jW Tryz.prog 9 [(.sl 28 4 (List.map jK (List.map jP l))),(jK (jP x))] (jK (jP (yY x l))):=by
 refine uW Tryz.func9 ?_
 refine jB<|kx [(3,(.ref 0 0)),(4,(.ref 1 0))] [(0,some (bx (jK (jP x)))),(1,some (bx (jK qY)))] (zN (xA 0)<|zN (uT 1 uU uX)<|zZ) ?_
 refine jB<|kx [(5,(.ref 2 0))] [(2,some (bx (jK (jP 0))))] (zE (kH y_zero)<|zN (uT 2 uU uX)<|zT (qK jR)<|zZ) ?_
 refine jB<|jB<|kx [(6,(vi (((l.length:Nat):Int)-1)))] [] (zM<|zE (oLn eN l.length)<|zE (zSb (((l.length:Nat):Int)-1))<|zM<|zZ) ?_
 refine jG<|kU (α:=Nat × Rat) (fun (k,s)=>⟨[(0,(vl 28 4 jK (List.map jP l))),(3,(.ref 0 0)),(4,(.ref 1 0)),(5,(.ref 2 0)),(6,(vi (((k:Nat):Int)-1)))],[(0,some (bx (jK (jP x)))),(1,some (bx (jK qY))),(2,some (bx (jK (jP s))))]⟩) (fun (k,s)=>k<=l.length/\s=evT x l k) (fun (k,s)=>k) (l.length,0) wk ⟨Nat.le_refl _,(evT_e _ _).symm⟩ ?_
 rintro ⟨k,s⟩ ⟨hk,hs⟩
 have hsq:QL s 900:=hs▸evT_ql hx hl hb hk
 refine jB<|jB<|kx [(12,(vb (decide (0<=(((k:Nat):Int)-1)))))] [] (zM<|zE oGe<|zZ) ?_
 refine jH (b:=decide (0<=(((k:Nat):Int)-1))) rfl (fun h1=>?_) (fun h1=>?_)
 ·replace h1:=xF h1
  obtain ⟨i,rfl⟩:∃ i,k=i+1:=⟨k-1,by omega⟩
  rw[show (((i+1:Nat):Int)-1)=((i:Nat):Int) from by omega]
  refine jF<|jB<|jG<|kd [(6,(jS i))] [(2,some (bx (jK (jP ((s*x)+(l.getD i 0))))))] mo (wR (kT jR)<|wR (kT jR)<|wE (kH (f_mul (jP s) (jP x) s x (kE (kN hsq)) (kE (kN hx))))<|wM<|wM<|wE (oXm eN jP i 0)<|wE (nX jR)<|wE (kH (f_add (jP (s*x)) (jP (l.getD i 0)) (s*x) (l.getD i 0) (kE (kN (vW (k:=940) hsq hx))) (kE (kN (dF hl (by decide) i)))))<|wT (qK jR)<|wZ) ?_
  refine kx [(6,(vi (((i:Nat):Int)-1)))] [] (zM<|zE (zSb (((i:Nat):Int)-1))<|zM<|zZ) ?_
  exact ⟨(i,(s*x)+(l.getD i 0)),wk,⟨by omega,by rw[hs];exact (evT_s (by omega)).symm⟩,(by first|omega|(dsimp only;omega))⟩
 ·replace h1:=xH h1
  refine kK<|jB<|kx [] [(1,some (bx (jK (jP s))))] (zR (kT jR)<|zE (kH (gO (jP s) s (kE (kN hsq))))<|zT (qK jR)<|zZ) ?_
  refine jE ⟨_,(kQ (cs:=(bx (jK (jP s)))) (d:=(jK (jP s))) rfl rfl jR rfl rfl .nil),?_⟩
  obtain rfl:k=0:=by omega
  rw[hs,evT_0];rfl
theorem y_va(p:List kP)(hp:RowOk 35184372087808 p)(hb:p.length<=140737488355328):jW Tryz.prog 5 [(.sl 28 4 (List.map jK p))] (.val (.bool ((vaP p)))):=by
 let y1:=qY
 refine uW Tryz.func5 ?_
 refine jB<|kx [] [] (zM<|zZ) ?_
 refine jB<|jB<|kx [(5,(vl 28 4 jK p)),(6,(jS p.length)),(7,(jS 0))] [] (zM<|zE (zV eN)<|zM<|zZ) ?_
 refine jG<|kU (α:=Nat) (fun i=>⟨[(0,(vl 28 4 jK p)),(5,(vl 28 4 jK p)),(6,(jS p.length)),(7,(jS i))],[]⟩) (fun i=>i<=p.length/\∀ j,j<i->kL (p.getD j zr)=true) (fun i=>p.length-i) 0 wk ⟨Nat.zero_le _,fun j hj=>absurd hj (Nat.not_lt_zero j)⟩ ?_
 rintro i ⟨hi,hv⟩
 refine jB<|kx [(8,(vb (decide (((i:Nat):Int)<((p.length:Nat):Int)))))] [] (zE xO<|zZ) ?_
 refine jB<|jH rfl (fun h1=>?_) (fun h1=>?_)
 ·replace h1:=xF h1
  refine jF<|jB<|jG<|jB<|kx [(4,(.ref 0 0))] [(0,some (bx (jK (p.getD i y1))))] (zE (dS eN i y1)<|zE (nX jR)<|zN (uT 0 uU uX)<|zT (qK jR)<|zZ) ?_
  refine jB<|kx [(13,(vb (!(kL (p.getD i y1)))))] [] (zR (kT jR)<|zE (kH (bL (p.getD i y1) (xZ (p.getD i y1)) (qok_at hp.1 (show i<p.length by omega))))<|zE eL<|zZ) ?_
  refine jH rfl (fun h2=>?_) (fun h2=>?_)
  ·refine jB<|kx [(2,(vb false))] [] (zM<|zZ) ?_
   refine jE ⟨_,(.tmp (d:=(.val (.bool (false)))) rfl .nil),?_⟩
   rw[va_no (show i<p.length by omega) (by exact h2)];rfl
  ·refine jF<|kx [(7,(jS (i+1)))] [] (zE (vD (i+1))<|zM<|zZ) ?_
   exact ⟨i+1,wk,⟨by omega,fun j hj=>by
    rcases Nat.lt_or_ge j i with q | q
    ·exact hv j q
    ·obtain rfl:j=i:=by omega
     exact nbF h2⟩,(by first|omega|(dsimp only;omega))⟩
 ·replace h1:=xH h1
  refine kK<|jB<|kx [(2,(vb ((((p.length:Nat):Int) == 0)||((mY (xZ (p.getD (p.length-1) y1))) != 0))))] [] ?_ ?_
  ·refine zM<|zE (zV eN)<|zE nT<|zE (oV (vb (((p.length:Nat):Int) == 0)) (qF (by kernel_rfl)))<|?_
   rcases hb3:(((p.length:Nat):Int) == 0) with _ | _
   ·replace hb3:=ne_of_beq_false hb3
    exact zM<|zM<|zE (zV eN)<|zE (oSb (p.length-1))<|zE (dS eN (p.length-1) y1)<|zE (nX jR)<|zE (kH (f_sign (p.getD (p.length-1) y1) (xZ (p.getD (p.length-1) y1)) (qok_at hp.1 (show (p.length-1)<p.length by omega))))<|zE oNe<|zE aG<|zM<|zZ
   ·replace hb3:=eq_of_beq hb3
    exact zK<|zK<|zK<|zK<|zK<|zK<|zK<|zK<|zE yT<|zM<|zZ
  refine jE ⟨_,(.tmp (d:=(.val (.bool (((((p.length:Nat):Int) == 0)||((mY (xZ (p.getD (p.length-1) qY))) != 0)))))) rfl .nil),?_⟩
  rw[va_yes (fun j hj=>hv j (by omega))];rfl
end Go.Proofs.YtciingpdmjepgabGreatDoor
namespace Go.Fid
theorem j3_sub{P:Int}{b:R2}{t:List kI}{k:Nat}:∀ {m:Nat},k<=m->∀ u∈dJ P b t k,u∈dJ P b t m
 |0,h=>fun u hu=>by
  obtain rfl:k=0:=by omega
  exact hu
 |m+1,h=>fun u hu=>by
  rcases Nat.lt_or_ge k (m+1) with h1 | h1
  ·rw[dJ];exact List.mem_append_left _ (j3_sub (m:=m) (by omega) u hu)
  ·obtain rfl:k=m+1:=by omega
   exact hu
structure HrV (x:Rat) (p:List Rat) (t:List kI):Prop where
 gt:GT [x] ((1:Nat):Int) t
 len:2<=t.length
 x0:(evs [x] t).getD 0 0=x
 top:(evs [x] t).getD (t.length-1) 0=yY x p
theorem vV_k(xs L:List Rat)(q:Rat):vV xs L (hrK q)=q:=by
 unfold vV hrK;dsimp only;simp [mV]
theorem vV_x(x:Rat)(L:List Rat):vV [x] L hrV=x:=by unfold vV hrV;rfl
theorem vV_ad(xs L:List Rat)(a c:Nat):vV xs L ⟨2,(a:Int),(c:Int),zr⟩=L.getD a 0+L.getD c 0:=by unfold vV;rfl
theorem vV_ml(xs L:List Rat)(a c:Nat):vV xs L ⟨4,(a:Int),(c:Int),zr⟩=L.getD a 0*L.getD c 0:=by unfold vV;rfl
theorem hrv_1{x:Rat}{c:Rat}(hx:QL x 40)(hc:QL c 40):HrV x [c] ([]++[hrV]++[hrK c]):=by
 have a0:=(GT.nil [x] ((1:Nat):Int)).snoc (x:=hrV) hnd_v (by rw[vV_x];exact kS hx (by omega)) (fun h=>absurd h (by decide))
 have a1:=a0.snoc (x:=hrK c) (hnd_k hc) (by rw[vV_k];exact kS hc (by omega)) (fun h=>absurd (show (0:Int)=5 from h) (by decide))
 exact ⟨a1,by simp,by rw[mE,mE,vV_x,vV_k];rfl,by rw[mE,mE,vV_x,vV_k];show c=0*x+c;grind⟩
theorem hrv_S{P:Int}{b:R2}{x:Rat}{c d:Rat}{l:List Rat}{t:List kI}(hx:QL x 40)(hq:∀ q∈c::d::l,QL q 40)(hl:(c::d::l).length<=10)(h:HrV x (d::l) t)(ok:Hk3 P b (hrS t c)):HrV x (c::d::l) (hrS t c):=by
 have l0:=h.len
 have lv:=evs_len [x] t
 have hc:QL c 40:=hq c (by simp)
 have hd:QL (yY x (d::l)) 900:=dC hx (fun q hq9=>hq q (List.mem_cons_of_mem _ hq9)) (by simp only[List.length_cons] at hl ⊢;omega)
 have up:=ok.up
 have n1:ndC ((1:Nat):Int) (szs t) (hrM t.length)=0:=by
  have:=up t.length (by rw[hrS_len];omega)
  unfold hrS at this
  rwa [bA _ _ _ (by simp),bA _ _ _ (by simp),bA _ _ _ (by simp),snoc_old _ _ (by simp),snoc_old _ _ (by simp),eK] at this
 have e1:vV [x] (evs [x] t) (hrM t.length)=yY x (d::l)*x:=by unfold hrM;rw[vV_ml,h.top,h.x0]
 have a1:=h.gt.snoc (x:=hrM t.length) n1 (by rw[e1];exact kS (vW hd hx (Nat.le_refl _)) (by omega)) (fun h=>absurd (show (4:Int)=5 from h) (by decide))
 have a2:=a1.snoc (x:=hrK c) (hnd_k hc) (by rw[vV_k];exact kS hc (by omega)) (fun h=>absurd (show (0:Int)=5 from h) (by decide))
 have s2:evs [x] (t++[hrM t.length]++[hrK c])=evs [x] t++[yY x (d::l)*x]++[c]:=by rw[mE,mE,e1,vV_k]
 have n3:ndC ((1:Nat):Int) (szs (t++[hrM t.length]++[hrK c])) (hrA t.length)=0:=by
  have:=up (t.length+2) (by rw[hrS_len];omega)
  unfold hrS at this
  have e:(t++[hrM t.length]++[hrK c]).length=t.length+2:=by simp
  rw[<- e,bA _ _ _ (Nat.le_refl _),eK] at this
  exact this
 have e3:vV [x] (evs [x] (t++[hrM t.length]++[hrK c])) (hrA t.length)=yY x (c::d::l):=by
  unfold hrA
  rw[vV_ad,s2,ag_l (by simp<;>omega),ag_e lv.symm,ag_e (by simp<;>omega)];rfl
 have a3:=a2.snoc (x:=hrA t.length) n3 (by rw[e3];exact kS (dC hx hq hl) (by omega)) (fun h=>absurd (show (2:Int)=5 from h) (by decide))
 refine ⟨a3,by rw[hrS_len];omega,?_,?_⟩
 ·unfold hrS;rw[mE,s2,ag_l (by simp<;>omega),ag_l (by simp<;>omega),ag_l (by omega)];exact h.x0
 ·unfold hrS;rw[mE,e3,ag_e (by rw[evs_len];simp)]
theorem hrv{x:Rat}(hx:QL x 40):∀ p:List Rat,p≠[]->p.length<=6->(∀ y∈p,QL y 2)->HrV x p (hZ p)
 |[],h,_,_=>absurd rfl h
 |[c],_,_,hq=>hrv_1 hx (kS (hq c (by simp)) (by omega))
 |c::d::l,_,hl,hq=>hrv_S (P:=-1) (b:=xV 0) hx (fun q h=>kS (hq q h) (by omega)) (by omega) (hrv hx (d::l) (by simp) (by simp only[List.length_cons] at hl ⊢;omega) (fun y hy=>hq y (List.mem_cons_of_mem _ hy)))
   (hr_ok (P:=-1) (b:=xV 0) (gl_pt (kS ql_00 (by omega))) (c::d::l) (by simp) hl hq).ok
theorem hr_vrun{x:Rat}{p:List Rat}(hx:QL x 40)(h0:p≠[])(hl:p.length<=6)(hq:∀ y∈p,QL y 2):VRun [x] (hZ p)/\lastV [x] (hZ p)=yY x p:=by
 have h:=hrv hx p h0 hl hq
 have hn:=hrT_len p h0
 have ok:=(hr_ok (P:=-1) (b:=xV 0) (gl_pt (kS ql_00 (by omega))) p h0 hl hq).ok
 exact ⟨⟨ok.c0 (by have:=h.len;omega) (by omega),h.gt.up⟩,h.top⟩
theorem hz_2:gD zr (xZ zr) 2:=⟨rfl,by decide,by decide,by decide⟩
theorem hq_2{c:Rat}(h:QL c 2):gD (jP c) (xZ (jP c)) 2:=by rw[mV];exact kN h
theorem hrT_ok:∀ p:List Rat,(∀ y∈p,QL y 2)->∀ n∈hZ p,gD n.n (xZ n.n) 2
 |[],_=>fun n h=>by cases h
 |[c],hq=>fun n h=>by
  simp only[hZ,List.nil_append,List.mem_append,List.mem_singleton] at h
  rcases h with rfl | rfl
  ·exact hz_2
  ·exact hq_2 (hq c (by simp))
 |c::d::l,hq=>fun n h=>by
  rw[hZ] at h
  unfold hrS at h
  simp only[List.mem_append,List.mem_singleton] at h
  rcases h with ((h | rfl) | rfl) | rfl
  ·exact hrT_ok (d::l) (fun y hy=>hq y (List.mem_cons_of_mem _ hy)) n h
  ·exact hz_2
  ·exact hq_2 (hq c (by simp))
  ·exact hz_2
theorem ql_absQ{q:Rat}{n:Nat}(h:QL q n):QL (zW q) n:=by
 unfold zW;split
 ·exact nM h
 ·exact h
theorem absQ_nn(q:Rat):0<=zW q:=by
 unfold zW;split
 ·rename_i h;grind
 ·rename_i h;grind
theorem hw_gl{x d:Rat}(hx:QL x 2)(hd:QL d 2):GL 6 (x,x+zW d) :=
 ⟨kS hx (by omega),ql_add hx (ql_absQ hd) (by omega),by have:=absQ_nn d;show x<=x+zW d;grind⟩
theorem hr_start{l:List Rat}(h:0<l.length):hZ (l.drop (l.length-1))=[hrV,hrK (l.getD (l.length-1) 0)]:=by
 rw[List.drop_eq_getElem_cons (show l.length-1<l.length by omega),List.drop_eq_nil_of_le (by omega),List.getD_eq_getElem?_getD,List.getElem?_eq_getElem (show l.length-1<l.length by omega)];rfl
theorem hr_next{l:List Rat}{i:Nat}(h:i+1<l.length):hZ (l.drop i)=hZ (l.drop (i+1))++[hrM (hZ (l.drop (i+1))).length,hrK (l.getD i 0),hrA (hZ (l.drop (i+1))).length]:=by
 rw[List.drop_eq_getElem_cons (show i<l.length by omega),List.drop_eq_getElem_cons h,List.getD_eq_getElem?_getD,List.getElem?_eq_getElem (show i<l.length by omega)]
 show hrS (hZ _) _=_
 unfold hrS;simp
end Go.Fid
namespace Go.Proofs.YtciingpdmjepgabGreatDoor
open Go.Fid
theorem st3_of{P:Int}{b:R2}{L:List J3}{x:kI}(hb:GL 12000 b)(hP:P=-1\/P=20)(hL:L.length<=1000)(hLk:∀ u∈L,nO 12000 u)(hx:Nd3 L x):bE P b L x:=by
 cases hx with
 |c h=>unfold bE;rw[n3_k];exact e_sC _ h b hb P L hP hL
 |v=>unfold bE;rw[n3_v];exact e_sV b hb P L hP hL
 |ad ha hc=>unfold bE;rw[n3_ad];exact e_sA _ _ b hb P L hP hL hLk ha hc
 |ml ha hc=>unfold bE;rw[n3_ml];exact e_sM _ _ b hb P L hP hL hLk ha hc
theorem hr_run{P:Int}{b:R2}{p:List Rat}(hP:P=-1\/P=20)(hb:GL 6 b)(h0:p≠[])(hl:p.length<=6)(hq:∀ y∈p,QL y 2):J3Run P b (hZ p):=by
 have h:=hr_ok (P:=P) hb p h0 hl hq
 have hn:=hrT_len p h0
 have h2:=h.len
 refine ⟨h.ok.c0 (by omega) (by omega),fun k hk=>st3_of (qG hb (by omega)) hP (by rw[j3U_len];omega) (fun u hu=>h.ok.gl u (j3_sub (by omega) u hu)) (h.ok.nd k hk),?_,hP⟩
 unfold qX
 exact j3_at h.ok.gl (by show _<(dJ P b (hZ p) (hZ p).length).length;rw[j3U_len];omega)
theorem hr_last{P:Int}{b:R2}{p:List Rat}(hb:GL 6 b)(h0:p≠[])(hl:p.length<=6)(hq:∀ y∈p,QL y 2):qX P b (hZ p)=hJ P b p:=(hr_ok (P:=P) hb p h0 hl hq).top
theorem j_chk(t:List kI)(ht:TnsOk 1048576 t)(z:Int):jW Tryz.prog 32 [(.sl 35 7 (List.map qE t)),(.val (.int .i64 (z)))] (.val (.int .i64 ((((dQ z t):Nat):Int)))):=by
 refine uW Tryz.func32 ?_
 refine jB<|kx [] [] (zM<|zZ) ?_
 refine jB<|kx [(6,(jS (dQ z t)))] [] (zM<|zM<|zE (kH (j_sizes t ht z))<|zM<|zE xX<|zE xX<|zM<|zM<|zZ) ?_
 refine jB<|kx [(4,(jS (dQ z t)))] [] (zM<|zM<|zZ) ?_
 refine jE ⟨_,(.tmp (d:=(.val (.int .i64 ((((dQ z t):Nat):Int))))) rfl .nil),?_⟩
 rfl
end Go.Proofs.YtciingpdmjepgabGreatDoor
namespace Go.Fid
theorem NdR.a2{z:Int}{t:List kI}{k:Nat}(h:NdR z t k)(h0:1<=xE (t.getD k tz).op):0<=(t.getD k tz).a/\(t.getD k tz).a.toNat<k/\1<=(gX t k).getD (t.getD k tz).a.toNat 0/\(gX t k).getD (t.getD k tz).a.toNat 0<=4096:=by
 have h2:=h.ord
 unfold nP at h2
 have ha:(t.getD k tz).a.toNat<k:=by omega
 exact ⟨by omega,ha,sz_rng h.tm.up _ ha⟩
theorem NdR.b2{z:Int}{t:List kI}{k:Nat}(h:NdR z t k)(h0:xE (t.getD k tz).op=2):0<=(t.getD k tz).b/\(t.getD k tz).b.toNat<k/\1<=(gX t k).getD (t.getD k tz).b.toNat 0/\(gX t k).getD (t.getD k tz).b.toNat 0<=4096:=by
 have h2:=h.ord
 unfold nP at h2
 have ha:(t.getD k tz).b.toNat<k:=by omega
 exact ⟨by omega,ha,sz_rng h.tm.up _ ha⟩
theorem vV_0{xs L:List Rat}{x:kI}(h:x.op=0):vV xs L x=xZ x.n:=by unfold vV;simp [h]
theorem vV_1{xs L:List Rat}{x:kI}(h:x.op=1):vV xs L x=xs.getD x.a.toNat 0:=by unfold vV;simp [h]
theorem vV_2{xs L:List Rat}{x:kI}(h:x.op=2):vV xs L x=L.getD x.a.toNat 0+L.getD x.b.toNat 0:=by unfold vV;simp [h]
theorem vV_3{xs L:List Rat}{x:kI}(h:x.op=3):vV xs L x=L.getD x.a.toNat 0-L.getD x.b.toNat 0:=by unfold vV;simp [h]
theorem vV_4{xs L:List Rat}{x:kI}(h:x.op=4):vV xs L x=L.getD x.a.toNat 0*L.getD x.b.toNat 0:=by unfold vV;simp [h]
theorem vV_6{xs L:List Rat}{x:kI}(h:x.op=6):vV xs L x=-(L.getD x.a.toNat 0):=by unfold vV;simp [h]
theorem vV_7{xs L:List Rat}{x:kI}(h:x.op=7):vV xs L x=L.getD x.a.toNat 0*L.getD x.a.toNat 0:=by unfold vV;simp [h]
theorem vV_5{xs L:List Rat}{x:kI}(h:x.op=5):vV xs L x=L.getD x.a.toNat 0 / L.getD x.b.toNat 0:=by unfold vV;simp [h]
theorem nd_at{z:Int}{t:List kI}{k:Nat}(h:dQ z t=0)(hk:k<t.length):NdR z t k:=by
 have h0:=tm_0 h
 obtain ⟨h1,h2,h3,_⟩:=nd_0 (h0.2.2.2.2 k hk)
 rw[xT] at h2
 exact ⟨⟨by omega,hk,by omega,fun i hi=>h0.2.2.2.2 i (by omega)⟩,h1,h2,h3⟩
theorem NdR.var{z:Int}{t:List kI}{k:Nat}(h:NdR z t k)(h1:(t.getD k tz).op=1):0<=(t.getD k tz).a/\(t.getD k tz).a<z:=by
 have:=h.rng
 unfold aY at this
 omega
theorem NdR.con{z:Int}{t:List kI}{k:Nat}(h:NdR z t k)(h1:(t.getD k tz).op=0):kL (t.getD k tz).n=true:=by
 have:=h.bad
 unfold cC at this
 cases hv:kL (t.getD k tz).n with
 |true=>rfl
 |false=>exact absurd (.inr (.inr (.inl ⟨h1,.inr hv⟩))) this
theorem NdR.op{z:Int}{t:List kI}{k:Nat}(h:NdR z t k):(t.getD k tz).op=0\/(t.getD k tz).op=1\/(t.getD k tz).op=2\/(t.getD k tz).op=3\/(t.getD k tz).op=4\/(t.getD k tz).op=5\/(t.getD k tz).op=6\/(t.getD k tz).op=7:=by
 have:=h.kd
 rcases nC (t.getD k tz).op with ⟨e,f⟩ | ⟨e,f⟩ | ⟨e,f⟩ | ⟨e,f⟩<;>omega
theorem NdR.bin{z:Int}{t:List kI}{k:Nat}(h:NdR z t k)(h1:(t.getD k tz).op=2\/(t.getD k tz).op=3\/(t.getD k tz).op=4\/(t.getD k tz).op=5):(0<=(t.getD k tz).a/\(t.getD k tz).a<k)/\0<=(t.getD k tz).b/\(t.getD k tz).b<k:=by
 have e:xE (t.getD k tz).op=2:=by rcases h1 with h1 | h1 | h1 | h1<;>rw[h1]<;>decide
 have a:=h.a2 (by omega)
 have b:=h.b2 e
 omega
theorem NdR.un{z:Int}{t:List kI}{k:Nat}(h:NdR z t k)(h1:(t.getD k tz).op=6\/(t.getD k tz).op=7):0<=(t.getD k tz).a/\(t.getD k tz).a<k:=by
 have e:xE (t.getD k tz).op=1:=by rcases h1 with h1 | h1<;>rw[h1]<;>decide
 have a:=h.a2 (by omega)
 omega
theorem vU_nx{xs:List Rat}{t:List kI}{k:Nat}{v:Rat}(h:vV xs (vU xs t k) (t.getD k tz)=v):List.map jP (vU xs t k)++[jP v]=List.map jP (vU xs t (k+1)):=by
 rw[vU,List.map_append,h];rfl
theorem vU_nc{xs:List Rat}{t:List kI}{k:Nat}(h:vV xs (vU xs t k) (t.getD k tz)=xZ (t.getD k tz).n)(hv:kL (t.getD k tz).n=true):List.map jP (vU xs t k)++[(t.getD k tz).n]=List.map jP (vU xs t (k+1)):=by
 rw[vU,List.map_append,h,List.map_singleton,ofQ_toQ hv]
structure VEnd (xs:List Rat) (t:List kI) (k0:Nat):Prop where
 c0:dQ ((xs.length:Nat):Int) t=0
 hk:k0<=t.length
 up:VUp xs t k0
 en:k0<t.length->(t.getD k0 tz).op=5/\(vU xs t k0).getD (t.getD k0 tz).b.toNat 0=0
theorem VRun.fin{xs:List Rat}{t:List kI}(h:VRun xs t):VEnd xs t t.length:=⟨h.c0,Nat.le_refl _,h.up,fun h=>absurd h (Nat.lt_irrefl _)⟩
theorem VFail.fin{xs:List Rat}{t:List kI}{k:Nat}(h:VFail xs t k):VEnd xs t k:=⟨h.c0,Nat.le_of_lt h.hk,h.up,fun _=>⟨h.op,h.z⟩⟩
def vlR(xs:List Rat)(t:List kI)(k:Nat):kP:=if k=t.length then jP (lastV xs t) else zr
def vlC(t:List kI)(k:Nat):Int:=if k=t.length then ((0:Nat):Int) else ((14:Nat):Int)
theorem vlR_y{xs:List Rat}{t:List kI}:vlR xs t t.length=jP (lastV xs t):=if_pos rfl
theorem vlC_y{t:List kI}:vlC t t.length=((0:Nat):Int):=if_pos rfl
theorem VEnd.no2{xs:List Rat}{t:List kI}{k:Nat}(h:VEnd xs t k)(hk:k<t.length):vlR xs t k=zr/\vlC t k=((14:Nat):Int):=⟨if_neg (by omega),if_neg (by omega)⟩
theorem VEnd.eq{xs:List Rat}{t:List kI}{k0 k:Nat}(h:VEnd xs t k0)(hk:k<=k0)(hn:decide (k<k0)=false):k0=k:=by
 have:=of_decide_eq_false hn
 omega
theorem VEnd.at{xs:List Rat}{t:List kI}{k0 k:Nat}(h:VEnd xs t k0)(hk:k<=k0)(hl:k<t.length)(hn:decide (k<k0)=false):(vU xs t k).getD (t.getD k tz).b.toNat 0=0:=by
 have e:=h.eq hk hn
 subst e
 exact (h.en hl).2
theorem VEnd.no{xs:List Rat}{t:List kI}{k0 k:Nat}(h:VEnd xs t k0)(hk:k<=k0)(hl:k<t.length)(hn:decide (k<k0)=false):vlR xs t k0=zr/\vlC t k0=((14:Nat):Int):=by
 have e:=h.eq hk hn
 subst e
 exact h.no2 hl
theorem VEnd.lt{xs:List Rat}{t:List kI}{k0 k:Nat}(h:VEnd xs t k0)(hk:k<=k0)(hl:k<t.length)(ho:(t.getD k tz).op≠5):k<k0:=by
 rcases Nat.lt_or_ge k k0 with h1 | h1
 ·exact h1
 ·obtain rfl:k=k0:=by omega
  exact absurd (h.en hl).1 ho
structure CrLaw (xs:List Rat) (ls:List (List Int)) (n:Nat):Prop where
 ok:CrOk ls n
 hx:∀ q∈xs,QL q 3
 hl:xs.length=9
 hb:∀ a∈ls,∀ z∈a,¬ (8<z/\z<64)
theorem CrLaw.le{xs:List Rat}{ls:List (List Int)}{n:Nat}(h:CrLaw xs ls n){a:List Int}(ha:a∈ls):okL ((xs.length:Nat):Int) n a:=h.ok.le ha (h.hb a ha) (by rw[h.hl];rfl)
theorem den_pos(u:Rat):((u.den:Nat):Int)≠0:=by have:=u.den_pos;omega
end Go.Fid
namespace Go.Proofs.YtciingpdmjepgabGreatDoor
open Go.Fid
end Go.Proofs.YtciingpdmjepgabGreatDoor
