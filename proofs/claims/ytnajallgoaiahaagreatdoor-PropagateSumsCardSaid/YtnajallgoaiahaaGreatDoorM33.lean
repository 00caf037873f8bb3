/- Part 33 of a proof: rules, plain facts, and functions walked. -/
import Derived.Test.YtnajallgoaiahaaGreatDoorM31
import Derived.Test.YtnajallgoaiahaaGreatDoorM32
set_option linter.all false
set_option maxRecDepth 4000
namespace Go.Proofs.YtnajallgoaiahaaGreatDoor
open Go.Fid
theorem cb47:callB Tryz.prog 47=true:=by kernel_rfl
theorem e_sum4(a b c d:Rat)(ha:QL a 268435456)(hb:QL b 268435456)(hc:QL c 268435456)(hd:QL d 268435456):jQ Tryz.prog 47 [(.sl 45 4 (List.map jK [(jP a),(jP b),(jP c),(jP d)]))] (jK (jP ((((((0:Int):Rat)+a)+b)+c)+d))):=by
 let y1:=(bx (jK (jP ((((((0:Int):Rat)+a)+b)+c)+d))))
 refine jG Tryz.func47 rfl cb47 rfl ?_
 show qK _ _ _ _ ⟨[(0,(vl 45 4 jK [(jP a),(jP b),(jP c),(jP d)]))],[]⟩
 refine jB<|kx [(2,(.ref 0 0))] [(0,some (bx (jK qM)))] (zN (uB 0 uL uQ)<|zZ) ?_
 refine jB<|kx [(3,(.ref 1 0))] [(1,some (bx (jK (jP ((0:Int):Rat)))))] (zE (jZ (eB 0 (by decide) (by decide)))<|zN (uB 1 uL uQ)<|zT (qD jS)<|zZ) ?_
 refine jB<|jB<|kx [(4,(jV 0))] [] (zM<|zZ) ?_
 refine jH<|pwp_rounds 20 ?_
 refine pwp_round<|jB<|jB<|kx [(9,(vb true))] [] (zM<|zM<|zE (oLn uI 4)<|zE (xD true xT)<|zZ) ?_
 refine vP ?_
 refine jD<|jB<|jH<|kd [] [(1,some (bx (jK (jP (((0:Int):Rat)+a)))))] mo (wR (kO jS)<|wM<|wM<|wE (oXs uI 0)<|wE (nA jS)<|wE (jZ (g_add (jP ((0:Int):Rat)) (jP a) ((0:Int):Rat) a (jR (kC (zI (z:=0) (xL (by decide)) (by decide))) (by decide)) (jR (kC ha) (by decide))))<|wT (qD jS)<|wZ) ?_
 refine kx [(4,(jV 1))] [] (zM<|zE (vY 1 (hr:=by decide))<|zM<|zZ) ?_
 refine cJ (vK.refl _) ?_
 refine jB<|jB<|kx [(9,(vb true))] [] (zM<|zM<|zE (oLn uI 4)<|zE (xD true xT)<|zZ) ?_
 refine vP ?_
 refine jD<|jB<|jH<|kd [] [(1,some (bx (jK (jP ((((0:Int):Rat)+a)+b)))))] mo (wR (kO jS)<|wM<|wM<|wE (oXs uI 1)<|wE (nA jS)<|wE (jZ (g_add (jP (((0:Int):Rat)+a)) (jP b) (((0:Int):Rat)+a) b (jR (kC (zP (k:=268435458) (zI (z:=0) (xL (by decide)) (by decide)) ha (by decide))) (by decide)) (jR (kC hb) (by decide))))<|wT (qD jS)<|wZ) ?_
 refine kx [(4,(jV 2))] [] (zM<|zE (vY 2 (hr:=by decide))<|zM<|zZ) ?_
 refine cJ (vK.refl _) ?_
 refine jB<|jB<|kx [(9,(vb true))] [] (zM<|zM<|zE (oLn uI 4)<|zE (xD true xT)<|zZ) ?_
 refine vP ?_
 refine jD<|jB<|jH<|kd [] [(1,some (bx (jK (jP (((((0:Int):Rat)+a)+b)+c)))))] mo (wR (kO jS)<|wM<|wM<|wE (oXs uI 2)<|wE (nA jS)<|wE (jZ (g_add (jP ((((0:Int):Rat)+a)+b)) (jP c) ((((0:Int):Rat)+a)+b) c (jR (kC (zP (k:=536870915) (zP (k:=268435458) (zI (z:=0) (xL (by decide)) (by decide)) ha (by decide)) hb (by decide))) (by decide)) (jR (kC hc) (by decide))))<|wT (qD jS)<|wZ) ?_
 refine kx [(4,(jV 3))] [] (zM<|zE (vY 3 (hr:=by decide))<|zM<|zZ) ?_
 refine cJ (vK.refl _) ?_
 refine jB<|jB<|kx [(9,(vb true))] [] (zM<|zM<|zE (oLn uI 4)<|zE (xD true xT)<|zZ) ?_
 refine vP ?_
 refine jD<|jB<|jH<|kd [] [(1,some y1)] mo (wR (kO jS)<|wM<|wM<|wE (oXs uI 3)<|wE (nA jS)<|wE (jZ (g_add (jP (((((0:Int):Rat)+a)+b)+c)) (jP d) (((((0:Int):Rat)+a)+b)+c) d (jR (kC (zP (k:=805306372) (zP (k:=536870915) (zP (k:=268435458) (zI (z:=0) (xL (by decide)) (by decide)) ha (by decide)) hb (by decide)) hc (by decide))) (by decide)) (jR (kC hd) (by decide))))<|wT (qD jS)<|wZ) ?_
 refine kW (wk (l:=[(0,(vl 45 4 jK [(jP a),(jP b),(jP c),(jP d)])),(2,(.ref 0 0)),(3,(.ref 1 0)),(4,(jV 3))]) (b:=[(0,some (bx (jK qM))),(1,some y1)])) ?_
 refine kx [(4,(jV 4))] [] (zM<|zE (vY 4 (hr:=by decide))<|zM<|zZ) ?_
 refine cJ (vK.refl _) ?_
 refine jB<|jB<|kx [(9,(vb false))] [] (zM<|zM<|zE (oLn uI 4)<|zE (xD false xT)<|zZ) ?_
 refine kY ?_
 refine kJ<|jB<|kx [] [(0,some y1)] (zR (kO jS)<|zT (qD jS)<|zZ) ?_
 refine jE ⟨_,(kP (cs:=y1) (d:=(jK (jP ((((((0:Int):Rat)+a)+b)+c)+d)))) rfl rfl jS rfl rfl .nil),?_⟩
 rfl
theorem su_no{s r:List kN}{l k:List jO}{q:List (List jO)}(h:(((((((!(nK 10 6 s))||!(nK 10 6 r))||decide (((3:Nat):Int)<((l.length:Nat):Int)))||(((k.length:Nat):Int) != ((l.length:Nat):Int)))||!(fE 3 6 l))||!(fE 3 6 k))||!(shM 5 6 q))=false):¬ (nK 10 6 s&&nK 10 6 r&&decide (l.length≤3)&&decide (k.length=l.length)&&fE 3 6 l&&fE 3 6 k&&shM 5 6 q)=false:=fun hs=>by
 simp only[Bool.or_eq_false_iff,decide_eq_false_iff_not,Bool.not_eq_false',bne_eq_false_iff_eq] at h
 obtain ⟨⟨⟨⟨⟨⟨h1,h2⟩,h3⟩,h4⟩,h5⟩,h6⟩,h7⟩:=h
 rw[h1,h2,decide_eq_true (show l.length≤3 by omega),decide_eq_true (show k.length=l.length by omega),h5,h6,h7] at hs
 exact absurd hs (by decide)
theorem sm_of{n m:Nat}{bx:List R2}{t:List kN}(h:nK n m t=true)(hn:n≤100)(hm:m≤100)(h8:bx.length≤8)(hb:∀ y∈bx,GL 8 y)(hc:mP ((bx.length:Nat):Int) t=0):Sm bx t:=by
 obtain ⟨h1,h2,h3⟩:=few_of h
 have hc8:mP 8 t=0:=tm_mono (by omega) (by decide) hc
 refine ⟨tame_of h (by omega) h8 hb hc,fun k hk=>?_,by omega⟩
 have h4:=h3 hc8 (eM (yY t k) (t.getD k tz)) (by unfold tmL;rw[if_pos hc8];exact szU_mem hk)
 omega
theorem two_of{α:Type}{P:α→Prop}{a b:α}(h1:P a)(h2:P b):∀ x∈[a,b],P x:=fun x hx=>by
 rcases List.mem_cons.1 hx with rfl | h
 ·exact h1
 ·rw[List.mem_singleton.1 h];exact h2
theorem p_varL(t:List kN)(ht:xK 1048576 t)(l:List jO)(hl:uY 1048576 l)(q:List (List jO))(hq:xG 1048576 q)(hs6:fE 3 6 l=true)(hv:gY l=true)(hj:fS (List.map gD (List.map qJ l)) t)(hr:gQ q q.length (List.map qJ l).length)(hf:mW q (List.map qJ l).length=0)(hxq:(List.map qJ l).length=q.length)(h8:q.length≤8):jQ Tryz.prog 22 [(.sl 83 7 (List.map kK t)),(.sl 45 4 (List.map jK l)),(.sl 24 1 (List.map jL q))] (.tup [(jK (jP (xU q (qW (List.map qJ l) t) (qW (List.map qJ l) t)))),(.val (.int .i64 (((0:Nat):Int))))]):=by
 have e:=vrow_map hv
 obtain ⟨_,_,hx,_⟩:=row_form hs6 (by decide) hv
 have hx:∀ p∈List.map qJ l,QL p 1048576:=fun p hp=>by
  obtain ⟨x,hx,rfl⟩:=List.mem_map.1 hp
  exact vR (shR_ok hs6 (by decide) x hx).ql (by decide)
 have h:=p_var8 t ht (List.map qJ l) hx q hq hj hr hf hxq h8
 rw[e] at h;exact h
theorem sh_b{d:Nat}{x:kN}(h:vJ x.op=2):kN.mk x.op (x.a+((d:Nat):Int)) (x.b+((d:Nat):Int)) x.n=bH d x:=by
 unfold bH;rw[if_pos (show 1≤vJ x.op by omega),if_pos h]
theorem sh_u{d:Nat}{x:kN}(h:vJ x.op=1):kN.mk x.op (x.a+((d:Nat):Int)) x.b x.n=bH d x:=by
 unfold bH;rw[if_pos (show 1≤vJ x.op by omega),if_neg (show ¬ vJ x.op=2 by omega)]
theorem sh_0{d:Nat}{x:kN}(h:vJ x.op=0):kN.mk x.op x.a x.b x.n=bH d x:=by
 unfold bH;rw[if_neg (show ¬ 1≤vJ x.op by omega),if_neg (show ¬ vJ x.op=2 by omega)]
theorem gd_0{z:Int}{k:Nat}{x:kN}(h:Gd z k x)(h2:¬ x.op=((2:Nat):Int))(h3:¬ x.op=((3:Nat):Int))(h4:¬ x.op=((4:Nat):Int))(h5:¬ x.op=((5:Nat):Int))(h6:¬ x.op=((6:Nat):Int))(h7:¬ x.op=((7:Nat):Int)):vJ x.op=0:=by
 rcases h.kd with ⟨e,_⟩ | ⟨_,f⟩ | ⟨_,f⟩
 ·exact e
 ·omega
 ·omega
theorem sh_step{s r:List kN}{i d:Nat}(h:i<r.length):s++(r.take i).map (bH d)++[bH d (r.getD i tz)]=s++(r.take (i+1)).map (bH d):=by
 rw[List.append_assoc,List.take_succ,List.map_append,List.getElem?_eq_getElem h,List.getD_eq_getElem?_getD,List.getElem?_eq_getElem h];rfl
theorem sum_end{s r o:List kN}{i:Nat}(ho:o=s++(r.take i).map (bH s.length))(hi:i=r.length)(h1:1≤s.length)(h2:1≤r.length):o++[kN.mk ((2:Nat):Int) (((s.length-1):Nat):Int) (((o.length-1):Nat):Int) zr]=yU s r:=by
 have hl:o.length=s.length+r.length:=by rw[ho,hi,List.take_length,List.length_append,List.length_map]
 have e:kN.mk ((2:Nat):Int) (((s.length-1):Nat):Int) (((o.length-1):Nat):Int) zr=plT s.length r.length:=by
  unfold plT
  rw[show (((s.length-1):Nat):Int)=(s.length:Int)-1 by omega,show (((o.length-1):Nat):Int)=((s.length+r.length:Nat):Int)-1 by omega];rfl
 rw[e,ho,hi,List.take_length,List.append_assoc];rfl
theorem su_add{q:List (List jO)}{xs:List Rat}{s r:List kN}(hr:gQ q q.length xs.length)(hx:q.length=xs.length)(h1:fH (xs.map gD) s)(h2:fH (xs.map gD) r)(h3:fH (xs.map gD) (yU s r)):xU q (qW xs (yU s r)) (qW xs (yU s r))=(((((0:Int):Rat)+xU q (qW xs s) (qW xs s))+xU q (qW xs s) (qW xs r))+xU q (qW xs r) (qW xs s))+xU q (qW xs r) (qW xs r):=by
 rw[cov_add hr hx (qZ h1) (qZ h2) (qZ h3) fun i hi=>gr_sum h1 h2 hi,show ((0:Int):Rat)=0 from rfl,Rat.zero_add]
theorem lin_of{s:List kN}{i:Nat}(h:(s.take i).all (fun x=>!linB x)=true)(hi:i=s.length):∀ k,k<s.length→linB (s.getD k tz)=false:=fun k hk=>by
 rw[hi,List.take_length,List.all_eq_true] at h
 have:=h (s.getD k tz) (by rw[List.getD_eq_getElem?_getD,List.getElem?_eq_getElem hk];exact List.getElem_mem _)
 simpa using this
theorem lin_run{s:List kN}{xs:List Rat}{k:List jO}(hf:nK 10 6 s=true)(hk:fE 3 6 k=true)(hkl:(List.map qJ k).length=xs.length)(hc:mP (((List.map gD xs).length:Nat):Int) s=0)(hl:∀ k,k<s.length→linB (s.getD k tz)=false):fS (List.map gD (List.map qJ k)) s:=by
 have hk3:=shR_len hk
 rw[List.length_map] at hkl hc
 refine tame_run (tame_of hf (by decide) (by rw[List.length_map,List.length_map];omega) (gpt_8 fun p hp=>?_) (by rw[List.length_map,List.length_map,hkl];exact hc)) (lin_dz hl)
 obtain ⟨x,hx,rfl⟩:=List.mem_map.1 hp
 exact vR (shR_ok hk (by decide) x hx).ql (by decide)
theorem ar77:arrB Tryz.prog 77=some (2,23,1):=by kernel_rfl
theorem dI:arrB Tryz.prog 78=some (2,24,1):=by kernel_rfl
theorem cb8:callB Tryz.prog 8=true:=by kernel_rfl
theorem w_suT(s:List kN)(hts:xK 140737488355328 s)(r:List kN)(htr:xK 140737488355328 r)(l:List jO)(hl:uY 140737488355328 l)(k:List jO)(hk:uY 140737488355328 k)(q:List (List jO))(hq:xG 140737488355328 q)(hs:(nK 10 6 s&&nK 10 6 r&&decide (l.length≤3)&&decide (k.length=l.length)&&fE 3 6 l&&fE 3 6 k&&shM 5 6 q)=false)(hsb:s.length≤140737488355328)(hrb:r.length≤140737488355328):jQ Tryz.prog 8 [(cR (A2.mk s r)),(dS (A2.mk l k)),(.sl 24 1 (List.map jL q))] (.val (.bool (true))):=by
 refine jG Tryz.func8 rfl cb8 rfl ?_
 show qK _ _ _ _ ⟨[(0,(.d (cR (A2.mk s r)))),(1,(.d (dS (A2.mk l k)))),(2,(vl 24 1 jL q))],[]⟩
 refine jB<|kx [(3,(.ref 0 0)),(4,(.ref 1 0))] [(0,some (bx (cR (A2.mk s r)))),(1,some (bx (dS (A2.mk l k))))] (zN (vN 0)<|zN (vN 1)<|zM<|zZ) ?_
 refine jB<|jB<|kx [(20,(vb false))] [] (zE (jZ p_known)<|zE nF<|zZ) ?_
 refine kY ?_
 refine jD<|jB<|kd [(7,(vl 83 7 kK s)),(8,(vl 83 7 kK r))] [] mo (wE (oXr ar77 0)<|wR (qS sh23)<|wE (oXr ar77 1)<|wR (qS sh23)<|wM<|wM<|wZ) ?_
 refine jB<|jB<|kx [(64,(vb ((((((!(nK 10 6 s)||!(nK 10 6 r))||decide (((3:Nat):Int)<((l.length:Nat):Int)))||(((k.length:Nat):Int) != ((l.length:Nat):Int)))||!(fE 3 6 l))||!(fE 3 6 k))||!(shM 5 6 q))))] [] ?_ ?_
 ·refine zM<|zE (jZ (u_few s hts 10 (by omega) 6 (by omega) hsb))<|zE nF<|zE (oV (vb (!(nK 10 6 s))) (kV (by kernel_rfl)))<|?_
  rcases hb1:(!(nK 10 6 s)) with _ | _
  ·refine zM<|zE (jZ (u_few r htr 10 (by omega) 6 (by omega) hrb))<|zE nF<|zE cL<|zE (oV (vb (false||!(nK 10 6 r))) (kV (by kernel_rfl)))<|?_
   rcases hb2:(false||!(nK 10 6 r)) with _ | _
   ·replace hb2:=(Bool.not_eq_false' _).mp (show (!(nK 10 6 r))=false from hb2)
    refine zE (oXr dI 0)<|zR (qS yG)<|zE (vC uI)<|zE mT<|zE cL<|zE (oV (vb (false||decide (((3:Nat):Int)<((l.length:Nat):Int)))) (kV (by kernel_rfl)))<|?_
    rcases hb3:(false||decide (((3:Nat):Int)<((l.length:Nat):Int))) with _ | _
    ·replace hb3:=vM (p:=(((3:Nat):Int)<((l.length:Nat):Int))) hb3
     refine zE (oXr dI 1)<|zR (qS yG)<|zE (vC uI)<|zE (oXr dI 0)<|zR (qS yG)<|zE (vC uI)<|zE cM<|zE cL<|zE (oV (vb (false||(((k.length:Nat):Int) != ((l.length:Nat):Int)))) (kV (by kernel_rfl)))<|?_
     rcases hb4:(false||(((k.length:Nat):Int) != ((l.length:Nat):Int))) with _ | _
     ·replace hb4:=bne_eq_false_iff_eq.1 (show (((k.length:Nat):Int) != ((l.length:Nat):Int))=false from hb4)
      refine zE (oXr dI 0)<|zR (qS yG)<|zE (jZ (eW l hl 3 (by omega) 6 (by omega)))<|zE nF<|zE cL<|zE (oV (vb (false||!(fE 3 6 l))) (kV (by kernel_rfl)))<|?_
      rcases hb5:(false||!(fE 3 6 l)) with _ | _
      ·replace hb5:=(Bool.not_eq_false' _).mp (show (!(fE 3 6 l))=false from hb5)
       refine zE (oXr dI 1)<|zR (qS yG)<|zE (jZ (eW k hk 3 (by omega) 6 (by omega)))<|zE nF<|zE cL<|zE (oV (vb (false||!(fE 3 6 k))) (kV (by kernel_rfl)))<|?_
       rcases hb6:(false||!(fE 3 6 k)) with _ | _
       ·replace hb6:=(Bool.not_eq_false' _).mp (show (!(fE 3 6 k))=false from hb6)
        exact zM<|zE (jZ (u_table q hq))<|zE nF<|zE cL<|zZ
       ·replace hb6:=(Bool.not_eq_true' _).mp (show (!(fE 3 6 k))=true from hb6)
        exact zK<|zK<|zK<|zE xS<|zZ
      ·replace hb5:=(Bool.not_eq_true' _).mp (show (!(fE 3 6 l))=true from hb5)
       exact zK<|zK<|zK<|zK<|zE xS<|zM<|zK<|zK<|zK<|zE xS<|zZ
     ·replace hb4:=bne_iff_ne.1 (show (((k.length:Nat):Int) != ((l.length:Nat):Int))=true from hb4)
      exact zK<|zK<|zK<|zK<|zE xS<|zM<|zK<|zK<|zK<|zK<|zE xS<|zM<|zK<|zK<|zK<|zE xS<|zZ
    ·replace hb3:=vI (p:=(((3:Nat):Int)<((l.length:Nat):Int))) hb3
     exact zK<|zK<|zK<|zK<|zK<|zK<|zK<|zE xS<|zM<|zK<|zK<|zK<|zK<|zE xS<|zM<|zK<|zK<|zK<|zK<|zE xS<|zM<|zK<|zK<|zK<|zE xS<|zZ
   ·replace hb2:=(Bool.not_eq_true' _).mp (show (!(nK 10 6 r))=true from hb2)
    exact zK<|zK<|zK<|zK<|zE xS<|zM<|zK<|zK<|zK<|zK<|zK<|zK<|zK<|zE xS<|zM<|zK<|zK<|zK<|zK<|zE xS<|zM<|zK<|zK<|zK<|zK<|zE xS<|zM<|zK<|zK<|zK<|zE xS<|zZ
  ·exact zK<|zK<|zK<|zE xS<|zM<|zK<|zK<|zK<|zK<|zE xS<|zM<|zK<|zK<|zK<|zK<|zK<|zK<|zK<|zE xS<|zM<|zK<|zK<|zK<|zK<|zE xS<|zM<|zK<|zK<|zK<|zK<|zE xS<|zM<|zK<|zK<|zK<|zE xS<|zZ
 refine jF rfl (fun h7=>?_) (fun h7=>?_)
 ·refine jB<|kx [(6,(vb true))] [] (zM<|zZ) ?_
  refine jE ⟨_,(.tmp (d:=(.val (.bool (true)))) rfl .nil),?_⟩
  rfl
 ·exact absurd hs (su_no h7)
theorem w_suR(s:List kN)(hts:xK 1048576 s)(r:List kN)(htr:xK 1048576 r)(l:List jO)(hl:uY 1048576 l)(k:List jO)(hk:uY 1048576 k)(q:List (List jO))(hq:xG 6 q)(hv1:(gY l&&decide (nZ q=0))=false)(hf1:nK 10 6 s=true)(hf2:nK 10 6 r=true)(hl3:l.length≤3)(hkl:k.length=l.length)(hsl:fE 3 6 l=true)(hsk:fE 3 6 k=true)(hsq:shM 5 6 q=true)(hsb:s.length≤140737488355328)(hrb:r.length≤140737488355328):jQ Tryz.prog 8 [(cR (A2.mk s r)),(dS (A2.mk l k)),(.sl 24 1 (List.map jL q))] (.val (.bool (true))):=by
 have hr0:=rawC_0 (l:=l) (q:=q)
 refine jG Tryz.func8 rfl cb8 rfl ?_
 show qK _ _ _ _ ⟨[(0,(.d (cR (A2.mk s r)))),(1,(.d (dS (A2.mk l k)))),(2,(vl 24 1 jL q))],[]⟩
 refine jB<|kx [(3,(.ref 0 0)),(4,(.ref 1 0))] [(0,some (bx (cR (A2.mk s r)))),(1,some (bx (dS (A2.mk l k))))] (zN (vN 0)<|zN (vN 1)<|zM<|zZ) ?_
 refine jB<|jB<|kx [(20,(vb false))] [] (zE (jZ p_known)<|zE nF<|zZ) ?_
 refine kY ?_
 refine jD<|jB<|kd [(7,(vl 83 7 kK s)),(8,(vl 83 7 kK r))] [] mo (wE (oXr ar77 0)<|wR (qS sh23)<|wE (oXr ar77 1)<|wR (qS sh23)<|wM<|wM<|wZ) ?_
 refine jB<|jB<|kx [(64,(vb (((((false||decide (((3:Nat):Int)<((l.length:Nat):Int)))&&true)&&true)&&true)&&true)))] [] ?_ ?_
 ·refine zM<|zE (xD true (jZ (u_few s (tn_up hts (by decide)) 10 (by omega) 6 (by omega) hsb)) (by exact hf1))<|zE nF<|zM<|zM<|zE (xD true (jZ (u_few r (tn_up htr (by decide)) 10 (by omega) 6 (by omega) hrb)) (by exact hf2))<|zE nF<|zE zG<|zM<|zE (oXr dI 0)<|zR (qS yG)<|zE (vC uI)<|zE mT<|zE cL<|zE (oV (vb (false||decide (((3:Nat):Int)<((l.length:Nat):Int)))) (kV (by kernel_rfl)))<|?_
  rcases hb1:(false||decide (((3:Nat):Int)<((l.length:Nat):Int))) with _ | _
  ·replace hb1:=vM (p:=(((3:Nat):Int)<((l.length:Nat):Int))) hb1
   exact zE (oXr dI 1)<|zR (qS yG)<|zE (vC uI)<|zE (oXr dI 0)<|zR (qS yG)<|zE (vC uI)<|zE (xD false cM (by exact bne_eq_false_iff_eq.2 (congrArg (fun z:Nat=>(z:Int)) hkl)))<|zE zG<|zM<|zE (oXr dI 0)<|zR (qS yG)<|zE (xD true (jZ (eW l (row_up hl (by decide)) 3 (by omega) 6 (by omega))) (by exact hsl))<|zE nF<|zE zG<|zM<|zE (oXr dI 1)<|zR (qS yG)<|zE (xD true (jZ (eW k (row_up hk (by decide)) 3 (by omega) 6 (by omega))) (by exact hsk))<|zE nF<|zE zG<|zM<|zM<|zE (xD true (jZ (u_table q (gM hq (by decide)))) (by exact hsq))<|zE nF<|zE zG<|zZ
  ·replace hb1:=vI (p:=(((3:Nat):Int)<((l.length:Nat):Int))) hb1
   exact zK<|zK<|zK<|zK<|zK<|zK<|zK<|zE xS<|zM<|zK<|zK<|zK<|zK<|zE xS<|zM<|zK<|zK<|zK<|zK<|zE xS<|zM<|zK<|zK<|zK<|zE xS<|zZ
 refine jF rfl (fun h2=>?_) (fun h2=>?_)
 ·refine jB<|kx [(6,(vb true))] [] (zM<|zZ) ?_
  refine jE ⟨_,(.tmp (d:=(.val (.bool (true)))) rfl .nil),?_⟩
  rfl
 ·refine jD<|jB<|kx [(9,(vl 24 1 jL [])),(10,(jV (rawC l q)))] [] (zM<|zM<|zE (dG el32 ze23 zo23)<|zE (oXr dI 0)<|zR (qS yG)<|zM<|zE (jZ (p_tabR [s,r] (two_of (P:=xK 1048576) hts htr) l hl q (gM hq (by decide)) (fun e=>absurd (hv1.symm.trans e) (by decide)) (by omega)))<|zM<|zE vT<|zE vT<|zM<|zM<|zZ) ?_
  refine jB<|jB<|kx [(76,(vb true))] [] (zM<|zE (xD true cM (by exact bne_iff_ne.2 (by have hx:=hr0;omega)))<|zZ) ?_
  refine vP ?_
  refine jB<|kx [(6,(vb true))] [] (zM<|zZ) ?_
  refine jE ⟨_,(.tmp (d:=(.val (.bool (true)))) rfl .nil),?_⟩
  rfl
theorem w_suE(s:List kN)(hts:xK 1048576 s)(r:List kN)(htr:xK 1048576 r)(xs:List Rat)(hx:∀ q∈xs,QL q 1048576)(k:List jO)(hk:uY 1048576 k)(q:List (List jO))(hq:xG 6 q)(hE:tbC xs q [s,r]≠0)(hq0:nZ q=0)(hTm:∀ t∈[s,r],tmN xs t=0→eS (List.map gD xs) t)(hf1:nK 10 6 s=true)(hf2:nK 10 6 r=true)(hl3:(List.map jP xs).length≤3)(hkl:k.length=(List.map jP xs).length)(hsl:fE 3 6 (List.map jP xs)=true)(hsk:fE 3 6 k=true)(hsq:shM 5 6 q=true)(hsb:s.length≤140737488355328)(hrb:r.length≤140737488355328):jQ Tryz.prog 8 [(cR (A2.mk s r)),(dS (A2.mk (List.map jP xs) k)),(.sl 24 1 (List.map jL q))] (.val (.bool (true))):=by
 have hxn:((List.map jP xs).length)=xs.length:=List.length_map _
 have hrc:=mchk_rect hq0
 refine jG Tryz.func8 rfl cb8 rfl ?_
 show qK _ _ _ _ ⟨[(0,(.d (cR (A2.mk s r)))),(1,(.d (dS (A2.mk (List.map jP xs) k)))),(2,(vl 24 1 jL q))],[]⟩
 refine jB<|kx [(3,(.ref 0 0)),(4,(.ref 1 0))] [(0,some (bx (cR (A2.mk s r)))),(1,some (bx (dS (A2.mk (List.map jP xs) k))))] (zN (vN 0)<|zN (vN 1)<|zM<|zZ) ?_
 refine jB<|jB<|kx [(20,(vb false))] [] (zE (jZ p_known)<|zE nF<|zZ) ?_
 refine kY ?_
 refine jD<|jB<|kd [(7,(vl 83 7 kK s)),(8,(vl 83 7 kK r))] [] mo (wE (oXr ar77 0)<|wR (qS sh23)<|wE (oXr ar77 1)<|wR (qS sh23)<|wM<|wM<|wZ) ?_
 refine jB<|jB<|kx [(64,(vb (((((false||decide (((3:Nat):Int)<((xs.length:Nat):Int)))||(((k.length:Nat):Int) != ((xs.length:Nat):Int)))&&true)&&true)&&true)))] [] ?_ ?_
 ·refine zM<|zE (xD true (jZ (u_few s (tn_up hts (by decide)) 10 (by omega) 6 (by omega) hsb)) (by exact hf1))<|zE nF<|zM<|zM<|zE (xD true (jZ (u_few r (tn_up htr (by decide)) 10 (by omega) 6 (by omega) hrb)) (by exact hf2))<|zE nF<|zE zG<|zM<|zE (oXr dI 0)<|zR (qS yG)<|zE (oLn uI xs.length)<|zE mT<|zE cL<|zE (oV (vb (false||decide (((3:Nat):Int)<((xs.length:Nat):Int)))) (kV (by kernel_rfl)))<|?_
  rcases hb1:(false||decide (((3:Nat):Int)<((xs.length:Nat):Int))) with _ | _
  ·replace hb1:=vM (p:=(((3:Nat):Int)<((xs.length:Nat):Int))) hb1
   refine zE (oXr dI 1)<|zR (qS yG)<|zE (vC uI)<|zE (oXr dI 0)<|zR (qS yG)<|zE (oLn uI xs.length)<|zE cM<|zE cL<|zE (oV (vb (false||(((k.length:Nat):Int) != ((xs.length:Nat):Int)))) (kV (by kernel_rfl)))<|?_
   rcases hb2:(false||(((k.length:Nat):Int) != ((xs.length:Nat):Int))) with _ | _
   ·exact zE (oXr dI 0)<|zR (qS yG)<|zE (xD true (jZ (eW (List.map jP xs) (row_up (pts_row hx (by omega)) (by decide)) 3 (by omega) 6 (by omega))) (by exact hsl))<|zE nF<|zE zG<|zM<|zE (oXr dI 1)<|zR (qS yG)<|zE (xD true (jZ (eW k (row_up hk (by decide)) 3 (by omega) 6 (by omega))) (by exact hsk))<|zE nF<|zE zG<|zM<|zM<|zE (xD true (jZ (u_table q (gM hq (by decide)))) (by exact hsq))<|zE nF<|zE zG<|zZ
   ·exact zK<|zK<|zK<|zK<|zE xS<|zM<|zK<|zK<|zK<|zK<|zE xS<|zM<|zK<|zK<|zK<|zE xS<|zZ
  ·replace hb1:=vI (p:=(((3:Nat):Int)<((xs.length:Nat):Int))) hb1
   exact zK<|zK<|zK<|zK<|zK<|zK<|zK<|zE xS<|zM<|zK<|zK<|zK<|zK<|zE xS<|zM<|zK<|zK<|zK<|zK<|zE xS<|zM<|zK<|zK<|zK<|zE xS<|zZ
 refine jF rfl (fun h3=>?_) (fun h3=>?_)
 ·refine jB<|kx [(6,(vb true))] [] (zM<|zZ) ?_
  refine jE ⟨_,(.tmp (d:=(.val (.bool (true)))) rfl .nil),?_⟩
  rfl
 ·refine jD<|jB<|kx [(9,(vl 24 1 jL [])),(10,(jV (tbC xs q [s,r])))] [] (zM<|zM<|zE (dG el32 ze23 zo23)<|zE (oXr dI 0)<|zR (qS yG)<|zM<|zE (jZ (p_tabE [s,r] (two_of (P:=xK 1048576) hts htr) xs hx q (gM hq (by decide)) hE hrc hTm (xlb rfl) (xlb rfl) (by omega)))<|zM<|zE vT<|zE vT<|zM<|zM<|zZ) ?_
  refine jB<|jB<|kx [(76,(vb true))] [] (zM<|zE (xD true cM (by exact bne_iff_ne.2 (by have hx:=hE;omega)))<|zZ) ?_
  refine vP ?_
  refine jB<|kx [(6,(vb true))] [] (zM<|zZ) ?_
  refine jE ⟨_,(.tmp (d:=(.val (.bool (true)))) rfl .nil),?_⟩
  rfl
theorem w_su(s:List kN)(hts:xK 1048576 s)(r:List kN)(htr:xK 1048576 r)(xs:List Rat)(hx:∀ q∈xs,QL q 1048576)(k:List jO)(hk:uY 1048576 k)(q:List (List jO))(hq:xG 6 q)(h0:tbC xs q [s,r]=0)(hq0:nZ q=0)(hS1:Sm (List.map gD xs) s)(hS2:Sm (List.map gD xs) r)(hd1:dzT (List.map gD xs) s=false)(hd2:dzT (List.map gD xs) r=false)(hfi:mW q xs.length=0)(hf1:nK 10 6 s=true)(hf2:nK 10 6 r=true)(hl3:(List.map jP xs).length≤3)(hkl:k.length=(List.map jP xs).length)(hsl:fE 3 6 (List.map jP xs)=true)(hsk:fE 3 6 k=true)(hsq:shM 5 6 q=true)(hsb:s.length≤140737488355328)(hrb:r.length≤140737488355328):jQ Tryz.prog 8 [(cR (A2.mk s r)),(dS (A2.mk (List.map jP xs) k)),(.sl 24 1 (List.map jL q))] (.val (.bool (true))):=by
 have hxn:((List.map jP xs).length)=xs.length:=List.length_map _
 have hrc:=mchk_rect hq0
 have hup2:=(fF hS2.t.c0).2.2.2.2
 have hTS:=sum_tame hS1 hS2
 have hdS:=sum_dz hup2 hd1 hd2
 have hj1:=tame_run hS1.t hd1
 have hj2:=tame_run hS2.t hd2
 have hjS:=tame_run hTS hdS
 obtain ⟨hfq,hfc,_⟩:=fit_of hfi
 have hr:gQ q q.length xs.length:=by rw[hfc] at hrc;exact hrc
 have hxq:xs.length=q.length:=hfq.symm
 have hq8:q.length≤8:=by omega
 have hjs:∀ t∈[s,r],fS (List.map gD xs) t:=two_of hj1 hj2
 have hsl9:=hS1.l
 have hrl9:=hS2.l
 have htS:xK 1048576 (yU s r):=fun x hx=>jR (hTS.q x hx) (by decide)
 have hadd:=su_add hr hfq hj1.run hj2.run hjS.run
 have hs1:1≤s.length:=by have:=fF hS1.t.c0;omega
 have hr1:1≤r.length:=by have:=fF hS2.t.c0;omega
 have hkm:(List.map qJ k).length=xs.length:=by rw[List.length_map,hkl,hxn]
 have hrk:gQ q q.length (List.map qJ k).length:=by rw[hkm];exact hr
 have hfk:mW q (List.map qJ k).length=0:=by rw[hkm];exact hfi
 have htb2:(gF q (List.map (qW xs) [s,r])).length=2:=by unfold gF;rw[List.length_map,List.length_map];rfl
 have ht0:((gF q (List.map (qW xs) [s,r])).getD 0 []).length=2:=tab_len (gs:=List.map (qW xs) [s,r]) (i:=0) (xlb rfl)
 have ht1:((gF q (List.map (qW xs) [s,r])).getD 1 []).length=2:=tab_len (gs:=List.map (qW xs) [s,r]) (i:=1) (xlb rfl)
 let y3:=(jP (xU q (qW xs s) (qW xs s)))
 let y2:=(dS (A2.mk (List.map jP xs) k))
 let y1:=qM
 refine jG Tryz.func8 rfl cb8 rfl ?_
 show qK _ _ _ _ ⟨[(0,(.d (cR (A2.mk s r)))),(1,(.d y2)),(2,(vl 24 1 jL q))],[]⟩
 refine jB<|kx [(3,(.ref 0 0)),(4,(.ref 1 0))] [(0,some (bx (cR (A2.mk s r)))),(1,some (bx y2))] (zN (vN 0)<|zN (vN 1)<|zM<|zZ) ?_
 refine jB<|jB<|kx [(20,(vb false))] [] (zE (jZ p_known)<|zE nF<|zZ) ?_
 refine kY ?_
 refine jD<|jB<|kd [(7,(vl 83 7 kK s)),(8,(vl 83 7 kK r))] [] mo (wE (oXr ar77 0)<|wR (qS sh23)<|wE (oXr ar77 1)<|wR (qS sh23)<|wM<|wM<|wZ) ?_
 refine jB<|jB<|kx [(64,(vb (((((false||decide (((3:Nat):Int)<((xs.length:Nat):Int)))||(((k.length:Nat):Int) != ((xs.length:Nat):Int)))&&true)&&true)&&true)))] [] ?_ ?_
 ·refine zM<|zE (xD true (jZ (u_few s (tn_up hts (by decide)) 10 (by omega) 6 (by omega) hsb)) (by exact hf1))<|zE nF<|zM<|zM<|zE (xD true (jZ (u_few r (tn_up htr (by decide)) 10 (by omega) 6 (by omega) hrb)) (by exact hf2))<|zE nF<|zE zG<|zM<|zE (oXr dI 0)<|zR (qS yG)<|zE (oLn uI xs.length)<|zE mT<|zE cL<|zE (oV (vb (false||decide (((3:Nat):Int)<((xs.length:Nat):Int)))) (kV (by kernel_rfl)))<|?_
  rcases hb1:(false||decide (((3:Nat):Int)<((xs.length:Nat):Int))) with _ | _
  ·replace hb1:=vM (p:=(((3:Nat):Int)<((xs.length:Nat):Int))) hb1
   refine zE (oXr dI 1)<|zR (qS yG)<|zE (vC uI)<|zE (oXr dI 0)<|zR (qS yG)<|zE (oLn uI xs.length)<|zE cM<|zE cL<|zE (oV (vb (false||(((k.length:Nat):Int) != ((xs.length:Nat):Int)))) (kV (by kernel_rfl)))<|?_
   rcases hb2:(false||(((k.length:Nat):Int) != ((xs.length:Nat):Int))) with _ | _
   ·exact zE (oXr dI 0)<|zR (qS yG)<|zE (xD true (jZ (eW (List.map jP xs) (row_up (pts_row hx (by omega)) (by decide)) 3 (by omega) 6 (by omega))) (by exact hsl))<|zE nF<|zE zG<|zM<|zE (oXr dI 1)<|zR (qS yG)<|zE (xD true (jZ (eW k (row_up hk (by decide)) 3 (by omega) 6 (by omega))) (by exact hsk))<|zE nF<|zE zG<|zM<|zM<|zE (xD true (jZ (u_table q (gM hq (by decide)))) (by exact hsq))<|zE nF<|zE zG<|zZ
   ·exact zK<|zK<|zK<|zK<|zE xS<|zM<|zK<|zK<|zK<|zK<|zE xS<|zM<|zK<|zK<|zK<|zE xS<|zZ
  ·replace hb1:=vI (p:=(((3:Nat):Int)<((xs.length:Nat):Int))) hb1
   exact zK<|zK<|zK<|zK<|zK<|zK<|zK<|zE xS<|zM<|zK<|zK<|zK<|zK<|zE xS<|zM<|zK<|zK<|zK<|zK<|zE xS<|zM<|zK<|zK<|zK<|zE xS<|zZ
 refine jF rfl (fun h3=>?_) (fun h3=>?_)
 ·refine jB<|kx [(6,(vb true))] [] (zM<|zZ) ?_
  refine jE ⟨_,(.tmp (d:=(.val (.bool (true)))) rfl .nil),?_⟩
  rfl
 ·refine jD<|jB<|kx [(9,(vl 24 1 jL (gF q (List.map (qW xs) [s,r])))),(10,(jV 0))] [] (zM<|zM<|zE (dG el32 ze23 zo23)<|zE (oXr dI 0)<|zR (qS yG)<|zM<|zE (jZ (p_tab8 [s,r] (two_of (P:=xK 1048576) hts htr) xs hx q (gM hq (by decide)) hjs hr hfi (by omega) (xlb rfl) (xlb rfl) (by omega)))<|zM<|zE vT<|zE vT<|zM<|zM<|zZ) ?_
  refine jB<|jB<|kx [(76,(vb false))] [] (zM<|zE (xD false cM)<|zZ) ?_
  refine kY ?_
  refine jD<|jB<|kf [(11,(.own 2 83 7 (([]++s).length)))] [(2,some (cC kK ([]++s)))] (zN (oBo 2 hH bE zo83)<|zM<|zAS kK [] s rfl hH bE by83<|zM<|zF) ?_
  refine jB<|jB<|kx [(80,(vl 83 7 kK r)),(81,(jV r.length)),(82,(jV 0))] [] (zM<|zE (vC hH)<|zM<|zZ) ?_
  refine jH<|kL (α:=Nat × List kN) (fun (i,o)=>⟨[(2,(vl 24 1 jL q)),(4,(.ref 1 0)),(7,(vl 83 7 kK s)),(9,(vl 24 1 jL (gF q (List.map (qW xs) [s,r])))),(11,(.own 2 83 7 o.length)),(80,(vl 83 7 kK r)),(81,(jV r.length)),(82,(jV i))],[(1,some (bx y2)),(2,some (cC kK o))]⟩) (fun (i,o)=>i≤r.length∧o=s++(r.take i).map (bH s.length)) (fun (i,o)=>r.length-i) (0,s) wk ⟨Nat.zero_le _,by simp⟩ ?_
  rintro ⟨i,o⟩ ⟨hi,ho⟩
  have hol:o.length=s.length+i:=by rw[ho,List.length_append,List.length_map,List.length_take];omega
  refine jB<|kx [(83,(vb (decide (((i:Nat):Int)<((r.length:Nat):Int)))))] [] (zE xT<|zZ) ?_
  refine jB<|jF rfl (fun h4=>?_) (fun h4=>?_)
  ·replace h4:=vI h4
   have hg:=gd_of (hup2 i (by omega)) (uU r i)
   refine jD<|jB<|jH<|jB<|kx [(13,(.ref 3 0))] [(3,some (bx (kK (r.getD i tz))))] (zE (yL hH i (tz:kN))<|zE (nA aV)<|zH (uB 3 bE zo83)<|zT (qD aV)<|zZ) ?_
   refine pwp_meet (α:=Int × Int) (fun (a1,b1)=>⟨[(2,(vl 24 1 jL q)),(4,(.ref 1 0)),(7,(vl 83 7 kK s)),(9,(vl 24 1 jL (gF q (List.map (qW xs) [s,r])))),(11,(.own 2 83 7 o.length)),(13,(.ref 3 0)),(80,(vl 83 7 kK r)),(81,(jV r.length)),(82,(jV i))],[(1,some (bx y2)),(2,some (cC kK o)),(3,some (bx (kK (kN.mk (r.getD i tz).op a1 b1 (r.getD i tz).n))))]⟩) (fun (a1,b1)=>kN.mk (r.getD i tz).op a1 b1 (r.getD i tz).n=bH s.length (r.getD i tz)) ?_ ?_
   ·refine jB<|kx [(87,(vi ((r.getD i tz).op)))] [] (zE (kZ yK)<|zR (qS eP)<|zZ) ?_
    refine jH<|jB<|jB<|kx [(88,(vb ((r.getD i tz).op == ((2:Nat):Int))))] [] (zE yQ<|zM<|zZ) ?_
    refine jF (b:=((r.getD i tz).op == ((2:Nat):Int))) rfl (fun h5=>?_) (fun h5=>?_)
    ·replace h5:=eq_of_beq h5
     obtain ⟨ha0,ha1⟩:=hg.a (by rw[h5];decide)
     obtain ⟨hb0,hb1⟩:=hg.b (by rw[h5];decide)
     refine jD<|jF rfl (fun _=>?_) (fun h=>absurd (Eq.trans (Eq.symm (show (((r.getD i tz).op == ((2:Nat):Int)))=true from beq_iff_eq.2 h5)) h) (by decide))
     refine kx [] [(3,some (bx (kK (kN.mk ((r.getD i tz).op) ((r.getD i tz).a+((s.length:Nat):Int)) ((r.getD i tz).b+((s.length:Nat):Int)) ((r.getD i tz).n)))))] (zE (kZ vZ)<|zR (qS hP)<|zM<|zE (vC hH)<|zE (zAd ((r.getD i tz).a+((s.length:Nat):Int)))<|zE (kZ yJ)<|zR (qS hP)<|zM<|zE (vC hH)<|zE (zAd ((r.getD i tz).b+((s.length:Nat):Int)))<|zE (kZ vZ)<|zT (qD hP)<|zE (kZ yJ)<|zT (qD hP)<|zZ) ?_
     exact met ((r.getD i tz).a+((s.length:Nat):Int),(r.getD i tz).b+((s.length:Nat):Int)) wk (sh_b (by rw[h5];decide))
    ·replace h5:=ne_of_beq_false h5
     refine jB<|kx [(88,(vb ((r.getD i tz).op == ((3:Nat):Int))))] [] (zE yQ<|zM<|zZ) ?_
     refine jF (b:=((r.getD i tz).op == ((3:Nat):Int))) rfl (fun h6=>?_) (fun h6=>?_)
     ·replace h6:=eq_of_beq h6
      obtain ⟨ha0,ha1⟩:=hg.a (by rw[h6];decide)
      obtain ⟨hb0,hb1⟩:=hg.b (by rw[h6];decide)
      refine jD<|jF rfl (fun _=>?_) (fun h=>absurd (Eq.trans (Eq.symm (show (((r.getD i tz).op == ((3:Nat):Int)))=true from beq_iff_eq.2 h6)) h) (by decide))
      refine kx [] [(3,some (bx (kK (kN.mk ((r.getD i tz).op) ((r.getD i tz).a+((s.length:Nat):Int)) ((r.getD i tz).b+((s.length:Nat):Int)) ((r.getD i tz).n)))))] (zE (kZ vZ)<|zR (qS hP)<|zM<|zE (vC hH)<|zE (zAd ((r.getD i tz).a+((s.length:Nat):Int)))<|zE (kZ yJ)<|zR (qS hP)<|zM<|zE (vC hH)<|zE (zAd ((r.getD i tz).b+((s.length:Nat):Int)))<|zE (kZ vZ)<|zT (qD hP)<|zE (kZ yJ)<|zT (qD hP)<|zZ) ?_
      exact met ((r.getD i tz).a+((s.length:Nat):Int),(r.getD i tz).b+((s.length:Nat):Int)) wk (sh_b (by rw[h6];decide))
     ·replace h6:=ne_of_beq_false h6
      refine jB<|kx [(88,(vb ((r.getD i tz).op == ((4:Nat):Int))))] [] (zE yQ<|zM<|zZ) ?_
      refine jF (b:=((r.getD i tz).op == ((4:Nat):Int))) rfl (fun h7=>?_) (fun h7=>?_)
      ·replace h7:=eq_of_beq h7
       obtain ⟨ha0,ha1⟩:=hg.a (by rw[h7];decide)
       obtain ⟨hb0,hb1⟩:=hg.b (by rw[h7];decide)
       refine jD<|jF rfl (fun _=>?_) (fun h=>absurd (Eq.trans (Eq.symm (show (((r.getD i tz).op == ((4:Nat):Int)))=true from beq_iff_eq.2 h7)) h) (by decide))
       refine kx [] [(3,some (bx (kK (kN.mk ((r.getD i tz).op) ((r.getD i tz).a+((s.length:Nat):Int)) ((r.getD i tz).b+((s.length:Nat):Int)) ((r.getD i tz).n)))))] (zE (kZ vZ)<|zR (qS hP)<|zM<|zE (vC hH)<|zE (zAd ((r.getD i tz).a+((s.length:Nat):Int)))<|zE (kZ yJ)<|zR (qS hP)<|zM<|zE (vC hH)<|zE (zAd ((r.getD i tz).b+((s.length:Nat):Int)))<|zE (kZ vZ)<|zT (qD hP)<|zE (kZ yJ)<|zT (qD hP)<|zZ) ?_
       exact met ((r.getD i tz).a+((s.length:Nat):Int),(r.getD i tz).b+((s.length:Nat):Int)) wk (sh_b (by rw[h7];decide))
      ·replace h7:=ne_of_beq_false h7
       refine kx [(88,(vb ((r.getD i tz).op == ((5:Nat):Int))))] [] (zE yQ<|zM<|zZ) ?_
       refine jF (b:=((r.getD i tz).op == ((5:Nat):Int))) rfl (fun h8=>?_) (fun h8=>?_)
       ·replace h8:=eq_of_beq h8
        obtain ⟨ha0,ha1⟩:=hg.a (by rw[h8];decide)
        obtain ⟨hb0,hb1⟩:=hg.b (by rw[h8];decide)
        refine kx [] [(3,some (bx (kK (kN.mk ((r.getD i tz).op) ((r.getD i tz).a+((s.length:Nat):Int)) ((r.getD i tz).b+((s.length:Nat):Int)) ((r.getD i tz).n)))))] (zE (kZ vZ)<|zR (qS hP)<|zM<|zE (vC hH)<|zE (zAd ((r.getD i tz).a+((s.length:Nat):Int)))<|zE (kZ yJ)<|zR (qS hP)<|zM<|zE (vC hH)<|zE (zAd ((r.getD i tz).b+((s.length:Nat):Int)))<|zE (kZ vZ)<|zT (qD hP)<|zE (kZ yJ)<|zT (qD hP)<|zZ) ?_
        exact met ((r.getD i tz).a+((s.length:Nat):Int),(r.getD i tz).b+((s.length:Nat):Int)) wk (sh_b (by rw[h8];decide))
       ·replace h8:=ne_of_beq_false h8
        refine jB<|jB<|kx [(105,(vb ((r.getD i tz).op == ((6:Nat):Int))))] [] (zE yQ<|zM<|zZ) ?_
        refine jF (b:=((r.getD i tz).op == ((6:Nat):Int))) rfl (fun h9=>?_) (fun h9=>?_)
        ·replace h9:=eq_of_beq h9
         obtain ⟨ha0,ha1⟩:=hg.a (by rw[h9];decide)
         refine jD<|jF rfl (fun _=>?_) (fun h=>absurd (Eq.trans (Eq.symm (show (((r.getD i tz).op == ((6:Nat):Int)))=true from beq_iff_eq.2 h9)) h) (by decide))
         refine kx [] [(3,some (bx (kK (kN.mk ((r.getD i tz).op) ((r.getD i tz).a+((s.length:Nat):Int)) ((r.getD i tz).b) ((r.getD i tz).n)))))] (zE (kZ vZ)<|zR (qS hP)<|zM<|zE (vC hH)<|zE (zAd ((r.getD i tz).a+((s.length:Nat):Int)))<|zE (kZ vZ)<|zT (qD hP)<|zZ) ?_
         exact met ((r.getD i tz).a+((s.length:Nat):Int),(r.getD i tz).b) wk (sh_u (by rw[h9];decide))
        ·replace h9:=ne_of_beq_false h9
         refine kx [(105,(vb ((r.getD i tz).op == ((7:Nat):Int))))] [] (zE yQ<|zM<|zZ) ?_
         refine jF (b:=((r.getD i tz).op == ((7:Nat):Int))) rfl (fun h10=>?_) (fun h10=>?_)
         ·replace h10:=eq_of_beq h10
          obtain ⟨ha0,ha1⟩:=hg.a (by rw[h10];decide)
          refine kx [] [(3,some (bx (kK (kN.mk ((r.getD i tz).op) ((r.getD i tz).a+((s.length:Nat):Int)) ((r.getD i tz).b) ((r.getD i tz).n)))))] (zE (kZ vZ)<|zR (qS hP)<|zM<|zE (vC hH)<|zE (zAd ((r.getD i tz).a+((s.length:Nat):Int)))<|zE (kZ vZ)<|zT (qD hP)<|zZ) ?_
          exact met ((r.getD i tz).a+((s.length:Nat):Int),(r.getD i tz).b) wk (sh_u (by rw[h10];decide))
         ·replace h10:=ne_of_beq_false h10
          refine jD ?_
          exact met ((r.getD i tz).a,(r.getD i tz).b) wk (sh_0 (gd_0 hg h5 h6 h7 h8 h9 h10))
   ·rintro ⟨a1,b1⟩ hab
    refine kf [(11,(.own 2 83 7 ((o++[(kN.mk (r.getD i tz).op a1 b1 (r.getD i tz).n)]).length)))] [(2,some (cC kK (o++[(kN.mk (r.getD i tz).op a1 b1 (r.getD i tz).n)])))] (zM<|zR (kO aV)<|zE (dG hH bE zo83)<|zAS kK o [(kN.mk (r.getD i tz).op a1 b1 (r.getD i tz).n)] rfl hH bE by83<|zM<|zF) ?_
    refine kx [(82,(jV (i+1)))] [] (zE (vY (i+1))<|zM<|zZ) ?_
    exact ⟨(i+1,o++[kN.mk (r.getD i tz).op a1 b1 (r.getD i tz).n]),wk,⟨by omega,by rw[ho,hab];exact sh_step (by omega)⟩,(by first|omega|(dsimp only;omega))⟩
  ·replace h4:=vM h4
   have hsum:=sum_end ho (show i=r.length by omega) hs1 hr1
   refine kJ<|jB<|kf [(11,(.own 2 83 7 ((o++[(kN.mk ((2:Nat):Int) (((s.length-1):Nat):Int) (((o.length-1):Nat):Int) y1)]).length)))] [(2,some (cC kK (o++[(kN.mk ((2:Nat):Int) (((s.length-1):Nat):Int) (((o.length-1):Nat):Int) y1)])))] (zM<|zM<|zE (vC hH)<|zE (oSb (s.length-1))<|zM<|zE (oLo hH)<|zE (oSb (o.length-1))<|zE (bB pl83 bE zo83)<|zE (dG hH bE zo83)<|zAS kK o [(kN.mk ((2:Nat):Int) (((s.length-1):Nat):Int) (((o.length-1):Nat):Int) y1)] rfl hH bE by83<|zM<|zF) ?_
   refine jB<|kW (vX (t:=11) (k:=2) (es:=List.map kK (o++[(kN.mk ((2:Nat):Int) (((s.length-1):Nat):Int) (((o.length-1):Nat):Int) y1)])) rfl rfl (nD _ _ (fun _=>rfl)) (uT _ _ rfl) (mL kK (o++[(kN.mk ((2:Nat):Int) (((s.length-1):Nat):Int) (((o.length-1):Nat):Int) y1)]) (fun _=>rfl) rfl)) ?_
   refine kW (wk (l:=[(2,(vl 24 1 jL q)),(4,(.ref 1 0)),(7,(vl 83 7 kK s)),(9,(vl 24 1 jL (gF q (List.map (qW xs) [s,r])))),(11,(vl 83 7 kK (o++[(kN.mk ((2:Nat):Int) (((s.length-1):Nat):Int) (((o.length-1):Nat):Int) y1)])))]) (b:=[(1,some (bx y2))])) ?_
   refine kx [(14,(.ref 4 0)),(15,(jV 0))] [(4,some (bx (jK (jP (xU q (qW xs (yU s r)) (qW xs (yU s r)))))))] (zE (oQd (.sl 83 7 (List.map kK (o++[(kN.mk ((2:Nat):Int) (((s.length-1):Nat):Int) (((o.length-1):Nat):Int) y1)]))) (.sl 83 7 (List.map kK (yU s r))) (oV (vl 83 7 kK (o++[(kN.mk ((2:Nat):Int) (((s.length-1):Nat):Int) (((o.length-1):Nat):Int) y1)])) (kV (by kernel_rfl))) (by exact (congrArg (fun l=>jT.sl 83 7 (List.map kK l)) hsum)))<|zE (oXr dI 0)<|zR (qS yG)<|zM<|zE (jZ (p_var8 (yU s r) htS xs hx q (gM hq (by decide)) hjS hr hfi (by omega) (by omega)))<|zM<|zE vT<|zE vT<|zN (uB 4 uL uQ)<|zT (qD jS)<|zM<|zZ) ?_
   refine jB<|jB<|kd [(184,(vb (false||!(decide ((xU q (qW xs (yU s r)) (qW xs (yU s r)))=((((((0:Int):Rat)+(xU q (qW xs s) (qW xs s)))+(xU q (qW xs s) (qW xs r)))+(xU q (qW xs r) (qW xs s)))+(xU q (qW xs r) (qW xs r))))))))] [] mo (wM<|wE (xD false cM)<|wM<|wM<|wE (vC mC (L:=(gF q (List.map (qW xs) [s,r]))))<|wE (xD false cM (by exact bne_eq_false_iff_eq.2 (by rw[show (gF q (List.map (qW xs) [s,r])).length=2 from htb2]<;>rfl)))<|wE zG<|wM<|wM<|wE (yL mC 0 ([]:List (jO)) (L:=(gF q (List.map (qW xs) [s,r]))))<|wE (yR yG)<|wE (vC uI (L:=((gF q (List.map (qW xs) [s,r])).getD 0 [])))<|wE (xD false cM (by exact bne_eq_false_iff_eq.2 (by rw[show ((gF q (List.map (qW xs) [s,r])).getD 0 []).length=2 from ht0]<;>rfl)))<|wE zG<|wM<|wM<|wE (yL mC 1 ([]:List (jO)) (L:=(gF q (List.map (qW xs) [s,r]))))<|wE (yR yG)<|wE (vC uI (L:=((gF q (List.map (qW xs) [s,r])).getD 1 [])))<|wE (xD false cM (by exact bne_eq_false_iff_eq.2 (by rw[show ((gF q (List.map (qW xs) [s,r])).getD 1 []).length=2 from ht1]<;>rfl)))<|wE zG<|wM<|wR (kO jS)<|wM<|wE (yL mC 0 ([]:List (jO)) (L:=(gF q (List.map (qW xs) [s,r]))))<|wE (yR yG)<|wE (yL uI 0 y1 (L:=((gF q (List.map (qW xs) [s,r])).getD 0 [])))<|wE (oQd (jK (((gF q (List.map (qW xs) [s,r])).getD 0 []).getD 0 y1)) (jK y3) (nA jS) (by exact (congrArg jK (tab_at (q:=q) (xs:=xs) (ts:=[s,r]) (i:=0) (j:=0) (xlb rfl) (xlb rfl)))))<|wM<|wE (yL mC 0 ([]:List (jO)) (L:=(gF q (List.map (qW xs) [s,r]))))<|wE (yR yG)<|wE (yL uI 1 y1 (L:=((gF q (List.map (qW xs) [s,r])).getD 0 [])))<|wE (oQd (jK (((gF q (List.map (qW xs) [s,r])).getD 0 []).getD 1 y1)) (jK (jP (xU q (qW xs s) (qW xs r)))) (nA jS) (by exact (congrArg jK (tab_at (q:=q) (xs:=xs) (ts:=[s,r]) (i:=0) (j:=1) (xlb rfl) (xlb rfl)))))<|wM<|wE (yL mC 1 ([]:List (jO)) (L:=(gF q (List.map (qW xs) [s,r]))))<|wE (yR yG)<|wE (yL uI 0 y1 (L:=((gF q (List.map (qW xs) [s,r])).getD 1 [])))<|wE (oQd (jK (((gF q (List.map (qW xs) [s,r])).getD 1 []).getD 0 y1)) (jK (jP (xU q (qW xs r) (qW xs s)))) (nA jS) (by exact (congrArg jK (tab_at (q:=q) (xs:=xs) (ts:=[s,r]) (i:=1) (j:=0) (xlb rfl) (xlb rfl)))))<|wM<|wE (yL mC 1 ([]:List (jO)) (L:=(gF q (List.map (qW xs) [s,r]))))<|wE (yR yG)<|wE (yL uI 1 y1 (L:=((gF q (List.map (qW xs) [s,r])).getD 1 [])))<|wE (oQd (jK (((gF q (List.map (qW xs) [s,r])).getD 1 []).getD 1 y1)) (jK (jP (xU q (qW xs r) (qW xs r)))) (nA jS) (by exact (congrArg jK (tab_at (q:=q) (xs:=xs) (ts:=[s,r]) (i:=1) (j:=1) (xlb rfl) (xlb rfl)))))<|wE (dG uI uL uQ)<|wE (jZ (e_sum4 (xU q (qW xs s) (qW xs s)) (xU q (qW xs s) (qW xs r)) (xU q (qW xs r) (qW xs s)) (xU q (qW xs r) (qW xs r)) (cov_8 (gM hq (by decide)) (yT hj1.run) (yT hj1.run) (by rw[qZ hj1.run];exact hr) hq8 (by rw[qZ hj1.run];omega) (by rw[qZ hj1.run];exact hxq)) (cov_8 (gM hq (by decide)) (yT hj1.run) (yT hj2.run) (by rw[qZ hj2.run];exact hr) hq8 (by rw[qZ hj2.run];omega) (by rw[qZ hj1.run];exact hxq)) (cov_8 (gM hq (by decide)) (yT hj2.run) (yT hj1.run) (by rw[qZ hj1.run];exact hr) hq8 (by rw[qZ hj1.run];omega) (by rw[qZ hj2.run];exact hxq)) (cov_8 (gM hq (by decide)) (yT hj2.run) (yT hj2.run) (by rw[qZ hj2.run];exact hr) hq8 (by rw[qZ hj2.run];omega) (by rw[qZ hj2.run];exact hxq))))<|wE (jZ (by have h:=g_same (jP (xU q (qW xs (yU s r)) (qW xs (yU s r)))) (jP ((((((0:Int):Rat)+(xU q (qW xs s) (qW xs s)))+(xU q (qW xs s) (qW xs r)))+(xU q (qW xs r) (qW xs s)))+(xU q (qW xs r) (qW xs r)))) (xU q (qW xs (yU s r)) (qW xs (yU s r))) ((((((0:Int):Rat)+(xU q (qW xs s) (qW xs s)))+(xU q (qW xs s) (qW xs r)))+(xU q (qW xs r) (qW xs s)))+(xU q (qW xs r) (qW xs r))) (jR (kC (cov_8 (gM hq (by decide)) (yT hjS.run) (yT hjS.run) (by rw[qZ hjS.run];exact hr) (by omega) (by rw[qZ hjS.run];omega) (by rw[qZ hjS.run];exact (by omega)))) (by decide)) (jR (kC (zP (k:=2147483648) (m:=805306374) (n:=268435456) (zP (m:=536870917) (n:=268435456) (zP (m:=268435460) (n:=268435456) (zP (m:=3) (n:=268435456) (zI (z:=0) (n:=3) (nN (by decide) (by decide)) (by decide)) (cov_8 (gM hq (by decide)) (yT hj1.run) (yT hj1.run) (by rw[qZ hj1.run];exact hr) hq8 (by rw[qZ hj1.run];omega) (by rw[qZ hj1.run];exact hxq)) (by decide)) (cov_8 (gM hq (by decide)) (yT hj1.run) (yT hj2.run) (by rw[qZ hj2.run];exact hr) hq8 (by rw[qZ hj2.run];omega) (by rw[qZ hj1.run];exact hxq)) (by decide)) (cov_8 (gM hq (by decide)) (yT hj2.run) (yT hj1.run) (by rw[qZ hj1.run];exact hr) hq8 (by rw[qZ hj1.run];omega) (by rw[qZ hj2.run];exact hxq)) (by decide)) (cov_8 (gM hq (by decide)) (yT hj2.run) (yT hj2.run) (by rw[qZ hj2.run];exact hr) hq8 (by rw[qZ hj2.run];omega) (by rw[qZ hj2.run];exact hxq)) (by decide))) (by decide));rw[sameR_of] at h;exact h))<|wE nF<|wE cL<|wZ) ?_
   refine jF rfl (fun h11=>?_) (fun h11=>?_)
   ·exact absurd h11 (by rw[Bool.false_or,decide_eq_true hadd];decide)
   ·refine jD<|jB<|jB<|kx [(185,(vl 83 7 kK s)),(186,(jV s.length)),(187,(jV 0))] [] (zM<|zE (vC hH)<|zM<|zZ) ?_
    refine jH<|kL (α:=Nat) (fun i=>⟨[(2,(vl 24 1 jL q)),(4,(.ref 1 0)),(7,(vl 83 7 kK s)),(9,(vl 24 1 jL (gF q (List.map (qW xs) [s,r])))),(185,(vl 83 7 kK s)),(186,(jV s.length)),(187,(jV i))],[(1,some (bx y2))]⟩) (fun i=>i≤s.length∧(s.take i).all (fun x=>!linB x)=true) (fun i=>s.length-i) 0 wk ⟨Nat.zero_le _,by simp⟩ ?_
    rintro i ⟨hi,hal⟩
    refine jB<|kx [(188,(vb (decide (((i:Nat):Int)<((s.length:Nat):Int)))))] [] (zE xT<|zZ) ?_
    refine jB<|jF rfl (fun h12=>?_) (fun h12=>?_)
    ·replace h12:=vI h12
     refine jD<|jB<|jH<|jB<|kx [(17,(.ref 5 0))] [(5,some (bx (kK (s.getD i tz))))] (zE (yL hH i (tz:kN))<|zE (nA aV)<|zN (uB 5 bE zo83)<|zT (qD aV)<|zZ) ?_
     refine jB<|kx [(203,(vb ((((s.getD i tz).op == ((4:Nat):Int))||((s.getD i tz).op == ((5:Nat):Int)))||((s.getD i tz).op == ((7:Nat):Int)))))] [] ?_ ?_
     ·refine zE (kZ yK)<|zR (qS eP)<|zE yQ<|zE (oV (vb ((s.getD i tz).op == ((4:Nat):Int))) (kV (by kernel_rfl)))<|?_
      rcases hb13:((s.getD i tz).op == ((4:Nat):Int)) with _ | _
      ·replace hb13:=ne_of_beq_false hb13
       refine zE (kZ yK)<|zR (qS eP)<|zE yQ<|zE cL<|zE (oV (vb (false||((s.getD i tz).op == ((5:Nat):Int)))) (kV (by kernel_rfl)))<|?_
       rcases hb14:(false||((s.getD i tz).op == ((5:Nat):Int))) with _ | _
       ·exact zE (kZ yK)<|zR (qS eP)<|zE yQ<|zE cL<|zZ
       ·exact zK<|zK<|zK<|zE xS<|zZ
      ·replace hb13:=eq_of_beq hb13
       exact zK<|zK<|zK<|zE xS<|zM<|zK<|zK<|zK<|zE xS<|zZ
     refine jF rfl (fun h15=>?_) (fun h15=>?_)
     ·refine jB<|kx [(6,(vb true))] [] (zM<|zZ) ?_
      refine jE ⟨_,(.tmp (d:=(.val (.bool (true)))) rfl .nil),?_⟩
      rfl
     ·refine jD<|kx [(187,(jV (i+1)))] [] (zE (vY (i+1))<|zM<|zZ) ?_
      exact ⟨i+1,wk,⟨by omega,all_up (d:=tz) (by omega) hal (by simpa [linB] using h15)⟩,(by first|omega|(dsimp only;omega))⟩
    ·replace h12:=vM h12
     have hlin:=lin_of hal (show i=s.length by omega)
     have hjk:=lin_run hf1 hsk hkm hS1.t.c0 hlin
     have hlg:=lin_gr hkm hs1 (fF hS1.t.c0).2.2.2.2 hlin
     refine kJ<|jB<|jB ?_
     rcases hvk:(gY k) with _ | _
     ·refine kx [(208,(vb true))] [] (zE (oXr dI 1)<|zR (qS yG)<|zE (xD false (jZ (m_vlist k hk)) (by exact hvk))<|zE nF<|zZ) ?_
      refine vP ?_
      refine jB<|kx [(6,(vb true))] [] (zM<|zZ) ?_
      refine jE ⟨_,(.tmp (d:=(.val (.bool (true)))) rfl .nil),?_⟩
      rfl
     ·refine kx [(208,(vb false))] [] (zE (oXr dI 1)<|zR (qS yG)<|zE (xD true (jZ (m_vlist k hk)) (by exact hvk))<|zE nF<|zZ) ?_
      refine kY ?_
      refine jD<|jB<|kx [(15,(jV 0)),(18,(.ref 6 0))] [(6,some (bx (jK y3)))] (zM<|zE (oXr dI 1)<|zR (qS yG)<|zM<|zE (jZ (p_varL s hts k hk q (gM hq (by decide)) hsk hvk hjk hrk hfk (by omega) (by omega)))<|zM<|zE (oQd (jK (jP (xU q (qW (List.map qJ k) s) (qW (List.map qJ k) s)))) (jK y3) vT (by exact (by rw[hlg])))<|zE vT<|zN (uB 6 uL uQ)<|zT (qD jS)<|zM<|zZ) ?_
      refine jB<|kd [(6,(vb true))] [] mo (wM<|wE (xD true yQ)<|wM<|wR (kO jS)<|wM<|wE (yL mC 0 ([]:List (jO)) (L:=(gF q (List.map (qW xs) [s,r]))))<|wE (yR yG)<|wE (yL uI 0 y1 (L:=((gF q (List.map (qW xs) [s,r])).getD 0 [])))<|wE (oQd (jK (((gF q (List.map (qW xs) [s,r])).getD 0 []).getD 0 y1)) (jK y3) (nA jS) (by exact (congrArg jK (tab_at (q:=q) (xs:=xs) (ts:=[s,r]) (i:=0) (j:=0) (xlb rfl) (xlb rfl)))))<|wE (xD true (jZ (by have h:=g_same y3 y3 (xU q (qW xs s) (qW xs s)) (xU q (qW xs s) (qW xs s)) (jR (kC (cov_8 (gM hq (by decide)) (yT hj1.run) (yT hj1.run) (by rw[qZ hj1.run];exact hr) hq8 (by rw[qZ hj1.run];omega) (by rw[qZ hj1.run];exact hxq))) (by decide)) (jR (kC (cov_8 (gM hq (by decide)) (yT hj1.run) (yT hj1.run) (by rw[qZ hj1.run];exact hr) hq8 (by rw[qZ hj1.run];omega) (by rw[qZ hj1.run];exact hxq))) (by decide));rw[sameR_of] at h;exact h)) (by exact decide_eq_true rfl))<|wE xS<|wM<|wZ) ?_
      refine jE ⟨_,(.tmp (d:=(.val (.bool (true)))) rfl .nil),?_⟩
      rfl
end Go.Proofs.YtnajallgoaiahaaGreatDoor
