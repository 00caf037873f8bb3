/- Part 15 of a proof: rules, plain facts, and functions walked. -/
import Derived.Test.YteimogfidbkpnabGreatM14
set_option linter.all false
set_option maxRecDepth 4000
namespace Go.Proofs.YteimogfidbkpnabGreat
open Go.Fid
theorem cb95:callB Tryz.prog 95=true:=by kernel_rfl
theorem ze40:uZ Tryz.prog 40=some [.slice none 0 0]:=by kernel_rfl
theorem zo40:mW [.slice none 0 0] [.sl 103 1 []]:=by simp [mW,Value.oneCell']
theorem t_short(a:List Nat)(d:Nat)(hda:Dig a)(hd0:0<d)(hd1:d≤1000000000)(hla:a.length≤17592186044416):kB Tryz.prog 95 [(.sl 103 1 (List.map jD a)),(.val (.int .u32 (((d:Nat):Int))))] (.tup [(.sl 103 1 (List.map jD (ofNat (val a / d)))),(.val (.int .u32 ((((val a % d):Nat):Int))))]):=by
 refine jK Tryz.func95 rfl cb95 rfl ?_
 show qU _ _ _ _ ⟨[(0,(vl 103 1 jD a)),(1,(dD d))],[]⟩
 refine jA<|kx [(3,(.ref 0 0)),(4,(.ref 1 0)),(5,(dD 0))] [(0,some (bx (.val (.int .u32 (((d:Nat):Int)))))),(1,some (bx (.sl 103 1 (List.map jD []))))] (zN (yC 0)<|zN (uQ 1 ze40 zo40)<|zM<|zZ) ?_
 refine jA<|kx [] [(1,some [(.own 2 103 1 a.length)]),(2,some (bm jD (List.replicate a.length 0)))] (zM<|zE (xD kC)<|zN (oMk 2 jD (0:Nat) a.length a.length kC uO xQ yX)<|zT (oSo xB)<|zZ) ?_
 refine jA<|kx [(6,(.ref 3 0))] [(3,some (bx (.val (.int .u64 (0)))))] (zH (uQ 3 ze109 zo109)<|zT (qA cY)<|zZ) ?_
 refine jA<|pwp_backL backs cb92 rfl 7 jD a 0 (fun (q,vC)=>⟨[(3,(.ref 0 0)),(4,(.ref 1 0)),(5,(dD 0)),(6,(.ref 3 0))],[(0,some (bx (.val (.int .u32 (((d:Nat):Int)))))),(1,some [(.own 2 103 1 a.length)]),(2,some (bm jD q)),(3,some (bx (.val (.int .u64 (((vC:Nat):Int))))))]⟩) (fun (j:Nat) (q,vC)=>q.length=a.length∧Dig q∧vC<d∧val (a.drop (a.length-j))=val (q.drop (a.length-j))*d+vC) (List.replicate a.length 0,0) rfl rfl rfl rfl rfl rfl rfl rfl rfl rfl rfl rfl (fun _=>rfl) (fun _=>rfl) wk ⟨by simp,vU _,hd0,by simp [val,mP]⟩ (by omega) ?_ ?_
 ·rintro rl j ⟨q,vC⟩ hj ⟨qP,hdq,hr,hv⟩
  have hg:=hda.getD (a.length-1-j)
  obtain ⟨hb1,hb2⟩:=short_bound hr hd1 hg
  refine jA<|kx [(7,(jT (a.length-1-j)))] [] (zM<|zZ) ?_
  refine kx [(8,(dD (a.getD (a.length-1-j) 0)))] [] (zM<|zZ) ?_
  refine jH<|jA<|kx [(9,(xT ((vC*1000000000)+(a.getD (a.length-1-j) 0))))] [] (zR (kP cY)<|zE (oMl (vC*1000000000))<|zM<|zE (yR vW vY (a.getD (a.length-1-j) 0))<|zE (qS ((vC*1000000000)+(a.getD (a.length-1-j) 0)))<|zM<|zZ) ?_
  refine kd [] [(2,some (bm jD (q.set (a.length-1-j) (((vC*1000000000)+(a.getD (a.length-1-j) 0)) / d)))),(3,some (bx (.val (.int .u64 ((((((vC*1000000000)+(a.getD (a.length-1-j) 0)) % d):Nat):Int))))))] mo (wR (kP xB)<|wM<|wM<|wR (kP qD)<|wE (yR vW vY d)<|wE (oQu (((vC*1000000000)+(a.getD (a.length-1-j) 0)) / d))<|wE (yR zG zI (((vC*1000000000)+(a.getD (a.length-1-j) 0)) / d))<|wM<|wR (kP qD)<|wE (yR vW vY d)<|wE (oRe (((vC*1000000000)+(a.getD (a.length-1-j) 0)) % d))<|wE (eR kC (a.length-1-j))<|wT (oSp qD (a.length-1-j) (((vC*1000000000)+(a.getD (a.length-1-j) 0)) / d))<|wT (qA cY)<|wZ) ?_
  exact ⟨(q.set (a.length-1-j) ((vC*1000000000+a.getD (a.length-1-j) 0) / d),(vC*1000000000+a.getD (a.length-1-j) 0) % d),wk,⟨by simpa using qP,hdq.set _ hb2,Nat.mod_lt _ hd0,short_step hj qP hv rfl⟩⟩
 ·rintro ⟨q,vC⟩ ⟨qP,hdq,hr,hv⟩
  obtain ⟨e1,e2⟩:=short_end hv hr
  refine jA<|kX (publishB (j:=1) (k:=2) (es:=List.map jD q) rfl rfl rfl (uU _ _ (fun _=>rfl)) (vG _ _ qP) (vS _ _ (fun _=>rfl) qP)) ?_
  refine kd [(5,(dD vC))] [(1,some (bx (.sl 103 1 (List.map jD (ofNat (val q))))))] mo (wR (kP xB)<|wE (kE (t_trim q (by assumption) (by omega)))<|wR (kP cY)<|wE (yR zG zI vC)<|wT (qA xB)<|wM<|wZ) ?_
  refine jI ⟨_,(dX (cs:=(bx (.sl 103 1 (List.map jD (ofNat (val q)))))) (d:=(.sl 103 1 (List.map jD (ofNat (val q))))) rfl rfl xB rfl rfl (.tmp (d:=(.val (.int .u32 (((vC:Nat):Int))))) rfl .nil)),?_⟩
  rw[← e1,← e2];rfl
theorem o_times(a b:List Nat)(hda:Dig a)(hdb:Dig b)(hla:a.length≤4398046511104)(hlb:b.length≤4398046511104)(h0:0<val a*val b):TakesO Tryz.prog 78 [(.sl 103 1 (List.map jD a)),(.sl 103 1 (List.map jD b))] 103 1 (ofNat (val a*val b)).length (List.map jD (ofNat (val a*val b))):=by
 refine fn_introO Tryz.func78 rfl cb78 rfl (gQ h0) ?_
 show qU _ _ _ _ ⟨[(0,(vl 103 1 jD a)),(1,(vl 103 1 jD b))],[]⟩
 refine jA<|kx [] [] (zE (oNl 103 1)<|zZ) ?_
 refine jA<|kx [(5,(.own 0 103 1 (a.length+b.length)))] [(0,some (bm jD (List.replicate (a.length+b.length) 0)))] (zM<|zE (xD kC)<|zM<|zE (xD kC)<|zE (qS (a.length+b.length))<|zN (oMk 0 jD (0:Nat) (a.length+b.length) (a.length+b.length) kC uO xQ yX)<|zM<|zZ) ?_
 refine jA<|jA<|kx [(18,(vl 103 1 jD a)),(19,(jT a.length)),(20,(jT 0))] [] (zM<|zE (xD kC)<|zM<|zZ) ?_
 refine jH<|kI (α:=Nat × List Nat) (fun (i,out)=>⟨[(1,(vl 103 1 jD b)),(5,(.own 0 103 1 (a.length+b.length))),(18,(vl 103 1 jD a)),(19,(jT a.length)),(20,(jT i))],[(0,some (bm jD out))]⟩) (fun (i,out)=>out.length=a.length+b.length∧Dig out∧i≤a.length∧(∀ k,i+b.length≤k→out.getD k 0=0)∧val out=val (a.take i)*val b) (fun (i,out)=>a.length-i) (0,List.replicate (a.length+b.length) 0) wk ⟨by simp,vU _,Nat.zero_le _,fun k _=>dG _ k,by simp [val,mP]⟩ ?_
 rintro ⟨i,out⟩ ⟨qP,hdo,hi,hz,hv⟩
 have hai:=hda.getD i
 refine jA<|kx [(21,(vb (decide (((i:Nat):Int)<((a.length:Nat):Int)))))] [] (zE uM<|zZ) ?_
 refine jA<|jG rfl (fun h1=>?_) (fun h1=>?_)
 ·replace h1:=uW h1
  refine jE<|jA<|jH<|jA<|kx [(6,(jT i)),(7,(dD (a.getD i 0)))] [] (zM<|zE (gV kC i (0:Nat))<|zE (nG qD)<|zM<|zM<|zZ) ?_
  refine jA<|kx [(8,(xT 0))] [] (zM<|zZ) ?_
  refine jA<|jA<|kx [(25,(vl 103 1 jD b)),(26,(jT b.length)),(27,(jT 0))] [] (zM<|zE (xD kC)<|zM<|zZ) ?_
  refine jH<|kI (α:=Nat × List Nat × Nat) (fun (j,o2,c)=>⟨[(1,(vl 103 1 jD b)),(5,(.own 0 103 1 (a.length+b.length))),(6,(jT i)),(7,(dD (a.getD i 0))),(8,(xT c)),(18,(vl 103 1 jD a)),(19,(jT a.length)),(20,(jT i)),(25,(vl 103 1 jD b)),(26,(jT b.length)),(27,(jT j))],[(0,some (bm jD o2))]⟩) (fun (j,o2,c)=>o2.length=a.length+b.length∧Dig o2∧j≤b.length∧c<1000000000∧(∀ k,i+b.length≤k→o2.getD k 0=0)∧val o2+pw (i+j)*c=val (a.take i)*val b+pw i*(a.getD i 0*val (b.take j))) (fun (j,o2,c)=>b.length-j) (0,out,0) wk ⟨qP,hdo,Nat.zero_le _,by decide,hz,by simp [val,hv]⟩ ?_
  rintro ⟨j,o2,c⟩ ⟨hlen2,hdo2,hj,hc,hz2,hv2⟩
  have hbj:=hdb.getD j
  have hoj:=hdo2.getD (i+j)
  have hpq:a.getD i 0*b.getD j 0≤999999999*999999999:=Nat.mul_le_mul (by omega) (by omega)
  refine jA<|kx [(28,(vb (decide (((j:Nat):Int)<((b.length:Nat):Int)))))] [] (zE uM<|zZ) ?_
  refine jA<|jG rfl (fun h2=>?_) (fun h2=>?_)
  ·replace h2:=uW h2
   refine jE<|jA<|jH<|jA<|kx [(9,(jT j)),(10,(dD (b.getD j 0)))] [] (zM<|zE (gV kC j (0:Nat))<|zE (nG qD)<|zM<|zM<|zZ) ?_
   refine jA<|kx [(11,(xT (((o2.getD (i+j) 0)+((a.getD i 0)*(b.getD j 0)))+c)))] [] (zM<|zM<|zM<|zE (qS (i+j))<|zE (eR kC (i+j))<|zR (oLp qD (i+j) (0:Nat))<|zE (yR vW vY (o2.getD (i+j) 0))<|zM<|zE (yR vW vY (a.getD i 0))<|zM<|zE (yR vW vY (b.getD j 0))<|zE (oMl ((a.getD i 0)*(b.getD j 0)))<|zE (qS ((o2.getD (i+j) 0)+((a.getD i 0)*(b.getD j 0))))<|zM<|zE (qS (((o2.getD (i+j) 0)+((a.getD i 0)*(b.getD j 0)))+c))<|zM<|zZ) ?_
   refine kx [(8,(xT ((((o2.getD (i+j) 0)+((a.getD i 0)*(b.getD j 0)))+c) / 1000000000)))] [(0,some (bm jD (o2.set (i+j) ((((o2.getD (i+j) 0)+((a.getD i 0)*(b.getD j 0)))+c) % 1000000000))))] (zM<|zM<|zM<|zE (qS (i+j))<|zM<|zE (oRe ((((o2.getD (i+j) 0)+((a.getD i 0)*(b.getD j 0)))+c) % 1000000000))<|zE (yR zG zI ((((o2.getD (i+j) 0)+((a.getD i 0)*(b.getD j 0)))+c) % 1000000000))<|zM<|zE (oQu ((((o2.getD (i+j) 0)+((a.getD i 0)*(b.getD j 0)))+c) / 1000000000))<|zE (eR kC (i+j))<|zT (oSp qD (i+j) ((((o2.getD (i+j) 0)+((a.getD i 0)*(b.getD j 0)))+c) % 1000000000))<|zM<|zZ) ?_
   refine kx [(27,(jT (j+1)))] [] (zE (qS (j+1))<|zM<|zZ) ?_
   exact ⟨(j+1,o2.set (i+j) ((o2.getD (i+j) 0+a.getD i 0*b.getD j 0+c) % 1000000000),(o2.getD (i+j) 0+a.getD i 0*b.getD j 0+c) / 1000000000),wk,(by obtain ⟨q1,q2⟩:=times_step (by omega) hdo2 hv2 rfl (val_take_succ b j);exact ⟨by simpa using hlen2,q1,by omega,by omega,zero_set (by omega) hz2,q2⟩),(by first|omega|(dsimp only;omega))⟩
  ·replace h2:=uY h2
   have hje:j=b.length:=by omega
   rw[hje] at hv2
   refine jW<|kx [] [(0,some (bm jD (o2.set (i+b.length) c)))] (zM<|zM<|zM<|zE (xD kC)<|zE (qS (i+b.length))<|zM<|zE (yR zG zI c)<|zE (eR kC (i+b.length))<|zT (oSp qD (i+b.length) c)<|zZ) ?_
   refine kx [(20,(jT (i+1)))] [] (zE (qS (i+1))<|zM<|zZ) ?_
   exact ⟨(i+1,o2.set (i+b.length) c),wk,(by obtain ⟨q1,q2,q3,q4⟩:=times_row hdo2 (by omega) hlen2 hz2 hc hv2;exact ⟨q1,q2,by omega,q3,q4⟩),(by first|omega|(dsimp only;omega))⟩
 ·replace h1:=uY h1
  have hie:i=a.length:=by omega
  rw[hie,List.take_length] at hv
  refine jW<|jA<|kx [(4,(.own 0 103 1 ((ofNat (val out)).length)))] [] (zM<|zR ⟨_,e_trimO out (by exact rfl) (by exact rfl) qP hdo (by omega),by kernel_rfl⟩<|zM<|zZ) ?_
  rw[← hv]
  refine jI ⟨4,0,rfl,rfl,(bm jD out),rfl,?_⟩
  exact own_prefix _ (trim_take hdo)
theorem cb96:callB Tryz.prog 96=true:=by kernel_rfl
theorem in2:intB Tryz.prog 2=some .i64:=by kernel_rfl
theorem un2:(Tryz.prog.underlying 2).isSome=true:=by kernel_rfl
set_option maxHeartbeats 4000000 in
theorem t_long(a b:List Nat)(hda:xZ a)(hdb:xZ b)(hb2:2≤b.length)(hba:val b≤val a)(hla:a.length≤1099511627776):kB Tryz.prog 96 [(.sl 103 1 (List.map jD a)),(.sl 103 1 (List.map jD b))] (.tup [(.sl 103 1 (List.map jD (ofNat (val a / val b)))),(.sl 103 1 (List.map jD (ofNat (val a % val b))))]):=by
 have hab:=len_of_le hda hdb hba
 have hsc:=fH hdb (by omega)
 have htp:=aB hdb (by omega)
 have hds:Dig [nT b]:=xP.2 ⟨by omega,zP⟩
 have hbp:0<val b:=by have:=val_top hdb.1 (by omega);have h2:=Nat.mul_le_mul_right (pw (b.length-1)) htp.1;have h3:=pw_pos (b.length-1);rw[Nat.succ_mul] at h2;omega
 obtain ⟨u0,hue⟩:∃ u0,u0=ofNat (val a*val [nT b]):=⟨_,rfl⟩
 obtain ⟨v,hve⟩:∃ v,v=ofNat (val b*val [nT b]):=⟨_,rfl⟩
 have hu0:Dig u0:=by rw[hue];exact kA _
 have hvd:Dig v:=by rw[hve];exact kA _
 have hvl:v.length=b.length:=by rw[hve,nH];exact scl_len hdb (by omega)
 have hvv:val v=val b*nT b:=by rw[hve,nH];exact jX _
 have hu0v:val u0=val a*nT b:=by rw[hue,nH];exact jX _
 have hu0l:a.length≤u0.length∧u0.length≤a.length+1:=by rw[hue,nH];exact scl_lenA hda hdb (by omega)
 have hLU:(u0++[0]).length=u0.length+1:=by simp
 have hcv:xZ v:=by rw[hve];exact kM _
 have hv1p:0<v.getD (b.length-1) 0:=by rw[← hvl];exact (aB hcv (by omega)).1
 have hpv:pw (b.length-1)≤val v:=by have h1:=val_top hvd (by omega);rw[hvl] at h1;have h2:=Nat.mul_le_mul_right (pw (b.length-1)) hv1p;omega
 refine jK Tryz.func96 rfl cb96 rfl ?_
 show qU _ _ _ _ ⟨[(0,(vl 103 1 jD a)),(1,(vl 103 1 jD b))],[]⟩
 refine jA<|kx [] [] (zE (oNl 103 1)<|zE (oNl 103 1)<|zZ) ?_
 refine jA<|kx [(6,(dD (nT b)))] [] (zM<|zM<|zE (xD kC)<|zE (oSb (b.length-1))<|zE (gV kC (b.length-1) (0:Nat))<|zE (nG qD)<|zE (yR vW vY (b.getD (b.length-1) 0))<|zE (qS ((b.getD (b.length-1) 0)+1))<|zE (oQu (nT b) (hr:=by exact (quo_u64 1000000000 (b.getD (b.length-1) 0+1) (by decide))))<|zE (yR zG zI (nT b))<|zM<|zZ) ?_
 refine jA<|kx [(7,(.own 0 103 1 u0.length))] [(0,some (bm jD u0))] (zM<|zM<|zE (oBs kC uO xQ)<|zN (oCo 0 (hue▸o_times a [nT b] hda.1 hds (by omega) (by simp) (by rw[nH];exact Nat.mul_pos (by omega) hsc.1)))<|zM<|zZ) ?_
 refine jA<|kx [(8,(vl 103 1 jD v))] [] (zM<|zM<|zE (oBs kC uO xQ)<|zE (kE (hve▸t_times b [nT b] hdb.1 hds (by omega) (by simp)))<|zM<|zZ) ?_
 refine jA<|kx [(9,(jT b.length))] [] (zM<|zE (oLn kC b.length (hr:=by exact (by simp [hvl])))<|zM<|zZ) ?_
 refine jA<|kf [(7,(.own 0 103 1 ((u0++[0]).length)))] [(0,some (bm jD (u0++[0])))] (zM<|zE (oBs kC uO xQ)<|zA jD u0 [0] rfl kC uO yX<|zM<|zF) ?_
 refine jA<|jA<|kx [(50,(vb (decide ((((u0++[0]).length:Nat):Int)≤((a.length:Nat):Int)))))] [] (zM<|zE (oLo kC)<|zM<|zE (xD kC)<|zE oLe<|zZ) ?_
 refine jG rfl (fun h1=>?_) (fun h1=>?_)
 ·replace h1:=uW h1
  exfalso;simp at h1;omega
 ·replace h1:=uY h1
  refine jE<|jA<|kx [(4,(.own 1 103 1 ((u0++[0]).length-b.length)))] [(1,some (bm jD (List.replicate ((u0++[0]).length-b.length) 0)))] (zM<|zE (oLo kC)<|zM<|zE (oSb ((u0++[0]).length-b.length))<|zH (oMk 1 jD (0:Nat) ((u0++[0]).length-b.length) ((u0++[0]).length-b.length) kC uO xQ yX)<|zM<|zZ) ?_
  refine jA<|jA<|kx [(10,(vi ((((u0++[0]).length-b.length:Nat):Int)-1)))] [] (zM<|zE (oLo kC)<|zM<|zE (oSb ((u0++[0]).length-b.length))<|zE (zSb ((((u0++[0]).length-b.length:Nat):Int)-1))<|zM<|zZ) ?_
  refine jH<|kI (α:=Nat × List Nat × List Nat) (fun (k,u,q)=>⟨[(4,(.own 1 103 1 ((u0++[0]).length-b.length))),(6,(dD (nT b))),(7,(.own 0 103 1 ((u0++[0]).length))),(8,(vl 103 1 jD v)),(9,(jT b.length)),(10,(vi (((k:Nat):Int)-1)))],[(0,some (bm jD u)),(1,some (bm jD q))]⟩) (fun (k,u,q)=>u.length=(u0++[0]).length∧Dig u∧q.length=(u0++[0]).length-b.length∧Dig q∧k≤(u0++[0]).length-b.length∧val u+val v*(pw k*val (q.drop k))=val a*nT b∧val (u.drop k)<val v) (fun (k,u,q)=>k) ((u0++[0]).length-b.length,u0++[0],List.replicate ((u0++[0]).length-b.length) 0) wk ⟨rfl,fX.2 ⟨hu0,xP.2 ⟨by decide,zP⟩⟩,by simp,vU _,Nat.le_refl _,by simp [nW,val,hu0v],by have:=long_start hu0 hvl hb2 (by omega) hpv;rw[hLU];exact this⟩ ?_
  rintro ⟨k,u,q⟩ ⟨qP,hu,hql,hqd,hk,hU,hW⟩
  refine jA<|jA<|kx [(65,(vb (decide (0≤(((k:Nat):Int)-1)))))] [] (zM<|zE oGe<|zZ) ?_
  refine jG (b:=decide (0≤(((k:Nat):Int)-1))) rfl (fun h2=>?_) (fun h2=>?_)
  ·replace h2:=uW h2
   obtain ⟨j,rfl⟩:∃ j,k=j+1:=⟨k-1,by omega⟩
   rw[show (((j+1:Nat):Int)-1)=((j:Nat):Int) from by omega]
   have hg1:=hu.getD (j+b.length)
   have hg2:=hu.getD (j+b.length-1)
   have hg3:=hu.getD (j+b.length-2)
   have hg4:=hvd.getD (b.length-1)
   have hg5:=hvd.getD (b.length-2)
   obtain ⟨z1,z2,z3,z4,z5,z6⟩:=window_tops hu hvd hvl hb2 hW
   obtain ⟨hwz,hww⟩:=window hvd hvl hW
   refine jE<|jA<|jH<|jA<|kd [(10,(jT j)),(11,(xT (((u.getD (j+b.length) 0)*1000000000)+(u.getD ((j+b.length)-1) 0))))] [] mo (wM<|wM<|wM<|wE (qS (j+b.length))<|wR ⟨(bm jD u),e_clo (t_at u (j+b.length)) (by exact rfl) (by exact rfl) (by exact rfl) (.o (.d .nil)) (uU jD u (fun _=>rfl)) (vG _ _ qP) (vS _ _ (fun _=>rfl) qP),by kernel_rfl⟩<|wE (yR vW vY (u.getD (j+b.length) 0))<|wE (oMl ((u.getD (j+b.length) 0)*1000000000))<|wM<|wM<|wM<|wE (qS (j+b.length))<|wE (oSb ((j+b.length)-1))<|wE (eR kC ((j+b.length)-1))<|wR (oLp qD ((j+b.length)-1) (0:Nat))<|wE (yR vW vY (u.getD ((j+b.length)-1) 0))<|wE (qS (((u.getD (j+b.length) 0)*1000000000)+(u.getD ((j+b.length)-1) 0)))<|wM<|wZ) ?_
   refine jA<|kd [(12,(xT ((((u.getD (j+b.length) 0)*1000000000)+(u.getD ((j+b.length)-1) 0)) / (v.getD (b.length-1) 0)))),(13,(xT ((((u.getD (j+b.length) 0)*1000000000)+(u.getD ((j+b.length)-1) 0)) % (v.getD (b.length-1) 0))))] [] mo (wM<|wM<|wM<|wE (oSb (b.length-1))<|wE (gV kC (b.length-1) (0:Nat))<|wE (nG qD)<|wE (yR vW vY (v.getD (b.length-1) 0))<|wE (oQu ((((u.getD (j+b.length) 0)*1000000000)+(u.getD ((j+b.length)-1) 0)) / (v.getD (b.length-1) 0)))<|wM<|wM<|wM<|wE (oSb (b.length-1))<|wE (gV kC (b.length-1) (0:Nat))<|wE (nG qD)<|wE (yR vW vY (v.getD (b.length-1) 0))<|wE (oRe ((((u.getD (j+b.length) 0)*1000000000)+(u.getD ((j+b.length)-1) 0)) % (v.getD (b.length-1) 0)))<|wM<|wM<|wZ) ?_
   refine pwp_seqjoin (α:=Nat × Nat) (fun (G,R)=>⟨[(4,(.own 1 103 1 ((u0++[0]).length-b.length))),(6,(dD (nT b))),(7,(.own 0 103 1 ((u0++[0]).length))),(8,(vl 103 1 jD v)),(9,(jT b.length)),(10,(jT j)),(12,(xT G))],[(0,some (bm jD u)),(1,some (bm jD q))]⟩) (fun (G,R)=>G<1000000000∧val (u.drop j) / val v≤G∧G≤val (u.drop j) / val v+1) ?_ ?_
   ·refine kI (α:=Nat × Nat) (fun (G,R)=>⟨[(4,(.own 1 103 1 ((u0++[0]).length-b.length))),(6,(dD (nT b))),(7,(.own 0 103 1 ((u0++[0]).length))),(8,(vl 103 1 jD v)),(9,(jT b.length)),(10,(jT j)),(12,(xT G)),(13,(xT R))],[(0,some (bm jD u)),(1,some (bm jD q))]⟩) (fun (G,R)=>G*(v.getD (b.length-1) 0)+R=(u.getD (j+b.length) 0*1000000000+u.getD (j+b.length-1) 0)∧val (u.drop j) / val v≤G∧R<1000000000∧G≤1999999999) (fun (G,R)=>G) ((u.getD (j+b.length) 0*1000000000+u.getD (j+b.length-1) 0) / v.getD (b.length-1) 0,(u.getD (j+b.length) 0*1000000000+u.getD (j+b.length-1) 0) % v.getD (b.length-1) 0) wk ⟨by rw[Nat.mul_comm];exact Nat.div_add_mod _ _,guess_first0 z5 z4 hv1p hg3,Nat.lt_trans (Nat.mod_lt _ hv1p) hg4,guess_top hv1p z1 hg2⟩ ?_
    rintro ⟨G,R⟩ ⟨hG0,hG1,hR,hGb⟩
    have hpq:G*v.getD (b.length-2) 0≤1999999999*999999999:=Nat.mul_le_mul hGb (by omega)
    refine jA<|jA<|kd [(123,(vb (decide (1000000000≤((G:Nat):Int))||decide (((((R*1000000000)+(u.getD ((j+b.length)-2) 0)):Nat):Int)<(((G*(v.getD (b.length-2) 0)):Nat):Int)))))] [] mo ?_ ?_
    ·refine wM<|wE oGe<|wE (oV (vb (decide (1000000000≤((G:Nat):Int)))) (kZ (by kernel_rfl)))<|?_
     rcases hb3:(decide (1000000000≤((G:Nat):Int))) with _ | _
     ·replace hb3:=uY hb3
      exact wM<|wM<|wM<|wE (oSb (b.length-2))<|wE (gV kC (b.length-2) (0:Nat))<|wE (nG qD)<|wE (yR vW vY (v.getD (b.length-2) 0))<|wE (oMl (G*(v.getD (b.length-2) 0)))<|wM<|wE (oMl (R*1000000000))<|wM<|wM<|wM<|wE (qS (j+b.length))<|wE (oSb ((j+b.length)-2))<|wE (eR kC ((j+b.length)-2))<|wR (oLp qD ((j+b.length)-2) (0:Nat))<|wE (yR vW vY (u.getD ((j+b.length)-2) 0))<|wE (qS ((R*1000000000)+(u.getD ((j+b.length)-2) 0)))<|wE cK<|wE cF<|wZ
     ·replace hb3:=uW hb3
      exact wK<|wK<|wK<|wK<|wK<|wK<|wK<|wK<|wK<|wK<|wK<|wK<|wK<|wK<|wK<|wK<|wK<|wK<|wK<|wK<|wE xC<|wZ
    refine jG rfl (fun h4=>?_) (fun h4=>?_)
    ·rw[Bool.or_eq_true,decide_eq_true_eq,decide_eq_true_eq] at h4
     have hgl:=guess_less (pw_pos _) z5 z4 hG0 hG1 hv1p z2 (by omega)
     refine jE<|jH<|jA<|kx [(12,(xT (G-1)))] [] (zM<|zE (oSb (G-1))<|zM<|zZ) ?_
     refine jA<|kx [(13,(xT (R+(v.getD (b.length-1) 0))))] [] (zM<|zM<|zM<|zE (oSb (b.length-1))<|zE (gV kC (b.length-1) (0:Nat))<|zE (nG qD)<|zE (yR vW vY (v.getD (b.length-1) 0))<|zE (qS (R+(v.getD (b.length-1) 0)))<|zM<|zZ) ?_
     refine jA<|kx [(135,(vb (decide (1000000000≤(((R+(v.getD (b.length-1) 0)):Nat):Int)))))] [] (zM<|zE oGe<|zZ) ?_
     refine jG rfl (fun h5=>?_) (fun h5=>?_)
     ·replace h5:=uW h5
      refine jW ?_
      refine pjoin_exit (id:=2) (α:=Nat × Nat) (Q:=fun _ _=>True) (St:=fun (G,R)=>⟨[(4,(.own 1 103 1 ((u0++[0]).length-b.length))),(6,(dD (nT b))),(7,(.own 0 103 1 ((u0++[0]).length))),(8,(vl 103 1 jD v)),(9,(jT b.length)),(10,(jT j)),(12,(xT G))],[(0,some (bm jD u)),(1,some (bm jD q))]⟩) (I:=fun (G,R)=>G<1000000000∧val (u.drop j) / val v≤G∧G≤val (u.drop j) / val v+1) ?_
      exact ⟨(G-1,R+v.getD (b.length-1) 0),wk,(by have hd:=guess_dec hgl.2 hG0;have hgb:=guess_break hd z1 hg2 (by omega);exact ⟨hgb,hgl.1,guess_near z6 z3 hd hv1p (by omega) hgb (Nat.le_trans (Nat.mul_le_mul (show G-1≤999999999 by omega) (show v.getD (b.length-2) 0≤999999999 by omega)) (by omega))⟩)⟩
     ·replace h5:=uY h5
      refine jE ?_
      exact ⟨(G-1,R+v.getD (b.length-1) 0),wk,(by exact ⟨guess_dec hgl.2 hG0,hgl.1,by omega,by omega⟩),(by first|omega|(dsimp only;omega))⟩
    ·refine jW ?_
     refine pjoin_exit (id:=2) (α:=Nat × Nat) (Q:=fun _ _=>True) (St:=fun (G,R)=>⟨[(4,(.own 1 103 1 ((u0++[0]).length-b.length))),(6,(dD (nT b))),(7,(.own 0 103 1 ((u0++[0]).length))),(8,(vl 103 1 jD v)),(9,(jT b.length)),(10,(jT j)),(12,(xT G))],[(0,some (bm jD u)),(1,some (bm jD q))]⟩) (I:=fun (G,R)=>G<1000000000∧val (u.drop j) / val v≤G∧G≤val (u.drop j) / val v+1) ?_
     exact ⟨(G,R),wk,(by rw[Bool.or_eq_false_iff,decide_eq_false_iff_not,decide_eq_false_iff_not] at h4;exact ⟨by omega,hG1,guess_near z6 z3 hG0 hv1p (by omega) (by omega) (by omega)⟩)⟩
   ·rintro ⟨G,R⟩ ⟨hG,hG1,hG2⟩
    have hjn:j+b.length<(u0++[0]).length:=by omega
    refine jA<|kx [(14,(jT 0)),(15,(xT 0))] [] (zM<|zM<|zZ) ?_
    refine jA<|jA<|kx [(136,(jT b.length)),(137,(jT 0))] [] (zM<|zM<|zZ) ?_
    refine jH<|kI (α:=Nat × List Nat × Nat × Nat) (fun (i,u2,bo,ca)=>⟨[(4,(.own 1 103 1 ((u0++[0]).length-b.length))),(6,(dD (nT b))),(7,(.own 0 103 1 ((u0++[0]).length))),(8,(vl 103 1 jD v)),(9,(jT b.length)),(10,(jT j)),(12,(xT G)),(14,(vi ((bo:Nat):Int))),(15,(xT ca)),(136,(jT b.length)),(137,(jT i))],[(0,some (bm jD u2)),(1,some (bm jD q))]⟩) (fun (i,u2,bo,ca)=>u2.length=(u0++[0]).length∧Dig u2∧u2.take j=u.take j∧u2.drop (j+i)=u.drop (j+i)∧i≤b.length∧bo≤1∧ca<1000000000∧val ((u2.drop j).take i)+G*val (v.take i)=val ((u.drop j).take i)+pw i*(ca+bo)) (fun (i,u2,bo,ca)=>b.length-i) (0,u,0,0) wk ⟨qP,hu,rfl,rfl,Nat.zero_le _,Nat.zero_le _,by decide,by simp [val]⟩ ?_
    rintro ⟨i,u2,bo,ca⟩ ⟨hl2,hd2,ht2,hd2',hin,hbo,hca,hv2⟩
    have hgi:=hvd.getD i
    have hgu:=hd2.getD (i+j)
    have hpq:G*v.getD i 0≤999999999*999999999:=Nat.mul_le_mul (by omega) (by omega)
    refine jA<|kx [(138,(vb (decide (((i:Nat):Int)<((b.length:Nat):Int)))))] [] (zE uM<|zZ) ?_
    refine jA<|jG rfl (fun h6=>?_) (fun h6=>?_)
    ·replace h6:=uW h6
     have hi:i<b.length:=by omega
     refine jE<|jA<|jH<|jA<|kx [(16,(jT i))] [] (zM<|zM<|zZ) ?_
     refine jA<|kx [(17,(xT ((G*(v.getD i 0))+ca)))] [] (zM<|zM<|zM<|zE (gV kC i (0:Nat))<|zE (nG qD)<|zE (yR vW vY (v.getD i 0))<|zE (oMl (G*(v.getD i 0)))<|zM<|zE (qS ((G*(v.getD i 0))+ca))<|zM<|zZ) ?_
     refine jA<|kx [(15,(xT (((G*(v.getD i 0))+ca) / 1000000000)))] [] (zM<|zE (oQu (((G*(v.getD i 0))+ca) / 1000000000))<|zM<|zZ) ?_
     refine jA<|kx [(18,(vi (((((u2.getD (i+j) 0):Nat):Int)-((bo:Nat):Int))-(((((G*(v.getD i 0))+ca) % 1000000000):Nat):Int))))] [] (zM<|zM<|zM<|zE (qS (i+j))<|zE (eR kC (i+j))<|zR (oLp qD (i+j) (0:Nat))<|zE (yR vW in2 (u2.getD (i+j) 0))<|zM<|zE (zSb ((((u2.getD (i+j) 0):Nat):Int)-((bo:Nat):Int)))<|zM<|zE (oRe (((G*(v.getD i 0))+ca) % 1000000000))<|zE (yR zG in2 (((G*(v.getD i 0))+ca) % 1000000000))<|zE (zSb (((((u2.getD (i+j) 0):Nat):Int)-((bo:Nat):Int))-(((((G*(v.getD i 0))+ca) % 1000000000):Nat):Int)))<|zM<|zZ) ?_
     refine jA<|kx [(14,(jT 0))] [] (zM<|zZ) ?_
     refine jA<|jA<|kx [(165,(vb (decide ((((((u2.getD (i+j) 0):Nat):Int)-((bo:Nat):Int))-(((((G*(v.getD i 0))+ca) % 1000000000):Nat):Int))<0))))] [] (zM<|zE uM<|zZ) ?_
     refine jG rfl (fun h7=>?_) (fun h7=>?_)
     ·replace h7:=uW h7
      refine kx [(14,(jT 1)),(18,(vi ((((((u2.getD (i+j) 0):Nat):Int)-((bo:Nat):Int))-(((((G*(v.getD i 0))+ca) % 1000000000):Nat):Int))+1000000000)))] [] (zM<|zE (zAd ((((((u2.getD (i+j) 0):Nat):Int)-((bo:Nat):Int))-(((((G*(v.getD i 0))+ca) % 1000000000):Nat):Int))+1000000000))<|zM<|zM<|zZ) ?_
      refine kx [] [(0,some (bm jD (u2.set (i+j) ((u2.getD (i+j) 0+1000000000)-bo-(G*v.getD i 0+ca) % 1000000000))))] (zM<|zM<|zM<|zE (qS (i+j))<|zM<|zE (yR un2 zI ((u2.getD (i+j) 0+1000000000)-bo-(G*v.getD i 0+ca) % 1000000000) (hr:=by exact (wu32 (by omega) (by omega) (by omega))))<|zE (eR kC (i+j))<|zT (oSp qD (i+j) ((u2.getD (i+j) 0+1000000000)-bo-(G*v.getD i 0+ca) % 1000000000))<|zZ) ?_
      refine kx [(137,(jT (i+1)))] [] (zE (qS (i+1))<|zM<|zZ) ?_
      exact ⟨(i+1,u2.set (i+j) ((u2.getD (i+j) 0+1000000000)-bo-(G*v.getD i 0+ca) % 1000000000),1,(G*v.getD i 0+ca) / 1000000000),wk,(by obtain ⟨q1,q2,q3,q4,q5⟩:=msub_step (v:=v) (L:=(u0++[0]).length) (e:=(u2.getD (i+j) 0+1000000000)-bo-(G*v.getD i 0+ca) % 1000000000) (borrow':=1) hjn hi hl2 qP hd2 ht2 hd2' hv2 rfl (by omega) (by omega);exact ⟨q1,q2,q3,q4,by omega,by omega,by omega,q5⟩),(by first|omega|(dsimp only;omega))⟩
     ·replace h7:=uY h7
      refine jE<|kx [] [(0,some (bm jD (u2.set (i+j) (u2.getD (i+j) 0-bo-(G*v.getD i 0+ca) % 1000000000))))] (zM<|zM<|zM<|zE (qS (i+j))<|zM<|zE (yR un2 zI (u2.getD (i+j) 0-bo-(G*v.getD i 0+ca) % 1000000000) (hr:=by exact (wu32 (by omega) (by omega) (by omega))))<|zE (eR kC (i+j))<|zT (oSp qD (i+j) (u2.getD (i+j) 0-bo-(G*v.getD i 0+ca) % 1000000000))<|zZ) ?_
      refine kx [(137,(jT (i+1)))] [] (zE (qS (i+1))<|zM<|zZ) ?_
      exact ⟨(i+1,u2.set (i+j) (u2.getD (i+j) 0-bo-(G*v.getD i 0+ca) % 1000000000),0,(G*v.getD i 0+ca) / 1000000000),wk,(by obtain ⟨q1,q2,q3,q4,q5⟩:=msub_step (v:=v) (L:=(u0++[0]).length) (e:=u2.getD (i+j) 0-bo-(G*v.getD i 0+ca) % 1000000000) (borrow':=0) hjn hi hl2 qP hd2 ht2 hd2' hv2 rfl (by omega) (by omega);exact ⟨q1,q2,q3,q4,by omega,by omega,by omega,q5⟩),(by first|omega|(dsimp only;omega))⟩
    ·replace h6:=uY h6
     have hie:i=b.length:=by omega
     rw[hie] at hd2' hv2 hin
     obtain ⟨m1,m2,m3⟩:=msub_end hu hd2 hvd hvl hW hG1 hG2 hd2' hv2
     refine jW<|jA<|kx [(19,(vi (((((u2.getD (j+b.length) 0):Nat):Int)-((bo:Nat):Int))-((ca:Nat):Int))))] [] (zM<|zM<|zM<|zE (qS (j+b.length))<|zE (eR kC (j+b.length))<|zR (oLp qD (j+b.length) (0:Nat))<|zE (yR vW in2 (u2.getD (j+b.length) 0))<|zM<|zE (zSb ((((u2.getD (j+b.length) 0):Nat):Int)-((bo:Nat):Int)))<|zM<|zE (yR zG in2 ca)<|zE (zSb (((((u2.getD (j+b.length) 0):Nat):Int)-((bo:Nat):Int))-((ca:Nat):Int)))<|zM<|zZ) ?_
     refine jA<|jA<|kx [(189,(vb (decide ((((((u2.getD (j+b.length) 0):Nat):Int)-((bo:Nat):Int))-((ca:Nat):Int))<0))))] [] (zM<|zE uM<|zZ) ?_
     refine jG rfl (fun h8=>?_) (fun h8=>?_)
     ·replace h8:=uW h8
      obtain ⟨n1,n2,r,n3,n4,n5⟩:=m2 (by omega)
      refine jA<|kx [] [(0,some (bm jD (u2.set (j+b.length) 999999999)))] (zM<|zM<|zM<|zE (qS (j+b.length))<|zM<|zE (zAd ((((((u2.getD (j+b.length) 0):Nat):Int)-((bo:Nat):Int))-((ca:Nat):Int))+1000000000))<|zE (yR un2 zI 999999999 (hr:=by exact (wu32 (by omega) (by omega) (by omega))))<|zE (eR kC (j+b.length))<|zT (oSp qD (j+b.length) 999999999)<|zZ) ?_
      refine jA<|kx [(12,(xT (G-1)))] [] (zM<|zE (oSb (G-1))<|zM<|zZ) ?_
      refine jA<|kx [(20,(dD 0))] [] (zM<|zZ) ?_
      refine jA<|jA<|kx [(200,(jT b.length)),(201,(jT 0))] [] (zM<|zM<|zZ) ?_
      refine jH<|kI (α:=Nat × List Nat × Nat) (fun (i,u3,c)=>⟨[(4,(.own 1 103 1 ((u0++[0]).length-b.length))),(6,(dD (nT b))),(7,(.own 0 103 1 ((u0++[0]).length))),(8,(vl 103 1 jD v)),(9,(jT b.length)),(10,(jT j)),(12,(xT (G-1))),(20,(dD c)),(200,(jT b.length)),(201,(jT i))],[(0,some (bm jD u3)),(1,some (bm jD q))]⟩) (fun (i,u3,c)=>u3.length=(u0++[0]).length∧Dig u3∧u3.take j=(u2.set (j+b.length) 999999999).take j∧u3.drop (j+i)=(u2.set (j+b.length) 999999999).drop (j+i)∧i≤b.length∧c≤1∧val ((u3.drop j).take i)+pw i*c=val (((u2.set (j+b.length) 999999999).drop j).take i)+val (v.take i)) (fun (i,u3,c)=>b.length-i) (0,u2.set (j+b.length) 999999999,0) wk ⟨by simpa using hl2,hd2.set _ (by decide),rfl,rfl,Nat.zero_le _,Nat.zero_le _,by simp [val]⟩ ?_
      rintro ⟨i,u3,c⟩ ⟨hl3,hd3,ht3,hd3',hin,hc,hv3⟩
      have hgi:=hvd.getD i
      have hgu:=hd3.getD (i+j)
      have hgt:=hd3.getD (j+b.length)
      refine jA<|kx [(202,(vb (decide (((i:Nat):Int)<((b.length:Nat):Int)))))] [] (zE uM<|zZ) ?_
      refine jA<|jG rfl (fun h9=>?_) (fun h9=>?_)
      ·replace h9:=uW h9
       have hi:i<b.length:=by omega
       refine jE<|jA<|jH<|jA<|kx [(21,(jT i))] [] (zM<|zM<|zZ) ?_
       refine jA<|kd [(22,(dD (((u3.getD (i+j) 0)+(v.getD i 0))+c)))] [] mo (wM<|wM<|wM<|wE (qS (i+j))<|wE (eR kC (i+j))<|wR (oLp qD (i+j) (0:Nat))<|wM<|wM<|wE (gV kC i (0:Nat))<|wE (nG qD)<|wE (qS ((u3.getD (i+j) 0)+(v.getD i 0)))<|wM<|wE (qS (((u3.getD (i+j) 0)+(v.getD i 0))+c))<|wM<|wZ) ?_
       refine jA<|kx [(20,(dD 0))] [] (zM<|zZ) ?_
       refine jA<|jA<|kx [(218,(vb (decide (1000000000≤(((((u3.getD (i+j) 0)+(v.getD i 0))+c):Nat):Int)))))] [] (zM<|zE oGe<|zZ) ?_
       refine jG rfl (fun h10=>?_) (fun h10=>?_)
       ·replace h10:=uW h10
        refine kx [(20,(dD 1)),(22,(dD ((((u3.getD (i+j) 0)+(v.getD i 0))+c)-1000000000)))] [] (zM<|zE (oSb ((((u3.getD (i+j) 0)+(v.getD i 0))+c)-1000000000))<|zM<|zM<|zZ) ?_
        refine kx [] [(0,some (bm jD (u3.set (i+j) ((((u3.getD (i+j) 0)+(v.getD i 0))+c)-1000000000))))] (zM<|zM<|zM<|zE (qS (i+j))<|zM<|zE (eR kC (i+j))<|zT (oSp qD (i+j) ((((u3.getD (i+j) 0)+(v.getD i 0))+c)-1000000000))<|zZ) ?_
        refine kx [(201,(jT (i+1)))] [] (zE (qS (i+1))<|zM<|zZ) ?_
        exact ⟨(i+1,u3.set (i+j) (u3.getD (i+j) 0+v.getD i 0+c-1000000000),1),wk,(by obtain ⟨q1,q2,q3,q4,q5⟩:=addb_step (v:=v) (L:=(u0++[0]).length) (s:=u3.getD (i+j) 0+v.getD i 0+c) (e:=u3.getD (i+j) 0+v.getD i 0+c-1000000000) (c':=1) hjn hi hl3 (by simpa using hl2) hd3 ht3 hd3' hv3 rfl (by omega) (by omega);exact ⟨q1,q2,q3,q4,by omega,by omega,q5⟩),(by first|omega|(dsimp only;omega))⟩
       ·replace h10:=uY h10
        refine jE<|kx [] [(0,some (bm jD (u3.set (i+j) (((u3.getD (i+j) 0)+(v.getD i 0))+c))))] (zM<|zM<|zM<|zE (qS (i+j))<|zM<|zE (eR kC (i+j))<|zT (oSp qD (i+j) (((u3.getD (i+j) 0)+(v.getD i 0))+c))<|zZ) ?_
        refine kx [(201,(jT (i+1)))] [] (zE (qS (i+1))<|zM<|zZ) ?_
        exact ⟨(i+1,u3.set (i+j) (u3.getD (i+j) 0+v.getD i 0+c),0),wk,(by obtain ⟨q1,q2,q3,q4,q5⟩:=addb_step (v:=v) (L:=(u0++[0]).length) (s:=u3.getD (i+j) 0+v.getD i 0+c) (e:=u3.getD (i+j) 0+v.getD i 0+c) (c':=0) hjn hi hl3 (by simpa using hl2) hd3 ht3 hd3' hv3 rfl (by omega) (by omega);exact ⟨q1,q2,q3,q4,by omega,by omega,q5⟩),(by first|omega|(dsimp only;omega))⟩
      ·replace h9:=uY h9
       have hie2:i=b.length:=by omega
       rw[hie2] at hd3' hv3 hin
       refine jW<|kx [] [(0,some (bm jD (u3.set (j+b.length) (((u3.getD (j+b.length) 0)+c) % 1000000000))))] (zM<|zM<|zM<|zE (qS (j+b.length))<|zM<|zM<|zM<|zE (qS (j+b.length))<|zE (eR kC (j+b.length))<|zR (oLp qD (j+b.length) (0:Nat))<|zM<|zE (qS ((u3.getD (j+b.length) 0)+c))<|zE (oRe (((u3.getD (j+b.length) 0)+c) % 1000000000))<|zE (eR kC (j+b.length))<|zT (oSp qD (j+b.length) (((u3.getD (j+b.length) 0)+c) % 1000000000))<|zZ) ?_
       refine kx [] [(1,some (bm jD (q.set j (G-1))))] (zM<|zM<|zM<|zE (yR zG zI (G-1))<|zE (eR kC j)<|zT (oSp qD j (G-1))<|zZ) ?_
       refine kx [(10,(vi (((j:Nat):Int)-1)))] [] (zM<|zE (zSb (((j:Nat):Int)-1))<|zM<|zZ) ?_
       exact ⟨(j,u3.set (j+b.length) ((u3.getD (j+b.length) 0+c) % 1000000000),q.set j (G-1)),wk,(by obtain ⟨p1,p2⟩:=neg_end hd3 hvd hvl (by omega) (by omega) (hl2.trans qP.symm) (hl3.trans qP.symm) ht2 hd2' hW hc ht3 hd3' hv3 n3 n4 n5 hU;exact ⟨by simpa using hl3,hd3.set _ (Nat.mod_lt _ (by decide)),by simpa using hql,hqd.set _ (by omega),by omega,p1,p2⟩),(by first|omega|(dsimp only;omega))⟩
     ·replace h8:=uY h8
      obtain ⟨n1,n2,n3⟩:=m3 (by omega)
      refine kx [] [(0,some (bm jD (u2.set (j+b.length) 0)))] (zM<|zM<|zM<|zE (qS (j+b.length))<|zM<|zE (yR un2 zI 0 (hr:=by exact (wu32 (by omega) (by omega) (by omega))))<|zE (eR kC (j+b.length))<|zT (oSp qD (j+b.length) 0)<|zZ) ?_
      refine kx [] [(1,some (bm jD (q.set j G)))] (zM<|zM<|zM<|zE (yR zG zI G)<|zE (eR kC j)<|zT (oSp qD j G)<|zZ) ?_
      refine kx [(10,(vi (((j:Nat):Int)-1)))] [] (zM<|zE (zSb (((j:Nat):Int)-1))<|zM<|zZ) ?_
      exact ⟨(j,u2.set (j+b.length) 0,q.set j G),wk,(by obtain ⟨p1,p2⟩:=pos_end hu hvd hvl (by omega) (by omega) (hl2.trans qP.symm) ht2 hd2' hW n2 n3 hU;exact ⟨by simpa using hl2,hd2.set _ (by decide),by simpa using hql,hqd.set _ (by omega),by omega,p1,p2⟩),(by first|omega|(dsimp only;omega))⟩
  ·replace h2:=uY h2
   obtain rfl:k=0:=by omega
   obtain ⟨e1,e2⟩:=scl_div hdb (by omega) (by rw[hvv] at hU;exact hU) (by rw[hvv] at hW;exact hW)
   rw[List.drop_zero] at hW
   refine jW<|jA<|kX (vV (t:=7) (k:=0) (es:=List.map jD u) rfl rfl (uU _ _ (fun _=>rfl)) (vG _ _ qP) (vS _ _ (fun _=>rfl) qP)) ?_
   refine kx [(5,(vl 103 1 jD (ofNat (val (ofNat (val (List.take b.length u))) / (nT b)))))] [] (zM<|zM<|zE (e_slc (l:=0) (h:=b.length) (kl:=.i64) (kh:=.i64) (es':=List.map jD (List.take b.length u)) (by exact rfl) kC (by exact rfl) (by exact rfl) (by exact rfl) (Nat.zero_le _) (by simp only[List.length_map];omega) (by rw[List.drop_zero,List.map_take]))<|zE (kE (t_trim (List.take b.length u) (hu.take _) (by rw[List.length_take];omega)))<|zM<|zE (kE (t_short (ofNat (val (List.take b.length u))) (nT b) (kA _) (by omega) (by omega) (Nat.le_trans (ofNat_val_len (hu.take _)) (by rw[List.length_take];omega))))<|zM<|zE qQ<|zE qQ<|zM<|zZ) ?_
   refine jA<|kX (vV (t:=4) (k:=1) (es:=List.map jD q) rfl rfl (uU _ _ (fun _=>rfl)) (vG _ _ hql) (vS _ _ (fun _=>rfl) hql)) ?_
   refine kx [(4,(vl 103 1 jD (ofNat (val q)))),(5,(vl 103 1 jD (ofNat (val (ofNat (val (List.take b.length u))) / (nT b)))))] [] (zM<|zE (kE (t_trim q hqd (by omega)))<|zM<|zM<|zM<|zZ) ?_
   refine jI ⟨_,(.tmp (d:=(.sl 103 1 (List.map jD (ofNat (val q))))) rfl (.tmp (d:=(.sl 103 1 (List.map jD (ofNat (val (ofNat (val (List.take b.length u))) / (nT b)))))) rfl .nil)),?_⟩
   rw[← e1,← e2,jX,val_take_of_lt (Nat.lt_trans hW (by rw[← hvl];exact uS hvd))];rfl
theorem cb46:callB Tryz.prog 46=true:=by kernel_rfl
theorem cb75:callB Tryz.prog 75=true:=by kernel_rfl
theorem cb99:callB Tryz.prog 99=true:=by kernel_rfl
theorem t_over(a b:List Nat)(ha:xZ a)(hb:xZ b)(hb0:0<val b)(hla:a.length≤1099511627776)(hlb:b.length≤1099511627776):kB Tryz.prog 75 [(.sl 103 1 (List.map jD a)),(.sl 103 1 (List.map jD b))] (.tup [(.sl 103 1 (List.map jD (ofNat (val a / val b)))),(.sl 103 1 (List.map jD (ofNat (val a % val b))))]):=by
 refine jK Tryz.func75 rfl cb75 rfl ?_
 show qU _ _ _ _ ⟨[(0,(vl 103 1 jD a)),(1,(vl 103 1 jD b))],[]⟩
 refine jA<|kx [] [] (zE (oNl 103 1)<|zE (oNl 103 1)<|zZ) ?_
 refine jA<|jA<|kx [(15,(vb (decide ((qY ((val a:Nat):Int) ((val b:Nat):Int))<0))))] [] (zM<|zM<|zE (kE (t_compare a b ha hb (by omega)))<|zE uM<|zZ) ?_
 refine jG rfl (fun h1=>?_) (fun h1=>?_)
 ·replace h1:=uW h1
  refine jA<|kx [(4,(vl 103 1 jD [])),(5,(vl 103 1 jD a))] [] (zM<|zE (oNl 103 1)<|zM<|zZ) ?_
  refine jI ⟨_,(.tmp (d:=(.sl 103 1 (List.map jD []))) rfl (.tmp (d:=(.sl 103 1 (List.map jD a))) rfl .nil)),?_⟩
  have hlt:=cmpI_neg h1
  rw[Nat.div_eq_of_lt hlt,Nat.mod_eq_of_lt hlt,uA,← can_eq ha];rfl
 ·replace h1:=uY h1
  refine jE<|jA<|kx [(6,(xT (xH a))),(7,(vb (gK a)))] [] (zM<|zE (kE (t_word a ha.1))<|zM<|zE qQ<|zE qQ<|zM<|zM<|zZ) ?_
  refine jA<|kx [(8,(xT (xH b))),(9,(vb (gK b)))] [] (zM<|zE (kE (t_word b hb.1))<|zM<|zE qQ<|zE qQ<|zM<|zM<|zZ) ?_
  refine jA<|jA<|kx [(30,(vb ((gK a)&&(gK b))))] [] ?_ ?_
  ·refine zM<|zE (oV (vb (gK a)) (kZ (by kernel_rfl)))<|?_
   rcases hb2:(gK a) with _ | _
   ·exact zK<|zE oPf<|zZ
   ·exact zM<|zE oPa<|zZ
  refine jG (b:=((gK a)&&(gK b))) rfl (fun h3=>?_) (fun h3=>?_)
  ·obtain ⟨w1,w2,w3⟩:=word_both ha.1 h3
   have w4:xH a / xH b<18446744073709551616:=Nat.lt_of_le_of_lt (Nat.div_le_self _ _) (by omega)
   have w5:xH a % xH b<18446744073709551616:=Nat.lt_of_le_of_lt (Nat.mod_le _ _) (by omega)
   refine jA<|kd [(4,(vl 103 1 jD (ofNat ((xH a) / (xH b))))),(5,(vl 103 1 jD (ofNat ((xH a) % (xH b)))))] [] mo (wM<|wM<|wE (oQu ((xH a) / (xH b)))<|wE (kE (t_split ((xH a) / (xH b)) (by omega)))<|wM<|wM<|wE (oRe ((xH a) % (xH b)))<|wE (kE (t_split ((xH a) % (xH b)) (by omega)))<|wM<|wM<|wZ) ?_
   refine jI ⟨_,(.tmp (d:=(.sl 103 1 (List.map jD (ofNat ((xH a) / (xH b)))))) rfl (.tmp (d:=(.sl 103 1 (List.map jD (ofNat ((xH a) % (xH b)))))) rfl .nil)),?_⟩
   rw[w1,w2];rfl
  ·refine jE<|jA<|jA<|kx [(41,(vb (((b.length:Nat):Int) == 1)))] [] (zM<|zE (xD kC)<|zE gX<|zZ) ?_
   refine jG (b:=(((b.length:Nat):Int) == 1)) rfl (fun h4=>?_) (fun h4=>?_)
   ·replace h4:=eq_of_beq h4
    have hv1:=val_len1 (b:=b) (by omega)
    have hg:=hb.1.getD 0
    have w5:val a % b.getD 0 0<4294967296:=Nat.lt_trans (Nat.mod_lt _ (by omega)) (by omega)
    refine jA<|kx [(10,(vl 103 1 jD (ofNat (val a / (b.getD 0 0))))),(11,(dD (val a % (b.getD 0 0))))] [] (zM<|zM<|zE (gV kC 0 (0:Nat))<|zE (nG qD)<|zE (kE (t_short a (b.getD 0 0) ha.1 (by omega) (by omega) (by omega)))<|zM<|zE qQ<|zE qQ<|zM<|zM<|zZ) ?_
    refine jA<|kx [(4,(vl 103 1 jD (ofNat (val a / (b.getD 0 0))))),(5,(vl 103 1 jD (ofNat (val a % (b.getD 0 0)))))] [] (zM<|zM<|zE (yR vW vY (val a % (b.getD 0 0)))<|zE (kE (t_split (val a % (b.getD 0 0)) (by omega)))<|zM<|zM<|zZ) ?_
    refine jI ⟨_,(.tmp (d:=(.sl 103 1 (List.map jD (ofNat (val a / (b.getD 0 0)))))) rfl (.tmp (d:=(.sl 103 1 (List.map jD (ofNat (val a % (b.getD 0 0)))))) rfl .nil)),?_⟩
    rw[hv1];rfl
   ·replace h4:=ne_of_beq_false h4
    have hbl:=val_pos_len hb0
    refine jE<|jA<|kx [(4,(vl 103 1 jD (ofNat (val a / val b)))),(5,(vl 103 1 jD (ofNat (val a % val b))))] [] (zM<|zM<|zE (kE (t_long a b ha hb (by omega) (cmpI_nn h1) (by omega)))<|zE qQ<|zE qQ<|zM<|zM<|zZ) ?_
    refine jI ⟨_,(.tmp (d:=(.sl 103 1 (List.map jD (ofNat (val a / val b))))) rfl (.tmp (d:=(.sl 103 1 (List.map jD (ofNat (val a % val b))))) rfl .nil)),?_⟩
    rfl
theorem t_divideI(x y:kJ)(hx:x.gs.length≤1099511627776)(hy:y.gs.length≤1099511627776)(hy0:jS y≠0):kB Tryz.prog 99 [(jJ x),(jJ y)] (.tup [(jJ (jQ ((jS x).fdiv (jS y)))),(jJ (jQ ((jS x).fmod (jS y)))),(.val (.int .i64 (0)))]):=by
 have hgx:=kO x
 have hlx:=xV x
 have hgy:=kO y
 have hly:=xV y
 have hn:0<val (jV y):=by have:=aC y;omega
 have hq:=len_quo (jV x) hgx (val (jV y))
 have hr:=len_rem (jV x) hgx (val (jV y))
 have hrn:=Nat.mod_lt (val (jV x)) hn
 refine jK Tryz.func99 rfl cb99 rfl ?_
 show qU _ _ _ _ ⟨[(0,(.d (jJ x))),(1,(.d (jJ y)))],[]⟩
 refine jA<|kx [(2,(.ref 0 0)),(3,(.ref 1 0)),(4,(.ref 2 0)),(5,(.ref 3 0))] [(0,some (bx (jJ x))),(1,some (bx (jJ y))),(2,some (bx (jJ (kJ.mk false [])))),(3,some (bx (jJ (kJ.mk false []))))] (zN (yC 0)<|zN (yC 1)<|zN (uQ 2 uH uI)<|zN (uQ 3 uH uI)<|zM<|zZ) ?_
 refine jA<|kd [(7,(vl 103 1 jD (jV x))),(8,(vl 103 1 jD (jV y)))] [] mo (wR (kY jL)<|wE (kE (yA x (by omega)))<|wR (kY jL)<|wE (kE (yA y (by omega)))<|wM<|wM<|wZ) ?_
 refine jA<|jA<|kx [(17,(vb ((((jV y).length:Nat):Int) == 0)))] [] (zM<|zE (xD kC (L:=(jV y)))<|zE gX<|zZ) ?_
 refine jG (b:=((((jV y).length:Nat):Int) == 0)) rfl (fun h1=>?_) (fun h1=>?_)
 ·replace h1:=eq_of_beq h1
  exact absurd (toZ_nil h1) hy0
 ·replace h1:=ne_of_beq_false h1
  refine jE<|jA<|kx [(9,(vl 103 1 jD (ofNat (val (jV x) / val (jV y))))),(10,(vl 103 1 jD (ofNat (val (jV x) % val (jV y)))))] [] (zM<|zM<|zE (kE (t_over (jV x) (jV y) hgx hgy (by omega) (by omega) (by omega)))<|zM<|zE qQ<|zE qQ<|zM<|zM<|zZ) ?_
  refine jA<|kx [(10,(vl 103 1 jD (ofNat (val (jV x) % val (jV y)))))] [] (zM<|zE (kE (t_clone (ofNat (val (jV x) % val (jV y))) (by omega)))<|zM<|zZ) ?_
  refine jA<|jA<|kx [(37,(vb (decide (0<(((ofNat (val (jV x) % val (jV y))).length:Nat):Int))&&!(x.neg == y.neg))))] [] ?_ ?_
  ·refine zM<|zE (xD kC (L:=(ofNat (val (jV x) % val (jV y)))))<|zE cK<|zE (oV (vb (decide (0<(((ofNat (val (jV x) % val (jV y))).length:Nat):Int)))) (kZ (by kernel_rfl)))<|?_
   rcases hb2:(decide (0<(((ofNat (val (jV x) % val (jV y))).length:Nat):Int))) with _ | _
   ·replace hb2:=uY hb2
    exact zK<|zK<|zK<|zK<|zK<|zE oPf<|zZ
   ·replace hb2:=uW hb2
    exact zE (kV uT)<|zR (kP dJ)<|zE (kV uT)<|zR (kP dJ)<|zE (oNb bo4)<|zE oPa<|zZ
  refine jG rfl (fun h3=>?_) (fun h3=>?_)
  ·have e1:(ofNat (val (ofNat (val (jV x) / val (jV y)))+val [1])).length≤1099511627777:=qH (by rw[jX,nH];have:=ofNat_lt_pw (val (jV x) / val (jV y));have h3:pw (ofNat (val (jV x) / val (jV y))).length≤pw 1099511627776:=yK (by omega);have h4:=pw_lt (show 1099511627776<1099511627777 by decide);omega)
   have e2:=sub_len (b:=ofNat (val (jV x) % val (jV y))) hgy.1
   rw[Bool.and_eq_true,decide_eq_true_eq,Bool.not_eq_true',beq_eq_false_iff_ne] at h3
   obtain ⟨k1,k2⟩:=h3
   have k3:0<val (jV x) % val (jV y):=by have:=nC (kM (val (jV x) % val (jV y))) (by omega);rwa [jX] at this
   obtain ⟨d1,d2⟩:=div_other hn k2 k3
   refine kx [(9,(vl 103 1 jD (ofNat (val (ofNat (val (jV x) / val (jV y)))+val [1])))),(10,(vl 103 1 jD (ofNat (val (jV y)-val (ofNat (val (jV x) % val (jV y)))))))] [] (zM<|zE (oBs kC uO xQ)<|zE (kE (t_plus (ofNat (val (jV x) / val (jV y))) [1] (kA _) (xP.2 ⟨by decide,zP⟩) (by omega) (by decide)))<|zM<|zM<|zE (kE (t_minus (jV y) (ofNat (val (jV x) % val (jV y))) hgy.1 (kA _) (by rw[jX];omega) (by omega)))<|zM<|zM<|zZ) ?_
   refine jA<|kd [(6,(jT 0))] [(2,some (bx (jJ (vE (!(x.neg == y.neg)) (val (ofNat (val (ofNat (val (jV x) / val (jV y)))+val [1]))))))),(3,some (bx (jJ (vE y.neg (val (ofNat (val (jV y)-val (ofNat (val (jV x) % val (jV y))))))))))] mo (wE (kV uT)<|wR (kP dJ)<|wE (kV uT)<|wR (kP dJ)<|wE (oNb bo4)<|wM<|wE (kE (mH (!(x.neg == y.neg)) (ofNat (val (ofNat (val (jV x) / val (jV y)))+val [1])) (kA _) (by omega)))<|wE (kV uT)<|wR (kP dJ)<|wM<|wE (kE (mH y.neg (ofNat (val (jV y)-val (ofNat (val (jV x) % val (jV y))))) (kA _) (by omega)))<|wT (qA jL)<|wT (qA jL)<|wM<|wZ) ?_
   refine jI ⟨_,(kQ (cs:=(bx (jJ (vE (!(x.neg == y.neg)) (val (ofNat (val (ofNat (val (jV x) / val (jV y)))+val [1]))))))) (d:=(jJ (vE (!(x.neg == y.neg)) (val (ofNat (val (ofNat (val (jV x) / val (jV y)))+val [1])))))) rfl rfl jL rfl rfl (kQ (cs:=(bx (jJ (vE y.neg (val (ofNat (val (jV y)-val (ofNat (val (jV x) % val (jV y)))))))))) (d:=(jJ (vE y.neg (val (ofNat (val (jV y)-val (ofNat (val (jV x) % val (jV y))))))))) rfl rfl jL rfl rfl (.tmp (d:=(.val (.int .i64 (0)))) rfl .nil))),?_⟩
   unfold jS
   rw[d1,d2]
   simp only[jX,nH]
   rfl
  ·obtain ⟨d1,d2⟩:=div_same (b:=x.neg) (c:=y.neg) (m:=val (jV x)) hn (by rw[Bool.and_eq_false_iff,decide_eq_false_iff_not,Bool.not_eq_false',beq_iff_eq] at h3;rcases h3 with k | k;right;have:=gQ (n:=val (jV x) % val (jV y));omega;exact .inl k)
   refine jE<|jA<|kd [(6,(jT 0))] [(2,some (bx (jJ (vE (!(x.neg == y.neg)) (val (ofNat (val (jV x) / val (jV y)))))))),(3,some (bx (jJ (vE y.neg (val (ofNat (val (jV x) % val (jV y))))))))] mo (wE (kV uT)<|wR (kP dJ)<|wE (kV uT)<|wR (kP dJ)<|wE (oNb bo4)<|wM<|wE (kE (mH (!(x.neg == y.neg)) (ofNat (val (jV x) / val (jV y))) (kA _) (by omega)))<|wE (kV uT)<|wR (kP dJ)<|wM<|wE (kE (mH y.neg (ofNat (val (jV x) % val (jV y))) (kA _) (by omega)))<|wT (qA jL)<|wT (qA jL)<|wM<|wZ) ?_
   refine jI ⟨_,(kQ (cs:=(bx (jJ (vE (!(x.neg == y.neg)) (val (ofNat (val (jV x) / val (jV y)))))))) (d:=(jJ (vE (!(x.neg == y.neg)) (val (ofNat (val (jV x) / val (jV y))))))) rfl rfl jL rfl rfl (kQ (cs:=(bx (jJ (vE y.neg (val (ofNat (val (jV x) % val (jV y)))))))) (d:=(jJ (vE y.neg (val (ofNat (val (jV x) % val (jV y))))))) rfl rfl jL rfl rfl (.tmp (d:=(.val (.int .i64 (0)))) rfl .nil))),?_⟩
   unfold jS
   rw[d1,d2]
   simp only[jX]
   rfl
theorem t_gcdI(x y:kJ)(hx:x.gs.length≤1099511627776)(hy:y.gs.length≤1099511627776):kB Tryz.prog 46 [(jJ x),(jJ y)] (jJ (jQ ((Int.gcd (jS x) (jS y):Nat):Int))):=by
 have hgx:=kO x
 have hlx:=xV x
 have hgy:=kO y
 have hly:=xV y
 refine jK Tryz.func46 rfl cb46 rfl ?_
 show qU _ _ _ _ ⟨[(0,(.d (jJ x))),(1,(.d (jJ y)))],[]⟩
 refine jA<|kx [(2,(.ref 0 0)),(3,(.ref 1 0)),(4,(.ref 2 0))] [(0,some (bx (jJ x))),(1,some (bx (jJ y))),(2,some (bx (jJ (kJ.mk false []))))] (zN (yC 0)<|zN (yC 1)<|zN (uQ 2 uH uI)<|zZ) ?_
 refine jA<|kd [(5,(vl 103 1 jD (jV x))),(6,(vl 103 1 jD (jV y)))] [] mo (wR (kY jL)<|wE (kE (yA x (by omega)))<|wR (kY jL)<|wE (kE (yA y (by omega)))<|wM<|wM<|wZ) ?_
 refine jA<|jH<|kI (α:=List Nat × List Nat) (fun (a,b)=>⟨[(4,(.ref 2 0)),(5,(vl 103 1 jD a)),(6,(vl 103 1 jD b))],[(2,some (bx (jJ (kJ.mk false []))))]⟩) (fun (a,b)=>xZ a∧xZ b∧a.length≤1099511627776∧b.length≤1099511627776∧Nat.gcd (val a) (val b)=Int.gcd (jS x) (jS y)) (fun (a,b)=>val b) (jV x,jV y) wk ⟨hgx,hgy,by omega,by omega,gcd_toZ x y⟩ ?_
 rintro ⟨a,b⟩ ⟨ha,hb,hla,hlb,hg⟩
 refine jA<|jA<|kx [(19,(vb (decide (0<((b.length:Nat):Int)))))] [] (zM<|zE (xD kC)<|zE cK<|zZ) ?_
 refine jG (b:=decide (0<((b.length:Nat):Int))) rfl (fun h1=>?_) (fun h1=>?_)
 ·replace h1:=uW h1
  have hb0:=nC hb (by omega)
  refine jE<|jH<|jA<|kx [(7,(xT (xH a))),(8,(vb (gK a)))] [] (zM<|zE (kE (t_word a ha.1))<|zM<|zE qQ<|zE qQ<|zM<|zM<|zZ) ?_
  refine jA<|kx [(9,(xT (xH b))),(10,(vb (gK b)))] [] (zM<|zE (kE (t_word b hb.1))<|zM<|zE qQ<|zE qQ<|zM<|zM<|zZ) ?_
  refine jA<|jA<|kx [(33,(vb ((gK a)&&(gK b))))] [] ?_ ?_
  ·refine zM<|zE (oV (vb (gK a)) (kZ (by kernel_rfl)))<|?_
   rcases hb2:(gK a) with _ | _
   ·exact zK<|zE oPf<|zZ
   ·exact zM<|zE oPa<|zZ
  refine jG (b:=((gK a)&&(gK b))) rfl (fun h3=>?_) (fun h3=>?_)
  ·obtain ⟨w1,w2,w3⟩:=word_both ha.1 h3
   have w4:val b<1000000000000000000:=by rw[Bool.and_eq_true] at h3;exact val_len2 hb.1 (uW h3.2)
   refine jA<|jH<|kI (α:=Nat × Nat) (fun (m,n)=>⟨[(4,(.ref 2 0)),(7,(xT m)),(9,(xT n))],[(2,some (bx (jJ (kJ.mk false []))))]⟩) (fun (m,n)=>m<1000000000000000000∧n<1000000000000000000∧Nat.gcd m n=Int.gcd (jS x) (jS y)) (fun (m,n)=>n) (xH a,xH b) wk ⟨by omega,by omega,by rw[w1,w2];exact hg⟩ ?_
   rintro ⟨m,n⟩ ⟨hm,hn,hg2⟩
   refine jA<|jA<|kx [(35,(vb (decide (0<((n:Nat):Int)))))] [] (zM<|zE cK<|zZ) ?_
   refine jG (b:=decide (0<((n:Nat):Int))) rfl (fun h4=>?_) (fun h4=>?_)
   ·replace h4:=uW h4
    refine jE<|jH<|kd [(7,(xT n)),(9,(xT (m % n)))] [] mo (wM<|wM<|wM<|wE (oRe (m % n))<|wM<|wM<|wZ) ?_
    exact ⟨(n,m % n),wk,⟨hn,Nat.lt_of_le_of_lt (Nat.mod_le _ _) hm,by rw[← hg2,Nat.gcd_comm,← Nat.gcd_rec,Nat.gcd_comm]⟩,(by dsimp only;exact Nat.mod_lt _ (by omega))⟩
   ·replace h4:=uY h4
    obtain rfl:n=0:=by omega
    rw[Nat.gcd_zero_right] at hg2
    refine jW<|jA<|kx [] [(2,some (bx (jJ (vE false (val (ofNat m))))))] (zM<|zE (kE (t_split m (by omega)))<|zE (kE (mH false (ofNat m) (kA _) (Nat.le_trans (dK (by omega)) (by decide))))<|zT (qA jL)<|zZ) ?_
    refine jI ⟨_,(kQ (cs:=(bx (jJ (vE false (val (ofNat m)))))) (d:=(jJ (vE false (val (ofNat m))))) rfl rfl jL rfl rfl .nil),?_⟩
    rw[← hg2,jX,mkI_false];rfl
  ·refine jE<|jA<|kx [(12,(vl 103 1 jD (ofNat (val a % val b))))] [] (zM<|zM<|zE (kE (t_over a b ha hb hb0 (by omega) (by omega)))<|zM<|zE qQ<|zE qQ<|zM<|zM<|zZ) ?_
   refine kx [(5,(vl 103 1 jD b)),(6,(vl 103 1 jD (ofNat (val a % val b))))] [] (zM<|zM<|zM<|zM<|zZ) ?_
   exact ⟨(b,ofNat (val a % val b)),wk,⟨hb,kM _,hlb,Nat.le_trans (len_rem a ha _) hla,by rw[jX,← hg,Nat.gcd_comm,← Nat.gcd_rec,Nat.gcd_comm]⟩,(by dsimp only;rw[jX];exact Nat.mod_lt _ hb0)⟩
 ·replace h1:=uY h1
  have hb1:b=[]:=List.eq_nil_of_length_eq_zero (by omega)
  rw[hb1,val_nil,Nat.gcd_zero_right] at hg
  refine jW<|jA<|kx [] [(2,some (bx (jJ (vE false (val a)))))] (zM<|zE (kE (t_clone a (by omega)))<|zE (kE (mH false a ha.1 (by omega)))<|zT (qA jL)<|zZ) ?_
  refine jI ⟨_,(kQ (cs:=(bx (jJ (vE false (val a))))) (d:=(jJ (vE false (val a)))) rfl rfl jL rfl rfl .nil),?_⟩
  rw[← hg,mkI_false];rfl
end Go.Proofs.YteimogfidbkpnabGreat
