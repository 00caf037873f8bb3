/- Part 14 of a proof: rules, plain facts, and functions walked. -/
import Derived.Test.YtnajallgoaiahaaGreatDoorM13
set_option linter.all false
set_option maxRecDepth 4000
namespace Go.Proofs.YtnajallgoaiahaaGreatDoor
open Go.Fid
theorem cb252:callB Tryz.prog 252=true:=by kernel_rfl
theorem ze41:zJ Tryz.prog 41=some [.slice none 0 0]:=by kernel_rfl
theorem zo41:aJ [.slice none 0 0] [.sl 140 1 []]:=by simp [aJ,Value.oneCell']
theorem t_short(a:List Nat)(d:Nat)(hda:Dig a)(hd0:0<d)(hd1:d≤1000000000)(hla:a.length≤17592186044416):jQ Tryz.prog 252 [(.sl 140 1 (List.map jC a)),(.val (.int .u32 (((d:Nat):Int))))] (.tup [(.sl 140 1 (List.map jC (ofNat (val a / d)))),(.val (.int .u32 ((((val a % d):Nat):Int))))]):=by
 refine jG Tryz.func252 rfl cb252 rfl ?_
 show qK _ _ _ _ ⟨[(0,(vl 140 1 jC a)),(1,(fN d))],[]⟩
 refine jB<|kx [(3,(.ref 0 0)),(4,(.ref 1 0)),(5,(fN 0))] [(0,some (bx (.val (.int .u32 (((d:Nat):Int)))))),(1,some (bx (.sl 140 1 (List.map jC []))))] (zN (vN 0)<|zN (uB 1 ze41 zo41)<|zM<|zZ) ?_
 refine jB<|kx [] [(1,some [(.own 2 140 1 a.length)]),(2,some (bm jC (List.replicate a.length 0)))] (zM<|zE (vC kH)<|zN (oMk 2 jC (0:Nat) a.length a.length kH vG yB nL)<|zT (oSo xZ)<|zZ) ?_
 refine jB<|kx [(6,(.ref 3 0))] [(3,some (bx (.val (.int .u64 (0)))))] (zH (uB 3 ze170 zo170)<|zT (qD sh170)<|zZ) ?_
 refine jB<|pwp_backL backs cb249 rfl 7 jC a 0 (fun (q,xJ)=>⟨[(3,(.ref 0 0)),(4,(.ref 1 0)),(5,(fN 0)),(6,(.ref 3 0))],[(0,some (bx (.val (.int .u32 (((d:Nat):Int)))))),(1,some [(.own 2 140 1 a.length)]),(2,some (bm jC q)),(3,some (bx (.val (.int .u64 (((xJ:Nat):Int))))))]⟩) (fun (j:Nat) (q,xJ)=>q.length=a.length∧Dig q∧xJ<d∧val (a.drop (a.length-j))=val (q.drop (a.length-j))*d+xJ) (List.replicate a.length 0,0) rfl rfl rfl rfl rfl rfl rfl rfl rfl rfl rfl rfl (fun _=>rfl) (fun _=>rfl) wk ⟨by simp,zD _,hd0,by simp [val,dY]⟩ (by omega) ?_ ?_
 ·rintro rl j ⟨q,xJ⟩ hj ⟨qU,hdq,hr,hv⟩
  have hg:=hda.getD (a.length-1-j)
  obtain ⟨hb1,hb2⟩:=short_bound hr hd1 hg
  refine jB<|kx [(7,(jV (a.length-1-j)))] [] (zM<|zZ) ?_
  refine kx [(8,(fN (a.getD (a.length-1-j) 0)))] [] (zM<|zZ) ?_
  refine jH<|jB<|kx [(9,(gC ((xJ*1000000000)+(a.getD (a.length-1-j) 0))))] [] (zR (qS sh170)<|zE (oMl (xJ*1000000000))<|zM<|zE (mU yM yN (a.getD (a.length-1-j) 0))<|zE (vY ((xJ*1000000000)+(a.getD (a.length-1-j) 0)))<|zM<|zZ) ?_
  refine kd [] [(2,some (bm jC (q.set (a.length-1-j) (((xJ*1000000000)+(a.getD (a.length-1-j) 0)) / d)))),(3,some (bx (.val (.int .u64 ((((((xJ*1000000000)+(a.getD (a.length-1-j) 0)) % d):Nat):Int))))))] mo (wR (qS xZ)<|wM<|wM<|wR (qS qP)<|wE (mU yM yN d)<|wE (oQu (((xJ*1000000000)+(a.getD (a.length-1-j) 0)) / d))<|wE (mU hZ gR (((xJ*1000000000)+(a.getD (a.length-1-j) 0)) / d))<|wM<|wR (qS qP)<|wE (mU yM yN d)<|wE (oRe (((xJ*1000000000)+(a.getD (a.length-1-j) 0)) % d))<|wE (aM kH (a.length-1-j))<|wT (oSp qP (a.length-1-j) (((xJ*1000000000)+(a.getD (a.length-1-j) 0)) / d))<|wT (qD sh170)<|wZ) ?_
  exact ⟨(q.set (a.length-1-j) ((xJ*1000000000+a.getD (a.length-1-j) 0) / d),(xJ*1000000000+a.getD (a.length-1-j) 0) % d),wk,⟨by simpa using qU,hdq.set _ hb2,Nat.mod_lt _ hd0,short_step hj qU hv rfl⟩⟩
 ·rintro ⟨q,xJ⟩ ⟨qU,hdq,hr,hv⟩
  obtain ⟨e1,e2⟩:=short_end hv hr
  refine jB<|kW (publishB (j:=1) (k:=2) (es:=List.map jC q) rfl rfl rfl (uS _ _ (fun _=>rfl)) (uT _ _ qU) (vS _ _ (fun _=>rfl) qU)) ?_
  refine kd [(5,(fN xJ))] [(1,some (bx (.sl 140 1 (List.map jC (ofNat (val q))))))] mo (wR (qS xZ)<|wE (jZ (t_trim q (by assumption) (by omega)))<|wR (qS sh170)<|wE (mU hZ gR xJ)<|wT (qD xZ)<|wM<|wZ) ?_
  refine jE ⟨_,(res_1 (cs:=(bx (.sl 140 1 (List.map jC (ofNat (val q)))))) (d:=(.sl 140 1 (List.map jC (ofNat (val q))))) rfl rfl xZ rfl rfl (.tmp (d:=(.val (.int .u32 (((xJ:Nat):Int))))) rfl .nil)),?_⟩
  rw[← e1,← e2];rfl
theorem o_times(a b:List Nat)(hda:Dig a)(hdb:Dig b)(hla:a.length≤4398046511104)(hlb:b.length≤4398046511104)(h0:0<val a*val b):TakesO Tryz.prog 226 [(.sl 140 1 (List.map jC a)),(.sl 140 1 (List.map jC b))] 140 1 (ofNat (val a*val b)).length (List.map jC (ofNat (val a*val b))):=by
 refine fn_introO Tryz.func226 rfl cb226 rfl (dU h0) ?_
 show qK _ _ _ _ ⟨[(0,(vl 140 1 jC a)),(1,(vl 140 1 jC b))],[]⟩
 refine jB<|kx [] [] (zE (dZ 140 1)<|zZ) ?_
 refine jB<|kx [(5,(.own 0 140 1 (a.length+b.length)))] [(0,some (bm jC (List.replicate (a.length+b.length) 0)))] (zM<|zE (vC kH)<|zM<|zE (vC kH)<|zE (vY (a.length+b.length))<|zN (oMk 0 jC (0:Nat) (a.length+b.length) (a.length+b.length) kH vG yB nL)<|zM<|zZ) ?_
 refine jB<|jB<|kx [(18,(vl 140 1 jC a)),(19,(jV a.length)),(20,(jV 0))] [] (zM<|zE (vC kH)<|zM<|zZ) ?_
 refine jH<|kL (α:=Nat × List Nat) (fun (i,out)=>⟨[(1,(vl 140 1 jC b)),(5,(.own 0 140 1 (a.length+b.length))),(18,(vl 140 1 jC a)),(19,(jV a.length)),(20,(jV i))],[(0,some (bm jC out))]⟩) (fun (i,out)=>out.length=a.length+b.length∧Dig out∧i≤a.length∧(∀ k,i+b.length≤k→out.getD k 0=0)∧val out=val (a.take i)*val b) (fun (i,out)=>a.length-i) (0,List.replicate (a.length+b.length) 0) wk ⟨by simp,zD _,Nat.zero_le _,fun k _=>eY _ k,by simp [val,dY]⟩ ?_
 rintro ⟨i,out⟩ ⟨qU,hdo,hi,hz,hv⟩
 have hai:=hda.getD i
 refine jB<|kx [(21,(vb (decide (((i:Nat):Int)<((a.length:Nat):Int)))))] [] (zE xT<|zZ) ?_
 refine jB<|jF rfl (fun h1=>?_) (fun h1=>?_)
 ·replace h1:=vI h1
  refine jD<|jB<|jH<|jB<|kx [(6,(jV i)),(7,(fN (a.getD i 0)))] [] (zM<|zE (yL kH i (0:Nat))<|zE (yR qP)<|zM<|zM<|zZ) ?_
  refine jB<|kx [(8,(gC 0))] [] (zM<|zZ) ?_
  refine jB<|jB<|kx [(25,(vl 140 1 jC b)),(26,(jV b.length)),(27,(jV 0))] [] (zM<|zE (vC kH)<|zM<|zZ) ?_
  refine jH<|kL (α:=Nat × List Nat × Nat) (fun (j,o2,c)=>⟨[(1,(vl 140 1 jC b)),(5,(.own 0 140 1 (a.length+b.length))),(6,(jV i)),(7,(fN (a.getD i 0))),(8,(gC c)),(18,(vl 140 1 jC a)),(19,(jV a.length)),(20,(jV i)),(25,(vl 140 1 jC b)),(26,(jV b.length)),(27,(jV j))],[(0,some (bm jC o2))]⟩) (fun (j,o2,c)=>o2.length=a.length+b.length∧Dig o2∧j≤b.length∧c<1000000000∧(∀ k,i+b.length≤k→o2.getD k 0=0)∧val o2+pw (i+j)*c=val (a.take i)*val b+pw i*(a.getD i 0*val (b.take j))) (fun (j,o2,c)=>b.length-j) (0,out,0) wk ⟨qU,hdo,Nat.zero_le _,by decide,hz,by simp [val,hv]⟩ ?_
  rintro ⟨j,o2,c⟩ ⟨hlen2,hdo2,hj,hc,hz2,hv2⟩
  have hbj:=hdb.getD j
  have hoj:=hdo2.getD (i+j)
  have hpq:a.getD i 0*b.getD j 0≤999999999*999999999:=Nat.mul_le_mul (by omega) (by omega)
  refine jB<|kx [(28,(vb (decide (((j:Nat):Int)<((b.length:Nat):Int)))))] [] (zE xT<|zZ) ?_
  refine jB<|jF rfl (fun h2=>?_) (fun h2=>?_)
  ·replace h2:=vI h2
   refine jD<|jB<|jH<|jB<|kx [(9,(jV j)),(10,(fN (b.getD j 0)))] [] (zM<|zE (yL kH j (0:Nat))<|zE (yR qP)<|zM<|zM<|zZ) ?_
   refine jB<|kx [(11,(gC (((o2.getD (i+j) 0)+((a.getD i 0)*(b.getD j 0)))+c)))] [] (zM<|zM<|zM<|zE (vY (i+j))<|zE (aM kH (i+j))<|zR (oLp qP (i+j) (0:Nat))<|zE (mU yM yN (o2.getD (i+j) 0))<|zM<|zE (mU yM yN (a.getD i 0))<|zM<|zE (mU yM yN (b.getD j 0))<|zE (oMl ((a.getD i 0)*(b.getD j 0)))<|zE (vY ((o2.getD (i+j) 0)+((a.getD i 0)*(b.getD j 0))))<|zM<|zE (vY (((o2.getD (i+j) 0)+((a.getD i 0)*(b.getD j 0)))+c))<|zM<|zZ) ?_
   refine kx [(8,(gC ((((o2.getD (i+j) 0)+((a.getD i 0)*(b.getD j 0)))+c) / 1000000000)))] [(0,some (bm jC (o2.set (i+j) ((((o2.getD (i+j) 0)+((a.getD i 0)*(b.getD j 0)))+c) % 1000000000))))] (zM<|zM<|zM<|zE (vY (i+j))<|zM<|zE (oRe ((((o2.getD (i+j) 0)+((a.getD i 0)*(b.getD j 0)))+c) % 1000000000))<|zE (mU hZ gR ((((o2.getD (i+j) 0)+((a.getD i 0)*(b.getD j 0)))+c) % 1000000000))<|zM<|zE (oQu ((((o2.getD (i+j) 0)+((a.getD i 0)*(b.getD j 0)))+c) / 1000000000))<|zE (aM kH (i+j))<|zT (oSp qP (i+j) ((((o2.getD (i+j) 0)+((a.getD i 0)*(b.getD j 0)))+c) % 1000000000))<|zM<|zZ) ?_
   refine kx [(27,(jV (j+1)))] [] (zE (vY (j+1))<|zM<|zZ) ?_
   exact ⟨(j+1,o2.set (i+j) ((o2.getD (i+j) 0+a.getD i 0*b.getD j 0+c) % 1000000000),(o2.getD (i+j) 0+a.getD i 0*b.getD j 0+c) / 1000000000),wk,(by obtain ⟨q1,q2⟩:=times_step (by omega) hdo2 hv2 rfl (val_take_succ b j);exact ⟨by simpa using hlen2,q1,by omega,by omega,zero_set (by omega) hz2,q2⟩),(by first|omega|(dsimp only;omega))⟩
  ·replace h2:=vM h2
   have hje:j=b.length:=by omega
   rw[hje] at hv2
   refine kJ<|kx [] [(0,some (bm jC (o2.set (i+b.length) c)))] (zM<|zM<|zM<|zE (vC kH)<|zE (vY (i+b.length))<|zM<|zE (mU hZ gR c)<|zE (aM kH (i+b.length))<|zT (oSp qP (i+b.length) c)<|zZ) ?_
   refine kx [(20,(jV (i+1)))] [] (zE (vY (i+1))<|zM<|zZ) ?_
   exact ⟨(i+1,o2.set (i+b.length) c),wk,(by obtain ⟨q1,q2,q3,q4⟩:=times_row hdo2 (by omega) hlen2 hz2 hc hv2;exact ⟨q1,q2,by omega,q3,q4⟩),(by first|omega|(dsimp only;omega))⟩
 ·replace h1:=vM h1
  have hie:i=a.length:=by omega
  rw[hie,List.take_length] at hv
  refine kJ<|jB<|kx [(4,(.own 0 140 1 ((ofNat (val out)).length)))] [] (zM<|zR ⟨_,e_trimO out (by exact rfl) (by exact rfl) qU hdo (by omega),by kernel_rfl⟩<|zM<|zZ) ?_
  rw[← hv]
  refine jE ⟨4,0,rfl,rfl,(bm jC out),rfl,?_⟩
  exact own_prefix _ (trim_take hdo)
theorem cb253:callB Tryz.prog 253=true:=by kernel_rfl
theorem in2:intB Tryz.prog 2=some .i64:=by kernel_rfl
theorem un2:(Tryz.prog.underlying 2).isSome=true:=by kernel_rfl
set_option maxHeartbeats 4000000 in
theorem t_long(a b:List Nat)(hda:zW a)(hdb:zW b)(hb2:2≤b.length)(hba:val b≤val a)(hla:a.length≤1099511627776):jQ Tryz.prog 253 [(.sl 140 1 (List.map jC a)),(.sl 140 1 (List.map jC b))] (.tup [(.sl 140 1 (List.map jC (ofNat (val a / val b)))),(.sl 140 1 (List.map jC (ofNat (val a % val b))))]):=by
 have hab:=len_of_le hda hdb hba
 have hsc:=bA hdb (by omega)
 have htp:=bR hdb (by omega)
 have hds:Dig [dD b]:=yS.2 ⟨by omega,gS⟩
 have hbp:0<val b:=by have:=val_top hdb.1 (by omega);have h2:=Nat.mul_le_mul_right (pw (b.length-1)) htp.1;have h3:=pw_pos (b.length-1);rw[Nat.succ_mul] at h2;omega
 obtain ⟨u0,hue⟩:∃ u0,u0=ofNat (val a*val [dD b]):=⟨_,rfl⟩
 obtain ⟨v,hve⟩:∃ v,v=ofNat (val b*val [dD b]):=⟨_,rfl⟩
 have hu0:Dig u0:=by rw[hue];exact kG _
 have hvd:Dig v:=by rw[hve];exact kG _
 have hvl:v.length=b.length:=by rw[hve,cS];exact scl_len hdb (by omega)
 have hvv:val v=val b*dD b:=by rw[hve,cS];exact kA _
 have hu0v:val u0=val a*dD b:=by rw[hue,cS];exact kA _
 have hu0l:a.length≤u0.length∧u0.length≤a.length+1:=by rw[hue,cS];exact scl_lenA hda hdb (by omega)
 have hLU:(u0++[0]).length=u0.length+1:=by simp
 have hcv:zW v:=by rw[hve];exact qB _
 have hv1p:0<v.getD (b.length-1) 0:=by rw[← hvl];exact (bR hcv (by omega)).1
 have hpv:pw (b.length-1)≤val v:=by have h1:=val_top hvd (by omega);rw[hvl] at h1;have h2:=Nat.mul_le_mul_right (pw (b.length-1)) hv1p;omega
 refine jG Tryz.func253 rfl cb253 rfl ?_
 show qK _ _ _ _ ⟨[(0,(vl 140 1 jC a)),(1,(vl 140 1 jC b))],[]⟩
 refine jB<|kx [] [] (zE (dZ 140 1)<|zE (dZ 140 1)<|zZ) ?_
 refine jB<|kx [(6,(fN (dD b)))] [] (zM<|zM<|zE (vC kH)<|zE (oSb (b.length-1))<|zE (yL kH (b.length-1) (0:Nat))<|zE (yR qP)<|zE (mU yM yN (b.getD (b.length-1) 0))<|zE (vY ((b.getD (b.length-1) 0)+1))<|zE (oQu (dD b) (hr:=by exact (quo_u64 1000000000 (b.getD (b.length-1) 0+1) (by decide))))<|zE (mU hZ gR (dD b))<|zM<|zZ) ?_
 refine jB<|kx [(7,(.own 0 140 1 u0.length))] [(0,some (bm jC u0))] (zM<|zM<|zE (dG kH vG yB)<|zN (oCo 0 (hue▸o_times a [dD b] hda.1 hds (by omega) (by simp) (by rw[cS];exact Nat.mul_pos (by omega) hsc.1)))<|zM<|zZ) ?_
 refine jB<|kx [(8,(vl 140 1 jC v))] [] (zM<|zM<|zE (dG kH vG yB)<|zE (jZ (hve▸t_times b [dD b] hdb.1 hds (by omega) (by simp)))<|zM<|zZ) ?_
 refine jB<|kx [(9,(jV b.length))] [] (zM<|zE (oLn kH b.length (hr:=by exact (by simp [hvl])))<|zM<|zZ) ?_
 refine jB<|kf [(7,(.own 0 140 1 ((u0++[0]).length)))] [(0,some (bm jC (u0++[0])))] (zM<|zE (dG kH vG yB)<|zA jC u0 [0] rfl kH vG nL<|zM<|zF) ?_
 refine jB<|jB<|kx [(50,(vb (decide ((((u0++[0]).length:Nat):Int)≤((a.length:Nat):Int)))))] [] (zM<|zE (oLo kH)<|zM<|zE (vC kH)<|zE oLe<|zZ) ?_
 refine jF rfl (fun h1=>?_) (fun h1=>?_)
 ·replace h1:=vI h1
  exfalso;simp at h1;omega
 ·replace h1:=vM h1
  refine jD<|jB<|kx [(4,(.own 1 140 1 ((u0++[0]).length-b.length)))] [(1,some (bm jC (List.replicate ((u0++[0]).length-b.length) 0)))] (zM<|zE (oLo kH)<|zM<|zE (oSb ((u0++[0]).length-b.length))<|zH (oMk 1 jC (0:Nat) ((u0++[0]).length-b.length) ((u0++[0]).length-b.length) kH vG yB nL)<|zM<|zZ) ?_
  refine jB<|jB<|kx [(10,(vi ((((u0++[0]).length-b.length:Nat):Int)-1)))] [] (zM<|zE (oLo kH)<|zM<|zE (oSb ((u0++[0]).length-b.length))<|zE (zSb ((((u0++[0]).length-b.length:Nat):Int)-1))<|zM<|zZ) ?_
  refine jH<|kL (α:=Nat × List Nat × List Nat) (fun (k,u,q)=>⟨[(4,(.own 1 140 1 ((u0++[0]).length-b.length))),(6,(fN (dD b))),(7,(.own 0 140 1 ((u0++[0]).length))),(8,(vl 140 1 jC v)),(9,(jV b.length)),(10,(vi (((k:Nat):Int)-1)))],[(0,some (bm jC u)),(1,some (bm jC q))]⟩) (fun (k,u,q)=>u.length=(u0++[0]).length∧Dig u∧q.length=(u0++[0]).length-b.length∧Dig q∧k≤(u0++[0]).length-b.length∧val u+val v*(pw k*val (q.drop k))=val a*dD b∧val (u.drop k)<val v) (fun (k,u,q)=>k) ((u0++[0]).length-b.length,u0++[0],List.replicate ((u0++[0]).length-b.length) 0) wk ⟨rfl,bF.2 ⟨hu0,yS.2 ⟨by decide,gS⟩⟩,by simp,zD _,Nat.le_refl _,by simp [dM,val,hu0v],by have:=long_start hu0 hvl hb2 (by omega) hpv;rw[hLU];exact this⟩ ?_
  rintro ⟨k,u,q⟩ ⟨qU,hu,hql,hqd,hk,hU,hW⟩
  refine jB<|jB<|kx [(65,(vb (decide (0≤(((k:Nat):Int)-1)))))] [] (zM<|zE oGe<|zZ) ?_
  refine jF (b:=decide (0≤(((k:Nat):Int)-1))) rfl (fun h2=>?_) (fun h2=>?_)
  ·replace h2:=vI h2
   obtain ⟨j,rfl⟩:∃ j,k=j+1:=⟨k-1,by omega⟩
   rw[show (((j+1:Nat):Int)-1)=((j:Nat):Int) from by omega]
   have hg1:=hu.getD (j+b.length)
   have hg2:=hu.getD (j+b.length-1)
   have hg3:=hu.getD (j+b.length-2)
   have hg4:=hvd.getD (b.length-1)
   have hg5:=hvd.getD (b.length-2)
   obtain ⟨z1,z2,z3,z4,z5,z6⟩:=window_tops hu hvd hvl hb2 hW
   obtain ⟨hwz,hww⟩:=window hvd hvl hW
   refine jD<|jB<|jH<|jB<|kd [(10,(jV j)),(11,(gC (((u.getD (j+b.length) 0)*1000000000)+(u.getD ((j+b.length)-1) 0))))] [] mo (wM<|wM<|wM<|wE (vY (j+b.length))<|wR ⟨(bm jC u),e_clo (t_at u (j+b.length)) (by exact rfl) (by exact rfl) (by exact rfl) (.o (.d .nil)) (uS jC u (fun _=>rfl)) (uT _ _ qU) (vS _ _ (fun _=>rfl) qU),by kernel_rfl⟩<|wE (mU yM yN (u.getD (j+b.length) 0))<|wE (oMl ((u.getD (j+b.length) 0)*1000000000))<|wM<|wM<|wM<|wE (vY (j+b.length))<|wE (oSb ((j+b.length)-1))<|wE (aM kH ((j+b.length)-1))<|wR (oLp qP ((j+b.length)-1) (0:Nat))<|wE (mU yM yN (u.getD ((j+b.length)-1) 0))<|wE (vY (((u.getD (j+b.length) 0)*1000000000)+(u.getD ((j+b.length)-1) 0)))<|wM<|wZ) ?_
   refine jB<|kd [(12,(gC ((((u.getD (j+b.length) 0)*1000000000)+(u.getD ((j+b.length)-1) 0)) / (v.getD (b.length-1) 0)))),(13,(gC ((((u.getD (j+b.length) 0)*1000000000)+(u.getD ((j+b.length)-1) 0)) % (v.getD (b.length-1) 0))))] [] mo (wM<|wM<|wM<|wE (oSb (b.length-1))<|wE (yL kH (b.length-1) (0:Nat))<|wE (yR qP)<|wE (mU yM yN (v.getD (b.length-1) 0))<|wE (oQu ((((u.getD (j+b.length) 0)*1000000000)+(u.getD ((j+b.length)-1) 0)) / (v.getD (b.length-1) 0)))<|wM<|wM<|wM<|wE (oSb (b.length-1))<|wE (yL kH (b.length-1) (0:Nat))<|wE (yR qP)<|wE (mU yM yN (v.getD (b.length-1) 0))<|wE (oRe ((((u.getD (j+b.length) 0)*1000000000)+(u.getD ((j+b.length)-1) 0)) % (v.getD (b.length-1) 0)))<|wM<|wM<|wZ) ?_
   refine pwp_seqjoin (α:=Nat × Nat) (fun (G,R)=>⟨[(4,(.own 1 140 1 ((u0++[0]).length-b.length))),(6,(fN (dD b))),(7,(.own 0 140 1 ((u0++[0]).length))),(8,(vl 140 1 jC v)),(9,(jV b.length)),(10,(jV j)),(12,(gC G))],[(0,some (bm jC u)),(1,some (bm jC q))]⟩) (fun (G,R)=>G<1000000000∧val (u.drop j) / val v≤G∧G≤val (u.drop j) / val v+1) ?_ ?_
   ·refine kL (α:=Nat × Nat) (fun (G,R)=>⟨[(4,(.own 1 140 1 ((u0++[0]).length-b.length))),(6,(fN (dD b))),(7,(.own 0 140 1 ((u0++[0]).length))),(8,(vl 140 1 jC v)),(9,(jV b.length)),(10,(jV j)),(12,(gC G)),(13,(gC R))],[(0,some (bm jC u)),(1,some (bm jC q))]⟩) (fun (G,R)=>G*(v.getD (b.length-1) 0)+R=(u.getD (j+b.length) 0*1000000000+u.getD (j+b.length-1) 0)∧val (u.drop j) / val v≤G∧R<1000000000∧G≤1999999999) (fun (G,R)=>G) ((u.getD (j+b.length) 0*1000000000+u.getD (j+b.length-1) 0) / v.getD (b.length-1) 0,(u.getD (j+b.length) 0*1000000000+u.getD (j+b.length-1) 0) % v.getD (b.length-1) 0) wk ⟨by rw[Nat.mul_comm];exact Nat.div_add_mod _ _,guess_first0 z5 z4 hv1p hg3,Nat.lt_trans (Nat.mod_lt _ hv1p) hg4,guess_top hv1p z1 hg2⟩ ?_
    rintro ⟨G,R⟩ ⟨hG0,hG1,hR,hGb⟩
    have hpq:G*v.getD (b.length-2) 0≤1999999999*999999999:=Nat.mul_le_mul hGb (by omega)
    refine jB<|jB<|kd [(123,(vb (decide (1000000000≤((G:Nat):Int))||decide (((((R*1000000000)+(u.getD ((j+b.length)-2) 0)):Nat):Int)<(((G*(v.getD (b.length-2) 0)):Nat):Int)))))] [] mo ?_ ?_
    ·refine wM<|wE oGe<|wE (oV (vb (decide (1000000000≤((G:Nat):Int)))) (kV (by kernel_rfl)))<|?_
     rcases hb3:(decide (1000000000≤((G:Nat):Int))) with _ | _
     ·replace hb3:=vM hb3
      exact wM<|wM<|wM<|wE (oSb (b.length-2))<|wE (yL kH (b.length-2) (0:Nat))<|wE (yR qP)<|wE (mU yM yN (v.getD (b.length-2) 0))<|wE (oMl (G*(v.getD (b.length-2) 0)))<|wM<|wE (oMl (R*1000000000))<|wM<|wM<|wM<|wE (vY (j+b.length))<|wE (oSb ((j+b.length)-2))<|wE (aM kH ((j+b.length)-2))<|wR (oLp qP ((j+b.length)-2) (0:Nat))<|wE (mU yM yN (u.getD ((j+b.length)-2) 0))<|wE (vY ((R*1000000000)+(u.getD ((j+b.length)-2) 0)))<|wE mT<|wE cL<|wZ
     ·replace hb3:=vI hb3
      exact wK<|wK<|wK<|wK<|wK<|wK<|wK<|wK<|wK<|wK<|wK<|wK<|wK<|wK<|wK<|wK<|wK<|wK<|wK<|wK<|wE xS<|wZ
    refine jF rfl (fun h4=>?_) (fun h4=>?_)
    ·rw[Bool.or_eq_true,decide_eq_true_eq,decide_eq_true_eq] at h4
     have hgl:=guess_less (pw_pos _) z5 z4 hG0 hG1 hv1p z2 (by omega)
     refine jD<|jH<|jB<|kx [(12,(gC (G-1)))] [] (zM<|zE (oSb (G-1))<|zM<|zZ) ?_
     refine jB<|kx [(13,(gC (R+(v.getD (b.length-1) 0))))] [] (zM<|zM<|zM<|zE (oSb (b.length-1))<|zE (yL kH (b.length-1) (0:Nat))<|zE (yR qP)<|zE (mU yM yN (v.getD (b.length-1) 0))<|zE (vY (R+(v.getD (b.length-1) 0)))<|zM<|zZ) ?_
     refine jB<|kx [(135,(vb (decide (1000000000≤(((R+(v.getD (b.length-1) 0)):Nat):Int)))))] [] (zM<|zE oGe<|zZ) ?_
     refine jF rfl (fun h5=>?_) (fun h5=>?_)
     ·replace h5:=vI h5
      refine kJ ?_
      refine pjoin_exit (id:=2) (α:=Nat × Nat) (Q:=fun _ _=>True) (St:=fun (G,R)=>⟨[(4,(.own 1 140 1 ((u0++[0]).length-b.length))),(6,(fN (dD b))),(7,(.own 0 140 1 ((u0++[0]).length))),(8,(vl 140 1 jC v)),(9,(jV b.length)),(10,(jV j)),(12,(gC G))],[(0,some (bm jC u)),(1,some (bm jC q))]⟩) (I:=fun (G,R)=>G<1000000000∧val (u.drop j) / val v≤G∧G≤val (u.drop j) / val v+1) ?_
      exact ⟨(G-1,R+v.getD (b.length-1) 0),wk,(by have hd:=guess_dec hgl.2 hG0;have hgb:=guess_break hd z1 hg2 (by omega);exact ⟨hgb,hgl.1,guess_near z6 z3 hd hv1p (by omega) hgb (Nat.le_trans (Nat.mul_le_mul (show G-1≤999999999 by omega) (show v.getD (b.length-2) 0≤999999999 by omega)) (by omega))⟩)⟩
     ·replace h5:=vM h5
      refine jD ?_
      exact ⟨(G-1,R+v.getD (b.length-1) 0),wk,(by exact ⟨guess_dec hgl.2 hG0,hgl.1,by omega,by omega⟩),(by first|omega|(dsimp only;omega))⟩
    ·refine kJ ?_
     refine pjoin_exit (id:=2) (α:=Nat × Nat) (Q:=fun _ _=>True) (St:=fun (G,R)=>⟨[(4,(.own 1 140 1 ((u0++[0]).length-b.length))),(6,(fN (dD b))),(7,(.own 0 140 1 ((u0++[0]).length))),(8,(vl 140 1 jC v)),(9,(jV b.length)),(10,(jV j)),(12,(gC G))],[(0,some (bm jC u)),(1,some (bm jC q))]⟩) (I:=fun (G,R)=>G<1000000000∧val (u.drop j) / val v≤G∧G≤val (u.drop j) / val v+1) ?_
     exact ⟨(G,R),wk,(by rw[Bool.or_eq_false_iff,decide_eq_false_iff_not,decide_eq_false_iff_not] at h4;exact ⟨by omega,hG1,guess_near z6 z3 hG0 hv1p (by omega) (by omega) (by omega)⟩)⟩
   ·rintro ⟨G,R⟩ ⟨hG,hG1,hG2⟩
    have hjn:j+b.length<(u0++[0]).length:=by omega
    refine jB<|kx [(14,(jV 0)),(15,(gC 0))] [] (zM<|zM<|zZ) ?_
    refine jB<|jB<|kx [(136,(jV b.length)),(137,(jV 0))] [] (zM<|zM<|zZ) ?_
    refine jH<|kL (α:=Nat × List Nat × Nat × Nat) (fun (i,u2,bo,ca)=>⟨[(4,(.own 1 140 1 ((u0++[0]).length-b.length))),(6,(fN (dD b))),(7,(.own 0 140 1 ((u0++[0]).length))),(8,(vl 140 1 jC v)),(9,(jV b.length)),(10,(jV j)),(12,(gC G)),(14,(vi ((bo:Nat):Int))),(15,(gC ca)),(136,(jV b.length)),(137,(jV i))],[(0,some (bm jC u2)),(1,some (bm jC q))]⟩) (fun (i,u2,bo,ca)=>u2.length=(u0++[0]).length∧Dig u2∧u2.take j=u.take j∧u2.drop (j+i)=u.drop (j+i)∧i≤b.length∧bo≤1∧ca<1000000000∧val ((u2.drop j).take i)+G*val (v.take i)=val ((u.drop j).take i)+pw i*(ca+bo)) (fun (i,u2,bo,ca)=>b.length-i) (0,u,0,0) wk ⟨qU,hu,rfl,rfl,Nat.zero_le _,Nat.zero_le _,by decide,by simp [val]⟩ ?_
    rintro ⟨i,u2,bo,ca⟩ ⟨hl2,hd2,ht2,hd2',hin,hbo,hca,hv2⟩
    have hgi:=hvd.getD i
    have hgu:=hd2.getD (i+j)
    have hpq:G*v.getD i 0≤999999999*999999999:=Nat.mul_le_mul (by omega) (by omega)
    refine jB<|kx [(138,(vb (decide (((i:Nat):Int)<((b.length:Nat):Int)))))] [] (zE xT<|zZ) ?_
    refine jB<|jF rfl (fun h6=>?_) (fun h6=>?_)
    ·replace h6:=vI h6
     have hi:i<b.length:=by omega
     refine jD<|jB<|jH<|jB<|kx [(16,(jV i))] [] (zM<|zM<|zZ) ?_
     refine jB<|kx [(17,(gC ((G*(v.getD i 0))+ca)))] [] (zM<|zM<|zM<|zE (yL kH i (0:Nat))<|zE (yR qP)<|zE (mU yM yN (v.getD i 0))<|zE (oMl (G*(v.getD i 0)))<|zM<|zE (vY ((G*(v.getD i 0))+ca))<|zM<|zZ) ?_
     refine jB<|kx [(15,(gC (((G*(v.getD i 0))+ca) / 1000000000)))] [] (zM<|zE (oQu (((G*(v.getD i 0))+ca) / 1000000000))<|zM<|zZ) ?_
     refine jB<|kx [(18,(vi (((((u2.getD (i+j) 0):Nat):Int)-((bo:Nat):Int))-(((((G*(v.getD i 0))+ca) % 1000000000):Nat):Int))))] [] (zM<|zM<|zM<|zE (vY (i+j))<|zE (aM kH (i+j))<|zR (oLp qP (i+j) (0:Nat))<|zE (mU yM in2 (u2.getD (i+j) 0))<|zM<|zE (zSb ((((u2.getD (i+j) 0):Nat):Int)-((bo:Nat):Int)))<|zM<|zE (oRe (((G*(v.getD i 0))+ca) % 1000000000))<|zE (mU hZ in2 (((G*(v.getD i 0))+ca) % 1000000000))<|zE (zSb (((((u2.getD (i+j) 0):Nat):Int)-((bo:Nat):Int))-(((((G*(v.getD i 0))+ca) % 1000000000):Nat):Int)))<|zM<|zZ) ?_
     refine jB<|kx [(14,(jV 0))] [] (zM<|zZ) ?_
     refine jB<|jB<|kx [(165,(vb (decide ((((((u2.getD (i+j) 0):Nat):Int)-((bo:Nat):Int))-(((((G*(v.getD i 0))+ca) % 1000000000):Nat):Int))<0))))] [] (zM<|zE xT<|zZ) ?_
     refine jF rfl (fun h7=>?_) (fun h7=>?_)
     ·replace h7:=vI h7
      refine kx [(14,(jV 1)),(18,(vi ((((((u2.getD (i+j) 0):Nat):Int)-((bo:Nat):Int))-(((((G*(v.getD i 0))+ca) % 1000000000):Nat):Int))+1000000000)))] [] (zM<|zE (zAd ((((((u2.getD (i+j) 0):Nat):Int)-((bo:Nat):Int))-(((((G*(v.getD i 0))+ca) % 1000000000):Nat):Int))+1000000000))<|zM<|zM<|zZ) ?_
      refine kx [] [(0,some (bm jC (u2.set (i+j) ((u2.getD (i+j) 0+1000000000)-bo-(G*v.getD i 0+ca) % 1000000000))))] (zM<|zM<|zM<|zE (vY (i+j))<|zM<|zE (mU un2 gR ((u2.getD (i+j) 0+1000000000)-bo-(G*v.getD i 0+ca) % 1000000000) (hr:=by exact (wu32 (by omega) (by omega) (by omega))))<|zE (aM kH (i+j))<|zT (oSp qP (i+j) ((u2.getD (i+j) 0+1000000000)-bo-(G*v.getD i 0+ca) % 1000000000))<|zZ) ?_
      refine kx [(137,(jV (i+1)))] [] (zE (vY (i+1))<|zM<|zZ) ?_
      exact ⟨(i+1,u2.set (i+j) ((u2.getD (i+j) 0+1000000000)-bo-(G*v.getD i 0+ca) % 1000000000),1,(G*v.getD i 0+ca) / 1000000000),wk,(by obtain ⟨q1,q2,q3,q4,q5⟩:=msub_step (v:=v) (L:=(u0++[0]).length) (e:=(u2.getD (i+j) 0+1000000000)-bo-(G*v.getD i 0+ca) % 1000000000) (borrow':=1) hjn hi hl2 qU hd2 ht2 hd2' hv2 rfl (by omega) (by omega);exact ⟨q1,q2,q3,q4,by omega,by omega,by omega,q5⟩),(by first|omega|(dsimp only;omega))⟩
     ·replace h7:=vM h7
      refine jD<|kx [] [(0,some (bm jC (u2.set (i+j) (u2.getD (i+j) 0-bo-(G*v.getD i 0+ca) % 1000000000))))] (zM<|zM<|zM<|zE (vY (i+j))<|zM<|zE (mU un2 gR (u2.getD (i+j) 0-bo-(G*v.getD i 0+ca) % 1000000000) (hr:=by exact (wu32 (by omega) (by omega) (by omega))))<|zE (aM kH (i+j))<|zT (oSp qP (i+j) (u2.getD (i+j) 0-bo-(G*v.getD i 0+ca) % 1000000000))<|zZ) ?_
      refine kx [(137,(jV (i+1)))] [] (zE (vY (i+1))<|zM<|zZ) ?_
      exact ⟨(i+1,u2.set (i+j) (u2.getD (i+j) 0-bo-(G*v.getD i 0+ca) % 1000000000),0,(G*v.getD i 0+ca) / 1000000000),wk,(by obtain ⟨q1,q2,q3,q4,q5⟩:=msub_step (v:=v) (L:=(u0++[0]).length) (e:=u2.getD (i+j) 0-bo-(G*v.getD i 0+ca) % 1000000000) (borrow':=0) hjn hi hl2 qU hd2 ht2 hd2' hv2 rfl (by omega) (by omega);exact ⟨q1,q2,q3,q4,by omega,by omega,by omega,q5⟩),(by first|omega|(dsimp only;omega))⟩
    ·replace h6:=vM h6
     have hie:i=b.length:=by omega
     rw[hie] at hd2' hv2 hin
     obtain ⟨m1,m2,m3⟩:=msub_end hu hd2 hvd hvl hW hG1 hG2 hd2' hv2
     refine kJ<|jB<|kx [(19,(vi (((((u2.getD (j+b.length) 0):Nat):Int)-((bo:Nat):Int))-((ca:Nat):Int))))] [] (zM<|zM<|zM<|zE (vY (j+b.length))<|zE (aM kH (j+b.length))<|zR (oLp qP (j+b.length) (0:Nat))<|zE (mU yM in2 (u2.getD (j+b.length) 0))<|zM<|zE (zSb ((((u2.getD (j+b.length) 0):Nat):Int)-((bo:Nat):Int)))<|zM<|zE (mU hZ in2 ca)<|zE (zSb (((((u2.getD (j+b.length) 0):Nat):Int)-((bo:Nat):Int))-((ca:Nat):Int)))<|zM<|zZ) ?_
     refine jB<|jB<|kx [(189,(vb (decide ((((((u2.getD (j+b.length) 0):Nat):Int)-((bo:Nat):Int))-((ca:Nat):Int))<0))))] [] (zM<|zE xT<|zZ) ?_
     refine jF rfl (fun h8=>?_) (fun h8=>?_)
     ·replace h8:=vI h8
      obtain ⟨n1,n2,r,n3,n4,n5⟩:=m2 (by omega)
      refine jB<|kx [] [(0,some (bm jC (u2.set (j+b.length) 999999999)))] (zM<|zM<|zM<|zE (vY (j+b.length))<|zM<|zE (zAd ((((((u2.getD (j+b.length) 0):Nat):Int)-((bo:Nat):Int))-((ca:Nat):Int))+1000000000))<|zE (mU un2 gR 999999999 (hr:=by exact (wu32 (by omega) (by omega) (by omega))))<|zE (aM kH (j+b.length))<|zT (oSp qP (j+b.length) 999999999)<|zZ) ?_
      refine jB<|kx [(12,(gC (G-1)))] [] (zM<|zE (oSb (G-1))<|zM<|zZ) ?_
      refine jB<|kx [(20,(fN 0))] [] (zM<|zZ) ?_
      refine jB<|jB<|kx [(200,(jV b.length)),(201,(jV 0))] [] (zM<|zM<|zZ) ?_
      refine jH<|kL (α:=Nat × List Nat × Nat) (fun (i,u3,c)=>⟨[(4,(.own 1 140 1 ((u0++[0]).length-b.length))),(6,(fN (dD b))),(7,(.own 0 140 1 ((u0++[0]).length))),(8,(vl 140 1 jC v)),(9,(jV b.length)),(10,(jV j)),(12,(gC (G-1))),(20,(fN c)),(200,(jV b.length)),(201,(jV i))],[(0,some (bm jC u3)),(1,some (bm jC q))]⟩) (fun (i,u3,c)=>u3.length=(u0++[0]).length∧Dig u3∧u3.take j=(u2.set (j+b.length) 999999999).take j∧u3.drop (j+i)=(u2.set (j+b.length) 999999999).drop (j+i)∧i≤b.length∧c≤1∧val ((u3.drop j).take i)+pw i*c=val (((u2.set (j+b.length) 999999999).drop j).take i)+val (v.take i)) (fun (i,u3,c)=>b.length-i) (0,u2.set (j+b.length) 999999999,0) wk ⟨by simpa using hl2,hd2.set _ (by decide),rfl,rfl,Nat.zero_le _,Nat.zero_le _,by simp [val]⟩ ?_
      rintro ⟨i,u3,c⟩ ⟨hl3,hd3,ht3,hd3',hin,hc,hv3⟩
      have hgi:=hvd.getD i
      have hgu:=hd3.getD (i+j)
      have hgt:=hd3.getD (j+b.length)
      refine jB<|kx [(202,(vb (decide (((i:Nat):Int)<((b.length:Nat):Int)))))] [] (zE xT<|zZ) ?_
      refine jB<|jF rfl (fun h9=>?_) (fun h9=>?_)
      ·replace h9:=vI h9
       have hi:i<b.length:=by omega
       refine jD<|jB<|jH<|jB<|kx [(21,(jV i))] [] (zM<|zM<|zZ) ?_
       refine jB<|kd [(22,(fN (((u3.getD (i+j) 0)+(v.getD i 0))+c)))] [] mo (wM<|wM<|wM<|wE (vY (i+j))<|wE (aM kH (i+j))<|wR (oLp qP (i+j) (0:Nat))<|wM<|wM<|wE (yL kH i (0:Nat))<|wE (yR qP)<|wE (vY ((u3.getD (i+j) 0)+(v.getD i 0)))<|wM<|wE (vY (((u3.getD (i+j) 0)+(v.getD i 0))+c))<|wM<|wZ) ?_
       refine jB<|kx [(20,(fN 0))] [] (zM<|zZ) ?_
       refine jB<|jB<|kx [(218,(vb (decide (1000000000≤(((((u3.getD (i+j) 0)+(v.getD i 0))+c):Nat):Int)))))] [] (zM<|zE oGe<|zZ) ?_
       refine jF rfl (fun h10=>?_) (fun h10=>?_)
       ·replace h10:=vI h10
        refine kx [(20,(fN 1)),(22,(fN ((((u3.getD (i+j) 0)+(v.getD i 0))+c)-1000000000)))] [] (zM<|zE (oSb ((((u3.getD (i+j) 0)+(v.getD i 0))+c)-1000000000))<|zM<|zM<|zZ) ?_
        refine kx [] [(0,some (bm jC (u3.set (i+j) ((((u3.getD (i+j) 0)+(v.getD i 0))+c)-1000000000))))] (zM<|zM<|zM<|zE (vY (i+j))<|zM<|zE (aM kH (i+j))<|zT (oSp qP (i+j) ((((u3.getD (i+j) 0)+(v.getD i 0))+c)-1000000000))<|zZ) ?_
        refine kx [(201,(jV (i+1)))] [] (zE (vY (i+1))<|zM<|zZ) ?_
        exact ⟨(i+1,u3.set (i+j) (u3.getD (i+j) 0+v.getD i 0+c-1000000000),1),wk,(by obtain ⟨q1,q2,q3,q4,q5⟩:=addb_step (v:=v) (L:=(u0++[0]).length) (s:=u3.getD (i+j) 0+v.getD i 0+c) (e:=u3.getD (i+j) 0+v.getD i 0+c-1000000000) (c':=1) hjn hi hl3 (by simpa using hl2) hd3 ht3 hd3' hv3 rfl (by omega) (by omega);exact ⟨q1,q2,q3,q4,by omega,by omega,q5⟩),(by first|omega|(dsimp only;omega))⟩
       ·replace h10:=vM h10
        refine jD<|kx [] [(0,some (bm jC (u3.set (i+j) (((u3.getD (i+j) 0)+(v.getD i 0))+c))))] (zM<|zM<|zM<|zE (vY (i+j))<|zM<|zE (aM kH (i+j))<|zT (oSp qP (i+j) (((u3.getD (i+j) 0)+(v.getD i 0))+c))<|zZ) ?_
        refine kx [(201,(jV (i+1)))] [] (zE (vY (i+1))<|zM<|zZ) ?_
        exact ⟨(i+1,u3.set (i+j) (u3.getD (i+j) 0+v.getD i 0+c),0),wk,(by obtain ⟨q1,q2,q3,q4,q5⟩:=addb_step (v:=v) (L:=(u0++[0]).length) (s:=u3.getD (i+j) 0+v.getD i 0+c) (e:=u3.getD (i+j) 0+v.getD i 0+c) (c':=0) hjn hi hl3 (by simpa using hl2) hd3 ht3 hd3' hv3 rfl (by omega) (by omega);exact ⟨q1,q2,q3,q4,by omega,by omega,q5⟩),(by first|omega|(dsimp only;omega))⟩
      ·replace h9:=vM h9
       have hie2:i=b.length:=by omega
       rw[hie2] at hd3' hv3 hin
       refine kJ<|kx [] [(0,some (bm jC (u3.set (j+b.length) (((u3.getD (j+b.length) 0)+c) % 1000000000))))] (zM<|zM<|zM<|zE (vY (j+b.length))<|zM<|zM<|zM<|zE (vY (j+b.length))<|zE (aM kH (j+b.length))<|zR (oLp qP (j+b.length) (0:Nat))<|zM<|zE (vY ((u3.getD (j+b.length) 0)+c))<|zE (oRe (((u3.getD (j+b.length) 0)+c) % 1000000000))<|zE (aM kH (j+b.length))<|zT (oSp qP (j+b.length) (((u3.getD (j+b.length) 0)+c) % 1000000000))<|zZ) ?_
       refine kx [] [(1,some (bm jC (q.set j (G-1))))] (zM<|zM<|zM<|zE (mU hZ gR (G-1))<|zE (aM kH j)<|zT (oSp qP j (G-1))<|zZ) ?_
       refine kx [(10,(vi (((j:Nat):Int)-1)))] [] (zM<|zE (zSb (((j:Nat):Int)-1))<|zM<|zZ) ?_
       exact ⟨(j,u3.set (j+b.length) ((u3.getD (j+b.length) 0+c) % 1000000000),q.set j (G-1)),wk,(by obtain ⟨p1,p2⟩:=neg_end hd3 hvd hvl (by omega) (by omega) (hl2.trans qU.symm) (hl3.trans qU.symm) ht2 hd2' hW hc ht3 hd3' hv3 n3 n4 n5 hU;exact ⟨by simpa using hl3,hd3.set _ (Nat.mod_lt _ (by decide)),by simpa using hql,hqd.set _ (by omega),by omega,p1,p2⟩),(by first|omega|(dsimp only;omega))⟩
     ·replace h8:=vM h8
      obtain ⟨n1,n2,n3⟩:=m3 (by omega)
      refine kx [] [(0,some (bm jC (u2.set (j+b.length) 0)))] (zM<|zM<|zM<|zE (vY (j+b.length))<|zM<|zE (mU un2 gR 0 (hr:=by exact (wu32 (by omega) (by omega) (by omega))))<|zE (aM kH (j+b.length))<|zT (oSp qP (j+b.length) 0)<|zZ) ?_
      refine kx [] [(1,some (bm jC (q.set j G)))] (zM<|zM<|zM<|zE (mU hZ gR G)<|zE (aM kH j)<|zT (oSp qP j G)<|zZ) ?_
      refine kx [(10,(vi (((j:Nat):Int)-1)))] [] (zM<|zE (zSb (((j:Nat):Int)-1))<|zM<|zZ) ?_
      exact ⟨(j,u2.set (j+b.length) 0,q.set j G),wk,(by obtain ⟨p1,p2⟩:=pos_end hu hvd hvl (by omega) (by omega) (hl2.trans qU.symm) ht2 hd2' hW n2 n3 hU;exact ⟨by simpa using hl2,hd2.set _ (by decide),by simpa using hql,hqd.set _ (by omega),by omega,p1,p2⟩),(by first|omega|(dsimp only;omega))⟩
  ·replace h2:=vM h2
   obtain rfl:k=0:=by omega
   obtain ⟨e1,e2⟩:=scl_div hdb (by omega) (by rw[hvv] at hU;exact hU) (by rw[hvv] at hW;exact hW)
   rw[List.drop_zero] at hW
   refine kJ<|jB<|kW (vX (t:=7) (k:=0) (es:=List.map jC u) rfl rfl (uS _ _ (fun _=>rfl)) (uT _ _ qU) (vS _ _ (fun _=>rfl) qU)) ?_
   refine kx [(5,(vl 140 1 jC (ofNat (val (ofNat (val (List.take b.length u))) / (dD b)))))] [] (zM<|zM<|zE (e_slc (l:=0) (h:=b.length) (kl:=.i64) (kh:=.i64) (es':=List.map jC (List.take b.length u)) (by exact rfl) kH (by exact rfl) (by exact rfl) (by exact rfl) (Nat.zero_le _) (by simp only[List.length_map];omega) (by rw[List.drop_zero,List.map_take]))<|zE (jZ (t_trim (List.take b.length u) (hu.take _) (by rw[List.length_take];omega)))<|zM<|zE (jZ (t_short (ofNat (val (List.take b.length u))) (dD b) (kG _) (by omega) (by omega) (Nat.le_trans (ofNat_val_len (hu.take _)) (by rw[List.length_take];omega))))<|zM<|zE vT<|zE vT<|zM<|zZ) ?_
   refine jB<|kW (vX (t:=4) (k:=1) (es:=List.map jC q) rfl rfl (uS _ _ (fun _=>rfl)) (uT _ _ hql) (vS _ _ (fun _=>rfl) hql)) ?_
   refine kx [(4,(vl 140 1 jC (ofNat (val q)))),(5,(vl 140 1 jC (ofNat (val (ofNat (val (List.take b.length u))) / (dD b)))))] [] (zM<|zE (jZ (t_trim q hqd (by omega)))<|zM<|zM<|zM<|zZ) ?_
   refine jE ⟨_,(.tmp (d:=(.sl 140 1 (List.map jC (ofNat (val q))))) rfl (.tmp (d:=(.sl 140 1 (List.map jC (ofNat (val (ofNat (val (List.take b.length u))) / (dD b)))))) rfl .nil)),?_⟩
   rw[← e1,← e2,kA,val_take_of_lt (Nat.lt_trans hW (by rw[← hvl];exact vQ hvd))];rfl
theorem cb138:callB Tryz.prog 138=true:=by kernel_rfl
theorem cb222:callB Tryz.prog 222=true:=by kernel_rfl
theorem cb227:callB Tryz.prog 227=true:=by kernel_rfl
theorem t_over(a b:List Nat)(ha:zW a)(hb:zW b)(hb0:0<val b)(hla:a.length≤1099511627776)(hlb:b.length≤1099511627776):jQ Tryz.prog 222 [(.sl 140 1 (List.map jC a)),(.sl 140 1 (List.map jC b))] (.tup [(.sl 140 1 (List.map jC (ofNat (val a / val b)))),(.sl 140 1 (List.map jC (ofNat (val a % val b))))]):=by
 refine jG Tryz.func222 rfl cb222 rfl ?_
 show qK _ _ _ _ ⟨[(0,(vl 140 1 jC a)),(1,(vl 140 1 jC b))],[]⟩
 refine jB<|kx [] [] (zE (dZ 140 1)<|zE (dZ 140 1)<|zZ) ?_
 refine jB<|jB<|kx [(15,(vb (decide ((uP ((val a:Nat):Int) ((val b:Nat):Int))<0))))] [] (zM<|zM<|zE (jZ (t_compare a b ha hb (by omega)))<|zE xT<|zZ) ?_
 refine jF rfl (fun h1=>?_) (fun h1=>?_)
 ·replace h1:=vI h1
  refine jB<|kx [(4,(vl 140 1 jC [])),(5,(vl 140 1 jC a))] [] (zM<|zE (dZ 140 1)<|zM<|zZ) ?_
  refine jE ⟨_,(.tmp (d:=(.sl 140 1 (List.map jC []))) rfl (.tmp (d:=(.sl 140 1 (List.map jC a))) rfl .nil)),?_⟩
  have hlt:=cmpI_neg h1
  rw[Nat.div_eq_of_lt hlt,Nat.mod_eq_of_lt hlt,uA,← can_eq ha];rfl
 ·replace h1:=vM h1
  refine jD<|jB<|kx [(6,(gC (yP a))),(7,(vb (mM a)))] [] (zM<|zE (jZ (t_word a ha.1))<|zM<|zE vT<|zE vT<|zM<|zM<|zZ) ?_
  refine jB<|kx [(8,(gC (yP b))),(9,(vb (mM b)))] [] (zM<|zE (jZ (t_word b hb.1))<|zM<|zE vT<|zE vT<|zM<|zM<|zZ) ?_
  refine jB<|jB<|kx [(30,(vb ((mM a)&&(mM b))))] [] ?_ ?_
  ·refine zM<|zE (oV (vb (mM a)) (kV (by kernel_rfl)))<|?_
   rcases hb2:(mM a) with _ | _
   ·exact zK<|zE zG<|zZ
   ·exact zM<|zE fM<|zZ
  refine jF (b:=((mM a)&&(mM b))) rfl (fun h3=>?_) (fun h3=>?_)
  ·obtain ⟨w1,w2,w3⟩:=word_both ha.1 h3
   have w4:yP a / yP b<18446744073709551616:=Nat.lt_of_le_of_lt (Nat.div_le_self _ _) (by omega)
   have w5:yP a % yP b<18446744073709551616:=Nat.lt_of_le_of_lt (Nat.mod_le _ _) (by omega)
   refine jB<|kd [(4,(vl 140 1 jC (ofNat ((yP a) / (yP b))))),(5,(vl 140 1 jC (ofNat ((yP a) % (yP b)))))] [] mo (wM<|wM<|wE (oQu ((yP a) / (yP b)))<|wE (jZ (t_split ((yP a) / (yP b)) (by omega)))<|wM<|wM<|wE (oRe ((yP a) % (yP b)))<|wE (jZ (t_split ((yP a) % (yP b)) (by omega)))<|wM<|wM<|wZ) ?_
   refine jE ⟨_,(.tmp (d:=(.sl 140 1 (List.map jC (ofNat ((yP a) / (yP b)))))) rfl (.tmp (d:=(.sl 140 1 (List.map jC (ofNat ((yP a) % (yP b)))))) rfl .nil)),?_⟩
   rw[w1,w2];rfl
  ·refine jD<|jB<|jB<|kx [(41,(vb (((b.length:Nat):Int) == 1)))] [] (zM<|zE (vC kH)<|zE yQ<|zZ) ?_
   refine jF (b:=(((b.length:Nat):Int) == 1)) rfl (fun h4=>?_) (fun h4=>?_)
   ·replace h4:=eq_of_beq h4
    have hv1:=val_len1 (b:=b) (by omega)
    have hg:=hb.1.getD 0
    have w5:val a % b.getD 0 0<4294967296:=Nat.lt_trans (Nat.mod_lt _ (by omega)) (by omega)
    refine jB<|kx [(10,(vl 140 1 jC (ofNat (val a / (b.getD 0 0))))),(11,(fN (val a % (b.getD 0 0))))] [] (zM<|zM<|zE (yL kH 0 (0:Nat))<|zE (yR qP)<|zE (jZ (t_short a (b.getD 0 0) ha.1 (by omega) (by omega) (by omega)))<|zM<|zE vT<|zE vT<|zM<|zM<|zZ) ?_
    refine jB<|kx [(4,(vl 140 1 jC (ofNat (val a / (b.getD 0 0))))),(5,(vl 140 1 jC (ofNat (val a % (b.getD 0 0)))))] [] (zM<|zM<|zE (mU yM yN (val a % (b.getD 0 0)))<|zE (jZ (t_split (val a % (b.getD 0 0)) (by omega)))<|zM<|zM<|zZ) ?_
    refine jE ⟨_,(.tmp (d:=(.sl 140 1 (List.map jC (ofNat (val a / (b.getD 0 0)))))) rfl (.tmp (d:=(.sl 140 1 (List.map jC (ofNat (val a % (b.getD 0 0)))))) rfl .nil)),?_⟩
    rw[hv1];rfl
   ·replace h4:=ne_of_beq_false h4
    have hbl:=val_pos_len hb0
    refine jD<|jB<|kx [(4,(vl 140 1 jC (ofNat (val a / val b)))),(5,(vl 140 1 jC (ofNat (val a % val b))))] [] (zM<|zM<|zE (jZ (t_long a b ha hb (by omega) (cmpI_nn h1) (by omega)))<|zE vT<|zE vT<|zM<|zM<|zZ) ?_
    refine jE ⟨_,(.tmp (d:=(.sl 140 1 (List.map jC (ofNat (val a / val b))))) rfl (.tmp (d:=(.sl 140 1 (List.map jC (ofNat (val a % val b))))) rfl .nil)),?_⟩
    rfl
theorem t_divideI(x y:kU)(hx:x.gs.length≤1099511627776)(hy:y.gs.length≤1099511627776)(hy0:jX y≠0):jQ Tryz.prog 227 [(jN x),(jN y)] (.tup [(jN (kD ((jX x).fdiv (jX y)))),(jN (kD ((jX x).fmod (jX y)))),(.val (.int .i64 (0)))]):=by
 have hgx:=qI x
 have hlx:=gI x
 have hgy:=qI y
 have hly:=gI y
 have hn:0<val (kR y):=by have:=bY y;omega
 have hq:=len_quo (kR x) hgx (val (kR y))
 have hr:=len_rem (kR x) hgx (val (kR y))
 have hrn:=Nat.mod_lt (val (kR x)) hn
 refine jG Tryz.func227 rfl cb227 rfl ?_
 show qK _ _ _ _ ⟨[(0,(.d (jN x))),(1,(.d (jN y)))],[]⟩
 refine jB<|kx [(2,(.ref 0 0)),(3,(.ref 1 0)),(4,(.ref 2 0)),(5,(.ref 3 0))] [(0,some (bx (jN x))),(1,some (bx (jN y))),(2,some (bx (jN (kU.mk false [])))),(3,some (bx (jN (kU.mk false []))))] (zN (vN 0)<|zN (vN 1)<|zN (uB 2 yH yF)<|zN (uB 3 yH yF)<|zM<|zZ) ?_
 refine jB<|kd [(7,(vl 140 1 jC (kR x))),(8,(vl 140 1 jC (kR y)))] [] mo (wR (kO jY)<|wE (jZ (gK x (by omega)))<|wR (kO jY)<|wE (jZ (gK y (by omega)))<|wM<|wM<|wZ) ?_
 refine jB<|jB<|kx [(17,(vb ((((kR y).length:Nat):Int) == 0)))] [] (zM<|zE (vC kH (L:=(kR y)))<|zE yQ<|zZ) ?_
 refine jF (b:=((((kR y).length:Nat):Int) == 0)) rfl (fun h1=>?_) (fun h1=>?_)
 ·replace h1:=eq_of_beq h1
  exact absurd (toZ_nil h1) hy0
 ·replace h1:=ne_of_beq_false h1
  refine jD<|jB<|kx [(9,(vl 140 1 jC (ofNat (val (kR x) / val (kR y))))),(10,(vl 140 1 jC (ofNat (val (kR x) % val (kR y)))))] [] (zM<|zM<|zE (jZ (t_over (kR x) (kR y) hgx hgy (by omega) (by omega) (by omega)))<|zM<|zE vT<|zE vT<|zM<|zM<|zZ) ?_
  refine jB<|kx [(10,(vl 140 1 jC (ofNat (val (kR x) % val (kR y)))))] [] (zM<|zE (jZ (t_clone (ofNat (val (kR x) % val (kR y))) (by omega)))<|zM<|zZ) ?_
  refine jB<|jB<|kx [(37,(vb (decide (0<(((ofNat (val (kR x) % val (kR y))).length:Nat):Int))&&!(x.neg == y.neg))))] [] ?_ ?_
  ·refine zM<|zE (vC kH (L:=(ofNat (val (kR x) % val (kR y)))))<|zE mT<|zE (oV (vb (decide (0<(((ofNat (val (kR x) % val (kR y))).length:Nat):Int)))) (kV (by kernel_rfl)))<|?_
   rcases hb2:(decide (0<(((ofNat (val (kR x) % val (kR y))).length:Nat):Int))) with _ | _
   ·replace hb2:=vM hb2
    exact zK<|zK<|zK<|zK<|zK<|zE zG<|zZ
   ·replace hb2:=vI hb2
    exact zE (kZ vD)<|zR (qS aP)<|zE (kZ vD)<|zR (qS aP)<|zE (oNb bo4)<|zE fM<|zZ
  refine jF rfl (fun h3=>?_) (fun h3=>?_)
  ·have e1:(ofNat (val (ofNat (val (kR x) / val (kR y)))+val [1])).length≤1099511627777:=qV (by rw[kA,cS];have:=aD (val (kR x) / val (kR y));have h3:pw (ofNat (val (kR x) / val (kR y))).length≤pw 1099511627776:=gE (by omega);have h4:=pw_lt (show 1099511627776<1099511627777 by decide);omega)
   have e2:=sub_len (b:=ofNat (val (kR x) % val (kR y))) hgy.1
   rw[Bool.and_eq_true,decide_eq_true_eq,Bool.not_eq_true',beq_eq_false_iff_ne] at h3
   obtain ⟨k1,k2⟩:=h3
   have k3:0<val (kR x) % val (kR y):=by have:=cH (qB (val (kR x) % val (kR y))) (by omega);rwa [kA] at this
   obtain ⟨d1,d2⟩:=div_other hn k2 k3
   refine kx [(9,(vl 140 1 jC (ofNat (val (ofNat (val (kR x) / val (kR y)))+val [1])))),(10,(vl 140 1 jC (ofNat (val (kR y)-val (ofNat (val (kR x) % val (kR y)))))))] [] (zM<|zE (dG kH vG yB)<|zE (jZ (t_plus (ofNat (val (kR x) / val (kR y))) [1] (kG _) (yS.2 ⟨by decide,gS⟩) (by omega) (by decide)))<|zM<|zM<|zE (jZ (t_minus (kR y) (ofNat (val (kR x) % val (kR y))) hgy.1 (kG _) (by rw[kA];omega) (by omega)))<|zM<|zM<|zZ) ?_
   refine jB<|kd [(6,(jV 0))] [(2,some (bx (jN (xB (!(x.neg == y.neg)) (val (ofNat (val (ofNat (val (kR x) / val (kR y)))+val [1]))))))),(3,some (bx (jN (xB y.neg (val (ofNat (val (kR y)-val (ofNat (val (kR x) % val (kR y))))))))))] mo (wE (kZ vD)<|wR (qS aP)<|wE (kZ vD)<|wR (qS aP)<|wE (oNb bo4)<|wM<|wE (jZ (mQ (!(x.neg == y.neg)) (ofNat (val (ofNat (val (kR x) / val (kR y)))+val [1])) (kG _) (by omega)))<|wE (kZ vD)<|wR (qS aP)<|wM<|wE (jZ (mQ y.neg (ofNat (val (kR y)-val (ofNat (val (kR x) % val (kR y))))) (kG _) (by omega)))<|wT (qD jY)<|wT (qD jY)<|wM<|wZ) ?_
   refine jE ⟨_,(kP (cs:=(bx (jN (xB (!(x.neg == y.neg)) (val (ofNat (val (ofNat (val (kR x) / val (kR y)))+val [1]))))))) (d:=(jN (xB (!(x.neg == y.neg)) (val (ofNat (val (ofNat (val (kR x) / val (kR y)))+val [1])))))) rfl rfl jY rfl rfl (kP (cs:=(bx (jN (xB y.neg (val (ofNat (val (kR y)-val (ofNat (val (kR x) % val (kR y)))))))))) (d:=(jN (xB y.neg (val (ofNat (val (kR y)-val (ofNat (val (kR x) % val (kR y))))))))) rfl rfl jY rfl rfl (.tmp (d:=(.val (.int .i64 (0)))) rfl .nil))),?_⟩
   unfold jX
   rw[d1,d2]
   simp only[kA,cS]
   rfl
  ·obtain ⟨d1,d2⟩:=div_same (b:=x.neg) (c:=y.neg) (m:=val (kR x)) hn (by rw[Bool.and_eq_false_iff,decide_eq_false_iff_not,Bool.not_eq_false',beq_iff_eq] at h3;rcases h3 with k | k;right;have:=dU (n:=val (kR x) % val (kR y));omega;exact .inl k)
   refine jD<|jB<|kd [(6,(jV 0))] [(2,some (bx (jN (xB (!(x.neg == y.neg)) (val (ofNat (val (kR x) / val (kR y)))))))),(3,some (bx (jN (xB y.neg (val (ofNat (val (kR x) % val (kR y))))))))] mo (wE (kZ vD)<|wR (qS aP)<|wE (kZ vD)<|wR (qS aP)<|wE (oNb bo4)<|wM<|wE (jZ (mQ (!(x.neg == y.neg)) (ofNat (val (kR x) / val (kR y))) (kG _) (by omega)))<|wE (kZ vD)<|wR (qS aP)<|wM<|wE (jZ (mQ y.neg (ofNat (val (kR x) % val (kR y))) (kG _) (by omega)))<|wT (qD jY)<|wT (qD jY)<|wM<|wZ) ?_
   refine jE ⟨_,(kP (cs:=(bx (jN (xB (!(x.neg == y.neg)) (val (ofNat (val (kR x) / val (kR y)))))))) (d:=(jN (xB (!(x.neg == y.neg)) (val (ofNat (val (kR x) / val (kR y))))))) rfl rfl jY rfl rfl (kP (cs:=(bx (jN (xB y.neg (val (ofNat (val (kR x) % val (kR y)))))))) (d:=(jN (xB y.neg (val (ofNat (val (kR x) % val (kR y))))))) rfl rfl jY rfl rfl (.tmp (d:=(.val (.int .i64 (0)))) rfl .nil))),?_⟩
   unfold jX
   rw[d1,d2]
   simp only[kA]
   rfl
theorem t_gcdI(x y:kU)(hx:x.gs.length≤1099511627776)(hy:y.gs.length≤1099511627776):jQ Tryz.prog 138 [(jN x),(jN y)] (jN (kD ((Int.gcd (jX x) (jX y):Nat):Int))):=by
 have hgx:=qI x
 have hlx:=gI x
 have hgy:=qI y
 have hly:=gI y
 refine jG Tryz.func138 rfl cb138 rfl ?_
 show qK _ _ _ _ ⟨[(0,(.d (jN x))),(1,(.d (jN y)))],[]⟩
 refine jB<|kx [(2,(.ref 0 0)),(3,(.ref 1 0)),(4,(.ref 2 0))] [(0,some (bx (jN x))),(1,some (bx (jN y))),(2,some (bx (jN (kU.mk false []))))] (zN (vN 0)<|zN (vN 1)<|zN (uB 2 yH yF)<|zZ) ?_
 refine jB<|kd [(5,(vl 140 1 jC (kR x))),(6,(vl 140 1 jC (kR y)))] [] mo (wR (kO jY)<|wE (jZ (gK x (by omega)))<|wR (kO jY)<|wE (jZ (gK y (by omega)))<|wM<|wM<|wZ) ?_
 refine jB<|jH<|kL (α:=List Nat × List Nat) (fun (a,b)=>⟨[(4,(.ref 2 0)),(5,(vl 140 1 jC a)),(6,(vl 140 1 jC b))],[(2,some (bx (jN (kU.mk false []))))]⟩) (fun (a,b)=>zW a∧zW b∧a.length≤1099511627776∧b.length≤1099511627776∧Nat.gcd (val a) (val b)=Int.gcd (jX x) (jX y)) (fun (a,b)=>val b) (kR x,kR y) wk ⟨hgx,hgy,by omega,by omega,gcd_toZ x y⟩ ?_
 rintro ⟨a,b⟩ ⟨ha,hb,hla,hlb,hg⟩
 refine jB<|jB<|kx [(19,(vb (decide (0<((b.length:Nat):Int)))))] [] (zM<|zE (vC kH)<|zE mT<|zZ) ?_
 refine jF (b:=decide (0<((b.length:Nat):Int))) rfl (fun h1=>?_) (fun h1=>?_)
 ·replace h1:=vI h1
  have hb0:=cH hb (by omega)
  refine jD<|jH<|jB<|kx [(7,(gC (yP a))),(8,(vb (mM a)))] [] (zM<|zE (jZ (t_word a ha.1))<|zM<|zE vT<|zE vT<|zM<|zM<|zZ) ?_
  refine jB<|kx [(9,(gC (yP b))),(10,(vb (mM b)))] [] (zM<|zE (jZ (t_word b hb.1))<|zM<|zE vT<|zE vT<|zM<|zM<|zZ) ?_
  refine jB<|jB<|kx [(33,(vb ((mM a)&&(mM b))))] [] ?_ ?_
  ·refine zM<|zE (oV (vb (mM a)) (kV (by kernel_rfl)))<|?_
   rcases hb2:(mM a) with _ | _
   ·exact zK<|zE zG<|zZ
   ·exact zM<|zE fM<|zZ
  refine jF (b:=((mM a)&&(mM b))) rfl (fun h3=>?_) (fun h3=>?_)
  ·obtain ⟨w1,w2,w3⟩:=word_both ha.1 h3
   have w4:val b<1000000000000000000:=by rw[Bool.and_eq_true] at h3;exact val_len2 hb.1 (vI h3.2)
   refine jB<|jH<|kL (α:=Nat × Nat) (fun (m,n)=>⟨[(4,(.ref 2 0)),(7,(gC m)),(9,(gC n))],[(2,some (bx (jN (kU.mk false []))))]⟩) (fun (m,n)=>m<1000000000000000000∧n<1000000000000000000∧Nat.gcd m n=Int.gcd (jX x) (jX y)) (fun (m,n)=>n) (yP a,yP b) wk ⟨by omega,by omega,by rw[w1,w2];exact hg⟩ ?_
   rintro ⟨m,n⟩ ⟨hm,hn,hg2⟩
   refine jB<|jB<|kx [(35,(vb (decide (0<((n:Nat):Int)))))] [] (zM<|zE mT<|zZ) ?_
   refine jF (b:=decide (0<((n:Nat):Int))) rfl (fun h4=>?_) (fun h4=>?_)
   ·replace h4:=vI h4
    refine jD<|jH<|kd [(7,(gC n)),(9,(gC (m % n)))] [] mo (wM<|wM<|wM<|wE (oRe (m % n))<|wM<|wM<|wZ) ?_
    exact ⟨(n,m % n),wk,⟨hn,Nat.lt_of_le_of_lt (Nat.mod_le _ _) hm,by rw[← hg2,Nat.gcd_comm,← Nat.gcd_rec,Nat.gcd_comm]⟩,(by dsimp only;exact Nat.mod_lt _ (by omega))⟩
   ·replace h4:=vM h4
    obtain rfl:n=0:=by omega
    rw[Nat.gcd_zero_right] at hg2
    refine kJ<|jB<|kx [] [(2,some (bx (jN (xB false (val (ofNat m))))))] (zM<|zE (jZ (t_split m (by omega)))<|zE (jZ (mQ false (ofNat m) (kG _) (Nat.le_trans (fD (by omega)) (by decide))))<|zT (qD jY)<|zZ) ?_
    refine jE ⟨_,(kP (cs:=(bx (jN (xB false (val (ofNat m)))))) (d:=(jN (xB false (val (ofNat m))))) rfl rfl jY rfl rfl .nil),?_⟩
    rw[← hg2,kA,mkI_false];rfl
  ·refine jD<|jB<|kx [(12,(vl 140 1 jC (ofNat (val a % val b))))] [] (zM<|zM<|zE (jZ (t_over a b ha hb hb0 (by omega) (by omega)))<|zM<|zE vT<|zE vT<|zM<|zM<|zZ) ?_
   refine kx [(5,(vl 140 1 jC b)),(6,(vl 140 1 jC (ofNat (val a % val b))))] [] (zM<|zM<|zM<|zM<|zZ) ?_
   exact ⟨(b,ofNat (val a % val b)),wk,⟨hb,qB _,hlb,Nat.le_trans (len_rem a ha _) hla,by rw[kA,← hg,Nat.gcd_comm,← Nat.gcd_rec,Nat.gcd_comm]⟩,(by dsimp only;rw[kA];exact Nat.mod_lt _ hb0)⟩
 ·replace h1:=vM h1
  have hb1:b=[]:=List.eq_nil_of_length_eq_zero (by omega)
  rw[hb1,val_nil,Nat.gcd_zero_right] at hg
  refine kJ<|jB<|kx [] [(2,some (bx (jN (xB false (val a)))))] (zM<|zE (jZ (t_clone a (by omega)))<|zE (jZ (mQ false a ha.1 (by omega)))<|zT (qD jY)<|zZ) ?_
  refine jE ⟨_,(kP (cs:=(bx (jN (xB false (val a))))) (d:=(jN (xB false (val a)))) rfl rfl jY rfl rfl .nil),?_⟩
  rw[← hg,mkI_false];rfl
end Go.Proofs.YtnajallgoaiahaaGreatDoor
