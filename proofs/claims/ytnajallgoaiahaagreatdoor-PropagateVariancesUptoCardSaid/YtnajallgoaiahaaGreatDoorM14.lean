/- Part 14 of a proof: rules, plain facts, and functions walked. -/
import Derived.Test.YtnajallgoaiahaaGreatDoorM13
set_option linter.all false
set_option maxRecDepth 4000
namespace Go.Proofs.YtnajallgoaiahaaGreatDoor
open Go.Fid
theorem cb252:callB Tryz.prog 252=true:=by kernel_rfl
theorem ze41:yE Tryz.prog 41=some [.slice none 0 0]:=by kernel_rfl
theorem zo41:bA [.slice none 0 0] [.sl 140 1 []]:=by simp [bA,Value.oneCell']
theorem t_short(a:List Nat)(d:Nat)(hda:Dig a)(hd0:0<d)(hd1:d≤1000000000)(hla:a.length≤17592186044416):jR Tryz.prog 252 [(.sl 140 1 (List.map jC a)),(.val (.int .u32 (((d:Nat):Int))))] (.tup [(.sl 140 1 (List.map jC (ofNat (val a / d)))),(.val (.int .u32 ((((val a % d):Nat):Int))))]):=by
 refine jJ Tryz.func252 rfl cb252 rfl ?_
 show qG _ _ _ _ ⟨[(0,(vl 140 1 jC a)),(1,(aF d))],[]⟩
 refine jB<|kx [(3,(.ref 0 0)),(4,(.ref 1 0)),(5,(aF 0))] [(0,some (bx (.val (.int .u32 (((d:Nat):Int)))))),(1,some (bx (.sl 140 1 (List.map jC []))))] (zN (vA 0)<|zN (qV 1 ze41 zo41)<|zM<|zZ) ?_
 refine jB<|kx [] [(1,some [(.own 2 140 1 a.length)]),(2,some (bm jC (List.replicate a.length 0)))] (zM<|zE (uW kO)<|zN (oMk 2 jC (0:Nat) a.length a.length kO xC yU mB)<|zT (oSo yB)<|zZ) ?_
 refine jB<|kx [(6,(.ref 3 0))] [(3,some (bx (.val (.int .u64 (0)))))] (zH (qV 3 ze170 zo170)<|zT (qA sh170)<|zZ) ?_
 refine jB<|pwp_backL backs cb249 rfl 7 jC a 0 (fun (q,zP)=>⟨[(3,(.ref 0 0)),(4,(.ref 1 0)),(5,(aF 0)),(6,(.ref 3 0))],[(0,some (bx (.val (.int .u32 (((d:Nat):Int)))))),(1,some [(.own 2 140 1 a.length)]),(2,some (bm jC q)),(3,some (bx (.val (.int .u64 (((zP:Nat):Int))))))]⟩) (fun (j:Nat) (q,zP)=>q.length=a.length∧Dig q∧zP<d∧val (a.drop (a.length-j))=val (q.drop (a.length-j))*d+zP) (List.replicate a.length 0,0) rfl rfl rfl rfl rfl rfl rfl rfl rfl rfl rfl rfl (fun _=>rfl) (fun _=>rfl) wk ⟨by simp,yI _,hd0,by simp [val,eL]⟩ (by omega) ?_ ?_
 ·rintro rl j ⟨q,zP⟩ hj ⟨uA,hdq,hr,hv⟩
  have hg:=hda.getD (a.length-1-j)
  obtain ⟨hb1,hb2⟩:=short_bound hr hd1 hg
  refine jB<|kx [(7,(jP (a.length-1-j)))] [] (zM<|zZ) ?_
  refine kx [(8,(aF (a.getD (a.length-1-j) 0)))] [] (zM<|zZ) ?_
  refine jH<|jB<|kx [(9,(gU ((zP*1000000000)+(a.getD (a.length-1-j) 0))))] [] (zR (uM sh170)<|zE (oMl (zP*1000000000))<|zM<|zE (cI gI gG (a.getD (a.length-1-j) 0))<|zE (vC ((zP*1000000000)+(a.getD (a.length-1-j) 0)))<|zM<|zZ) ?_
  refine kd [] [(2,some (bm jC (q.set (a.length-1-j) (((zP*1000000000)+(a.getD (a.length-1-j) 0)) / d)))),(3,some (bx (.val (.int .u64 ((((((zP*1000000000)+(a.getD (a.length-1-j) 0)) % d):Nat):Int))))))] mo (wR (uM yB)<|wM<|wM<|wR (uM qX)<|wE (cI gI gG d)<|wE (oQu (((zP*1000000000)+(a.getD (a.length-1-j) 0)) / d))<|wE (cI nR nE (((zP*1000000000)+(a.getD (a.length-1-j) 0)) / d))<|wM<|wR (uM qX)<|wE (cI gI gG d)<|wE (oRe (((zP*1000000000)+(a.getD (a.length-1-j) 0)) % d))<|wE (aY kO (a.length-1-j))<|wT (oSp qX (a.length-1-j) (((zP*1000000000)+(a.getD (a.length-1-j) 0)) / d))<|wT (qA sh170)<|wZ) ?_
  exact ⟨(q.set (a.length-1-j) ((zP*1000000000+a.getD (a.length-1-j) 0) / d),(zP*1000000000+a.getD (a.length-1-j) 0) % d),wk,⟨by simpa using uA,hdq.set _ hb2,Nat.mod_lt _ hd0,short_step hj uA hv rfl⟩⟩
 ·rintro ⟨q,zP⟩ ⟨uA,hdq,hr,hv⟩
  obtain ⟨e1,e2⟩:=short_end hv hr
  refine jB<|kS (publishB (j:=1) (k:=2) (es:=List.map jC q) rfl rfl rfl (uQ _ _ (fun _=>rfl)) (uJ _ _ uA) (vQ _ _ (fun _=>rfl) uA)) ?_
  refine kd [(5,(aF zP))] [(1,some (bx (.sl 140 1 (List.map jC (ofNat (val q))))))] mo (wR (uM yB)<|wE (jY (t_trim q (by assumption) (by omega)))<|wR (uM sh170)<|wE (cI nR nE zP)<|wT (qA yB)<|wM<|wZ) ?_
  refine jE ⟨_,(res_1 (cs:=(bx (.sl 140 1 (List.map jC (ofNat (val q)))))) (d:=(.sl 140 1 (List.map jC (ofNat (val q))))) rfl rfl yB rfl rfl (.tmp (d:=(.val (.int .u32 (((zP:Nat):Int))))) rfl .nil)),?_⟩
  rw[← e1,← e2];rfl
theorem o_times(a b:List Nat)(hda:Dig a)(hdb:Dig b)(hla:a.length≤4398046511104)(hlb:b.length≤4398046511104)(h0:0<val a*val b):TakesO Tryz.prog 226 [(.sl 140 1 (List.map jC a)),(.sl 140 1 (List.map jC b))] 140 1 (ofNat (val a*val b)).length (List.map jC (ofNat (val a*val b))):=by
 refine fn_introO Tryz.func226 rfl cb226 rfl (eK h0) ?_
 show qG _ _ _ _ ⟨[(0,(vl 140 1 jC a)),(1,(vl 140 1 jC b))],[]⟩
 refine jB<|kx [] [] (zE (dD 140 1)<|zZ) ?_
 refine jB<|kx [(5,(.own 0 140 1 (a.length+b.length)))] [(0,some (bm jC (List.replicate (a.length+b.length) 0)))] (zM<|zE (uW kO)<|zM<|zE (uW kO)<|zE (vC (a.length+b.length))<|zN (oMk 0 jC (0:Nat) (a.length+b.length) (a.length+b.length) kO xC yU mB)<|zM<|zZ) ?_
 refine jB<|jB<|kx [(18,(vl 140 1 jC a)),(19,(jP a.length)),(20,(jP 0))] [] (zM<|zE (uW kO)<|zM<|zZ) ?_
 refine jH<|kA (α:=Nat × List Nat) (fun (i,out)=>⟨[(1,(vl 140 1 jC b)),(5,(.own 0 140 1 (a.length+b.length))),(18,(vl 140 1 jC a)),(19,(jP a.length)),(20,(jP i))],[(0,some (bm jC out))]⟩) (fun (i,out)=>out.length=a.length+b.length∧Dig out∧i≤a.length∧(∀ k,i+b.length≤k→out.getD k 0=0)∧val out=val (a.take i)*val b) (fun (i,out)=>a.length-i) (0,List.replicate (a.length+b.length) 0) wk ⟨by simp,yI _,Nat.zero_le _,fun k _=>fT _ k,by simp [val,eL]⟩ ?_
 rintro ⟨i,out⟩ ⟨uA,hdo,hi,hz,hv⟩
 have hai:=hda.getD i
 refine jB<|kx [(21,(vb (decide (((i:Nat):Int)<((a.length:Nat):Int)))))] [] (zE xK<|zZ) ?_
 refine jB<|jG rfl (fun h1=>?_) (fun h1=>?_)
 ·replace h1:=uP h1
  refine jD<|jB<|jH<|jB<|kx [(6,(jP i)),(7,(aF (a.getD i 0)))] [] (zM<|zE (xX kO i (0:Nat))<|zE (xZ qX)<|zM<|zM<|zZ) ?_
  refine jB<|kx [(8,(gU 0))] [] (zM<|zZ) ?_
  refine jB<|jB<|kx [(25,(vl 140 1 jC b)),(26,(jP b.length)),(27,(jP 0))] [] (zM<|zE (uW kO)<|zM<|zZ) ?_
  refine jH<|kA (α:=Nat × List Nat × Nat) (fun (j,o2,c)=>⟨[(1,(vl 140 1 jC b)),(5,(.own 0 140 1 (a.length+b.length))),(6,(jP i)),(7,(aF (a.getD i 0))),(8,(gU c)),(18,(vl 140 1 jC a)),(19,(jP a.length)),(20,(jP i)),(25,(vl 140 1 jC b)),(26,(jP b.length)),(27,(jP j))],[(0,some (bm jC o2))]⟩) (fun (j,o2,c)=>o2.length=a.length+b.length∧Dig o2∧j≤b.length∧c<1000000000∧(∀ k,i+b.length≤k→o2.getD k 0=0)∧val o2+pw (i+j)*c=val (a.take i)*val b+pw i*(a.getD i 0*val (b.take j))) (fun (j,o2,c)=>b.length-j) (0,out,0) wk ⟨uA,hdo,Nat.zero_le _,by decide,hz,by simp [val,hv]⟩ ?_
  rintro ⟨j,o2,c⟩ ⟨hlen2,hdo2,hj,hc,hz2,hv2⟩
  have hbj:=hdb.getD j
  have hoj:=hdo2.getD (i+j)
  have hpq:a.getD i 0*b.getD j 0≤999999999*999999999:=Nat.mul_le_mul (by omega) (by omega)
  refine jB<|kx [(28,(vb (decide (((j:Nat):Int)<((b.length:Nat):Int)))))] [] (zE xK<|zZ) ?_
  refine jB<|jG rfl (fun h2=>?_) (fun h2=>?_)
  ·replace h2:=uP h2
   refine jD<|jB<|jH<|jB<|kx [(9,(jP j)),(10,(aF (b.getD j 0)))] [] (zM<|zE (xX kO j (0:Nat))<|zE (xZ qX)<|zM<|zM<|zZ) ?_
   refine jB<|kx [(11,(gU (((o2.getD (i+j) 0)+((a.getD i 0)*(b.getD j 0)))+c)))] [] (zM<|zM<|zM<|zE (vC (i+j))<|zE (aY kO (i+j))<|zR (oLp qX (i+j) (0:Nat))<|zE (cI gI gG (o2.getD (i+j) 0))<|zM<|zE (cI gI gG (a.getD i 0))<|zM<|zE (cI gI gG (b.getD j 0))<|zE (oMl ((a.getD i 0)*(b.getD j 0)))<|zE (vC ((o2.getD (i+j) 0)+((a.getD i 0)*(b.getD j 0))))<|zM<|zE (vC (((o2.getD (i+j) 0)+((a.getD i 0)*(b.getD j 0)))+c))<|zM<|zZ) ?_
   refine kx [(8,(gU ((((o2.getD (i+j) 0)+((a.getD i 0)*(b.getD j 0)))+c) / 1000000000)))] [(0,some (bm jC (o2.set (i+j) ((((o2.getD (i+j) 0)+((a.getD i 0)*(b.getD j 0)))+c) % 1000000000))))] (zM<|zM<|zM<|zE (vC (i+j))<|zM<|zE (oRe ((((o2.getD (i+j) 0)+((a.getD i 0)*(b.getD j 0)))+c) % 1000000000))<|zE (cI nR nE ((((o2.getD (i+j) 0)+((a.getD i 0)*(b.getD j 0)))+c) % 1000000000))<|zM<|zE (oQu ((((o2.getD (i+j) 0)+((a.getD i 0)*(b.getD j 0)))+c) / 1000000000))<|zE (aY kO (i+j))<|zT (oSp qX (i+j) ((((o2.getD (i+j) 0)+((a.getD i 0)*(b.getD j 0)))+c) % 1000000000))<|zM<|zZ) ?_
   refine kx [(27,(jP (j+1)))] [] (zE (vC (j+1))<|zM<|zZ) ?_
   exact ⟨(j+1,o2.set (i+j) ((o2.getD (i+j) 0+a.getD i 0*b.getD j 0+c) % 1000000000),(o2.getD (i+j) 0+a.getD i 0*b.getD j 0+c) / 1000000000),wk,(by obtain ⟨q1,q2⟩:=times_step (by omega) hdo2 hv2 rfl (val_take_succ b j);exact ⟨by simpa using hlen2,q1,by omega,by omega,zero_set (by omega) hz2,q2⟩),(by first|omega|(dsimp only;omega))⟩
  ·replace h2:=uR h2
   have hje:j=b.length:=by omega
   rw[hje] at hv2
   refine kB<|kx [] [(0,some (bm jC (o2.set (i+b.length) c)))] (zM<|zM<|zM<|zE (uW kO)<|zE (vC (i+b.length))<|zM<|zE (cI nR nE c)<|zE (aY kO (i+b.length))<|zT (oSp qX (i+b.length) c)<|zZ) ?_
   refine kx [(20,(jP (i+1)))] [] (zE (vC (i+1))<|zM<|zZ) ?_
   exact ⟨(i+1,o2.set (i+b.length) c),wk,(by obtain ⟨q1,q2,q3,q4⟩:=times_row hdo2 (by omega) hlen2 hz2 hc hv2;exact ⟨q1,q2,by omega,q3,q4⟩),(by first|omega|(dsimp only;omega))⟩
 ·replace h1:=uR h1
  have hie:i=a.length:=by omega
  rw[hie,List.take_length] at hv
  refine kB<|jB<|kx [(4,(.own 0 140 1 ((ofNat (val out)).length)))] [] (zM<|zR ⟨_,e_trimO out (by exact rfl) (by exact rfl) uA hdo (by omega),by kernel_rfl⟩<|zM<|zZ) ?_
  rw[← hv]
  refine jE ⟨4,0,rfl,rfl,(bm jC out),rfl,?_⟩
  exact own_prefix _ (trim_take hdo)
theorem cb253:callB Tryz.prog 253=true:=by kernel_rfl
theorem in2:intB Tryz.prog 2=some .i64:=by kernel_rfl
theorem un2:(Tryz.prog.underlying 2).isSome=true:=by kernel_rfl
set_option maxHeartbeats 4000000 in
theorem t_long(a b:List Nat)(hda:yQ a)(hdb:yQ b)(hb2:2≤b.length)(hba:val b≤val a)(hla:a.length≤1099511627776):jR Tryz.prog 253 [(.sl 140 1 (List.map jC a)),(.sl 140 1 (List.map jC b))] (.tup [(.sl 140 1 (List.map jC (ofNat (val a / val b)))),(.sl 140 1 (List.map jC (ofNat (val a % val b))))]):=by
 have hab:=len_of_le hda hdb hba
 have hsc:=bS hdb (by omega)
 have htp:=iZ hdb (by omega)
 have hds:Dig [eB b]:=gL.2 ⟨by omega,nH⟩
 have hbp:0<val b:=by have:=val_top hdb.1 (by omega);have h2:=Nat.mul_le_mul_right (pw (b.length-1)) htp.1;have h3:=pw_pos (b.length-1);rw[Nat.succ_mul] at h2;omega
 obtain ⟨u0,hue⟩:∃ u0,u0=ofNat (val a*val [eB b]):=⟨_,rfl⟩
 obtain ⟨v,hve⟩:∃ v,v=ofNat (val b*val [eB b]):=⟨_,rfl⟩
 have hu0:Dig u0:=by rw[hue];exact kP _
 have hvd:Dig v:=by rw[hve];exact kP _
 have hvl:v.length=b.length:=by rw[hve,dS];exact scl_len hdb (by omega)
 have hvv:val v=val b*eB b:=by rw[hve,dS];exact kI _
 have hu0v:val u0=val a*eB b:=by rw[hue,dS];exact kI _
 have hu0l:a.length≤u0.length∧u0.length≤a.length+1:=by rw[hue,dS];exact scl_lenA hda hdb (by omega)
 have hLU:(u0++[0]).length=u0.length+1:=by simp
 have hcv:yQ v:=by rw[hve];exact qK _
 have hv1p:0<v.getD (b.length-1) 0:=by rw[← hvl];exact (iZ hcv (by omega)).1
 have hpv:pw (b.length-1)≤val v:=by have h1:=val_top hvd (by omega);rw[hvl] at h1;have h2:=Nat.mul_le_mul_right (pw (b.length-1)) hv1p;omega
 refine jJ Tryz.func253 rfl cb253 rfl ?_
 show qG _ _ _ _ ⟨[(0,(vl 140 1 jC a)),(1,(vl 140 1 jC b))],[]⟩
 refine jB<|kx [] [] (zE (dD 140 1)<|zE (dD 140 1)<|zZ) ?_
 refine jB<|kx [(6,(aF (eB b)))] [] (zM<|zM<|zE (uW kO)<|zE (oSb (b.length-1))<|zE (xX kO (b.length-1) (0:Nat))<|zE (xZ qX)<|zE (cI gI gG (b.getD (b.length-1) 0))<|zE (vC ((b.getD (b.length-1) 0)+1))<|zE (oQu (eB b) (hr:=by exact (quo_u64 1000000000 (b.getD (b.length-1) 0+1) (by decide))))<|zE (cI nR nE (eB b))<|zM<|zZ) ?_
 refine jB<|kx [(7,(.own 0 140 1 u0.length))] [(0,some (bm jC u0))] (zM<|zM<|zE (cN kO xC yU)<|zN (oCo 0 (hue▸o_times a [eB b] hda.1 hds (by omega) (by simp) (by rw[dS];exact Nat.mul_pos (by omega) hsc.1)))<|zM<|zZ) ?_
 refine jB<|kx [(8,(vl 140 1 jC v))] [] (zM<|zM<|zE (cN kO xC yU)<|zE (jY (hve▸t_times b [eB b] hdb.1 hds (by omega) (by simp)))<|zM<|zZ) ?_
 refine jB<|kx [(9,(jP b.length))] [] (zM<|zE (oLn kO b.length (hr:=by exact (by simp [hvl])))<|zM<|zZ) ?_
 refine jB<|kf [(7,(.own 0 140 1 ((u0++[0]).length)))] [(0,some (bm jC (u0++[0])))] (zM<|zE (cN kO xC yU)<|zA jC u0 [0] rfl kO xC mB<|zM<|zF) ?_
 refine jB<|jB<|kx [(50,(vb (decide ((((u0++[0]).length:Nat):Int)≤((a.length:Nat):Int)))))] [] (zM<|zE (oLo kO)<|zM<|zE (uW kO)<|zE oLe<|zZ) ?_
 refine jG rfl (fun h1=>?_) (fun h1=>?_)
 ·replace h1:=uP h1
  exfalso;simp at h1;omega
 ·replace h1:=uR h1
  refine jD<|jB<|kx [(4,(.own 1 140 1 ((u0++[0]).length-b.length)))] [(1,some (bm jC (List.replicate ((u0++[0]).length-b.length) 0)))] (zM<|zE (oLo kO)<|zM<|zE (oSb ((u0++[0]).length-b.length))<|zH (oMk 1 jC (0:Nat) ((u0++[0]).length-b.length) ((u0++[0]).length-b.length) kO xC yU mB)<|zM<|zZ) ?_
  refine jB<|jB<|kx [(10,(vi ((((u0++[0]).length-b.length:Nat):Int)-1)))] [] (zM<|zE (oLo kO)<|zM<|zE (oSb ((u0++[0]).length-b.length))<|zE (zSb ((((u0++[0]).length-b.length:Nat):Int)-1))<|zM<|zZ) ?_
  refine jH<|kA (α:=Nat × List Nat × List Nat) (fun (k,u,q)=>⟨[(4,(.own 1 140 1 ((u0++[0]).length-b.length))),(6,(aF (eB b))),(7,(.own 0 140 1 ((u0++[0]).length))),(8,(vl 140 1 jC v)),(9,(jP b.length)),(10,(vi (((k:Nat):Int)-1)))],[(0,some (bm jC u)),(1,some (bm jC q))]⟩) (fun (k,u,q)=>u.length=(u0++[0]).length∧Dig u∧q.length=(u0++[0]).length-b.length∧Dig q∧k≤(u0++[0]).length-b.length∧val u+val v*(pw k*val (q.drop k))=val a*eB b∧val (u.drop k)<val v) (fun (k,u,q)=>k) ((u0++[0]).length-b.length,u0++[0],List.replicate ((u0++[0]).length-b.length) 0) wk ⟨rfl,iV.2 ⟨hu0,gL.2 ⟨by decide,nH⟩⟩,by simp,yI _,Nat.le_refl _,by simp [eI,val,hu0v],by have:=long_start hu0 hvl hb2 (by omega) hpv;rw[hLU];exact this⟩ ?_
  rintro ⟨k,u,q⟩ ⟨uA,hu,hql,hqd,hk,hU,hW⟩
  refine jB<|jB<|kx [(65,(vb (decide (0≤(((k:Nat):Int)-1)))))] [] (zM<|zE oGe<|zZ) ?_
  refine jG (b:=decide (0≤(((k:Nat):Int)-1))) rfl (fun h2=>?_) (fun h2=>?_)
  ·replace h2:=uP h2
   obtain ⟨j,rfl⟩:∃ j,k=j+1:=⟨k-1,by omega⟩
   rw[show (((j+1:Nat):Int)-1)=((j:Nat):Int) from by omega]
   have hg1:=hu.getD (j+b.length)
   have hg2:=hu.getD (j+b.length-1)
   have hg3:=hu.getD (j+b.length-2)
   have hg4:=hvd.getD (b.length-1)
   have hg5:=hvd.getD (b.length-2)
   obtain ⟨z1,z2,z3,z4,z5,z6⟩:=window_tops hu hvd hvl hb2 hW
   obtain ⟨hwz,hww⟩:=window hvd hvl hW
   refine jD<|jB<|jH<|jB<|kd [(10,(jP j)),(11,(gU (((u.getD (j+b.length) 0)*1000000000)+(u.getD ((j+b.length)-1) 0))))] [] mo (wM<|wM<|wM<|wE (vC (j+b.length))<|wR ⟨(bm jC u),e_clo (t_at u (j+b.length)) (by exact rfl) (by exact rfl) (by exact rfl) (.o (.d .nil)) (uQ jC u (fun _=>rfl)) (uJ _ _ uA) (vQ _ _ (fun _=>rfl) uA),by kernel_rfl⟩<|wE (cI gI gG (u.getD (j+b.length) 0))<|wE (oMl ((u.getD (j+b.length) 0)*1000000000))<|wM<|wM<|wM<|wE (vC (j+b.length))<|wE (oSb ((j+b.length)-1))<|wE (aY kO ((j+b.length)-1))<|wR (oLp qX ((j+b.length)-1) (0:Nat))<|wE (cI gI gG (u.getD ((j+b.length)-1) 0))<|wE (vC (((u.getD (j+b.length) 0)*1000000000)+(u.getD ((j+b.length)-1) 0)))<|wM<|wZ) ?_
   refine jB<|kd [(12,(gU ((((u.getD (j+b.length) 0)*1000000000)+(u.getD ((j+b.length)-1) 0)) / (v.getD (b.length-1) 0)))),(13,(gU ((((u.getD (j+b.length) 0)*1000000000)+(u.getD ((j+b.length)-1) 0)) % (v.getD (b.length-1) 0))))] [] mo (wM<|wM<|wM<|wE (oSb (b.length-1))<|wE (xX kO (b.length-1) (0:Nat))<|wE (xZ qX)<|wE (cI gI gG (v.getD (b.length-1) 0))<|wE (oQu ((((u.getD (j+b.length) 0)*1000000000)+(u.getD ((j+b.length)-1) 0)) / (v.getD (b.length-1) 0)))<|wM<|wM<|wM<|wE (oSb (b.length-1))<|wE (xX kO (b.length-1) (0:Nat))<|wE (xZ qX)<|wE (cI gI gG (v.getD (b.length-1) 0))<|wE (oRe ((((u.getD (j+b.length) 0)*1000000000)+(u.getD ((j+b.length)-1) 0)) % (v.getD (b.length-1) 0)))<|wM<|wM<|wZ) ?_
   refine pwp_seqjoin (α:=Nat × Nat) (fun (G,R)=>⟨[(4,(.own 1 140 1 ((u0++[0]).length-b.length))),(6,(aF (eB b))),(7,(.own 0 140 1 ((u0++[0]).length))),(8,(vl 140 1 jC v)),(9,(jP b.length)),(10,(jP j)),(12,(gU G))],[(0,some (bm jC u)),(1,some (bm jC q))]⟩) (fun (G,R)=>G<1000000000∧val (u.drop j) / val v≤G∧G≤val (u.drop j) / val v+1) ?_ ?_
   ·refine kA (α:=Nat × Nat) (fun (G,R)=>⟨[(4,(.own 1 140 1 ((u0++[0]).length-b.length))),(6,(aF (eB b))),(7,(.own 0 140 1 ((u0++[0]).length))),(8,(vl 140 1 jC v)),(9,(jP b.length)),(10,(jP j)),(12,(gU G)),(13,(gU R))],[(0,some (bm jC u)),(1,some (bm jC q))]⟩) (fun (G,R)=>G*(v.getD (b.length-1) 0)+R=(u.getD (j+b.length) 0*1000000000+u.getD (j+b.length-1) 0)∧val (u.drop j) / val v≤G∧R<1000000000∧G≤1999999999) (fun (G,R)=>G) ((u.getD (j+b.length) 0*1000000000+u.getD (j+b.length-1) 0) / v.getD (b.length-1) 0,(u.getD (j+b.length) 0*1000000000+u.getD (j+b.length-1) 0) % v.getD (b.length-1) 0) wk ⟨by rw[Nat.mul_comm];exact Nat.div_add_mod _ _,guess_first0 z5 z4 hv1p hg3,Nat.lt_trans (Nat.mod_lt _ hv1p) hg4,guess_top hv1p z1 hg2⟩ ?_
    rintro ⟨G,R⟩ ⟨hG0,hG1,hR,hGb⟩
    have hpq:G*v.getD (b.length-2) 0≤1999999999*999999999:=Nat.mul_le_mul hGb (by omega)
    refine jB<|jB<|kd [(123,(vb (decide (1000000000≤((G:Nat):Int))||decide (((((R*1000000000)+(u.getD ((j+b.length)-2) 0)):Nat):Int)<(((G*(v.getD (b.length-2) 0)):Nat):Int)))))] [] mo ?_ ?_
    ·refine wM<|wE oGe<|wE (oV (vb (decide (1000000000≤((G:Nat):Int)))) (qC (by kernel_rfl)))<|?_
     rcases hb3:(decide (1000000000≤((G:Nat):Int))) with _ | _
     ·replace hb3:=uR hb3
      exact wM<|wM<|wM<|wE (oSb (b.length-2))<|wE (xX kO (b.length-2) (0:Nat))<|wE (xZ qX)<|wE (cI gI gG (v.getD (b.length-2) 0))<|wE (oMl (G*(v.getD (b.length-2) 0)))<|wM<|wE (oMl (R*1000000000))<|wM<|wM<|wM<|wE (vC (j+b.length))<|wE (oSb ((j+b.length)-2))<|wE (aY kO ((j+b.length)-2))<|wR (oLp qX ((j+b.length)-2) (0:Nat))<|wE (cI gI gG (u.getD ((j+b.length)-2) 0))<|wE (vC ((R*1000000000)+(u.getD ((j+b.length)-2) 0)))<|wE mL<|wE eP<|wZ
     ·replace hb3:=uP hb3
      exact wK<|wK<|wK<|wK<|wK<|wK<|wK<|wK<|wK<|wK<|wK<|wK<|wK<|wK<|wK<|wK<|wK<|wK<|wK<|wK<|wE gR<|wZ
    refine jG rfl (fun h4=>?_) (fun h4=>?_)
    ·rw[Bool.or_eq_true,decide_eq_true_eq,decide_eq_true_eq] at h4
     have hgl:=guess_less (pw_pos _) z5 z4 hG0 hG1 hv1p z2 (by omega)
     refine jD<|jH<|jB<|kx [(12,(gU (G-1)))] [] (zM<|zE (oSb (G-1))<|zM<|zZ) ?_
     refine jB<|kx [(13,(gU (R+(v.getD (b.length-1) 0))))] [] (zM<|zM<|zM<|zE (oSb (b.length-1))<|zE (xX kO (b.length-1) (0:Nat))<|zE (xZ qX)<|zE (cI gI gG (v.getD (b.length-1) 0))<|zE (vC (R+(v.getD (b.length-1) 0)))<|zM<|zZ) ?_
     refine jB<|kx [(135,(vb (decide (1000000000≤(((R+(v.getD (b.length-1) 0)):Nat):Int)))))] [] (zM<|zE oGe<|zZ) ?_
     refine jG rfl (fun h5=>?_) (fun h5=>?_)
     ·replace h5:=uP h5
      refine kB ?_
      refine pjoin_exit (id:=2) (α:=Nat × Nat) (Q:=fun _ _=>True) (St:=fun (G,R)=>⟨[(4,(.own 1 140 1 ((u0++[0]).length-b.length))),(6,(aF (eB b))),(7,(.own 0 140 1 ((u0++[0]).length))),(8,(vl 140 1 jC v)),(9,(jP b.length)),(10,(jP j)),(12,(gU G))],[(0,some (bm jC u)),(1,some (bm jC q))]⟩) (I:=fun (G,R)=>G<1000000000∧val (u.drop j) / val v≤G∧G≤val (u.drop j) / val v+1) ?_
      exact ⟨(G-1,R+v.getD (b.length-1) 0),wk,(by have hd:=guess_dec hgl.2 hG0;have hgb:=guess_break hd z1 hg2 (by omega);exact ⟨hgb,hgl.1,guess_near z6 z3 hd hv1p (by omega) hgb (Nat.le_trans (Nat.mul_le_mul (show G-1≤999999999 by omega) (show v.getD (b.length-2) 0≤999999999 by omega)) (by omega))⟩)⟩
     ·replace h5:=uR h5
      refine jD ?_
      exact ⟨(G-1,R+v.getD (b.length-1) 0),wk,(by exact ⟨guess_dec hgl.2 hG0,hgl.1,by omega,by omega⟩),(by first|omega|(dsimp only;omega))⟩
    ·refine kB ?_
     refine pjoin_exit (id:=2) (α:=Nat × Nat) (Q:=fun _ _=>True) (St:=fun (G,R)=>⟨[(4,(.own 1 140 1 ((u0++[0]).length-b.length))),(6,(aF (eB b))),(7,(.own 0 140 1 ((u0++[0]).length))),(8,(vl 140 1 jC v)),(9,(jP b.length)),(10,(jP j)),(12,(gU G))],[(0,some (bm jC u)),(1,some (bm jC q))]⟩) (I:=fun (G,R)=>G<1000000000∧val (u.drop j) / val v≤G∧G≤val (u.drop j) / val v+1) ?_
     exact ⟨(G,R),wk,(by rw[Bool.or_eq_false_iff,decide_eq_false_iff_not,decide_eq_false_iff_not] at h4;exact ⟨by omega,hG1,guess_near z6 z3 hG0 hv1p (by omega) (by omega) (by omega)⟩)⟩
   ·rintro ⟨G,R⟩ ⟨hG,hG1,hG2⟩
    have hjn:j+b.length<(u0++[0]).length:=by omega
    refine jB<|kx [(14,(jP 0)),(15,(gU 0))] [] (zM<|zM<|zZ) ?_
    refine jB<|jB<|kx [(136,(jP b.length)),(137,(jP 0))] [] (zM<|zM<|zZ) ?_
    refine jH<|kA (α:=Nat × List Nat × Nat × Nat) (fun (i,u2,bo,ca)=>⟨[(4,(.own 1 140 1 ((u0++[0]).length-b.length))),(6,(aF (eB b))),(7,(.own 0 140 1 ((u0++[0]).length))),(8,(vl 140 1 jC v)),(9,(jP b.length)),(10,(jP j)),(12,(gU G)),(14,(vi ((bo:Nat):Int))),(15,(gU ca)),(136,(jP b.length)),(137,(jP i))],[(0,some (bm jC u2)),(1,some (bm jC q))]⟩) (fun (i,u2,bo,ca)=>u2.length=(u0++[0]).length∧Dig u2∧u2.take j=u.take j∧u2.drop (j+i)=u.drop (j+i)∧i≤b.length∧bo≤1∧ca<1000000000∧val ((u2.drop j).take i)+G*val (v.take i)=val ((u.drop j).take i)+pw i*(ca+bo)) (fun (i,u2,bo,ca)=>b.length-i) (0,u,0,0) wk ⟨uA,hu,rfl,rfl,Nat.zero_le _,Nat.zero_le _,by decide,by simp [val]⟩ ?_
    rintro ⟨i,u2,bo,ca⟩ ⟨hl2,hd2,ht2,hd2',hin,hbo,hca,hv2⟩
    have hgi:=hvd.getD i
    have hgu:=hd2.getD (i+j)
    have hpq:G*v.getD i 0≤999999999*999999999:=Nat.mul_le_mul (by omega) (by omega)
    refine jB<|kx [(138,(vb (decide (((i:Nat):Int)<((b.length:Nat):Int)))))] [] (zE xK<|zZ) ?_
    refine jB<|jG rfl (fun h6=>?_) (fun h6=>?_)
    ·replace h6:=uP h6
     have hi:i<b.length:=by omega
     refine jD<|jB<|jH<|jB<|kx [(16,(jP i))] [] (zM<|zM<|zZ) ?_
     refine jB<|kx [(17,(gU ((G*(v.getD i 0))+ca)))] [] (zM<|zM<|zM<|zE (xX kO i (0:Nat))<|zE (xZ qX)<|zE (cI gI gG (v.getD i 0))<|zE (oMl (G*(v.getD i 0)))<|zM<|zE (vC ((G*(v.getD i 0))+ca))<|zM<|zZ) ?_
     refine jB<|kx [(15,(gU (((G*(v.getD i 0))+ca) / 1000000000)))] [] (zM<|zE (oQu (((G*(v.getD i 0))+ca) / 1000000000))<|zM<|zZ) ?_
     refine jB<|kx [(18,(vi (((((u2.getD (i+j) 0):Nat):Int)-((bo:Nat):Int))-(((((G*(v.getD i 0))+ca) % 1000000000):Nat):Int))))] [] (zM<|zM<|zM<|zE (vC (i+j))<|zE (aY kO (i+j))<|zR (oLp qX (i+j) (0:Nat))<|zE (cI gI in2 (u2.getD (i+j) 0))<|zM<|zE (zSb ((((u2.getD (i+j) 0):Nat):Int)-((bo:Nat):Int)))<|zM<|zE (oRe (((G*(v.getD i 0))+ca) % 1000000000))<|zE (cI nR in2 (((G*(v.getD i 0))+ca) % 1000000000))<|zE (zSb (((((u2.getD (i+j) 0):Nat):Int)-((bo:Nat):Int))-(((((G*(v.getD i 0))+ca) % 1000000000):Nat):Int)))<|zM<|zZ) ?_
     refine jB<|kx [(14,(jP 0))] [] (zM<|zZ) ?_
     refine jB<|jB<|kx [(165,(vb (decide ((((((u2.getD (i+j) 0):Nat):Int)-((bo:Nat):Int))-(((((G*(v.getD i 0))+ca) % 1000000000):Nat):Int))<0))))] [] (zM<|zE xK<|zZ) ?_
     refine jG rfl (fun h7=>?_) (fun h7=>?_)
     ·replace h7:=uP h7
      refine kx [(14,(jP 1)),(18,(vi ((((((u2.getD (i+j) 0):Nat):Int)-((bo:Nat):Int))-(((((G*(v.getD i 0))+ca) % 1000000000):Nat):Int))+1000000000)))] [] (zM<|zE (zAd ((((((u2.getD (i+j) 0):Nat):Int)-((bo:Nat):Int))-(((((G*(v.getD i 0))+ca) % 1000000000):Nat):Int))+1000000000))<|zM<|zM<|zZ) ?_
      refine kx [] [(0,some (bm jC (u2.set (i+j) ((u2.getD (i+j) 0+1000000000)-bo-(G*v.getD i 0+ca) % 1000000000))))] (zM<|zM<|zM<|zE (vC (i+j))<|zM<|zE (cI un2 nE ((u2.getD (i+j) 0+1000000000)-bo-(G*v.getD i 0+ca) % 1000000000) (hr:=by exact (wu32 (by omega) (by omega) (by omega))))<|zE (aY kO (i+j))<|zT (oSp qX (i+j) ((u2.getD (i+j) 0+1000000000)-bo-(G*v.getD i 0+ca) % 1000000000))<|zZ) ?_
      refine kx [(137,(jP (i+1)))] [] (zE (vC (i+1))<|zM<|zZ) ?_
      exact ⟨(i+1,u2.set (i+j) ((u2.getD (i+j) 0+1000000000)-bo-(G*v.getD i 0+ca) % 1000000000),1,(G*v.getD i 0+ca) / 1000000000),wk,(by obtain ⟨q1,q2,q3,q4,q5⟩:=msub_step (v:=v) (L:=(u0++[0]).length) (e:=(u2.getD (i+j) 0+1000000000)-bo-(G*v.getD i 0+ca) % 1000000000) (borrow':=1) hjn hi hl2 uA hd2 ht2 hd2' hv2 rfl (by omega) (by omega);exact ⟨q1,q2,q3,q4,by omega,by omega,by omega,q5⟩),(by first|omega|(dsimp only;omega))⟩
     ·replace h7:=uR h7
      refine jD<|kx [] [(0,some (bm jC (u2.set (i+j) (u2.getD (i+j) 0-bo-(G*v.getD i 0+ca) % 1000000000))))] (zM<|zM<|zM<|zE (vC (i+j))<|zM<|zE (cI un2 nE (u2.getD (i+j) 0-bo-(G*v.getD i 0+ca) % 1000000000) (hr:=by exact (wu32 (by omega) (by omega) (by omega))))<|zE (aY kO (i+j))<|zT (oSp qX (i+j) (u2.getD (i+j) 0-bo-(G*v.getD i 0+ca) % 1000000000))<|zZ) ?_
      refine kx [(137,(jP (i+1)))] [] (zE (vC (i+1))<|zM<|zZ) ?_
      exact ⟨(i+1,u2.set (i+j) (u2.getD (i+j) 0-bo-(G*v.getD i 0+ca) % 1000000000),0,(G*v.getD i 0+ca) / 1000000000),wk,(by obtain ⟨q1,q2,q3,q4,q5⟩:=msub_step (v:=v) (L:=(u0++[0]).length) (e:=u2.getD (i+j) 0-bo-(G*v.getD i 0+ca) % 1000000000) (borrow':=0) hjn hi hl2 uA hd2 ht2 hd2' hv2 rfl (by omega) (by omega);exact ⟨q1,q2,q3,q4,by omega,by omega,by omega,q5⟩),(by first|omega|(dsimp only;omega))⟩
    ·replace h6:=uR h6
     have hie:i=b.length:=by omega
     rw[hie] at hd2' hv2 hin
     obtain ⟨m1,m2,m3⟩:=msub_end hu hd2 hvd hvl hW hG1 hG2 hd2' hv2
     refine kB<|jB<|kx [(19,(vi (((((u2.getD (j+b.length) 0):Nat):Int)-((bo:Nat):Int))-((ca:Nat):Int))))] [] (zM<|zM<|zM<|zE (vC (j+b.length))<|zE (aY kO (j+b.length))<|zR (oLp qX (j+b.length) (0:Nat))<|zE (cI gI in2 (u2.getD (j+b.length) 0))<|zM<|zE (zSb ((((u2.getD (j+b.length) 0):Nat):Int)-((bo:Nat):Int)))<|zM<|zE (cI nR in2 ca)<|zE (zSb (((((u2.getD (j+b.length) 0):Nat):Int)-((bo:Nat):Int))-((ca:Nat):Int)))<|zM<|zZ) ?_
     refine jB<|jB<|kx [(189,(vb (decide ((((((u2.getD (j+b.length) 0):Nat):Int)-((bo:Nat):Int))-((ca:Nat):Int))<0))))] [] (zM<|zE xK<|zZ) ?_
     refine jG rfl (fun h8=>?_) (fun h8=>?_)
     ·replace h8:=uP h8
      obtain ⟨n1,n2,r,n3,n4,n5⟩:=m2 (by omega)
      refine jB<|kx [] [(0,some (bm jC (u2.set (j+b.length) 999999999)))] (zM<|zM<|zM<|zE (vC (j+b.length))<|zM<|zE (zAd ((((((u2.getD (j+b.length) 0):Nat):Int)-((bo:Nat):Int))-((ca:Nat):Int))+1000000000))<|zE (cI un2 nE 999999999 (hr:=by exact (wu32 (by omega) (by omega) (by omega))))<|zE (aY kO (j+b.length))<|zT (oSp qX (j+b.length) 999999999)<|zZ) ?_
      refine jB<|kx [(12,(gU (G-1)))] [] (zM<|zE (oSb (G-1))<|zM<|zZ) ?_
      refine jB<|kx [(20,(aF 0))] [] (zM<|zZ) ?_
      refine jB<|jB<|kx [(200,(jP b.length)),(201,(jP 0))] [] (zM<|zM<|zZ) ?_
      refine jH<|kA (α:=Nat × List Nat × Nat) (fun (i,u3,c)=>⟨[(4,(.own 1 140 1 ((u0++[0]).length-b.length))),(6,(aF (eB b))),(7,(.own 0 140 1 ((u0++[0]).length))),(8,(vl 140 1 jC v)),(9,(jP b.length)),(10,(jP j)),(12,(gU (G-1))),(20,(aF c)),(200,(jP b.length)),(201,(jP i))],[(0,some (bm jC u3)),(1,some (bm jC q))]⟩) (fun (i,u3,c)=>u3.length=(u0++[0]).length∧Dig u3∧u3.take j=(u2.set (j+b.length) 999999999).take j∧u3.drop (j+i)=(u2.set (j+b.length) 999999999).drop (j+i)∧i≤b.length∧c≤1∧val ((u3.drop j).take i)+pw i*c=val (((u2.set (j+b.length) 999999999).drop j).take i)+val (v.take i)) (fun (i,u3,c)=>b.length-i) (0,u2.set (j+b.length) 999999999,0) wk ⟨by simpa using hl2,hd2.set _ (by decide),rfl,rfl,Nat.zero_le _,Nat.zero_le _,by simp [val]⟩ ?_
      rintro ⟨i,u3,c⟩ ⟨hl3,hd3,ht3,hd3',hin,hc,hv3⟩
      have hgi:=hvd.getD i
      have hgu:=hd3.getD (i+j)
      have hgt:=hd3.getD (j+b.length)
      refine jB<|kx [(202,(vb (decide (((i:Nat):Int)<((b.length:Nat):Int)))))] [] (zE xK<|zZ) ?_
      refine jB<|jG rfl (fun h9=>?_) (fun h9=>?_)
      ·replace h9:=uP h9
       have hi:i<b.length:=by omega
       refine jD<|jB<|jH<|jB<|kx [(21,(jP i))] [] (zM<|zM<|zZ) ?_
       refine jB<|kd [(22,(aF (((u3.getD (i+j) 0)+(v.getD i 0))+c)))] [] mo (wM<|wM<|wM<|wE (vC (i+j))<|wE (aY kO (i+j))<|wR (oLp qX (i+j) (0:Nat))<|wM<|wM<|wE (xX kO i (0:Nat))<|wE (xZ qX)<|wE (vC ((u3.getD (i+j) 0)+(v.getD i 0)))<|wM<|wE (vC (((u3.getD (i+j) 0)+(v.getD i 0))+c))<|wM<|wZ) ?_
       refine jB<|kx [(20,(aF 0))] [] (zM<|zZ) ?_
       refine jB<|jB<|kx [(218,(vb (decide (1000000000≤(((((u3.getD (i+j) 0)+(v.getD i 0))+c):Nat):Int)))))] [] (zM<|zE oGe<|zZ) ?_
       refine jG rfl (fun h10=>?_) (fun h10=>?_)
       ·replace h10:=uP h10
        refine kx [(20,(aF 1)),(22,(aF ((((u3.getD (i+j) 0)+(v.getD i 0))+c)-1000000000)))] [] (zM<|zE (oSb ((((u3.getD (i+j) 0)+(v.getD i 0))+c)-1000000000))<|zM<|zM<|zZ) ?_
        refine kx [] [(0,some (bm jC (u3.set (i+j) ((((u3.getD (i+j) 0)+(v.getD i 0))+c)-1000000000))))] (zM<|zM<|zM<|zE (vC (i+j))<|zM<|zE (aY kO (i+j))<|zT (oSp qX (i+j) ((((u3.getD (i+j) 0)+(v.getD i 0))+c)-1000000000))<|zZ) ?_
        refine kx [(201,(jP (i+1)))] [] (zE (vC (i+1))<|zM<|zZ) ?_
        exact ⟨(i+1,u3.set (i+j) (u3.getD (i+j) 0+v.getD i 0+c-1000000000),1),wk,(by obtain ⟨q1,q2,q3,q4,q5⟩:=addb_step (v:=v) (L:=(u0++[0]).length) (s:=u3.getD (i+j) 0+v.getD i 0+c) (e:=u3.getD (i+j) 0+v.getD i 0+c-1000000000) (c':=1) hjn hi hl3 (by simpa using hl2) hd3 ht3 hd3' hv3 rfl (by omega) (by omega);exact ⟨q1,q2,q3,q4,by omega,by omega,q5⟩),(by first|omega|(dsimp only;omega))⟩
       ·replace h10:=uR h10
        refine jD<|kx [] [(0,some (bm jC (u3.set (i+j) (((u3.getD (i+j) 0)+(v.getD i 0))+c))))] (zM<|zM<|zM<|zE (vC (i+j))<|zM<|zE (aY kO (i+j))<|zT (oSp qX (i+j) (((u3.getD (i+j) 0)+(v.getD i 0))+c))<|zZ) ?_
        refine kx [(201,(jP (i+1)))] [] (zE (vC (i+1))<|zM<|zZ) ?_
        exact ⟨(i+1,u3.set (i+j) (u3.getD (i+j) 0+v.getD i 0+c),0),wk,(by obtain ⟨q1,q2,q3,q4,q5⟩:=addb_step (v:=v) (L:=(u0++[0]).length) (s:=u3.getD (i+j) 0+v.getD i 0+c) (e:=u3.getD (i+j) 0+v.getD i 0+c) (c':=0) hjn hi hl3 (by simpa using hl2) hd3 ht3 hd3' hv3 rfl (by omega) (by omega);exact ⟨q1,q2,q3,q4,by omega,by omega,q5⟩),(by first|omega|(dsimp only;omega))⟩
      ·replace h9:=uR h9
       have hie2:i=b.length:=by omega
       rw[hie2] at hd3' hv3 hin
       refine kB<|kx [] [(0,some (bm jC (u3.set (j+b.length) (((u3.getD (j+b.length) 0)+c) % 1000000000))))] (zM<|zM<|zM<|zE (vC (j+b.length))<|zM<|zM<|zM<|zE (vC (j+b.length))<|zE (aY kO (j+b.length))<|zR (oLp qX (j+b.length) (0:Nat))<|zM<|zE (vC ((u3.getD (j+b.length) 0)+c))<|zE (oRe (((u3.getD (j+b.length) 0)+c) % 1000000000))<|zE (aY kO (j+b.length))<|zT (oSp qX (j+b.length) (((u3.getD (j+b.length) 0)+c) % 1000000000))<|zZ) ?_
       refine kx [] [(1,some (bm jC (q.set j (G-1))))] (zM<|zM<|zM<|zE (cI nR nE (G-1))<|zE (aY kO j)<|zT (oSp qX j (G-1))<|zZ) ?_
       refine kx [(10,(vi (((j:Nat):Int)-1)))] [] (zM<|zE (zSb (((j:Nat):Int)-1))<|zM<|zZ) ?_
       exact ⟨(j,u3.set (j+b.length) ((u3.getD (j+b.length) 0+c) % 1000000000),q.set j (G-1)),wk,(by obtain ⟨p1,p2⟩:=neg_end hd3 hvd hvl (by omega) (by omega) (hl2.trans uA.symm) (hl3.trans uA.symm) ht2 hd2' hW hc ht3 hd3' hv3 n3 n4 n5 hU;exact ⟨by simpa using hl3,hd3.set _ (Nat.mod_lt _ (by decide)),by simpa using hql,hqd.set _ (by omega),by omega,p1,p2⟩),(by first|omega|(dsimp only;omega))⟩
     ·replace h8:=uR h8
      obtain ⟨n1,n2,n3⟩:=m3 (by omega)
      refine kx [] [(0,some (bm jC (u2.set (j+b.length) 0)))] (zM<|zM<|zM<|zE (vC (j+b.length))<|zM<|zE (cI un2 nE 0 (hr:=by exact (wu32 (by omega) (by omega) (by omega))))<|zE (aY kO (j+b.length))<|zT (oSp qX (j+b.length) 0)<|zZ) ?_
      refine kx [] [(1,some (bm jC (q.set j G)))] (zM<|zM<|zM<|zE (cI nR nE G)<|zE (aY kO j)<|zT (oSp qX j G)<|zZ) ?_
      refine kx [(10,(vi (((j:Nat):Int)-1)))] [] (zM<|zE (zSb (((j:Nat):Int)-1))<|zM<|zZ) ?_
      exact ⟨(j,u2.set (j+b.length) 0,q.set j G),wk,(by obtain ⟨p1,p2⟩:=pos_end hu hvd hvl (by omega) (by omega) (hl2.trans uA.symm) ht2 hd2' hW n2 n3 hU;exact ⟨by simpa using hl2,hd2.set _ (by decide),by simpa using hql,hqd.set _ (by omega),by omega,p1,p2⟩),(by first|omega|(dsimp only;omega))⟩
  ·replace h2:=uR h2
   obtain rfl:k=0:=by omega
   obtain ⟨e1,e2⟩:=scl_div hdb (by omega) (by rw[hvv] at hU;exact hU) (by rw[hvv] at hW;exact hW)
   rw[List.drop_zero] at hW
   refine kB<|jB<|kS (vD (t:=7) (k:=0) (es:=List.map jC u) rfl rfl (uQ _ _ (fun _=>rfl)) (uJ _ _ uA) (vQ _ _ (fun _=>rfl) uA)) ?_
   refine kx [(5,(vl 140 1 jC (ofNat (val (ofNat (val (List.take b.length u))) / (eB b)))))] [] (zM<|zM<|zE (e_slc (l:=0) (h:=b.length) (kl:=.i64) (kh:=.i64) (es':=List.map jC (List.take b.length u)) (by exact rfl) kO (by exact rfl) (by exact rfl) (by exact rfl) (Nat.zero_le _) (by simp only[List.length_map];omega) (by rw[List.drop_zero,List.map_take]))<|zE (jY (t_trim (List.take b.length u) (hu.take _) (by rw[List.length_take];omega)))<|zM<|zE (jY (t_short (ofNat (val (List.take b.length u))) (eB b) (kP _) (by omega) (by omega) (Nat.le_trans (ofNat_val_len (hu.take _)) (by rw[List.length_take];omega))))<|zM<|zE uT<|zE uT<|zM<|zZ) ?_
   refine jB<|kS (vD (t:=4) (k:=1) (es:=List.map jC q) rfl rfl (uQ _ _ (fun _=>rfl)) (uJ _ _ hql) (vQ _ _ (fun _=>rfl) hql)) ?_
   refine kx [(4,(vl 140 1 jC (ofNat (val q)))),(5,(vl 140 1 jC (ofNat (val (ofNat (val (List.take b.length u))) / (eB b)))))] [] (zM<|zE (jY (t_trim q hqd (by omega)))<|zM<|zM<|zM<|zZ) ?_
   refine jE ⟨_,(.tmp (d:=(.sl 140 1 (List.map jC (ofNat (val q))))) rfl (.tmp (d:=(.sl 140 1 (List.map jC (ofNat (val (ofNat (val (List.take b.length u))) / (eB b)))))) rfl .nil)),?_⟩
   rw[← e1,← e2,kI,val_take_of_lt (Nat.lt_trans hW (by rw[← hvl];exact xN hvd))];rfl
theorem cb138:callB Tryz.prog 138=true:=by kernel_rfl
theorem cb222:callB Tryz.prog 222=true:=by kernel_rfl
theorem cb227:callB Tryz.prog 227=true:=by kernel_rfl
theorem t_over(a b:List Nat)(ha:yQ a)(hb:yQ b)(hb0:0<val b)(hla:a.length≤1099511627776)(hlb:b.length≤1099511627776):jR Tryz.prog 222 [(.sl 140 1 (List.map jC a)),(.sl 140 1 (List.map jC b))] (.tup [(.sl 140 1 (List.map jC (ofNat (val a / val b)))),(.sl 140 1 (List.map jC (ofNat (val a % val b))))]):=by
 refine jJ Tryz.func222 rfl cb222 rfl ?_
 show qG _ _ _ _ ⟨[(0,(vl 140 1 jC a)),(1,(vl 140 1 jC b))],[]⟩
 refine jB<|kx [] [] (zE (dD 140 1)<|zE (dD 140 1)<|zZ) ?_
 refine jB<|jB<|kx [(15,(vb (decide ((vF ((val a:Nat):Int) ((val b:Nat):Int))<0))))] [] (zM<|zM<|zE (jY (t_compare a b ha hb (by omega)))<|zE xK<|zZ) ?_
 refine jG rfl (fun h1=>?_) (fun h1=>?_)
 ·replace h1:=uP h1
  refine jB<|kx [(4,(vl 140 1 jC [])),(5,(vl 140 1 jC a))] [] (zM<|zE (dD 140 1)<|zM<|zZ) ?_
  refine jE ⟨_,(.tmp (d:=(.sl 140 1 (List.map jC []))) rfl (.tmp (d:=(.sl 140 1 (List.map jC a))) rfl .nil)),?_⟩
  have hlt:=cmpI_neg h1
  rw[Nat.div_eq_of_lt hlt,Nat.mod_eq_of_lt hlt,uN,← can_eq ha];rfl
 ·replace h1:=uR h1
  refine jD<|jB<|kx [(6,(gU (gH a))),(7,(vb (cA a)))] [] (zM<|zE (jY (t_word a ha.1))<|zM<|zE uT<|zE uT<|zM<|zM<|zZ) ?_
  refine jB<|kx [(8,(gU (gH b))),(9,(vb (cA b)))] [] (zM<|zE (jY (t_word b hb.1))<|zM<|zE uT<|zE uT<|zM<|zM<|zZ) ?_
  refine jB<|jB<|kx [(30,(vb ((cA a)&&(cA b))))] [] ?_ ?_
  ·refine zM<|zE (oV (vb (cA a)) (qC (by kernel_rfl)))<|?_
   rcases hb2:(cA a) with _ | _
   ·exact zK<|zE yP<|zZ
   ·exact zM<|zE fA<|zZ
  refine jG (b:=((cA a)&&(cA b))) rfl (fun h3=>?_) (fun h3=>?_)
  ·obtain ⟨w1,w2,w3⟩:=word_both ha.1 h3
   have w4:gH a / gH b<18446744073709551616:=Nat.lt_of_le_of_lt (Nat.div_le_self _ _) (by omega)
   have w5:gH a % gH b<18446744073709551616:=Nat.lt_of_le_of_lt (Nat.mod_le _ _) (by omega)
   refine jB<|kd [(4,(vl 140 1 jC (ofNat ((gH a) / (gH b))))),(5,(vl 140 1 jC (ofNat ((gH a) % (gH b)))))] [] mo (wM<|wM<|wE (oQu ((gH a) / (gH b)))<|wE (jY (t_split ((gH a) / (gH b)) (by omega)))<|wM<|wM<|wE (oRe ((gH a) % (gH b)))<|wE (jY (t_split ((gH a) % (gH b)) (by omega)))<|wM<|wM<|wZ) ?_
   refine jE ⟨_,(.tmp (d:=(.sl 140 1 (List.map jC (ofNat ((gH a) / (gH b)))))) rfl (.tmp (d:=(.sl 140 1 (List.map jC (ofNat ((gH a) % (gH b)))))) rfl .nil)),?_⟩
   rw[w1,w2];rfl
  ·refine jD<|jB<|jB<|kx [(41,(vb (((b.length:Nat):Int) == 1)))] [] (zM<|zE (uW kO)<|zE xR<|zZ) ?_
   refine jG (b:=(((b.length:Nat):Int) == 1)) rfl (fun h4=>?_) (fun h4=>?_)
   ·replace h4:=eq_of_beq h4
    have hv1:=val_len1 (b:=b) (by omega)
    have hg:=hb.1.getD 0
    have w5:val a % b.getD 0 0<4294967296:=Nat.lt_trans (Nat.mod_lt _ (by omega)) (by omega)
    refine jB<|kx [(10,(vl 140 1 jC (ofNat (val a / (b.getD 0 0))))),(11,(aF (val a % (b.getD 0 0))))] [] (zM<|zM<|zE (xX kO 0 (0:Nat))<|zE (xZ qX)<|zE (jY (t_short a (b.getD 0 0) ha.1 (by omega) (by omega) (by omega)))<|zM<|zE uT<|zE uT<|zM<|zM<|zZ) ?_
    refine jB<|kx [(4,(vl 140 1 jC (ofNat (val a / (b.getD 0 0))))),(5,(vl 140 1 jC (ofNat (val a % (b.getD 0 0)))))] [] (zM<|zM<|zE (cI gI gG (val a % (b.getD 0 0)))<|zE (jY (t_split (val a % (b.getD 0 0)) (by omega)))<|zM<|zM<|zZ) ?_
    refine jE ⟨_,(.tmp (d:=(.sl 140 1 (List.map jC (ofNat (val a / (b.getD 0 0)))))) rfl (.tmp (d:=(.sl 140 1 (List.map jC (ofNat (val a % (b.getD 0 0)))))) rfl .nil)),?_⟩
    rw[hv1];rfl
   ·replace h4:=ne_of_beq_false h4
    have hbl:=val_pos_len hb0
    refine jD<|jB<|kx [(4,(vl 140 1 jC (ofNat (val a / val b)))),(5,(vl 140 1 jC (ofNat (val a % val b))))] [] (zM<|zM<|zE (jY (t_long a b ha hb (by omega) (cmpI_nn h1) (by omega)))<|zE uT<|zE uT<|zM<|zM<|zZ) ?_
    refine jE ⟨_,(.tmp (d:=(.sl 140 1 (List.map jC (ofNat (val a / val b))))) rfl (.tmp (d:=(.sl 140 1 (List.map jC (ofNat (val a % val b))))) rfl .nil)),?_⟩
    rfl
theorem t_divideI(x y:qB)(hx:x.gs.length≤1099511627776)(hy:y.gs.length≤1099511627776)(hy0:kG y≠0):jR Tryz.prog 227 [(jT x),(jT y)] (.tup [(jT (kN ((kG x).fdiv (kG y)))),(jT (kN ((kG x).fmod (kG y)))),(.val (.int .i64 (0)))]):=by
 have hgx:=qQ x
 have hlx:=gZ x
 have hgy:=qQ y
 have hly:=gZ y
 have hn:0<val (kW y):=by have:=iD y;omega
 have hq:=len_quo (kW x) hgx (val (kW y))
 have hr:=len_rem (kW x) hgx (val (kW y))
 have hrn:=Nat.mod_lt (val (kW x)) hn
 refine jJ Tryz.func227 rfl cb227 rfl ?_
 show qG _ _ _ _ ⟨[(0,(.d (jT x))),(1,(.d (jT y)))],[]⟩
 refine jB<|kx [(2,(.ref 0 0)),(3,(.ref 1 0)),(4,(.ref 2 0)),(5,(.ref 3 0))] [(0,some (bx (jT x))),(1,some (bx (jT y))),(2,some (bx (jT (qB.mk false [])))),(3,some (bx (jT (qB.mk false []))))] (zN (vA 0)<|zN (vA 1)<|zN (qV 2 gD gB)<|zN (qV 3 gD gB)<|zM<|zZ) ?_
 refine jB<|kd [(7,(vl 140 1 jC (kW x))),(8,(vl 140 1 jC (kW y)))] [] mo (wR (kK kF)<|wE (jY (hC x (by omega)))<|wR (kK kF)<|wE (jY (hC y (by omega)))<|wM<|wM<|wZ) ?_
 refine jB<|jB<|kx [(17,(vb ((((kW y).length:Nat):Int) == 0)))] [] (zM<|zE (uW kO (L:=(kW y)))<|zE xR<|zZ) ?_
 refine jG (b:=((((kW y).length:Nat):Int) == 0)) rfl (fun h1=>?_) (fun h1=>?_)
 ·replace h1:=eq_of_beq h1
  exact absurd (toZ_nil h1) hy0
 ·replace h1:=ne_of_beq_false h1
  refine jD<|jB<|kx [(9,(vl 140 1 jC (ofNat (val (kW x) / val (kW y))))),(10,(vl 140 1 jC (ofNat (val (kW x) % val (kW y)))))] [] (zM<|zM<|zE (jY (t_over (kW x) (kW y) hgx hgy (by omega) (by omega) (by omega)))<|zM<|zE uT<|zE uT<|zM<|zM<|zZ) ?_
  refine jB<|kx [(10,(vl 140 1 jC (ofNat (val (kW x) % val (kW y)))))] [] (zM<|zE (jY (t_clone (ofNat (val (kW x) % val (kW y))) (by omega)))<|zM<|zZ) ?_
  refine jB<|jB<|kx [(37,(vb (decide (0<(((ofNat (val (kW x) % val (kW y))).length:Nat):Int))&&!(x.neg == y.neg))))] [] ?_ ?_
  ·refine zM<|zE (uW kO (L:=(ofNat (val (kW x) % val (kW y)))))<|zE mL<|zE (oV (vb (decide (0<(((ofNat (val (kW x) % val (kW y))).length:Nat):Int)))) (qC (by kernel_rfl)))<|?_
   rcases hb2:(decide (0<(((ofNat (val (kW x) % val (kW y))).length:Nat):Int))) with _ | _
   ·replace hb2:=uR hb2
    exact zK<|zK<|zK<|zK<|zK<|zE yP<|zZ
   ·replace hb2:=uP hb2
    exact zE (kY vL)<|zR (uM aX)<|zE (kY vL)<|zR (uM aX)<|zE (oNb bo4)<|zE fA<|zZ
  refine jG rfl (fun h3=>?_) (fun h3=>?_)
  ·have e1:(ofNat (val (ofNat (val (kW x) / val (kW y)))+val [1])).length≤1099511627777:=uH (by rw[kI,dS];have:=aM (val (kW x) / val (kW y));have h3:pw (ofNat (val (kW x) / val (kW y))).length≤pw 1099511627776:=gX (by omega);have h4:=pw_lt (show 1099511627776<1099511627777 by decide);omega)
   have e2:=sub_len (b:=ofNat (val (kW x) % val (kW y))) hgy.1
   rw[Bool.and_eq_true,decide_eq_true_eq,Bool.not_eq_true',beq_eq_false_iff_ne] at h3
   obtain ⟨k1,k2⟩:=h3
   have k3:0<val (kW x) % val (kW y):=by have:=cW (qK (val (kW x) % val (kW y))) (by omega);rwa [kI] at this
   obtain ⟨d1,d2⟩:=div_other hn k2 k3
   refine kx [(9,(vl 140 1 jC (ofNat (val (ofNat (val (kW x) / val (kW y)))+val [1])))),(10,(vl 140 1 jC (ofNat (val (kW y)-val (ofNat (val (kW x) % val (kW y)))))))] [] (zM<|zE (cN kO xC yU)<|zE (jY (t_plus (ofNat (val (kW x) / val (kW y))) [1] (kP _) (gL.2 ⟨by decide,nH⟩) (by omega) (by decide)))<|zM<|zM<|zE (jY (t_minus (kW y) (ofNat (val (kW x) % val (kW y))) hgy.1 (kP _) (by rw[kI];omega) (by omega)))<|zM<|zM<|zZ) ?_
   refine jB<|kd [(6,(jP 0))] [(2,some (bx (jT (xQ (!(x.neg == y.neg)) (val (ofNat (val (ofNat (val (kW x) / val (kW y)))+val [1]))))))),(3,some (bx (jT (xQ y.neg (val (ofNat (val (kW y)-val (ofNat (val (kW x) % val (kW y))))))))))] mo (wE (kY vL)<|wR (uM aX)<|wE (kY vL)<|wR (uM aX)<|wE (oNb bo4)<|wM<|wE (jY (cC (!(x.neg == y.neg)) (ofNat (val (ofNat (val (kW x) / val (kW y)))+val [1])) (kP _) (by omega)))<|wE (kY vL)<|wR (uM aX)<|wM<|wE (jY (cC y.neg (ofNat (val (kW y)-val (ofNat (val (kW x) % val (kW y))))) (kP _) (by omega)))<|wT (qA kF)<|wT (qA kF)<|wM<|wZ) ?_
   refine jE ⟨_,(kH (cs:=(bx (jT (xQ (!(x.neg == y.neg)) (val (ofNat (val (ofNat (val (kW x) / val (kW y)))+val [1]))))))) (d:=(jT (xQ (!(x.neg == y.neg)) (val (ofNat (val (ofNat (val (kW x) / val (kW y)))+val [1])))))) rfl rfl kF rfl rfl (kH (cs:=(bx (jT (xQ y.neg (val (ofNat (val (kW y)-val (ofNat (val (kW x) % val (kW y)))))))))) (d:=(jT (xQ y.neg (val (ofNat (val (kW y)-val (ofNat (val (kW x) % val (kW y))))))))) rfl rfl kF rfl rfl (.tmp (d:=(.val (.int .i64 (0)))) rfl .nil))),?_⟩
   unfold kG
   rw[d1,d2]
   simp only[kI,dS]
   rfl
  ·obtain ⟨d1,d2⟩:=div_same (b:=x.neg) (c:=y.neg) (m:=val (kW x)) hn (by rw[Bool.and_eq_false_iff,decide_eq_false_iff_not,Bool.not_eq_false',beq_iff_eq] at h3;rcases h3 with k | k;right;have:=eK (n:=val (kW x) % val (kW y));omega;exact .inl k)
   refine jD<|jB<|kd [(6,(jP 0))] [(2,some (bx (jT (xQ (!(x.neg == y.neg)) (val (ofNat (val (kW x) / val (kW y)))))))),(3,some (bx (jT (xQ y.neg (val (ofNat (val (kW x) % val (kW y))))))))] mo (wE (kY vL)<|wR (uM aX)<|wE (kY vL)<|wR (uM aX)<|wE (oNb bo4)<|wM<|wE (jY (cC (!(x.neg == y.neg)) (ofNat (val (kW x) / val (kW y))) (kP _) (by omega)))<|wE (kY vL)<|wR (uM aX)<|wM<|wE (jY (cC y.neg (ofNat (val (kW x) % val (kW y))) (kP _) (by omega)))<|wT (qA kF)<|wT (qA kF)<|wM<|wZ) ?_
   refine jE ⟨_,(kH (cs:=(bx (jT (xQ (!(x.neg == y.neg)) (val (ofNat (val (kW x) / val (kW y)))))))) (d:=(jT (xQ (!(x.neg == y.neg)) (val (ofNat (val (kW x) / val (kW y))))))) rfl rfl kF rfl rfl (kH (cs:=(bx (jT (xQ y.neg (val (ofNat (val (kW x) % val (kW y)))))))) (d:=(jT (xQ y.neg (val (ofNat (val (kW x) % val (kW y))))))) rfl rfl kF rfl rfl (.tmp (d:=(.val (.int .i64 (0)))) rfl .nil))),?_⟩
   unfold kG
   rw[d1,d2]
   simp only[kI]
   rfl
theorem t_gcdI(x y:qB)(hx:x.gs.length≤1099511627776)(hy:y.gs.length≤1099511627776):jR Tryz.prog 138 [(jT x),(jT y)] (jT (kN ((Int.gcd (kG x) (kG y):Nat):Int))):=by
 have hgx:=qQ x
 have hlx:=gZ x
 have hgy:=qQ y
 have hly:=gZ y
 refine jJ Tryz.func138 rfl cb138 rfl ?_
 show qG _ _ _ _ ⟨[(0,(.d (jT x))),(1,(.d (jT y)))],[]⟩
 refine jB<|kx [(2,(.ref 0 0)),(3,(.ref 1 0)),(4,(.ref 2 0))] [(0,some (bx (jT x))),(1,some (bx (jT y))),(2,some (bx (jT (qB.mk false []))))] (zN (vA 0)<|zN (vA 1)<|zN (qV 2 gD gB)<|zZ) ?_
 refine jB<|kd [(5,(vl 140 1 jC (kW x))),(6,(vl 140 1 jC (kW y)))] [] mo (wR (kK kF)<|wE (jY (hC x (by omega)))<|wR (kK kF)<|wE (jY (hC y (by omega)))<|wM<|wM<|wZ) ?_
 refine jB<|jH<|kA (α:=List Nat × List Nat) (fun (a,b)=>⟨[(4,(.ref 2 0)),(5,(vl 140 1 jC a)),(6,(vl 140 1 jC b))],[(2,some (bx (jT (qB.mk false []))))]⟩) (fun (a,b)=>yQ a∧yQ b∧a.length≤1099511627776∧b.length≤1099511627776∧Nat.gcd (val a) (val b)=Int.gcd (kG x) (kG y)) (fun (a,b)=>val b) (kW x,kW y) wk ⟨hgx,hgy,by omega,by omega,gcd_toZ x y⟩ ?_
 rintro ⟨a,b⟩ ⟨ha,hb,hla,hlb,hg⟩
 refine jB<|jB<|kx [(19,(vb (decide (0<((b.length:Nat):Int)))))] [] (zM<|zE (uW kO)<|zE mL<|zZ) ?_
 refine jG (b:=decide (0<((b.length:Nat):Int))) rfl (fun h1=>?_) (fun h1=>?_)
 ·replace h1:=uP h1
  have hb0:=cW hb (by omega)
  refine jD<|jH<|jB<|kx [(7,(gU (gH a))),(8,(vb (cA a)))] [] (zM<|zE (jY (t_word a ha.1))<|zM<|zE uT<|zE uT<|zM<|zM<|zZ) ?_
  refine jB<|kx [(9,(gU (gH b))),(10,(vb (cA b)))] [] (zM<|zE (jY (t_word b hb.1))<|zM<|zE uT<|zE uT<|zM<|zM<|zZ) ?_
  refine jB<|jB<|kx [(33,(vb ((cA a)&&(cA b))))] [] ?_ ?_
  ·refine zM<|zE (oV (vb (cA a)) (qC (by kernel_rfl)))<|?_
   rcases hb2:(cA a) with _ | _
   ·exact zK<|zE yP<|zZ
   ·exact zM<|zE fA<|zZ
  refine jG (b:=((cA a)&&(cA b))) rfl (fun h3=>?_) (fun h3=>?_)
  ·obtain ⟨w1,w2,w3⟩:=word_both ha.1 h3
   have w4:val b<1000000000000000000:=by rw[Bool.and_eq_true] at h3;exact val_len2 hb.1 (uP h3.2)
   refine jB<|jH<|kA (α:=Nat × Nat) (fun (m,n)=>⟨[(4,(.ref 2 0)),(7,(gU m)),(9,(gU n))],[(2,some (bx (jT (qB.mk false []))))]⟩) (fun (m,n)=>m<1000000000000000000∧n<1000000000000000000∧Nat.gcd m n=Int.gcd (kG x) (kG y)) (fun (m,n)=>n) (gH a,gH b) wk ⟨by omega,by omega,by rw[w1,w2];exact hg⟩ ?_
   rintro ⟨m,n⟩ ⟨hm,hn,hg2⟩
   refine jB<|jB<|kx [(35,(vb (decide (0<((n:Nat):Int)))))] [] (zM<|zE mL<|zZ) ?_
   refine jG (b:=decide (0<((n:Nat):Int))) rfl (fun h4=>?_) (fun h4=>?_)
   ·replace h4:=uP h4
    refine jD<|jH<|kd [(7,(gU n)),(9,(gU (m % n)))] [] mo (wM<|wM<|wM<|wE (oRe (m % n))<|wM<|wM<|wZ) ?_
    exact ⟨(n,m % n),wk,⟨hn,Nat.lt_of_le_of_lt (Nat.mod_le _ _) hm,by rw[← hg2,Nat.gcd_comm,← Nat.gcd_rec,Nat.gcd_comm]⟩,(by dsimp only;exact Nat.mod_lt _ (by omega))⟩
   ·replace h4:=uR h4
    obtain rfl:n=0:=by omega
    rw[Nat.gcd_zero_right] at hg2
    refine kB<|jB<|kx [] [(2,some (bx (jT (xQ false (val (ofNat m))))))] (zM<|zE (jY (t_split m (by omega)))<|zE (jY (cC false (ofNat m) (kP _) (Nat.le_trans (fR (by omega)) (by decide))))<|zT (qA kF)<|zZ) ?_
    refine jE ⟨_,(kH (cs:=(bx (jT (xQ false (val (ofNat m)))))) (d:=(jT (xQ false (val (ofNat m))))) rfl rfl kF rfl rfl .nil),?_⟩
    rw[← hg2,kI,mkI_false];rfl
  ·refine jD<|jB<|kx [(12,(vl 140 1 jC (ofNat (val a % val b))))] [] (zM<|zM<|zE (jY (t_over a b ha hb hb0 (by omega) (by omega)))<|zM<|zE uT<|zE uT<|zM<|zM<|zZ) ?_
   refine kx [(5,(vl 140 1 jC b)),(6,(vl 140 1 jC (ofNat (val a % val b))))] [] (zM<|zM<|zM<|zM<|zZ) ?_
   exact ⟨(b,ofNat (val a % val b)),wk,⟨hb,qK _,hlb,Nat.le_trans (len_rem a ha _) hla,by rw[kI,← hg,Nat.gcd_comm,← Nat.gcd_rec,Nat.gcd_comm]⟩,(by dsimp only;rw[kI];exact Nat.mod_lt _ hb0)⟩
 ·replace h1:=uR h1
  have hb1:b=[]:=List.eq_nil_of_length_eq_zero (by omega)
  rw[hb1,val_nil,Nat.gcd_zero_right] at hg
  refine kB<|jB<|kx [] [(2,some (bx (jT (xQ false (val a)))))] (zM<|zE (jY (t_clone a (by omega)))<|zE (jY (cC false a ha.1 (by omega)))<|zT (qA kF)<|zZ) ?_
  refine jE ⟨_,(kH (cs:=(bx (jT (xQ false (val a))))) (d:=(jT (xQ false (val a)))) rfl rfl kF rfl rfl .nil),?_⟩
  rw[← hg,mkI_false];rfl
end Go.Proofs.YtnajallgoaiahaaGreatDoor
