/- Part 22 of a proof: rules, plain facts, and functions walked. -/
import Derived.Test.YtckccjhflbljgaaGreatDoorM21
set_option linter.all false
set_option maxRecDepth 4000
namespace Go.Proofs.YtckccjhflbljgaaGreatDoor
open Go.Fid
theorem ze28:vG Tryz.prog 28=some [.slice none 0 0]:=by kernel_rfl
theorem zo28:cN [.slice none 0 0] [.sl 107 1 []]:=by simp [cN,Value.oneCell']
theorem t_short(a:List Nat)(d:Nat)(hda:Dig a)(hd0:0<d)(hd1:d<=1000000000)(hla:a.length<=17592186044416):jS Tryz.prog 181 [(.sl 107 1 (List.map jD a)),(.val (.int .u32 (((d:Nat):Int))))] (.tup [(.sl 107 1 (List.map jD (ofNat (val a / d)))),(.val (.int .u32 ((((val a % d):Nat):Int))))]):=by
 refine vA Tryz.func181 ?_
 refine jB<|kx [(3,(.ref 0 0)),(4,(.ref 1 0)),(5,(fV 0))] [(0,some (bx (.val (.int .u32 (((d:Nat):Int)))))),(1,some (bx (.sl 107 1 (List.map jD []))))] (zN (xH 0)<|zN (vT 1 ze28 zo28)<|zM<|zZ) ?_
 refine jB<|kx [] [(1,some [(.own 2 107 1 a.length)]),(2,some (bm jD (List.replicate a.length 0)))] (zM<|zE (yD kB)<|zN (oMk 2 jD (0:Nat) a.length a.length kB uY zL gS)<|zT (oSo xN)<|zZ) ?_
 refine jB<|kx [(6,(.ref 3 0))] [(3,some (bx (.val (.int .u64 (0)))))] (zH (vT 3 ze137 zo137)<|zT (qU sh137)<|zZ) ?_
 refine jB<|pwp_backL backs cb178 rfl 7 jD a 0 (fun (q,vK)=>⟨[(3,(.ref 0 0)),(4,(.ref 1 0)),(5,(fV 0)),(6,(.ref 3 0))],[(0,some (bx (.val (.int .u32 (((d:Nat):Int)))))),(1,some [(.own 2 107 1 a.length)]),(2,some (bm jD q)),(3,some (bx (.val (.int .u64 (((vK:Nat):Int))))))]⟩) (fun (j:Nat) (q,vK)=>q.length=a.length/\Dig q/\vK<d/\val (a.drop (a.length-j))=val (q.drop (a.length-j))*d+vK) (List.replicate a.length 0,0) rfl rfl rfl rfl rfl rfl rfl rfl rfl rfl rfl rfl (fun _=>rfl) (fun _=>rfl) wk ⟨by simp,xK _,hd0,by simp [val,cA]⟩ (by omega) ?_ ?_
 ·rintro rl j ⟨q,vK⟩ hj ⟨qG,hdq,hr,hv⟩
  have hg:=hda.getD (a.length-1-j)
  obtain ⟨hb1,hb2⟩:=short_bound hr hd1 hg
  refine jB<|kx [(7,(kJ (a.length-1-j)))] [] (zM<|zZ) ?_
  refine kx [(8,(fV (a.getD (a.length-1-j) 0)))] [] (zM<|zZ) ?_
  refine jL<|jB<|kx [(9,(yI ((vK*1000000000)+(a.getD (a.length-1-j) 0))))] [] (zR (qK sh137)<|zE (oMl (vK*1000000000))<|zM<|zE (nP zU xX (a.getD (a.length-1-j) 0))<|zE (xO ((vK*1000000000)+(a.getD (a.length-1-j) 0)))<|zM<|zZ) ?_
  refine kd [] [(2,some (bm jD (q.set (a.length-1-j) (((vK*1000000000)+(a.getD (a.length-1-j) 0)) / d)))),(3,some (bx (.val (.int .u64 ((((((vK*1000000000)+(a.getD (a.length-1-j) 0)) % d):Nat):Int))))))] mo (wR (qK xN)<|wM<|wM<|wR (qK qI)<|wE (nP zU xX d)<|wE (oQu (((vK*1000000000)+(a.getD (a.length-1-j) 0)) / d))<|wE (nP gB yN (((vK*1000000000)+(a.getD (a.length-1-j) 0)) / d))<|wM<|wR (qK qI)<|wE (nP zU xX d)<|wE (oRe (((vK*1000000000)+(a.getD (a.length-1-j) 0)) % d))<|wE (xS kB (a.length-1-j))<|wT (cU qI (a.length-1-j) (((vK*1000000000)+(a.getD (a.length-1-j) 0)) / d))<|wT (qU sh137)<|wZ) ?_
  exact ⟨(q.set (a.length-1-j) ((vK*1000000000+a.getD (a.length-1-j) 0) / d),(vK*1000000000+a.getD (a.length-1-j) 0) % d),wk,⟨by simpa using qG,hdq.set _ hb2,Nat.mod_lt _ hd0,short_step hj qG hv rfl⟩⟩
 ·rintro ⟨q,vK⟩ ⟨qG,hdq,hr,hv⟩
  obtain ⟨e1,e2⟩:=short_end hv hr
  refine jB<|qH (publishB (j:=1) (k:=2) (es:=List.map jD q) rfl rfl rfl (vD _ _ (fun _=>rfl)) (vY _ _ qG) (xB _ _ (fun _=>rfl) qG)) ?_
  refine kd [(5,(fV vK))] [(1,some (bx (.sl 107 1 (List.map jD (ofNat (val q))))))] mo (wR (qK xN)<|wE (kF (t_trim q (by assumption) (by omega)))<|wR (qK sh137)<|wE (nP gB yN vK)<|wT (qU xN)<|wM<|wZ) ?_
  refine jE ⟨_,(res_1 (cs:=(bx (.sl 107 1 (List.map jD (ofNat (val q)))))) (d:=(.sl 107 1 (List.map jD (ofNat (val q))))) rfl rfl xN rfl rfl (.tmp (d:=(.val (.int .u32 (((vK:Nat):Int))))) rfl .nil)),?_⟩
  rw[<- e1,<- e2];rfl
theorem o_times(a b:List Nat)(hda:Dig a)(hdb:Dig b)(hla:a.length<=4398046511104)(hlb:b.length<=4398046511104)(h0:0<val a*val b):TakesO Tryz.prog 161 [(.sl 107 1 (List.map jD a)),(.sl 107 1 (List.map jD b))] 107 1 (ofNat (val a*val b)).length (List.map jD (ofNat (val a*val b))):=by
 refine fn_introO Tryz.func161 rfl cb161 rfl (cB h0) ?_
 refine jB<|kx [] [] (zE (eY 107 1)<|zZ) ?_
 refine jB<|kx [(5,(.own 0 107 1 (a.length+b.length)))] [(0,some (bm jD (List.replicate (a.length+b.length) 0)))] (zM<|zE (yD kB)<|zM<|zE (yD kB)<|zE (xO (a.length+b.length))<|zN (oMk 0 jD (0:Nat) (a.length+b.length) (a.length+b.length) kB uY zL gS)<|zM<|zZ) ?_
 refine jB<|jB<|kx [(18,(vl 107 1 jD a)),(19,(kJ a.length)),(20,(kJ 0))] [] (zM<|zE (yD kB)<|zM<|zZ) ?_
 refine jL<|kW (α:=Nat × List Nat) (fun (i,out)=>⟨[(1,(vl 107 1 jD b)),(5,(.own 0 107 1 (a.length+b.length))),(18,(vl 107 1 jD a)),(19,(kJ a.length)),(20,(kJ i))],[(0,some (bm jD out))]⟩) (fun (i,out)=>out.length=a.length+b.length/\Dig out/\i<=a.length/\(∀ k,i+b.length<=k->out.getD k 0=0)/\val out=val (a.take i)*val b) (fun (i,out)=>a.length-i) (0,List.replicate (a.length+b.length) 0) wk ⟨by simp,xK _,Nat.zero_le _,fun k _=>dW _ k,by simp [val,cA]⟩ ?_
 rintro ⟨i,out⟩ ⟨qG,hdo,hi,hz,hv⟩
 have hai:=hda.getD i
 refine jB<|kx [(21,(vb (decide (((i:Nat):Int)<((a.length:Nat):Int)))))] [] (zE nD<|zZ) ?_
 refine jB<|jF rfl (fun h1=>?_) (fun h1=>?_)
 ·replace h1:=vW h1
  refine jH<|jB<|jL<|jB<|kx [(6,(kJ i)),(7,(fV (a.getD i 0)))] [] (zM<|zE (cR kB i (0:Nat))<|zE (nF qI)<|zM<|zM<|zZ) ?_
  refine jB<|kx [(8,(yI 0))] [] (zM<|zZ) ?_
  refine jB<|jB<|kx [(25,(vl 107 1 jD b)),(26,(kJ b.length)),(27,(kJ 0))] [] (zM<|zE (yD kB)<|zM<|zZ) ?_
  refine jL<|kW (α:=Nat × List Nat × Nat) (fun (j,o2,c)=>⟨[(1,(vl 107 1 jD b)),(5,(.own 0 107 1 (a.length+b.length))),(6,(kJ i)),(7,(fV (a.getD i 0))),(8,(yI c)),(18,(vl 107 1 jD a)),(19,(kJ a.length)),(20,(kJ i)),(25,(vl 107 1 jD b)),(26,(kJ b.length)),(27,(kJ j))],[(0,some (bm jD o2))]⟩) (fun (j,o2,c)=>o2.length=a.length+b.length/\Dig o2/\j<=b.length/\c<1000000000/\(∀ k,i+b.length<=k->o2.getD k 0=0)/\val o2+pw (i+j)*c=val (a.take i)*val b+pw i*(a.getD i 0*val (b.take j))) (fun (j,o2,c)=>b.length-j) (0,out,0) wk ⟨qG,hdo,Nat.zero_le _,by decide,hz,by simp [val,hv]⟩ ?_
  rintro ⟨j,o2,c⟩ ⟨hlen2,hdo2,hj,hc,hz2,hv2⟩
  have hbj:=hdb.getD j
  have hoj:=hdo2.getD (i+j)
  have hpq:a.getD i 0*b.getD j 0<=999999999*999999999:=Nat.mul_le_mul (by omega) (by omega)
  refine jB<|kx [(28,(vb (decide (((j:Nat):Int)<((b.length:Nat):Int)))))] [] (zE nD<|zZ) ?_
  refine jB<|jF rfl (fun h2=>?_) (fun h2=>?_)
  ·replace h2:=vW h2
   refine jH<|jB<|jL<|jB<|kx [(9,(kJ j)),(10,(fV (b.getD j 0)))] [] (zM<|zE (cR kB j (0:Nat))<|zE (nF qI)<|zM<|zM<|zZ) ?_
   refine jB<|kx [(11,(yI (((o2.getD (i+j) 0)+((a.getD i 0)*(b.getD j 0)))+c)))] [] (zM<|zM<|zM<|zE (xO (i+j))<|zE (xS kB (i+j))<|zR (cV qI (i+j) (0:Nat))<|zE (nP zU xX (o2.getD (i+j) 0))<|zM<|zE (nP zU xX (a.getD i 0))<|zM<|zE (nP zU xX (b.getD j 0))<|zE (oMl ((a.getD i 0)*(b.getD j 0)))<|zE (xO ((o2.getD (i+j) 0)+((a.getD i 0)*(b.getD j 0))))<|zM<|zE (xO (((o2.getD (i+j) 0)+((a.getD i 0)*(b.getD j 0)))+c))<|zM<|zZ) ?_
   refine kx [(8,(yI ((((o2.getD (i+j) 0)+((a.getD i 0)*(b.getD j 0)))+c) / 1000000000)))] [(0,some (bm jD (o2.set (i+j) ((((o2.getD (i+j) 0)+((a.getD i 0)*(b.getD j 0)))+c) % 1000000000))))] (zM<|zM<|zM<|zE (xO (i+j))<|zM<|zE (oRe ((((o2.getD (i+j) 0)+((a.getD i 0)*(b.getD j 0)))+c) % 1000000000))<|zE (nP gB yN ((((o2.getD (i+j) 0)+((a.getD i 0)*(b.getD j 0)))+c) % 1000000000))<|zM<|zE (oQu ((((o2.getD (i+j) 0)+((a.getD i 0)*(b.getD j 0)))+c) / 1000000000))<|zE (xS kB (i+j))<|zT (cU qI (i+j) ((((o2.getD (i+j) 0)+((a.getD i 0)*(b.getD j 0)))+c) % 1000000000))<|zM<|zZ) ?_
   refine kx [(27,(kJ (j+1)))] [] (zE (xO (j+1))<|zM<|zZ) ?_
   exact ⟨(j+1,o2.set (i+j) ((o2.getD (i+j) 0+a.getD i 0*b.getD j 0+c) % 1000000000),(o2.getD (i+j) 0+a.getD i 0*b.getD j 0+c) / 1000000000),wk,(by obtain ⟨q1,q2⟩:=times_step (by omega) hdo2 hv2 rfl (val_take_succ b j);exact ⟨by simpa using hlen2,q1,by omega,by omega,zero_set (by omega) hz2,q2⟩),(by first|omega|(dsimp only;omega))⟩
  ·replace h2:=xJ h2
   have hje:j=b.length:=by omega
   rw[hje] at hv2
   refine kQ<|kx [] [(0,some (bm jD (o2.set (i+b.length) c)))] (zM<|zM<|zM<|zE (yD kB)<|zE (xO (i+b.length))<|zM<|zE (nP gB yN c)<|zE (xS kB (i+b.length))<|zT (cU qI (i+b.length) c)<|zZ) ?_
   refine kx [(20,(kJ (i+1)))] [] (zE (xO (i+1))<|zM<|zZ) ?_
   exact ⟨(i+1,o2.set (i+b.length) c),wk,(by obtain ⟨q1,q2,q3,q4⟩:=times_row hdo2 (by omega) hlen2 hz2 hc hv2;exact ⟨q1,q2,by omega,q3,q4⟩),(by first|omega|(dsimp only;omega))⟩
 ·replace h1:=xJ h1
  have hie:i=a.length:=by omega
  rw[hie,List.take_length] at hv
  refine kQ<|jB<|kx [(4,(.own 0 107 1 ((ofNat (val out)).length)))] [] (zM<|zR ⟨_,e_trimO out (by exact rfl) (by exact rfl) qG hdo (by omega),by kernel_rfl⟩<|zM<|zZ) ?_
  rw[<- hv]
  refine jE ⟨4,0,rfl,rfl,(bm jD out),rfl,?_⟩
  exact own_prefix _ (trim_take hdo)
theorem in2:intB Tryz.prog 2=some .i64:=by kernel_rfl
theorem un2:(Tryz.prog.underlying 2).isSome=true:=by kernel_rfl
set_option maxHeartbeats 4000000 in
theorem t_long(a b:List Nat)(hda:yF a)(hdb:yF b)(hb2:2<=b.length)(hba:val b<=val a)(hla:a.length<=1099511627776):jS Tryz.prog 182 [(.sl 107 1 (List.map jD a)),(.sl 107 1 (List.map jD b))] (.tup [(.sl 107 1 (List.map jD (ofNat (val a / val b)))),(.sl 107 1 (List.map jD (ofNat (val a % val b))))]):=by
 have hab:=len_of_le hda hdb hba
 have hsc:=fH hdb (by omega)
 have htp:=aR hdb (by omega)
 have hds:Dig [mO b]:=zD.2 ⟨by omega,yR⟩
 have hbp:0<val b:=by have:=val_top hdb.1 (by omega);have h2:=Nat.mul_le_mul_right (pw (b.length-1)) htp.1;have h3:=pw_pos (b.length-1);rw[Nat.succ_mul] at h2;omega
 obtain ⟨u0,hue⟩:∃ u0,u0=ofNat (val a*val [mO b]):=⟨_,rfl⟩
 obtain ⟨v,hve⟩:∃ v,v=ofNat (val b*val [mO b]):=⟨_,rfl⟩
 have hu0:Dig u0:=by rw[hue];exact jZ _
 have hvd:Dig v:=by rw[hve];exact jZ _
 have hvl:v.length=b.length:=by rw[hve,mF];exact scl_len hdb (by omega)
 have hvv:val v=val b*mO b:=by rw[hve,mF];exact jY _
 have hu0v:val u0=val a*mO b:=by rw[hue,mF];exact jY _
 have hu0l:a.length<=u0.length/\u0.length<=a.length+1:=by rw[hue,mF];exact scl_lenA hda hdb (by omega)
 have hLU:(u0++[0]).length=u0.length+1:=by simp
 have hcv:yF v:=by rw[hve];exact kZ _
 have hv1p:0<v.getD (b.length-1) 0:=by rw[<- hvl];exact (aR hcv (by omega)).1
 have hpv:pw (b.length-1)<=val v:=by have h1:=val_top hvd (by omega);rw[hvl] at h1;have h2:=Nat.mul_le_mul_right (pw (b.length-1)) hv1p;omega
 refine vA Tryz.func182 ?_
 refine jB<|kx [] [] (zE (eY 107 1)<|zE (eY 107 1)<|zZ) ?_
 refine jB<|kx [(6,(fV (mO b)))] [] (zM<|zM<|zE (yD kB)<|zE (oSb (b.length-1))<|zE (cR kB (b.length-1) (0:Nat))<|zE (nF qI)<|zE (nP zU xX (b.getD (b.length-1) 0))<|zE (xO ((b.getD (b.length-1) 0)+1))<|zE (oQu (mO b) (hr:=by exact (quo_u64 1000000000 (b.getD (b.length-1) 0+1))))<|zE (nP gB yN (mO b))<|zM<|zZ) ?_
 refine jB<|kx [(7,(.own 0 107 1 u0.length))] [(0,some (bm jD u0))] (zM<|zM<|zE (oBs kB uY zL)<|zN (oCo 0 (hue▸o_times a [mO b] hda.1 hds (by omega) (by simp) (by rw[mF];exact Nat.mul_pos (by omega) hsc.1)))<|zM<|zZ) ?_
 refine jB<|kx [(8,(vl 107 1 jD v))] [] (zM<|zM<|zE (oBs kB uY zL)<|zE (kF (hve▸t_times b [mO b] hdb.1 hds (by omega) (by simp)))<|zM<|zZ) ?_
 refine jB<|kx [(9,(kJ b.length))] [] (zM<|zE (oLn kB b.length (hr:=by exact (by simp [hvl])))<|zM<|zZ) ?_
 refine jB<|kf [(7,(.own 0 107 1 ((u0++[0]).length)))] [(0,some (bm jD (u0++[0])))] (zM<|zE (oBs kB uY zL)<|zA jD u0 [0] rfl kB uY gS<|zM<|zF) ?_
 refine jB<|jB<|kx [(50,(vb (decide ((((u0++[0]).length:Nat):Int)<=((a.length:Nat):Int)))))] [] (zM<|zE (oLo kB)<|zM<|zE (yD kB)<|zE oLe<|zZ) ?_
 refine jF rfl (fun h1=>?_) (fun h1=>?_)
 ·replace h1:=vW h1
  exfalso;simp at h1;omega
 ·replace h1:=xJ h1
  refine jH<|jB<|kx [(4,(.own 1 107 1 ((u0++[0]).length-b.length)))] [(1,some (bm jD (List.replicate ((u0++[0]).length-b.length) 0)))] (zM<|zE (oLo kB)<|zM<|zE (oSb ((u0++[0]).length-b.length))<|zH (oMk 1 jD (0:Nat) ((u0++[0]).length-b.length) ((u0++[0]).length-b.length) kB uY zL gS)<|zM<|zZ) ?_
  refine jB<|jB<|kx [(10,(vi ((((u0++[0]).length-b.length:Nat):Int)-1)))] [] (zM<|zE (oLo kB)<|zM<|zE (oSb ((u0++[0]).length-b.length))<|zE (zSb ((((u0++[0]).length-b.length:Nat):Int)-1))<|zM<|zZ) ?_
  refine jL<|kW (α:=Nat × List Nat × List Nat) (fun (k,u,q)=>⟨[(4,(.own 1 107 1 ((u0++[0]).length-b.length))),(6,(fV (mO b))),(7,(.own 0 107 1 ((u0++[0]).length))),(8,(vl 107 1 jD v)),(9,(kJ b.length)),(10,(vi (((k:Nat):Int)-1)))],[(0,some (bm jD u)),(1,some (bm jD q))]⟩) (fun (k,u,q)=>u.length=(u0++[0]).length/\Dig u/\q.length=(u0++[0]).length-b.length/\Dig q/\k<=(u0++[0]).length-b.length/\val u+val v*(pw k*val (q.drop k))=val a*mO b/\val (u.drop k)<val v) (fun (k,u,q)=>k) ((u0++[0]).length-b.length,u0++[0],List.replicate ((u0++[0]).length-b.length) 0) wk ⟨rfl,aJ.2 ⟨hu0,zD.2 ⟨by decide,yR⟩⟩,by simp,xK _,Nat.le_refl _,by simp [mV,val,hu0v],by have:=long_start hu0 hvl hb2 (by omega) hpv;rw[hLU];exact this⟩ ?_
  rintro ⟨k,u,q⟩ ⟨qG,hu,hql,hqd,hk,hU,hW⟩
  refine jB<|jB<|kx [(65,(vb (decide (0<=(((k:Nat):Int)-1)))))] [] (zM<|zE oGe<|zZ) ?_
  refine jF (b:=decide (0<=(((k:Nat):Int)-1))) rfl (fun h2=>?_) (fun h2=>?_)
  ·replace h2:=vW h2
   obtain ⟨j,rfl⟩:∃ j,k=j+1:=⟨k-1,by omega⟩
   rw[show (((j+1:Nat):Int)-1)=((j:Nat):Int) from by omega]
   have hg1:=hu.getD (j+b.length)
   have hg2:=hu.getD (j+b.length-1)
   have hg3:=hu.getD (j+b.length-2)
   have hg4:=hvd.getD (b.length-1)
   have hg5:=hvd.getD (b.length-2)
   obtain ⟨z1,z2,z3,z4,z5,z6⟩:=window_tops hu hvd hvl hb2 hW
   obtain ⟨hwz,hww⟩:=window hvd hvl hW
   refine jH<|jB<|jL<|jB<|kd [(10,(kJ j)),(11,(yI (((u.getD (j+b.length) 0)*1000000000)+(u.getD ((j+b.length)-1) 0))))] [] mo (wM<|wM<|wM<|wE (xO (j+b.length))<|wR ⟨(bm jD u),e_clo (t_at u (j+b.length)) (by exact rfl) (by exact rfl) (by exact rfl) (.o (.d .nil)) (vD jD u (fun _=>rfl)) (vY _ _ qG) (xB _ _ (fun _=>rfl) qG),by kernel_rfl⟩<|wE (nP zU xX (u.getD (j+b.length) 0))<|wE (oMl ((u.getD (j+b.length) 0)*1000000000))<|wM<|wM<|wM<|wE (xO (j+b.length))<|wE (oSb ((j+b.length)-1))<|wE (xS kB ((j+b.length)-1))<|wR (cV qI ((j+b.length)-1) (0:Nat))<|wE (nP zU xX (u.getD ((j+b.length)-1) 0))<|wE (xO (((u.getD (j+b.length) 0)*1000000000)+(u.getD ((j+b.length)-1) 0)))<|wM<|wZ) ?_
   refine jB<|kd [(12,(yI ((((u.getD (j+b.length) 0)*1000000000)+(u.getD ((j+b.length)-1) 0)) / (v.getD (b.length-1) 0)))),(13,(yI ((((u.getD (j+b.length) 0)*1000000000)+(u.getD ((j+b.length)-1) 0)) % (v.getD (b.length-1) 0))))] [] mo (wM<|wM<|wM<|wE (oSb (b.length-1))<|wE (cR kB (b.length-1) (0:Nat))<|wE (nF qI)<|wE (nP zU xX (v.getD (b.length-1) 0))<|wE (oQu ((((u.getD (j+b.length) 0)*1000000000)+(u.getD ((j+b.length)-1) 0)) / (v.getD (b.length-1) 0)))<|wM<|wM<|wM<|wE (oSb (b.length-1))<|wE (cR kB (b.length-1) (0:Nat))<|wE (nF qI)<|wE (nP zU xX (v.getD (b.length-1) 0))<|wE (oRe ((((u.getD (j+b.length) 0)*1000000000)+(u.getD ((j+b.length)-1) 0)) % (v.getD (b.length-1) 0)))<|wM<|wM<|wZ) ?_
   refine pwp_seqjoin (α:=Nat × Nat) (fun (G,R)=>⟨[(4,(.own 1 107 1 ((u0++[0]).length-b.length))),(6,(fV (mO b))),(7,(.own 0 107 1 ((u0++[0]).length))),(8,(vl 107 1 jD v)),(9,(kJ b.length)),(10,(kJ j)),(12,(yI G))],[(0,some (bm jD u)),(1,some (bm jD q))]⟩) (fun (G,R)=>G<1000000000/\val (u.drop j) / val v<=G/\G<=val (u.drop j) / val v+1) ?_ ?_
   ·refine kW (α:=Nat × Nat) (fun (G,R)=>⟨[(4,(.own 1 107 1 ((u0++[0]).length-b.length))),(6,(fV (mO b))),(7,(.own 0 107 1 ((u0++[0]).length))),(8,(vl 107 1 jD v)),(9,(kJ b.length)),(10,(kJ j)),(12,(yI G)),(13,(yI R))],[(0,some (bm jD u)),(1,some (bm jD q))]⟩) (fun (G,R)=>G*(v.getD (b.length-1) 0)+R=(u.getD (j+b.length) 0*1000000000+u.getD (j+b.length-1) 0)/\val (u.drop j) / val v<=G/\R<1000000000/\G<=1999999999) (fun (G,R)=>G) ((u.getD (j+b.length) 0*1000000000+u.getD (j+b.length-1) 0) / v.getD (b.length-1) 0,(u.getD (j+b.length) 0*1000000000+u.getD (j+b.length-1) 0) % v.getD (b.length-1) 0) wk ⟨by rw[Nat.mul_comm];exact Nat.div_add_mod _ _,guess_first0 z5 z4 hv1p hg3,Nat.lt_trans (Nat.mod_lt _ hv1p) hg4,guess_top hv1p z1 hg2⟩ ?_
    rintro ⟨G,R⟩ ⟨hG0,hG1,hR,hGb⟩
    have hpq:G*v.getD (b.length-2) 0<=1999999999*999999999:=Nat.mul_le_mul hGb (by omega)
    refine jB<|jB<|kd [(123,(vb (decide (1000000000<=((G:Nat):Int))||decide (((((R*1000000000)+(u.getD ((j+b.length)-2) 0)):Nat):Int)<(((G*(v.getD (b.length-2) 0)):Nat):Int)))))] [] mo ?_ ?_
    ·refine wM<|wE oGe<|wE (oV (vb (decide (1000000000<=((G:Nat):Int)))) (qE (by kernel_rfl)))<|?_
     rcases hb3:(decide (1000000000<=((G:Nat):Int))) with _ | _
     ·replace hb3:=xJ hb3
      exact wM<|wM<|wM<|wE (oSb (b.length-2))<|wE (cR kB (b.length-2) (0:Nat))<|wE (nF qI)<|wE (nP zU xX (v.getD (b.length-2) 0))<|wE (oMl (G*(v.getD (b.length-2) 0)))<|wM<|wE (oMl (R*1000000000))<|wM<|wM<|wM<|wE (xO (j+b.length))<|wE (oSb ((j+b.length)-2))<|wE (xS kB ((j+b.length)-2))<|wR (cV qI ((j+b.length)-2) (0:Nat))<|wE (nP zU xX (u.getD ((j+b.length)-2) 0))<|wE (xO ((R*1000000000)+(u.getD ((j+b.length)-2) 0)))<|wE eA<|wE fW<|wZ
     ·replace hb3:=vW hb3
      exact wK<|wK<|wK<|wK<|wK<|wK<|wK<|wK<|wK<|wK<|wK<|wK<|wK<|wK<|wK<|wK<|wK<|wK<|wK<|wK<|wE nT<|wZ
    refine jF rfl (fun h4=>?_) (fun h4=>?_)
    ·rw[Bool.or_eq_true,decide_eq_true_eq,decide_eq_true_eq] at h4
     have hgl:=guess_less (pw_pos _) z5 z4 hG0 hG1 hv1p z2 (by omega)
     refine jH<|jL<|jB<|kx [(12,(yI (G-1)))] [] (zM<|zE (oSb (G-1))<|zM<|zZ) ?_
     refine jB<|kx [(13,(yI (R+(v.getD (b.length-1) 0))))] [] (zM<|zM<|zM<|zE (oSb (b.length-1))<|zE (cR kB (b.length-1) (0:Nat))<|zE (nF qI)<|zE (nP zU xX (v.getD (b.length-1) 0))<|zE (xO (R+(v.getD (b.length-1) 0)))<|zM<|zZ) ?_
     refine jB<|kx [(135,(vb (decide (1000000000<=(((R+(v.getD (b.length-1) 0)):Nat):Int)))))] [] (zM<|zE oGe<|zZ) ?_
     refine jF rfl (fun h5=>?_) (fun h5=>?_)
     ·replace h5:=vW h5
      refine kQ ?_
      refine pjoin_exit (id:=2) (α:=Nat × Nat) (Q:=fun _ _=>True) (St:=fun (G,R)=>⟨[(4,(.own 1 107 1 ((u0++[0]).length-b.length))),(6,(fV (mO b))),(7,(.own 0 107 1 ((u0++[0]).length))),(8,(vl 107 1 jD v)),(9,(kJ b.length)),(10,(kJ j)),(12,(yI G))],[(0,some (bm jD u)),(1,some (bm jD q))]⟩) (I:=fun (G,R)=>G<1000000000/\val (u.drop j) / val v<=G/\G<=val (u.drop j) / val v+1) ?_
      exact ⟨(G-1,R+v.getD (b.length-1) 0),wk,(by have hd:=guess_dec hgl.2 hG0;have hgb:=guess_break hd z1 hg2 (by omega);exact ⟨hgb,hgl.1,guess_near z6 z3 hd hv1p (by omega) hgb (Nat.le_trans (Nat.mul_le_mul (show G-1<=999999999 by omega) (show v.getD (b.length-2) 0<=999999999 by omega)) (by omega))⟩)⟩
     ·replace h5:=xJ h5
      refine jH ?_
      exact ⟨(G-1,R+v.getD (b.length-1) 0),wk,(by exact ⟨guess_dec hgl.2 hG0,hgl.1,by omega,by omega⟩),(by first|omega|(dsimp only;omega))⟩
    ·refine kQ ?_
     refine pjoin_exit (id:=2) (α:=Nat × Nat) (Q:=fun _ _=>True) (St:=fun (G,R)=>⟨[(4,(.own 1 107 1 ((u0++[0]).length-b.length))),(6,(fV (mO b))),(7,(.own 0 107 1 ((u0++[0]).length))),(8,(vl 107 1 jD v)),(9,(kJ b.length)),(10,(kJ j)),(12,(yI G))],[(0,some (bm jD u)),(1,some (bm jD q))]⟩) (I:=fun (G,R)=>G<1000000000/\val (u.drop j) / val v<=G/\G<=val (u.drop j) / val v+1) ?_
     exact ⟨(G,R),wk,(by rw[Bool.or_eq_false_iff,decide_eq_false_iff_not,decide_eq_false_iff_not] at h4;exact ⟨by omega,hG1,guess_near z6 z3 hG0 hv1p (by omega) (by omega) (by omega)⟩)⟩
   ·rintro ⟨G,R⟩ ⟨hG,hG1,hG2⟩
    have hjn:j+b.length<(u0++[0]).length:=by omega
    refine jB<|kx [(14,(kJ 0)),(15,(yI 0))] [] (zM<|zM<|zZ) ?_
    refine jB<|jB<|kx [(136,(kJ b.length)),(137,(kJ 0))] [] (zM<|zM<|zZ) ?_
    refine jL<|kW (α:=Nat × List Nat × Nat × Nat) (fun (i,u2,bo,ca)=>⟨[(4,(.own 1 107 1 ((u0++[0]).length-b.length))),(6,(fV (mO b))),(7,(.own 0 107 1 ((u0++[0]).length))),(8,(vl 107 1 jD v)),(9,(kJ b.length)),(10,(kJ j)),(12,(yI G)),(14,(vi ((bo:Nat):Int))),(15,(yI ca)),(136,(kJ b.length)),(137,(kJ i))],[(0,some (bm jD u2)),(1,some (bm jD q))]⟩) (fun (i,u2,bo,ca)=>u2.length=(u0++[0]).length/\Dig u2/\u2.take j=u.take j/\u2.drop (j+i)=u.drop (j+i)/\i<=b.length/\bo<=1/\ca<1000000000/\val ((u2.drop j).take i)+G*val (v.take i)=val ((u.drop j).take i)+pw i*(ca+bo)) (fun (i,u2,bo,ca)=>b.length-i) (0,u,0,0) wk ⟨qG,hu,rfl,rfl,Nat.zero_le _,Nat.zero_le _,by decide,by simp [val]⟩ ?_
    rintro ⟨i,u2,bo,ca⟩ ⟨hl2,hd2,ht2,hd2',hin,hbo,hca,hv2⟩
    have hgi:=hvd.getD i
    have hgu:=hd2.getD (i+j)
    have hpq:G*v.getD i 0<=999999999*999999999:=Nat.mul_le_mul (by omega) (by omega)
    refine jB<|kx [(138,(vb (decide (((i:Nat):Int)<((b.length:Nat):Int)))))] [] (zE nD<|zZ) ?_
    refine jB<|jF rfl (fun h6=>?_) (fun h6=>?_)
    ·replace h6:=vW h6
     have hi:i<b.length:=by omega
     refine jH<|jB<|jL<|jB<|kx [(16,(kJ i))] [] (zM<|zM<|zZ) ?_
     refine jB<|kx [(17,(yI ((G*(v.getD i 0))+ca)))] [] (zM<|zM<|zM<|zE (cR kB i (0:Nat))<|zE (nF qI)<|zE (nP zU xX (v.getD i 0))<|zE (oMl (G*(v.getD i 0)))<|zM<|zE (xO ((G*(v.getD i 0))+ca))<|zM<|zZ) ?_
     refine jB<|kx [(15,(yI (((G*(v.getD i 0))+ca) / 1000000000)))] [] (zM<|zE (oQu (((G*(v.getD i 0))+ca) / 1000000000))<|zM<|zZ) ?_
     refine jB<|kx [(18,(vi (((((u2.getD (i+j) 0):Nat):Int)-((bo:Nat):Int))-(((((G*(v.getD i 0))+ca) % 1000000000):Nat):Int))))] [] (zM<|zM<|zM<|zE (xO (i+j))<|zE (xS kB (i+j))<|zR (cV qI (i+j) (0:Nat))<|zE (nP zU in2 (u2.getD (i+j) 0))<|zM<|zE (zSb ((((u2.getD (i+j) 0):Nat):Int)-((bo:Nat):Int)))<|zM<|zE (oRe (((G*(v.getD i 0))+ca) % 1000000000))<|zE (nP gB in2 (((G*(v.getD i 0))+ca) % 1000000000))<|zE (zSb (((((u2.getD (i+j) 0):Nat):Int)-((bo:Nat):Int))-(((((G*(v.getD i 0))+ca) % 1000000000):Nat):Int)))<|zM<|zZ) ?_
     refine jB<|kx [(14,(kJ 0))] [] (zM<|zZ) ?_
     refine jB<|jB<|kx [(165,(vb (decide ((((((u2.getD (i+j) 0):Nat):Int)-((bo:Nat):Int))-(((((G*(v.getD i 0))+ca) % 1000000000):Nat):Int))<0))))] [] (zM<|zE nD<|zZ) ?_
     refine jF rfl (fun h7=>?_) (fun h7=>?_)
     ·replace h7:=vW h7
      refine kx [(14,(kJ 1)),(18,(vi ((((((u2.getD (i+j) 0):Nat):Int)-((bo:Nat):Int))-(((((G*(v.getD i 0))+ca) % 1000000000):Nat):Int))+1000000000)))] [] (zM<|zE (zAd ((((((u2.getD (i+j) 0):Nat):Int)-((bo:Nat):Int))-(((((G*(v.getD i 0))+ca) % 1000000000):Nat):Int))+1000000000))<|zM<|zM<|zZ) ?_
      refine kx [] [(0,some (bm jD (u2.set (i+j) ((u2.getD (i+j) 0+1000000000)-bo-(G*v.getD i 0+ca) % 1000000000))))] (zM<|zM<|zM<|zE (xO (i+j))<|zM<|zE (nP un2 yN ((u2.getD (i+j) 0+1000000000)-bo-(G*v.getD i 0+ca) % 1000000000) (hr:=by exact (wu32 (by omega) (by omega) (by omega))))<|zE (xS kB (i+j))<|zT (cU qI (i+j) ((u2.getD (i+j) 0+1000000000)-bo-(G*v.getD i 0+ca) % 1000000000))<|zZ) ?_
      refine kx [(137,(kJ (i+1)))] [] (zE (xO (i+1))<|zM<|zZ) ?_
      exact ⟨(i+1,u2.set (i+j) ((u2.getD (i+j) 0+1000000000)-bo-(G*v.getD i 0+ca) % 1000000000),1,(G*v.getD i 0+ca) / 1000000000),wk,(by obtain ⟨q1,q2,q3,q4,q5⟩:=msub_step (v:=v) (L:=(u0++[0]).length) (e:=(u2.getD (i+j) 0+1000000000)-bo-(G*v.getD i 0+ca) % 1000000000) (borrow':=1) hjn hi hl2 qG hd2 ht2 hd2' hv2 rfl (by omega) (by omega);exact ⟨q1,q2,q3,q4,by omega,by omega,by omega,q5⟩),(by first|omega|(dsimp only;omega))⟩
     ·replace h7:=xJ h7
      refine jH<|kx [] [(0,some (bm jD (u2.set (i+j) (u2.getD (i+j) 0-bo-(G*v.getD i 0+ca) % 1000000000))))] (zM<|zM<|zM<|zE (xO (i+j))<|zM<|zE (nP un2 yN (u2.getD (i+j) 0-bo-(G*v.getD i 0+ca) % 1000000000) (hr:=by exact (wu32 (by omega) (by omega) (by omega))))<|zE (xS kB (i+j))<|zT (cU qI (i+j) (u2.getD (i+j) 0-bo-(G*v.getD i 0+ca) % 1000000000))<|zZ) ?_
      refine kx [(137,(kJ (i+1)))] [] (zE (xO (i+1))<|zM<|zZ) ?_
      exact ⟨(i+1,u2.set (i+j) (u2.getD (i+j) 0-bo-(G*v.getD i 0+ca) % 1000000000),0,(G*v.getD i 0+ca) / 1000000000),wk,(by obtain ⟨q1,q2,q3,q4,q5⟩:=msub_step (v:=v) (L:=(u0++[0]).length) (e:=u2.getD (i+j) 0-bo-(G*v.getD i 0+ca) % 1000000000) (borrow':=0) hjn hi hl2 qG hd2 ht2 hd2' hv2 rfl (by omega) (by omega);exact ⟨q1,q2,q3,q4,by omega,by omega,by omega,q5⟩),(by first|omega|(dsimp only;omega))⟩
    ·replace h6:=xJ h6
     have hie:i=b.length:=by omega
     rw[hie] at hd2' hv2 hin
     obtain ⟨m1,m2,m3⟩:=msub_end hu hd2 hvd hvl hW hG1 hG2 hd2' hv2
     refine kQ<|jB<|kx [(19,(vi (((((u2.getD (j+b.length) 0):Nat):Int)-((bo:Nat):Int))-((ca:Nat):Int))))] [] (zM<|zM<|zM<|zE (xO (j+b.length))<|zE (xS kB (j+b.length))<|zR (cV qI (j+b.length) (0:Nat))<|zE (nP zU in2 (u2.getD (j+b.length) 0))<|zM<|zE (zSb ((((u2.getD (j+b.length) 0):Nat):Int)-((bo:Nat):Int)))<|zM<|zE (nP gB in2 ca)<|zE (zSb (((((u2.getD (j+b.length) 0):Nat):Int)-((bo:Nat):Int))-((ca:Nat):Int)))<|zM<|zZ) ?_
     refine jB<|jB<|kx [(189,(vb (decide ((((((u2.getD (j+b.length) 0):Nat):Int)-((bo:Nat):Int))-((ca:Nat):Int))<0))))] [] (zM<|zE nD<|zZ) ?_
     refine jF rfl (fun h8=>?_) (fun h8=>?_)
     ·replace h8:=vW h8
      obtain ⟨n1,n2,r,n3,n4,n5⟩:=m2 (by omega)
      refine jB<|kx [] [(0,some (bm jD (u2.set (j+b.length) 999999999)))] (zM<|zM<|zM<|zE (xO (j+b.length))<|zM<|zE (zAd ((((((u2.getD (j+b.length) 0):Nat):Int)-((bo:Nat):Int))-((ca:Nat):Int))+1000000000))<|zE (nP un2 yN 999999999 (hr:=by exact (wu32 (by omega) (by omega) (by omega))))<|zE (xS kB (j+b.length))<|zT (cU qI (j+b.length) 999999999)<|zZ) ?_
      refine jB<|kx [(12,(yI (G-1)))] [] (zM<|zE (oSb (G-1))<|zM<|zZ) ?_
      refine jB<|kx [(20,(fV 0))] [] (zM<|zZ) ?_
      refine jB<|jB<|kx [(200,(kJ b.length)),(201,(kJ 0))] [] (zM<|zM<|zZ) ?_
      refine jL<|kW (α:=Nat × List Nat × Nat) (fun (i,u3,c)=>⟨[(4,(.own 1 107 1 ((u0++[0]).length-b.length))),(6,(fV (mO b))),(7,(.own 0 107 1 ((u0++[0]).length))),(8,(vl 107 1 jD v)),(9,(kJ b.length)),(10,(kJ j)),(12,(yI (G-1))),(20,(fV c)),(200,(kJ b.length)),(201,(kJ i))],[(0,some (bm jD u3)),(1,some (bm jD q))]⟩) (fun (i,u3,c)=>u3.length=(u0++[0]).length/\Dig u3/\u3.take j=(u2.set (j+b.length) 999999999).take j/\u3.drop (j+i)=(u2.set (j+b.length) 999999999).drop (j+i)/\i<=b.length/\c<=1/\val ((u3.drop j).take i)+pw i*c=val (((u2.set (j+b.length) 999999999).drop j).take i)+val (v.take i)) (fun (i,u3,c)=>b.length-i) (0,u2.set (j+b.length) 999999999,0) wk ⟨by simpa using hl2,hd2.set _ (by decide),rfl,rfl,Nat.zero_le _,Nat.zero_le _,by simp [val]⟩ ?_
      rintro ⟨i,u3,c⟩ ⟨hl3,hd3,ht3,hd3',hin,hc,hv3⟩
      have hgi:=hvd.getD i
      have hgu:=hd3.getD (i+j)
      have hgt:=hd3.getD (j+b.length)
      refine jB<|kx [(202,(vb (decide (((i:Nat):Int)<((b.length:Nat):Int)))))] [] (zE nD<|zZ) ?_
      refine jB<|jF rfl (fun h9=>?_) (fun h9=>?_)
      ·replace h9:=vW h9
       have hi:i<b.length:=by omega
       refine jH<|jB<|jL<|jB<|kx [(21,(kJ i))] [] (zM<|zM<|zZ) ?_
       refine jB<|kd [(22,(fV (((u3.getD (i+j) 0)+(v.getD i 0))+c)))] [] mo (wM<|wM<|wM<|wE (xO (i+j))<|wE (xS kB (i+j))<|wR (cV qI (i+j) (0:Nat))<|wM<|wM<|wE (cR kB i (0:Nat))<|wE (nF qI)<|wE (xO ((u3.getD (i+j) 0)+(v.getD i 0)))<|wM<|wE (xO (((u3.getD (i+j) 0)+(v.getD i 0))+c))<|wM<|wZ) ?_
       refine jB<|kx [(20,(fV 0))] [] (zM<|zZ) ?_
       refine jB<|jB<|kx [(218,(vb (decide (1000000000<=(((((u3.getD (i+j) 0)+(v.getD i 0))+c):Nat):Int)))))] [] (zM<|zE oGe<|zZ) ?_
       refine jF rfl (fun h10=>?_) (fun h10=>?_)
       ·replace h10:=vW h10
        refine kx [(20,(fV 1)),(22,(fV ((((u3.getD (i+j) 0)+(v.getD i 0))+c)-1000000000)))] [] (zM<|zE (oSb ((((u3.getD (i+j) 0)+(v.getD i 0))+c)-1000000000))<|zM<|zM<|zZ) ?_
        refine kx [] [(0,some (bm jD (u3.set (i+j) ((((u3.getD (i+j) 0)+(v.getD i 0))+c)-1000000000))))] (zM<|zM<|zM<|zE (xO (i+j))<|zM<|zE (xS kB (i+j))<|zT (cU qI (i+j) ((((u3.getD (i+j) 0)+(v.getD i 0))+c)-1000000000))<|zZ) ?_
        refine kx [(201,(kJ (i+1)))] [] (zE (xO (i+1))<|zM<|zZ) ?_
        exact ⟨(i+1,u3.set (i+j) (u3.getD (i+j) 0+v.getD i 0+c-1000000000),1),wk,(by obtain ⟨q1,q2,q3,q4,q5⟩:=addb_step (v:=v) (L:=(u0++[0]).length) (s:=u3.getD (i+j) 0+v.getD i 0+c) (e:=u3.getD (i+j) 0+v.getD i 0+c-1000000000) (c':=1) hjn hi hl3 (by simpa using hl2) hd3 ht3 hd3' hv3 rfl (by omega) (by omega);exact ⟨q1,q2,q3,q4,by omega,by omega,q5⟩),(by first|omega|(dsimp only;omega))⟩
       ·replace h10:=xJ h10
        refine jH<|kx [] [(0,some (bm jD (u3.set (i+j) (((u3.getD (i+j) 0)+(v.getD i 0))+c))))] (zM<|zM<|zM<|zE (xO (i+j))<|zM<|zE (xS kB (i+j))<|zT (cU qI (i+j) (((u3.getD (i+j) 0)+(v.getD i 0))+c))<|zZ) ?_
        refine kx [(201,(kJ (i+1)))] [] (zE (xO (i+1))<|zM<|zZ) ?_
        exact ⟨(i+1,u3.set (i+j) (u3.getD (i+j) 0+v.getD i 0+c),0),wk,(by obtain ⟨q1,q2,q3,q4,q5⟩:=addb_step (v:=v) (L:=(u0++[0]).length) (s:=u3.getD (i+j) 0+v.getD i 0+c) (e:=u3.getD (i+j) 0+v.getD i 0+c) (c':=0) hjn hi hl3 (by simpa using hl2) hd3 ht3 hd3' hv3 rfl (by omega) (by omega);exact ⟨q1,q2,q3,q4,by omega,by omega,q5⟩),(by first|omega|(dsimp only;omega))⟩
      ·replace h9:=xJ h9
       have hie2:i=b.length:=by omega
       rw[hie2] at hd3' hv3 hin
       refine kQ<|kx [] [(0,some (bm jD (u3.set (j+b.length) (((u3.getD (j+b.length) 0)+c) % 1000000000))))] (zM<|zM<|zM<|zE (xO (j+b.length))<|zM<|zM<|zM<|zE (xO (j+b.length))<|zE (xS kB (j+b.length))<|zR (cV qI (j+b.length) (0:Nat))<|zM<|zE (xO ((u3.getD (j+b.length) 0)+c))<|zE (oRe (((u3.getD (j+b.length) 0)+c) % 1000000000))<|zE (xS kB (j+b.length))<|zT (cU qI (j+b.length) (((u3.getD (j+b.length) 0)+c) % 1000000000))<|zZ) ?_
       refine kx [] [(1,some (bm jD (q.set j (G-1))))] (zM<|zM<|zM<|zE (nP gB yN (G-1))<|zE (xS kB j)<|zT (cU qI j (G-1))<|zZ) ?_
       refine kx [(10,(vi (((j:Nat):Int)-1)))] [] (zM<|zE (zSb (((j:Nat):Int)-1))<|zM<|zZ) ?_
       exact ⟨(j,u3.set (j+b.length) ((u3.getD (j+b.length) 0+c) % 1000000000),q.set j (G-1)),wk,(by obtain ⟨p1,p2⟩:=neg_end hd3 hvd hvl (by omega) (by omega) (hl2.trans qG.symm) (hl3.trans qG.symm) ht2 hd2' hW hc ht3 hd3' hv3 n3 n4 n5 hU;exact ⟨by simpa using hl3,hd3.set _ (Nat.mod_lt _ (by decide)),by simpa using hql,hqd.set _ (by omega),by omega,p1,p2⟩),(by first|omega|(dsimp only;omega))⟩
     ·replace h8:=xJ h8
      obtain ⟨n1,n2,n3⟩:=m3 (by omega)
      refine kx [] [(0,some (bm jD (u2.set (j+b.length) 0)))] (zM<|zM<|zM<|zE (xO (j+b.length))<|zM<|zE (nP un2 yN 0 (hr:=by exact (wu32 (by omega) (by omega) (by omega))))<|zE (xS kB (j+b.length))<|zT (cU qI (j+b.length) 0)<|zZ) ?_
      refine kx [] [(1,some (bm jD (q.set j G)))] (zM<|zM<|zM<|zE (nP gB yN G)<|zE (xS kB j)<|zT (cU qI j G)<|zZ) ?_
      refine kx [(10,(vi (((j:Nat):Int)-1)))] [] (zM<|zE (zSb (((j:Nat):Int)-1))<|zM<|zZ) ?_
      exact ⟨(j,u2.set (j+b.length) 0,q.set j G),wk,(by obtain ⟨p1,p2⟩:=pos_end hu hvd hvl (by omega) (by omega) (hl2.trans qG.symm) ht2 hd2' hW n2 n3 hU;exact ⟨by simpa using hl2,hd2.set _ (by decide),by simpa using hql,hqd.set _ (by omega),by omega,p1,p2⟩),(by first|omega|(dsimp only;omega))⟩
  ·replace h2:=xJ h2
   obtain rfl:k=0:=by omega
   obtain ⟨e1,e2⟩:=scl_div hdb (by omega) (by rw[hvv] at hU;exact hU) (by rw[hvv] at hW;exact hW)
   rw[List.drop_zero] at hW
   refine kQ<|jB<|qH (zY (t:=7) (k:=0) (es:=List.map jD u) rfl rfl (vD _ _ (fun _=>rfl)) (vY _ _ qG) (xB _ _ (fun _=>rfl) qG)) ?_
   refine kx [(5,(vl 107 1 jD (ofNat (val (ofNat (val (List.take b.length u))) / (mO b)))))] [] (zM<|zM<|zE (e_slc (l:=0) (h:=b.length) (kl:=.i64) (kh:=.i64) (es':=List.map jD (List.take b.length u)) (by exact rfl) kB (by exact rfl) (by exact rfl) (by exact rfl) (Nat.zero_le _) (by simp only[List.length_map];omega) (by rw[List.drop_zero,List.map_take]))<|zE (kF (t_trim (List.take b.length u) (hu.take _) (by rw[List.length_take];omega)))<|zM<|zE (kF (t_short (ofNat (val (List.take b.length u))) (mO b) (jZ _) (by omega) (by omega) (Nat.le_trans (ofNat_val_len (hu.take _)) (by rw[List.length_take];omega))))<|zM<|zE yM<|zE yM<|zM<|zZ) ?_
   refine jB<|qH (zY (t:=4) (k:=1) (es:=List.map jD q) rfl rfl (vD _ _ (fun _=>rfl)) (vY _ _ hql) (xB _ _ (fun _=>rfl) hql)) ?_
   refine kx [(4,(vl 107 1 jD (ofNat (val q)))),(5,(vl 107 1 jD (ofNat (val (ofNat (val (List.take b.length u))) / (mO b)))))] [] (zM<|zE (kF (t_trim q hqd (by omega)))<|zM<|zM<|zM<|zZ) ?_
   refine jE ⟨_,(.tmp (d:=(.sl 107 1 (List.map jD (ofNat (val q))))) rfl (.tmp (d:=(.sl 107 1 (List.map jD (ofNat (val (ofNat (val (List.take b.length u))) / (mO b)))))) rfl .nil)),?_⟩
   rw[<- e1,<- e2,jY,val_take_of_lt (Nat.lt_trans hW (by rw[<- hvl];exact uZ hvd))];rfl
theorem t_over(a b:List Nat)(ha:yF a)(hb:yF b)(hb0:0<val b)(hla:a.length<=1099511627776)(hlb:b.length<=1099511627776):jS Tryz.prog 157 [(.sl 107 1 (List.map jD a)),(.sl 107 1 (List.map jD b))] (.tup [(.sl 107 1 (List.map jD (ofNat (val a / val b)))),(.sl 107 1 (List.map jD (ofNat (val a % val b))))]):=by
 refine vA Tryz.func157 ?_
 refine jB<|kx [] [] (zE (eY 107 1)<|zE (eY 107 1)<|zZ) ?_
 refine jB<|jB<|kx [(15,(vb (decide ((uN ((val a:Nat):Int) ((val b:Nat):Int))<0))))] [] (zM<|zM<|zE (kF (t_compare a b ha hb (by omega)))<|zE nD<|zZ) ?_
 refine jF rfl (fun h1=>?_) (fun h1=>?_)
 ·replace h1:=vW h1
  refine jB<|kx [(4,(vl 107 1 jD [])),(5,(vl 107 1 jD a))] [] (zM<|zE (eY 107 1)<|zM<|zZ) ?_
  refine jE ⟨_,(.tmp (d:=(.sl 107 1 (List.map jD []))) rfl (.tmp (d:=(.sl 107 1 (List.map jD a))) rfl .nil)),?_⟩
  have hlt:=cmpI_neg h1
  rw[Nat.div_eq_of_lt hlt,Nat.mod_eq_of_lt hlt,qQ,<- can_eq ha];rfl
 ·replace h1:=xJ h1
  refine jH<|jB<|kx [(6,(yI (xZ a))),(7,(vb (nC a)))] [] (zM<|zE (kF (t_word a ha.1))<|zM<|zE yM<|zE yM<|zM<|zM<|zZ) ?_
  refine jB<|kx [(8,(yI (xZ b))),(9,(vb (nC b)))] [] (zM<|zE (kF (t_word b hb.1))<|zM<|zE yM<|zE yM<|zM<|zM<|zZ) ?_
  refine jB<|jB<|kx [(30,(vb ((nC a)&&(nC b))))] [] ?_ ?_
  ·refine zM<|zE (oV (vb (nC a)) (qE (by kernel_rfl)))<|?_
   rcases hb2:(nC a) with _ | _
   ·exact zK<|zE gG<|zZ
   ·exact zM<|zE dZ<|zZ
  refine jF (b:=((nC a)&&(nC b))) rfl (fun h3=>?_) (fun h3=>?_)
  ·obtain ⟨w1,w2,w3⟩:=word_both ha.1 h3
   have w4:xZ a / xZ b<18446744073709551616:=Nat.lt_of_le_of_lt (Nat.div_le_self _ _) (by omega)
   have w5:xZ a % xZ b<18446744073709551616:=Nat.lt_of_le_of_lt (Nat.mod_le _ _) (by omega)
   refine jB<|kd [(4,(vl 107 1 jD (ofNat ((xZ a) / (xZ b))))),(5,(vl 107 1 jD (ofNat ((xZ a) % (xZ b)))))] [] mo (wM<|wM<|wE (oQu ((xZ a) / (xZ b)))<|wE (kF (t_split ((xZ a) / (xZ b)) (by omega)))<|wM<|wM<|wE (oRe ((xZ a) % (xZ b)))<|wE (kF (t_split ((xZ a) % (xZ b)) (by omega)))<|wM<|wM<|wZ) ?_
   refine jE ⟨_,(.tmp (d:=(.sl 107 1 (List.map jD (ofNat ((xZ a) / (xZ b)))))) rfl (.tmp (d:=(.sl 107 1 (List.map jD (ofNat ((xZ a) % (xZ b)))))) rfl .nil)),?_⟩
   rw[w1,w2];rfl
  ·refine jH<|jB<|jB<|kx [(41,(vb (((b.length:Nat):Int) == 1)))] [] (zM<|zE (yD kB)<|zE yA<|zZ) ?_
   refine jF (b:=(((b.length:Nat):Int) == 1)) rfl (fun h4=>?_) (fun h4=>?_)
   ·replace h4:=eq_of_beq h4
    have hv1:=val_len1 (b:=b) (by omega)
    have hg:=hb.1.getD 0
    have w5:val a % b.getD 0 0<4294967296:=Nat.lt_trans (Nat.mod_lt _ (by omega)) (by omega)
    refine jB<|kx [(10,(vl 107 1 jD (ofNat (val a / (b.getD 0 0))))),(11,(fV (val a % (b.getD 0 0))))] [] (zM<|zM<|zE (cR kB 0 (0:Nat))<|zE (nF qI)<|zE (kF (t_short a (b.getD 0 0) ha.1 (by omega) (by omega) (by omega)))<|zM<|zE yM<|zE yM<|zM<|zM<|zZ) ?_
    refine jB<|kx [(4,(vl 107 1 jD (ofNat (val a / (b.getD 0 0))))),(5,(vl 107 1 jD (ofNat (val a % (b.getD 0 0)))))] [] (zM<|zM<|zE (nP zU xX (val a % (b.getD 0 0)))<|zE (kF (t_split (val a % (b.getD 0 0)) (by omega)))<|zM<|zM<|zZ) ?_
    refine jE ⟨_,(.tmp (d:=(.sl 107 1 (List.map jD (ofNat (val a / (b.getD 0 0)))))) rfl (.tmp (d:=(.sl 107 1 (List.map jD (ofNat (val a % (b.getD 0 0)))))) rfl .nil)),?_⟩
    rw[hv1];rfl
   ·replace h4:=ne_of_beq_false h4
    have hbl:=val_pos_len hb0
    refine jH<|jB<|kx [(4,(vl 107 1 jD (ofNat (val a / val b)))),(5,(vl 107 1 jD (ofNat (val a % val b))))] [] (zM<|zM<|zE (kF (t_long a b ha hb (by omega) (cmpI_nn h1) (by omega)))<|zE yM<|zE yM<|zM<|zM<|zZ) ?_
    refine jE ⟨_,(.tmp (d:=(.sl 107 1 (List.map jD (ofNat (val a / val b))))) rfl (.tmp (d:=(.sl 107 1 (List.map jD (ofNat (val a % val b))))) rfl .nil)),?_⟩
    rfl
theorem t_divideI(x y:kO)(hx:x.gs.length<=1099511627776)(hy:y.gs.length<=1099511627776)(hy0:jR y≠0):jS Tryz.prog 160 [(jO x),(jO y)] (.tup [(jO (kD ((jR x).fdiv (jR y)))),(jO (kD ((jR x).fmod (jR y)))),(.val (.int .i64 (0)))]):=by
 have hgx:=qD x
 have hlx:=yG x
 have hgy:=qD y
 have hly:=yG y
 have hn:0<val (kG y):=by have:=fY y;omega
 have hq:=len_quo (kG x) hgx (val (kG y))
 have hr:=len_rem (kG x) hgx (val (kG y))
 have hrn:=Nat.mod_lt (val (kG x)) hn
 refine vA Tryz.func160 ?_
 refine jB<|kx [(2,(.ref 0 0)),(3,(.ref 1 0)),(4,(.ref 2 0)),(5,(.ref 3 0))] [(0,some (bx (jO x))),(1,some (bx (jO y))),(2,some (bx (jO (kO.mk false [])))),(3,some (bx (jO (kO.mk false []))))] (zN (xH 0)<|zN (xH 1)<|zN (vT 2 gH gJ)<|zN (vT 3 gH gJ)<|zM<|zZ) ?_
 refine jB<|kd [(7,(vl 107 1 jD (kG x))),(8,(vl 107 1 jD (kG y)))] [] mo (wR (kV jX)<|wE (kF (yU x (by omega)))<|wR (kV jX)<|wE (kF (yU y (by omega)))<|wM<|wM<|wZ) ?_
 refine jB<|jB<|kx [(17,(vb ((((kG y).length:Nat):Int) == 0)))] [] (zM<|zE (yD kB (L:=(kG y)))<|zE yA<|zZ) ?_
 refine jF (b:=((((kG y).length:Nat):Int) == 0)) rfl (fun h1=>?_) (fun h1=>?_)
 ·replace h1:=eq_of_beq h1
  exact absurd (toZ_nil h1) hy0
 ·replace h1:=ne_of_beq_false h1
  refine jH<|jB<|kx [(9,(vl 107 1 jD (ofNat (val (kG x) / val (kG y))))),(10,(vl 107 1 jD (ofNat (val (kG x) % val (kG y)))))] [] (zM<|zM<|zE (kF (t_over (kG x) (kG y) hgx hgy (by omega) (by omega) (by omega)))<|zM<|zE yM<|zE yM<|zM<|zM<|zZ) ?_
  refine jB<|kx [(10,(vl 107 1 jD (ofNat (val (kG x) % val (kG y)))))] [] (zM<|zE (kF (t_clone (ofNat (val (kG x) % val (kG y))) (by omega)))<|zM<|zZ) ?_
  refine jB<|jB<|kx [(37,(vb (decide (0<(((ofNat (val (kG x) % val (kG y))).length:Nat):Int))&&!(x.neg == y.neg))))] [] ?_ ?_
  ·refine zM<|zE (yD kB (L:=(ofNat (val (kG x) % val (kG y)))))<|zE eA<|zE (oV (vb (decide (0<(((ofNat (val (kG x) % val (kG y))).length:Nat):Int)))) (qE (by kernel_rfl)))<|?_
   rcases hb2:(decide (0<(((ofNat (val (kG x) % val (kG y))).length:Nat):Int))) with _ | _
   ·replace hb2:=xJ hb2
    exact zK<|zK<|zK<|zK<|zK<|zE gG<|zZ
   ·replace hb2:=vW hb2
    exact zE (kL uT)<|zR (qK eK)<|zE (kL uT)<|zR (qK eK)<|zE (oNb bo4)<|zE dZ<|zZ
  refine jF rfl (fun h3=>?_) (fun h3=>?_)
  ·have e1:(ofNat (val (ofNat (val (kG x) / val (kG y)))+val [1])).length<=1099511627777:=qR (by rw[jY,mF];have:=ofNat_lt_pw (val (kG x) / val (kG y));have h3:pw (ofNat (val (kG x) / val (kG y))).length<=pw 1099511627776:=gD (by omega);have h4:=pw_lt (show 1099511627776<1099511627777 by decide);omega)
   have e2:=sub_len (b:=ofNat (val (kG x) % val (kG y))) hgy.1
   rw[Bool.and_eq_true,decide_eq_true_eq,Bool.not_eq_true',beq_eq_false_iff_ne] at h3
   obtain ⟨k1,k2⟩:=h3
   have k3:0<val (kG x) % val (kG y):=by have:=nU (kZ (val (kG x) % val (kG y))) (by omega);rwa [jY] at this
   obtain ⟨d1,d2⟩:=div_other hn k2 k3
   refine kx [(9,(vl 107 1 jD (ofNat (val (ofNat (val (kG x) / val (kG y)))+val [1])))),(10,(vl 107 1 jD (ofNat (val (kG y)-val (ofNat (val (kG x) % val (kG y)))))))] [] (zM<|zE (oBs kB uY zL)<|zE (kF (t_plus (ofNat (val (kG x) / val (kG y))) [1] (jZ _) (zD.2 ⟨by decide,yR⟩) (by omega) (by decide)))<|zM<|zM<|zE (kF (t_minus (kG y) (ofNat (val (kG x) % val (kG y))) hgy.1 (jZ _) (by rw[jY];omega) (by omega)))<|zM<|zM<|zZ) ?_
   refine jB<|kd [(6,(kJ 0))] [(2,some (bx (jO (vL (!(x.neg == y.neg)) (val (ofNat (val (ofNat (val (kG x) / val (kG y)))+val [1]))))))),(3,some (bx (jO (vL y.neg (val (ofNat (val (kG y)-val (ofNat (val (kG x) % val (kG y))))))))))] mo (wE (kL uT)<|wR (qK eK)<|wE (kL uT)<|wR (qK eK)<|wE (oNb bo4)<|wM<|wE (kF (mY (!(x.neg == y.neg)) (ofNat (val (ofNat (val (kG x) / val (kG y)))+val [1])) (jZ _) (by omega)))<|wE (kL uT)<|wR (qK eK)<|wM<|wE (kF (mY y.neg (ofNat (val (kG y)-val (ofNat (val (kG x) % val (kG y))))) (jZ _) (by omega)))<|wT (qU jX)<|wT (qU jX)<|wM<|wZ) ?_
   refine jE ⟨_,(kS (cs:=(bx (jO (vL (!(x.neg == y.neg)) (val (ofNat (val (ofNat (val (kG x) / val (kG y)))+val [1]))))))) (d:=(jO (vL (!(x.neg == y.neg)) (val (ofNat (val (ofNat (val (kG x) / val (kG y)))+val [1])))))) rfl rfl jX rfl rfl (kS (cs:=(bx (jO (vL y.neg (val (ofNat (val (kG y)-val (ofNat (val (kG x) % val (kG y)))))))))) (d:=(jO (vL y.neg (val (ofNat (val (kG y)-val (ofNat (val (kG x) % val (kG y))))))))) rfl rfl jX rfl rfl (.tmp (d:=(.val (.int .i64 (0)))) rfl .nil))),?_⟩
   unfold jR
   rw[d1,d2]
   simp only[jY,mF]
   rfl
  ·obtain ⟨d1,d2⟩:=div_same (b:=x.neg) (c:=y.neg) (m:=val (kG x)) hn (by rw[Bool.and_eq_false_iff,decide_eq_false_iff_not,Bool.not_eq_false',beq_iff_eq] at h3;rcases h3 with k | k;right;have:=cB (n:=val (kG x) % val (kG y));omega;exact .inl k)
   refine jH<|jB<|kd [(6,(kJ 0))] [(2,some (bx (jO (vL (!(x.neg == y.neg)) (val (ofNat (val (kG x) / val (kG y)))))))),(3,some (bx (jO (vL y.neg (val (ofNat (val (kG x) % val (kG y))))))))] mo (wE (kL uT)<|wR (qK eK)<|wE (kL uT)<|wR (qK eK)<|wE (oNb bo4)<|wM<|wE (kF (mY (!(x.neg == y.neg)) (ofNat (val (kG x) / val (kG y))) (jZ _) (by omega)))<|wE (kL uT)<|wR (qK eK)<|wM<|wE (kF (mY y.neg (ofNat (val (kG x) % val (kG y))) (jZ _) (by omega)))<|wT (qU jX)<|wT (qU jX)<|wM<|wZ) ?_
   refine jE ⟨_,(kS (cs:=(bx (jO (vL (!(x.neg == y.neg)) (val (ofNat (val (kG x) / val (kG y)))))))) (d:=(jO (vL (!(x.neg == y.neg)) (val (ofNat (val (kG x) / val (kG y))))))) rfl rfl jX rfl rfl (kS (cs:=(bx (jO (vL y.neg (val (ofNat (val (kG x) % val (kG y)))))))) (d:=(jO (vL y.neg (val (ofNat (val (kG x) % val (kG y))))))) rfl rfl jX rfl rfl (.tmp (d:=(.val (.int .i64 (0)))) rfl .nil))),?_⟩
   unfold jR
   rw[d1,d2]
   simp only[jY]
   rfl
theorem t_gcdI(x y:kO)(hx:x.gs.length<=1099511627776)(hy:y.gs.length<=1099511627776):jS Tryz.prog 86 [(jO x),(jO y)] (jO (kD ((Int.gcd (jR x) (jR y):Nat):Int))):=by
 have hgx:=qD x
 have hlx:=yG x
 have hgy:=qD y
 have hly:=yG y
 refine vA Tryz.func86 ?_
 refine jB<|kx [(2,(.ref 0 0)),(3,(.ref 1 0)),(4,(.ref 2 0))] [(0,some (bx (jO x))),(1,some (bx (jO y))),(2,some (bx (jO (kO.mk false []))))] (zN (xH 0)<|zN (xH 1)<|zN (vT 2 gH gJ)<|zZ) ?_
 refine jB<|kd [(5,(vl 107 1 jD (kG x))),(6,(vl 107 1 jD (kG y)))] [] mo (wR (kV jX)<|wE (kF (yU x (by omega)))<|wR (kV jX)<|wE (kF (yU y (by omega)))<|wM<|wM<|wZ) ?_
 refine jB<|jL<|kW (α:=List Nat × List Nat) (fun (a,b)=>⟨[(4,(.ref 2 0)),(5,(vl 107 1 jD a)),(6,(vl 107 1 jD b))],[(2,some (bx (jO (kO.mk false []))))]⟩) (fun (a,b)=>yF a/\yF b/\a.length<=1099511627776/\b.length<=1099511627776/\Nat.gcd (val a) (val b)=Int.gcd (jR x) (jR y)) (fun (a,b)=>val b) (kG x,kG y) wk ⟨hgx,hgy,by omega,by omega,gcd_toZ x y⟩ ?_
 rintro ⟨a,b⟩ ⟨ha,hb,hla,hlb,hg⟩
 refine jB<|jB<|kx [(19,(vb (decide (0<((b.length:Nat):Int)))))] [] (zM<|zE (yD kB)<|zE eA<|zZ) ?_
 refine jF (b:=decide (0<((b.length:Nat):Int))) rfl (fun h1=>?_) (fun h1=>?_)
 ·replace h1:=vW h1
  have hb0:=nU hb (by omega)
  refine jH<|jL<|jB<|kx [(7,(yI (xZ a))),(8,(vb (nC a)))] [] (zM<|zE (kF (t_word a ha.1))<|zM<|zE yM<|zE yM<|zM<|zM<|zZ) ?_
  refine jB<|kx [(9,(yI (xZ b))),(10,(vb (nC b)))] [] (zM<|zE (kF (t_word b hb.1))<|zM<|zE yM<|zE yM<|zM<|zM<|zZ) ?_
  refine jB<|jB<|kx [(33,(vb ((nC a)&&(nC b))))] [] ?_ ?_
  ·refine zM<|zE (oV (vb (nC a)) (qE (by kernel_rfl)))<|?_
   rcases hb2:(nC a) with _ | _
   ·exact zK<|zE gG<|zZ
   ·exact zM<|zE dZ<|zZ
  refine jF (b:=((nC a)&&(nC b))) rfl (fun h3=>?_) (fun h3=>?_)
  ·obtain ⟨w1,w2,w3⟩:=word_both ha.1 h3
   have w4:val b<1000000000000000000:=by rw[Bool.and_eq_true] at h3;exact val_len2 hb.1 (vW h3.2)
   refine jB<|jL<|kW (α:=Nat × Nat) (fun (m,n)=>⟨[(4,(.ref 2 0)),(7,(yI m)),(9,(yI n))],[(2,some (bx (jO (kO.mk false []))))]⟩) (fun (m,n)=>m<1000000000000000000/\n<1000000000000000000/\Nat.gcd m n=Int.gcd (jR x) (jR y)) (fun (m,n)=>n) (xZ a,xZ b) wk ⟨by omega,by omega,by rw[w1,w2];exact hg⟩ ?_
   rintro ⟨m,n⟩ ⟨hm,hn,hg2⟩
   refine jB<|jB<|kx [(35,(vb (decide (0<((n:Nat):Int)))))] [] (zM<|zE eA<|zZ) ?_
   refine jF (b:=decide (0<((n:Nat):Int))) rfl (fun h4=>?_) (fun h4=>?_)
   ·replace h4:=vW h4
    refine jH<|jL<|kd [(7,(yI n)),(9,(yI (m % n)))] [] mo (wM<|wM<|wM<|wE (oRe (m % n))<|wM<|wM<|wZ) ?_
    exact ⟨(n,m % n),wk,⟨hn,Nat.lt_of_le_of_lt (Nat.mod_le _ _) hm,by rw[<- hg2,Nat.gcd_comm,<- Nat.gcd_rec,Nat.gcd_comm]⟩,(by dsimp only;exact Nat.mod_lt _ (by omega))⟩
   ·replace h4:=xJ h4
    obtain rfl:n=0:=by omega
    rw[Nat.gcd_zero_right] at hg2
    refine kQ<|jB<|kx [] [(2,some (bx (jO (vL false (val (ofNat m))))))] (zM<|zE (kF (t_split m (by omega)))<|zE (kF (mY false (ofNat m) (jZ _) (Nat.le_trans (dN (by omega)) (by decide))))<|zT (qU jX)<|zZ) ?_
    refine jE ⟨_,(kS (cs:=(bx (jO (vL false (val (ofNat m)))))) (d:=(jO (vL false (val (ofNat m))))) rfl rfl jX rfl rfl .nil),?_⟩
    rw[<- hg2,jY,mkI_false];rfl
  ·refine jH<|jB<|kx [(12,(vl 107 1 jD (ofNat (val a % val b))))] [] (zM<|zM<|zE (kF (t_over a b ha hb hb0 (by omega) (by omega)))<|zM<|zE yM<|zE yM<|zM<|zM<|zZ) ?_
   refine kx [(5,(vl 107 1 jD b)),(6,(vl 107 1 jD (ofNat (val a % val b))))] [] (zM<|zM<|zM<|zM<|zZ) ?_
   exact ⟨(b,ofNat (val a % val b)),wk,⟨hb,kZ _,hlb,Nat.le_trans (len_rem a ha _) hla,by rw[jY,<- hg,Nat.gcd_comm,<- Nat.gcd_rec,Nat.gcd_comm]⟩,(by dsimp only;rw[jY];exact Nat.mod_lt _ hb0)⟩
 ·replace h1:=xJ h1
  have hb1:b=[]:=List.eq_nil_of_length_eq_zero (by omega)
  rw[hb1,val_nil,Nat.gcd_zero_right] at hg
  refine kQ<|jB<|kx [] [(2,some (bx (jO (vL false (val a)))))] (zM<|zE (kF (t_clone a (by omega)))<|zE (kF (mY false a ha.1 (by omega)))<|zT (qU jX)<|zZ) ?_
  refine jE ⟨_,(kS (cs:=(bx (jO (vL false (val a))))) (d:=(jO (vL false (val a)))) rfl rfl jX rfl rfl .nil),?_⟩
  rw[<- hg,mkI_false];rfl
end Go.Proofs.YtckccjhflbljgaaGreatDoor
