/- Part 22 of a proof: rules, plain facts, and functions walked. -/
import Derived.Test.YtckccjhflbljgaaGreatDoorM21
set_option linter.all false
set_option maxRecDepth 4000
namespace Go.Proofs.YtckccjhflbljgaaGreatDoor
open Go.Fid
theorem ze28:vX Tryz.prog 28=some [.slice none 0 0]:=by kernel_rfl
theorem zo28:eL [.slice none 0 0] [.sl 107 1 []]:=by simp [eL,Value.oneCell']
theorem t_short(a:List Nat)(d:Nat)(hda:Dig a)(hd0:0<d)(hd1:d<=1000000000)(hla:a.length<=17592186044416):jQ Tryz.prog 181 [(.sl 107 1 (List.map jC a)),(.val (.int .u32 (((d:Nat):Int))))] (.tup [(.sl 107 1 (List.map jC (ofNat (val a / d)))),(.val (.int .u32 ((((val a % d):Nat):Int))))]):=by
 refine uR Tryz.func181 ?_
 refine jB<|kx [(3,(.ref 0 0)),(4,(.ref 1 0)),(5,(iJ 0))] [(0,some (bx (.val (.int .u32 (((d:Nat):Int)))))),(1,some (bx (.sl 107 1 (List.map jC []))))] (zN (xO 0)<|zN (vH 1 ze28 zo28)<|zM<|zZ) ?_
 refine jB<|kx [] [(1,some [(.own 2 107 1 a.length)]),(2,some (bm jC (List.replicate a.length 0)))] (zM<|zE (xW kG)<|zN (oMk 2 jC (0:Nat) a.length a.length kG vQ yQ mB)<|zT (oSo zD)<|zZ) ?_
 refine jB<|kx [(6,(.ref 3 0))] [(3,some (bx (.val (.int .u64 (0)))))] (zH (vH 3 ze137 zo137)<|zT (qJ sh137)<|zZ) ?_
 refine jB<|pwp_backL backs cb178 rfl 7 jC a 0 (fun (q,xH)=>⟨[(3,(.ref 0 0)),(4,(.ref 1 0)),(5,(iJ 0)),(6,(.ref 3 0))],[(0,some (bx (.val (.int .u32 (((d:Nat):Int)))))),(1,some [(.own 2 107 1 a.length)]),(2,some (bm jC q)),(3,some (bx (.val (.int .u64 (((xH:Nat):Int))))))]⟩) (fun (j:Nat) (q,xH)=>q.length=a.length/\Dig q/\xH<d/\val (a.drop (a.length-j))=val (q.drop (a.length-j))*d+xH) (List.replicate a.length 0,0) rfl rfl rfl rfl rfl rfl rfl rfl rfl rfl rfl rfl (fun _=>rfl) (fun _=>rfl) wk ⟨by simp,zU _,hd0,by simp [val,eD]⟩ (by omega) ?_ ?_
 ·rintro rl j ⟨q,xH⟩ hj ⟨qK,hdq,hr,hv⟩
  have hg:=hda.getD (a.length-1-j)
  obtain ⟨hb1,hb2⟩:=short_bound hr hd1 hg
  refine jB<|kx [(7,(kF (a.length-1-j)))] [] (zM<|zZ) ?_
  refine kx [(8,(iJ (a.getD (a.length-1-j) 0)))] [] (zM<|zZ) ?_
  refine jH<|jB<|kx [(9,(gE ((xH*1000000000)+(a.getD (a.length-1-j) 0))))] [] (zR (qH sh137)<|zE (oMl (xH*1000000000))<|zM<|zE (cB yM yI (a.getD (a.length-1-j) 0))<|zE (vT ((xH*1000000000)+(a.getD (a.length-1-j) 0)))<|zM<|zZ) ?_
  refine kd [] [(2,some (bm jC (q.set (a.length-1-j) (((xH*1000000000)+(a.getD (a.length-1-j) 0)) / d)))),(3,some (bx (.val (.int .u64 ((((((xH*1000000000)+(a.getD (a.length-1-j) 0)) % d):Nat):Int))))))] mo (wR (qH zD)<|wM<|wM<|wR (qH qL)<|wE (cB yM yI d)<|wE (oQu (((xH*1000000000)+(a.getD (a.length-1-j) 0)) / d))<|wE (cB nA gJ (((xH*1000000000)+(a.getD (a.length-1-j) 0)) / d))<|wM<|wR (qH qL)<|wE (cB yM yI d)<|wE (oRe (((xH*1000000000)+(a.getD (a.length-1-j) 0)) % d))<|wE (yE kG (a.length-1-j))<|wT (eX qL (a.length-1-j) (((xH*1000000000)+(a.getD (a.length-1-j) 0)) / d))<|wT (qJ sh137)<|wZ) ?_
  exact ⟨(q.set (a.length-1-j) ((xH*1000000000+a.getD (a.length-1-j) 0) / d),(xH*1000000000+a.getD (a.length-1-j) 0) % d),wk,⟨by simpa using qK,hdq.set _ hb2,Nat.mod_lt _ hd0,short_step hj qK hv rfl⟩⟩
 ·rintro ⟨q,xH⟩ ⟨qK,hdq,hr,hv⟩
  obtain ⟨e1,e2⟩:=short_end hv hr
  refine jB<|qG (publishB (j:=1) (k:=2) (es:=List.map jC q) rfl rfl rfl (vW _ _ (fun _=>rfl)) (xR _ _ qK) (xY _ _ (fun _=>rfl) qK)) ?_
  refine kd [(5,(iJ xH))] [(1,some (bx (.sl 107 1 (List.map jC (ofNat (val q))))))] mo (wR (qH zD)<|wE (jY (t_trim q (by assumption) (by omega)))<|wR (qH sh137)<|wE (cB nA gJ xH)<|wT (qJ zD)<|wM<|wZ) ?_
  refine jF ⟨_,(res_1 (cs:=(bx (.sl 107 1 (List.map jC (ofNat (val q)))))) (d:=(.sl 107 1 (List.map jC (ofNat (val q))))) rfl rfl zD rfl rfl (.tmp (d:=(.val (.int .u32 (((xH:Nat):Int))))) rfl .nil)),?_⟩
  rw[<- e1,<- e2];rfl
theorem o_times(a b:List Nat)(hda:Dig a)(hdb:Dig b)(hla:a.length<=4398046511104)(hlb:b.length<=4398046511104)(h0:0<val a*val b):TakesO Tryz.prog 161 [(.sl 107 1 (List.map jC a)),(.sl 107 1 (List.map jC b))] 107 1 (ofNat (val a*val b)).length (List.map jC (ofNat (val a*val b))):=by
 refine fn_introO Tryz.func161 rfl cb161 rfl (eE h0) ?_
 refine jB<|kx [] [] (zE (aY 107 1)<|zZ) ?_
 refine jB<|kx [(5,(.own 0 107 1 (a.length+b.length)))] [(0,some (bm jC (List.replicate (a.length+b.length) 0)))] (zM<|zE (xW kG)<|zM<|zE (xW kG)<|zE (vT (a.length+b.length))<|zN (oMk 0 jC (0:Nat) (a.length+b.length) (a.length+b.length) kG vQ yQ mB)<|zM<|zZ) ?_
 refine jB<|jB<|kx [(18,(vl 107 1 jC a)),(19,(kF a.length)),(20,(kF 0))] [] (zM<|zE (xW kG)<|zM<|zZ) ?_
 refine jH<|kO (α:=Nat × List Nat) (fun (i,out)=>⟨[(1,(vl 107 1 jC b)),(5,(.own 0 107 1 (a.length+b.length))),(18,(vl 107 1 jC a)),(19,(kF a.length)),(20,(kF i))],[(0,some (bm jC out))]⟩) (fun (i,out)=>out.length=a.length+b.length/\Dig out/\i<=a.length/\(∀ k,i+b.length<=k->out.getD k 0=0)/\val out=val (a.take i)*val b) (fun (i,out)=>a.length-i) (0,List.replicate (a.length+b.length) 0) wk ⟨by simp,zU _,Nat.zero_le _,fun k _=>fZ _ k,by simp [val,eD]⟩ ?_
 rintro ⟨i,out⟩ ⟨qK,hdo,hi,hz,hv⟩
 have hai:=hda.getD i
 refine jB<|kx [(21,(vb (decide (((i:Nat):Int)<((a.length:Nat):Int)))))] [] (zE gZ<|zZ) ?_
 refine jB<|jE rfl (fun h1=>?_) (fun h1=>?_)
 ·replace h1:=vY h1
  refine jD<|jB<|jH<|jB<|kx [(6,(kF i)),(7,(iJ (a.getD i 0)))] [] (zM<|zE (cT kG i (0:Nat))<|zE (nY qL)<|zM<|zM<|zZ) ?_
  refine jB<|kx [(8,(gE 0))] [] (zM<|zZ) ?_
  refine jB<|jB<|kx [(25,(vl 107 1 jC b)),(26,(kF b.length)),(27,(kF 0))] [] (zM<|zE (xW kG)<|zM<|zZ) ?_
  refine jH<|kO (α:=Nat × List Nat × Nat) (fun (j,o2,c)=>⟨[(1,(vl 107 1 jC b)),(5,(.own 0 107 1 (a.length+b.length))),(6,(kF i)),(7,(iJ (a.getD i 0))),(8,(gE c)),(18,(vl 107 1 jC a)),(19,(kF a.length)),(20,(kF i)),(25,(vl 107 1 jC b)),(26,(kF b.length)),(27,(kF j))],[(0,some (bm jC o2))]⟩) (fun (j,o2,c)=>o2.length=a.length+b.length/\Dig o2/\j<=b.length/\c<1000000000/\(∀ k,i+b.length<=k->o2.getD k 0=0)/\val o2+pw (i+j)*c=val (a.take i)*val b+pw i*(a.getD i 0*val (b.take j))) (fun (j,o2,c)=>b.length-j) (0,out,0) wk ⟨qK,hdo,Nat.zero_le _,by decide,hz,by simp [val,hv]⟩ ?_
  rintro ⟨j,o2,c⟩ ⟨hlen2,hdo2,hj,hc,hz2,hv2⟩
  have hbj:=hdb.getD j
  have hoj:=hdo2.getD (i+j)
  have hpq:a.getD i 0*b.getD j 0<=999999999*999999999:=Nat.mul_le_mul (by omega) (by omega)
  refine jB<|kx [(28,(vb (decide (((j:Nat):Int)<((b.length:Nat):Int)))))] [] (zE gZ<|zZ) ?_
  refine jB<|jE rfl (fun h2=>?_) (fun h2=>?_)
  ·replace h2:=vY h2
   refine jD<|jB<|jH<|jB<|kx [(9,(kF j)),(10,(iJ (b.getD j 0)))] [] (zM<|zE (cT kG j (0:Nat))<|zE (nY qL)<|zM<|zM<|zZ) ?_
   refine jB<|kx [(11,(gE (((o2.getD (i+j) 0)+((a.getD i 0)*(b.getD j 0)))+c)))] [] (zM<|zM<|zM<|zE (vT (i+j))<|zE (yE kG (i+j))<|zR (eZ qL (i+j) (0:Nat))<|zE (cB yM yI (o2.getD (i+j) 0))<|zM<|zE (cB yM yI (a.getD i 0))<|zM<|zE (cB yM yI (b.getD j 0))<|zE (oMl ((a.getD i 0)*(b.getD j 0)))<|zE (vT ((o2.getD (i+j) 0)+((a.getD i 0)*(b.getD j 0))))<|zM<|zE (vT (((o2.getD (i+j) 0)+((a.getD i 0)*(b.getD j 0)))+c))<|zM<|zZ) ?_
   refine kx [(8,(gE ((((o2.getD (i+j) 0)+((a.getD i 0)*(b.getD j 0)))+c) / 1000000000)))] [(0,some (bm jC (o2.set (i+j) ((((o2.getD (i+j) 0)+((a.getD i 0)*(b.getD j 0)))+c) % 1000000000))))] (zM<|zM<|zM<|zE (vT (i+j))<|zM<|zE (oRe ((((o2.getD (i+j) 0)+((a.getD i 0)*(b.getD j 0)))+c) % 1000000000))<|zE (cB nA gJ ((((o2.getD (i+j) 0)+((a.getD i 0)*(b.getD j 0)))+c) % 1000000000))<|zM<|zE (oQu ((((o2.getD (i+j) 0)+((a.getD i 0)*(b.getD j 0)))+c) / 1000000000))<|zE (yE kG (i+j))<|zT (eX qL (i+j) ((((o2.getD (i+j) 0)+((a.getD i 0)*(b.getD j 0)))+c) % 1000000000))<|zM<|zZ) ?_
   refine kx [(27,(kF (j+1)))] [] (zE (vT (j+1))<|zM<|zZ) ?_
   exact ⟨(j+1,o2.set (i+j) ((o2.getD (i+j) 0+a.getD i 0*b.getD j 0+c) % 1000000000),(o2.getD (i+j) 0+a.getD i 0*b.getD j 0+c) / 1000000000),wk,(by obtain ⟨q1,q2⟩:=times_step (by omega) hdo2 hv2 rfl (val_take_succ b j);exact ⟨by simpa using hlen2,q1,by omega,by omega,zero_set (by omega) hz2,q2⟩),(by first|omega|(dsimp only;omega))⟩
  ·replace h2:=xC h2
   have hje:j=b.length:=by omega
   rw[hje] at hv2
   refine kL<|kx [] [(0,some (bm jC (o2.set (i+b.length) c)))] (zM<|zM<|zM<|zE (xW kG)<|zE (vT (i+b.length))<|zM<|zE (cB nA gJ c)<|zE (yE kG (i+b.length))<|zT (eX qL (i+b.length) c)<|zZ) ?_
   refine kx [(20,(kF (i+1)))] [] (zE (vT (i+1))<|zM<|zZ) ?_
   exact ⟨(i+1,o2.set (i+b.length) c),wk,(by obtain ⟨q1,q2,q3,q4⟩:=times_row hdo2 (by omega) hlen2 hz2 hc hv2;exact ⟨q1,q2,by omega,q3,q4⟩),(by first|omega|(dsimp only;omega))⟩
 ·replace h1:=xC h1
  have hie:i=a.length:=by omega
  rw[hie,List.take_length] at hv
  refine kL<|jB<|kx [(4,(.own 0 107 1 ((ofNat (val out)).length)))] [] (zM<|zR ⟨_,e_trimO out (by exact rfl) (by exact rfl) qK hdo (by omega),by kernel_rfl⟩<|zM<|zZ) ?_
  rw[<- hv]
  refine jF ⟨4,0,rfl,rfl,(bm jC out),rfl,?_⟩
  exact own_prefix _ (trim_take hdo)
theorem in2:intB Tryz.prog 2=some .i64:=by kernel_rfl
theorem un2:(Tryz.prog.underlying 2).isSome=true:=by kernel_rfl
set_option maxHeartbeats 4000000 in
theorem t_long(a b:List Nat)(hda:yY a)(hdb:yY b)(hb2:2<=b.length)(hba:val b<=val a)(hla:a.length<=1099511627776):jQ Tryz.prog 182 [(.sl 107 1 (List.map jC a)),(.sl 107 1 (List.map jC b))] (.tup [(.sl 107 1 (List.map jC (ofNat (val a / val b)))),(.sl 107 1 (List.map jC (ofNat (val a % val b))))]):=by
 have hab:=len_of_le hda hdb hba
 have hsc:=bW hdb (by omega)
 have htp:=iL hdb (by omega)
 have hds:Dig [dI b]:=yR.2 ⟨by omega,gL⟩
 have hbp:0<val b:=by have:=val_top hdb.1 (by omega);have h2:=Nat.mul_le_mul_right (pw (b.length-1)) htp.1;have h3:=pw_pos (b.length-1);rw[Nat.succ_mul] at h2;omega
 obtain ⟨u0,hue⟩:∃ u0,u0=ofNat (val a*val [dI b]):=⟨_,rfl⟩
 obtain ⟨v,hve⟩:∃ v,v=ofNat (val b*val [dI b]):=⟨_,rfl⟩
 have hu0:Dig u0:=by rw[hue];exact kE _
 have hvd:Dig v:=by rw[hve];exact kE _
 have hvl:v.length=b.length:=by rw[hve,cV];exact scl_len hdb (by omega)
 have hvv:val v=val b*dI b:=by rw[hve,cV];exact kD _
 have hu0v:val u0=val a*dI b:=by rw[hue,cV];exact kD _
 have hu0l:a.length<=u0.length/\u0.length<=a.length+1:=by rw[hue,cV];exact scl_lenA hda hdb (by omega)
 have hLU:(u0++[0]).length=u0.length+1:=by simp
 have hcv:yY v:=by rw[hve];exact kY _
 have hv1p:0<v.getD (b.length-1) 0:=by rw[<- hvl];exact (iL hcv (by omega)).1
 have hpv:pw (b.length-1)<=val v:=by have h1:=val_top hvd (by omega);rw[hvl] at h1;have h2:=Nat.mul_le_mul_right (pw (b.length-1)) hv1p;omega
 refine uR Tryz.func182 ?_
 refine jB<|kx [] [] (zE (aY 107 1)<|zE (aY 107 1)<|zZ) ?_
 refine jB<|kx [(6,(iJ (dI b)))] [] (zM<|zM<|zE (xW kG)<|zE (oSb (b.length-1))<|zE (cT kG (b.length-1) (0:Nat))<|zE (nY qL)<|zE (cB yM yI (b.getD (b.length-1) 0))<|zE (vT ((b.getD (b.length-1) 0)+1))<|zE (oQu (dI b) (hr:=by exact (quo_u64 1000000000 (b.getD (b.length-1) 0+1))))<|zE (cB nA gJ (dI b))<|zM<|zZ) ?_
 refine jB<|kx [(7,(.own 0 107 1 u0.length))] [(0,some (bm jC u0))] (zM<|zM<|zE (eY kG vQ yQ)<|zN (oCo 0 (hue▸o_times a [dI b] hda.1 hds (by omega) (by simp) (by rw[cV];exact Nat.mul_pos (by omega) hsc.1)))<|zM<|zZ) ?_
 refine jB<|kx [(8,(vl 107 1 jC v))] [] (zM<|zM<|zE (eY kG vQ yQ)<|zE (jY (hve▸t_times b [dI b] hdb.1 hds (by omega) (by simp)))<|zM<|zZ) ?_
 refine jB<|kx [(9,(kF b.length))] [] (zM<|zE (oLn kG b.length (hr:=by exact (by simp [hvl])))<|zM<|zZ) ?_
 refine jB<|kf [(7,(.own 0 107 1 ((u0++[0]).length)))] [(0,some (bm jC (u0++[0])))] (zM<|zE (eY kG vQ yQ)<|zA jC u0 [0] rfl kG vQ mB<|zM<|zF) ?_
 refine jB<|jB<|kx [(50,(vb (decide ((((u0++[0]).length:Nat):Int)<=((a.length:Nat):Int)))))] [] (zM<|zE (oLo kG)<|zM<|zE (xW kG)<|zE oLe<|zZ) ?_
 refine jE rfl (fun h1=>?_) (fun h1=>?_)
 ·replace h1:=vY h1
  exfalso;simp at h1;omega
 ·replace h1:=xC h1
  refine jD<|jB<|kx [(4,(.own 1 107 1 ((u0++[0]).length-b.length)))] [(1,some (bm jC (List.replicate ((u0++[0]).length-b.length) 0)))] (zM<|zE (oLo kG)<|zM<|zE (oSb ((u0++[0]).length-b.length))<|zH (oMk 1 jC (0:Nat) ((u0++[0]).length-b.length) ((u0++[0]).length-b.length) kG vQ yQ mB)<|zM<|zZ) ?_
  refine jB<|jB<|kx [(10,(vi ((((u0++[0]).length-b.length:Nat):Int)-1)))] [] (zM<|zE (oLo kG)<|zM<|zE (oSb ((u0++[0]).length-b.length))<|zE (zSb ((((u0++[0]).length-b.length:Nat):Int)-1))<|zM<|zZ) ?_
  refine jH<|kO (α:=Nat × List Nat × List Nat) (fun (k,u,q)=>⟨[(4,(.own 1 107 1 ((u0++[0]).length-b.length))),(6,(iJ (dI b))),(7,(.own 0 107 1 ((u0++[0]).length))),(8,(vl 107 1 jC v)),(9,(kF b.length)),(10,(vi (((k:Nat):Int)-1)))],[(0,some (bm jC u)),(1,some (bm jC q))]⟩) (fun (k,u,q)=>u.length=(u0++[0]).length/\Dig u/\q.length=(u0++[0]).length-b.length/\Dig q/\k<=(u0++[0]).length-b.length/\val u+val v*(pw k*val (q.drop k))=val a*dI b/\val (u.drop k)<val v) (fun (k,u,q)=>k) ((u0++[0]).length-b.length,u0++[0],List.replicate ((u0++[0]).length-b.length) 0) wk ⟨rfl,iP.2 ⟨hu0,yR.2 ⟨by decide,gL⟩⟩,by simp,zU _,Nat.le_refl _,by simp [eA,val,hu0v],by have:=long_start hu0 hvl hb2 (by omega) hpv;rw[hLU];exact this⟩ ?_
  rintro ⟨k,u,q⟩ ⟨qK,hu,hql,hqd,hk,hU,hW⟩
  refine jB<|jB<|kx [(65,(vb (decide (0<=(((k:Nat):Int)-1)))))] [] (zM<|zE oGe<|zZ) ?_
  refine jE (b:=decide (0<=(((k:Nat):Int)-1))) rfl (fun h2=>?_) (fun h2=>?_)
  ·replace h2:=vY h2
   obtain ⟨j,rfl⟩:∃ j,k=j+1:=⟨k-1,by omega⟩
   rw[show (((j+1:Nat):Int)-1)=((j:Nat):Int) from by omega]
   have hg1:=hu.getD (j+b.length)
   have hg2:=hu.getD (j+b.length-1)
   have hg3:=hu.getD (j+b.length-2)
   have hg4:=hvd.getD (b.length-1)
   have hg5:=hvd.getD (b.length-2)
   obtain ⟨z1,z2,z3,z4,z5,z6⟩:=window_tops hu hvd hvl hb2 hW
   obtain ⟨hwz,hww⟩:=window hvd hvl hW
   refine jD<|jB<|jH<|jB<|kd [(10,(kF j)),(11,(gE (((u.getD (j+b.length) 0)*1000000000)+(u.getD ((j+b.length)-1) 0))))] [] mo (wM<|wM<|wM<|wE (vT (j+b.length))<|wR ⟨(bm jC u),e_clo (t_at u (j+b.length)) (by exact rfl) (by exact rfl) (by exact rfl) (.o (.d .nil)) (vW jC u (fun _=>rfl)) (xR _ _ qK) (xY _ _ (fun _=>rfl) qK),by kernel_rfl⟩<|wE (cB yM yI (u.getD (j+b.length) 0))<|wE (oMl ((u.getD (j+b.length) 0)*1000000000))<|wM<|wM<|wM<|wE (vT (j+b.length))<|wE (oSb ((j+b.length)-1))<|wE (yE kG ((j+b.length)-1))<|wR (eZ qL ((j+b.length)-1) (0:Nat))<|wE (cB yM yI (u.getD ((j+b.length)-1) 0))<|wE (vT (((u.getD (j+b.length) 0)*1000000000)+(u.getD ((j+b.length)-1) 0)))<|wM<|wZ) ?_
   refine jB<|kd [(12,(gE ((((u.getD (j+b.length) 0)*1000000000)+(u.getD ((j+b.length)-1) 0)) / (v.getD (b.length-1) 0)))),(13,(gE ((((u.getD (j+b.length) 0)*1000000000)+(u.getD ((j+b.length)-1) 0)) % (v.getD (b.length-1) 0))))] [] mo (wM<|wM<|wM<|wE (oSb (b.length-1))<|wE (cT kG (b.length-1) (0:Nat))<|wE (nY qL)<|wE (cB yM yI (v.getD (b.length-1) 0))<|wE (oQu ((((u.getD (j+b.length) 0)*1000000000)+(u.getD ((j+b.length)-1) 0)) / (v.getD (b.length-1) 0)))<|wM<|wM<|wM<|wE (oSb (b.length-1))<|wE (cT kG (b.length-1) (0:Nat))<|wE (nY qL)<|wE (cB yM yI (v.getD (b.length-1) 0))<|wE (oRe ((((u.getD (j+b.length) 0)*1000000000)+(u.getD ((j+b.length)-1) 0)) % (v.getD (b.length-1) 0)))<|wM<|wM<|wZ) ?_
   refine pwp_seqjoin (α:=Nat × Nat) (fun (G,R)=>⟨[(4,(.own 1 107 1 ((u0++[0]).length-b.length))),(6,(iJ (dI b))),(7,(.own 0 107 1 ((u0++[0]).length))),(8,(vl 107 1 jC v)),(9,(kF b.length)),(10,(kF j)),(12,(gE G))],[(0,some (bm jC u)),(1,some (bm jC q))]⟩) (fun (G,R)=>G<1000000000/\val (u.drop j) / val v<=G/\G<=val (u.drop j) / val v+1) ?_ ?_
   ·refine kO (α:=Nat × Nat) (fun (G,R)=>⟨[(4,(.own 1 107 1 ((u0++[0]).length-b.length))),(6,(iJ (dI b))),(7,(.own 0 107 1 ((u0++[0]).length))),(8,(vl 107 1 jC v)),(9,(kF b.length)),(10,(kF j)),(12,(gE G)),(13,(gE R))],[(0,some (bm jC u)),(1,some (bm jC q))]⟩) (fun (G,R)=>G*(v.getD (b.length-1) 0)+R=(u.getD (j+b.length) 0*1000000000+u.getD (j+b.length-1) 0)/\val (u.drop j) / val v<=G/\R<1000000000/\G<=1999999999) (fun (G,R)=>G) ((u.getD (j+b.length) 0*1000000000+u.getD (j+b.length-1) 0) / v.getD (b.length-1) 0,(u.getD (j+b.length) 0*1000000000+u.getD (j+b.length-1) 0) % v.getD (b.length-1) 0) wk ⟨by rw[Nat.mul_comm];exact Nat.div_add_mod _ _,guess_first0 z5 z4 hv1p hg3,Nat.lt_trans (Nat.mod_lt _ hv1p) hg4,guess_top hv1p z1 hg2⟩ ?_
    rintro ⟨G,R⟩ ⟨hG0,hG1,hR,hGb⟩
    have hpq:G*v.getD (b.length-2) 0<=1999999999*999999999:=Nat.mul_le_mul hGb (by omega)
    refine jB<|jB<|kd [(123,(vb (decide (1000000000<=((G:Nat):Int))||decide (((((R*1000000000)+(u.getD ((j+b.length)-2) 0)):Nat):Int)<(((G*(v.getD (b.length-2) 0)):Nat):Int)))))] [] mo ?_ ?_
    ·refine wM<|wE oGe<|wE (oV (vb (decide (1000000000<=((G:Nat):Int)))) (kW (by kernel_rfl)))<|?_
     rcases hb3:(decide (1000000000<=((G:Nat):Int))) with _ | _
     ·replace hb3:=xC hb3
      exact wM<|wM<|wM<|wE (oSb (b.length-2))<|wE (cT kG (b.length-2) (0:Nat))<|wE (nY qL)<|wE (cB yM yI (v.getD (b.length-2) 0))<|wE (oMl (G*(v.getD (b.length-2) 0)))<|wM<|wE (oMl (R*1000000000))<|wM<|wM<|wM<|wE (vT (j+b.length))<|wE (oSb ((j+b.length)-2))<|wE (yE kG ((j+b.length)-2))<|wR (eZ qL ((j+b.length)-2) (0:Nat))<|wE (cB yM yI (u.getD ((j+b.length)-2) 0))<|wE (vT ((R*1000000000)+(u.getD ((j+b.length)-2) 0)))<|wE dV<|wE aC<|wZ
     ·replace hb3:=vY hb3
      exact wK<|wK<|wK<|wK<|wK<|wK<|wK<|wK<|wK<|wK<|wK<|wK<|wK<|wK<|wK<|wK<|wK<|wK<|wK<|wK<|wE yH<|wZ
    refine jE rfl (fun h4=>?_) (fun h4=>?_)
    ·rw[Bool.or_eq_true,decide_eq_true_eq,decide_eq_true_eq] at h4
     have hgl:=guess_less (pw_pos _) z5 z4 hG0 hG1 hv1p z2 (by omega)
     refine jD<|jH<|jB<|kx [(12,(gE (G-1)))] [] (zM<|zE (oSb (G-1))<|zM<|zZ) ?_
     refine jB<|kx [(13,(gE (R+(v.getD (b.length-1) 0))))] [] (zM<|zM<|zM<|zE (oSb (b.length-1))<|zE (cT kG (b.length-1) (0:Nat))<|zE (nY qL)<|zE (cB yM yI (v.getD (b.length-1) 0))<|zE (vT (R+(v.getD (b.length-1) 0)))<|zM<|zZ) ?_
     refine jB<|kx [(135,(vb (decide (1000000000<=(((R+(v.getD (b.length-1) 0)):Nat):Int)))))] [] (zM<|zE oGe<|zZ) ?_
     refine jE rfl (fun h5=>?_) (fun h5=>?_)
     ·replace h5:=vY h5
      refine kL ?_
      refine pjoin_exit (id:=2) (α:=Nat × Nat) (Q:=fun _ _=>True) (St:=fun (G,R)=>⟨[(4,(.own 1 107 1 ((u0++[0]).length-b.length))),(6,(iJ (dI b))),(7,(.own 0 107 1 ((u0++[0]).length))),(8,(vl 107 1 jC v)),(9,(kF b.length)),(10,(kF j)),(12,(gE G))],[(0,some (bm jC u)),(1,some (bm jC q))]⟩) (I:=fun (G,R)=>G<1000000000/\val (u.drop j) / val v<=G/\G<=val (u.drop j) / val v+1) ?_
      exact ⟨(G-1,R+v.getD (b.length-1) 0),wk,(by have hd:=guess_dec hgl.2 hG0;have hgb:=guess_break hd z1 hg2 (by omega);exact ⟨hgb,hgl.1,guess_near z6 z3 hd hv1p (by omega) hgb (Nat.le_trans (Nat.mul_le_mul (show G-1<=999999999 by omega) (show v.getD (b.length-2) 0<=999999999 by omega)) (by omega))⟩)⟩
     ·replace h5:=xC h5
      refine jD ?_
      exact ⟨(G-1,R+v.getD (b.length-1) 0),wk,(by exact ⟨guess_dec hgl.2 hG0,hgl.1,by omega,by omega⟩),(by first|omega|(dsimp only;omega))⟩
    ·refine kL ?_
     refine pjoin_exit (id:=2) (α:=Nat × Nat) (Q:=fun _ _=>True) (St:=fun (G,R)=>⟨[(4,(.own 1 107 1 ((u0++[0]).length-b.length))),(6,(iJ (dI b))),(7,(.own 0 107 1 ((u0++[0]).length))),(8,(vl 107 1 jC v)),(9,(kF b.length)),(10,(kF j)),(12,(gE G))],[(0,some (bm jC u)),(1,some (bm jC q))]⟩) (I:=fun (G,R)=>G<1000000000/\val (u.drop j) / val v<=G/\G<=val (u.drop j) / val v+1) ?_
     exact ⟨(G,R),wk,(by rw[Bool.or_eq_false_iff,decide_eq_false_iff_not,decide_eq_false_iff_not] at h4;exact ⟨by omega,hG1,guess_near z6 z3 hG0 hv1p (by omega) (by omega) (by omega)⟩)⟩
   ·rintro ⟨G,R⟩ ⟨hG,hG1,hG2⟩
    have hjn:j+b.length<(u0++[0]).length:=by omega
    refine jB<|kx [(14,(kF 0)),(15,(gE 0))] [] (zM<|zM<|zZ) ?_
    refine jB<|jB<|kx [(136,(kF b.length)),(137,(kF 0))] [] (zM<|zM<|zZ) ?_
    refine jH<|kO (α:=Nat × List Nat × Nat × Nat) (fun (i,u2,bo,ca)=>⟨[(4,(.own 1 107 1 ((u0++[0]).length-b.length))),(6,(iJ (dI b))),(7,(.own 0 107 1 ((u0++[0]).length))),(8,(vl 107 1 jC v)),(9,(kF b.length)),(10,(kF j)),(12,(gE G)),(14,(vi ((bo:Nat):Int))),(15,(gE ca)),(136,(kF b.length)),(137,(kF i))],[(0,some (bm jC u2)),(1,some (bm jC q))]⟩) (fun (i,u2,bo,ca)=>u2.length=(u0++[0]).length/\Dig u2/\u2.take j=u.take j/\u2.drop (j+i)=u.drop (j+i)/\i<=b.length/\bo<=1/\ca<1000000000/\val ((u2.drop j).take i)+G*val (v.take i)=val ((u.drop j).take i)+pw i*(ca+bo)) (fun (i,u2,bo,ca)=>b.length-i) (0,u,0,0) wk ⟨qK,hu,rfl,rfl,Nat.zero_le _,Nat.zero_le _,by decide,by simp [val]⟩ ?_
    rintro ⟨i,u2,bo,ca⟩ ⟨hl2,hd2,ht2,hd2',hin,hbo,hca,hv2⟩
    have hgi:=hvd.getD i
    have hgu:=hd2.getD (i+j)
    have hpq:G*v.getD i 0<=999999999*999999999:=Nat.mul_le_mul (by omega) (by omega)
    refine jB<|kx [(138,(vb (decide (((i:Nat):Int)<((b.length:Nat):Int)))))] [] (zE gZ<|zZ) ?_
    refine jB<|jE rfl (fun h6=>?_) (fun h6=>?_)
    ·replace h6:=vY h6
     have hi:i<b.length:=by omega
     refine jD<|jB<|jH<|jB<|kx [(16,(kF i))] [] (zM<|zM<|zZ) ?_
     refine jB<|kx [(17,(gE ((G*(v.getD i 0))+ca)))] [] (zM<|zM<|zM<|zE (cT kG i (0:Nat))<|zE (nY qL)<|zE (cB yM yI (v.getD i 0))<|zE (oMl (G*(v.getD i 0)))<|zM<|zE (vT ((G*(v.getD i 0))+ca))<|zM<|zZ) ?_
     refine jB<|kx [(15,(gE (((G*(v.getD i 0))+ca) / 1000000000)))] [] (zM<|zE (oQu (((G*(v.getD i 0))+ca) / 1000000000))<|zM<|zZ) ?_
     refine jB<|kx [(18,(vi (((((u2.getD (i+j) 0):Nat):Int)-((bo:Nat):Int))-(((((G*(v.getD i 0))+ca) % 1000000000):Nat):Int))))] [] (zM<|zM<|zM<|zE (vT (i+j))<|zE (yE kG (i+j))<|zR (eZ qL (i+j) (0:Nat))<|zE (cB yM in2 (u2.getD (i+j) 0))<|zM<|zE (zSb ((((u2.getD (i+j) 0):Nat):Int)-((bo:Nat):Int)))<|zM<|zE (oRe (((G*(v.getD i 0))+ca) % 1000000000))<|zE (cB nA in2 (((G*(v.getD i 0))+ca) % 1000000000))<|zE (zSb (((((u2.getD (i+j) 0):Nat):Int)-((bo:Nat):Int))-(((((G*(v.getD i 0))+ca) % 1000000000):Nat):Int)))<|zM<|zZ) ?_
     refine jB<|kx [(14,(kF 0))] [] (zM<|zZ) ?_
     refine jB<|jB<|kx [(165,(vb (decide ((((((u2.getD (i+j) 0):Nat):Int)-((bo:Nat):Int))-(((((G*(v.getD i 0))+ca) % 1000000000):Nat):Int))<0))))] [] (zM<|zE gZ<|zZ) ?_
     refine jE rfl (fun h7=>?_) (fun h7=>?_)
     ·replace h7:=vY h7
      refine kx [(14,(kF 1)),(18,(vi ((((((u2.getD (i+j) 0):Nat):Int)-((bo:Nat):Int))-(((((G*(v.getD i 0))+ca) % 1000000000):Nat):Int))+1000000000)))] [] (zM<|zE (zAd ((((((u2.getD (i+j) 0):Nat):Int)-((bo:Nat):Int))-(((((G*(v.getD i 0))+ca) % 1000000000):Nat):Int))+1000000000))<|zM<|zM<|zZ) ?_
      refine kx [] [(0,some (bm jC (u2.set (i+j) ((u2.getD (i+j) 0+1000000000)-bo-(G*v.getD i 0+ca) % 1000000000))))] (zM<|zM<|zM<|zE (vT (i+j))<|zM<|zE (cB un2 gJ ((u2.getD (i+j) 0+1000000000)-bo-(G*v.getD i 0+ca) % 1000000000) (hr:=by exact (wu32 (by omega) (by omega) (by omega))))<|zE (yE kG (i+j))<|zT (eX qL (i+j) ((u2.getD (i+j) 0+1000000000)-bo-(G*v.getD i 0+ca) % 1000000000))<|zZ) ?_
      refine kx [(137,(kF (i+1)))] [] (zE (vT (i+1))<|zM<|zZ) ?_
      exact ⟨(i+1,u2.set (i+j) ((u2.getD (i+j) 0+1000000000)-bo-(G*v.getD i 0+ca) % 1000000000),1,(G*v.getD i 0+ca) / 1000000000),wk,(by obtain ⟨q1,q2,q3,q4,q5⟩:=msub_step (v:=v) (L:=(u0++[0]).length) (e:=(u2.getD (i+j) 0+1000000000)-bo-(G*v.getD i 0+ca) % 1000000000) (borrow':=1) hjn hi hl2 qK hd2 ht2 hd2' hv2 rfl (by omega) (by omega);exact ⟨q1,q2,q3,q4,by omega,by omega,by omega,q5⟩),(by first|omega|(dsimp only;omega))⟩
     ·replace h7:=xC h7
      refine jD<|kx [] [(0,some (bm jC (u2.set (i+j) (u2.getD (i+j) 0-bo-(G*v.getD i 0+ca) % 1000000000))))] (zM<|zM<|zM<|zE (vT (i+j))<|zM<|zE (cB un2 gJ (u2.getD (i+j) 0-bo-(G*v.getD i 0+ca) % 1000000000) (hr:=by exact (wu32 (by omega) (by omega) (by omega))))<|zE (yE kG (i+j))<|zT (eX qL (i+j) (u2.getD (i+j) 0-bo-(G*v.getD i 0+ca) % 1000000000))<|zZ) ?_
      refine kx [(137,(kF (i+1)))] [] (zE (vT (i+1))<|zM<|zZ) ?_
      exact ⟨(i+1,u2.set (i+j) (u2.getD (i+j) 0-bo-(G*v.getD i 0+ca) % 1000000000),0,(G*v.getD i 0+ca) / 1000000000),wk,(by obtain ⟨q1,q2,q3,q4,q5⟩:=msub_step (v:=v) (L:=(u0++[0]).length) (e:=u2.getD (i+j) 0-bo-(G*v.getD i 0+ca) % 1000000000) (borrow':=0) hjn hi hl2 qK hd2 ht2 hd2' hv2 rfl (by omega) (by omega);exact ⟨q1,q2,q3,q4,by omega,by omega,by omega,q5⟩),(by first|omega|(dsimp only;omega))⟩
    ·replace h6:=xC h6
     have hie:i=b.length:=by omega
     rw[hie] at hd2' hv2 hin
     obtain ⟨m1,m2,m3⟩:=msub_end hu hd2 hvd hvl hW hG1 hG2 hd2' hv2
     refine kL<|jB<|kx [(19,(vi (((((u2.getD (j+b.length) 0):Nat):Int)-((bo:Nat):Int))-((ca:Nat):Int))))] [] (zM<|zM<|zM<|zE (vT (j+b.length))<|zE (yE kG (j+b.length))<|zR (eZ qL (j+b.length) (0:Nat))<|zE (cB yM in2 (u2.getD (j+b.length) 0))<|zM<|zE (zSb ((((u2.getD (j+b.length) 0):Nat):Int)-((bo:Nat):Int)))<|zM<|zE (cB nA in2 ca)<|zE (zSb (((((u2.getD (j+b.length) 0):Nat):Int)-((bo:Nat):Int))-((ca:Nat):Int)))<|zM<|zZ) ?_
     refine jB<|jB<|kx [(189,(vb (decide ((((((u2.getD (j+b.length) 0):Nat):Int)-((bo:Nat):Int))-((ca:Nat):Int))<0))))] [] (zM<|zE gZ<|zZ) ?_
     refine jE rfl (fun h8=>?_) (fun h8=>?_)
     ·replace h8:=vY h8
      obtain ⟨n1,n2,r,n3,n4,n5⟩:=m2 (by omega)
      refine jB<|kx [] [(0,some (bm jC (u2.set (j+b.length) 999999999)))] (zM<|zM<|zM<|zE (vT (j+b.length))<|zM<|zE (zAd ((((((u2.getD (j+b.length) 0):Nat):Int)-((bo:Nat):Int))-((ca:Nat):Int))+1000000000))<|zE (cB un2 gJ 999999999 (hr:=by exact (wu32 (by omega) (by omega) (by omega))))<|zE (yE kG (j+b.length))<|zT (eX qL (j+b.length) 999999999)<|zZ) ?_
      refine jB<|kx [(12,(gE (G-1)))] [] (zM<|zE (oSb (G-1))<|zM<|zZ) ?_
      refine jB<|kx [(20,(iJ 0))] [] (zM<|zZ) ?_
      refine jB<|jB<|kx [(200,(kF b.length)),(201,(kF 0))] [] (zM<|zM<|zZ) ?_
      refine jH<|kO (α:=Nat × List Nat × Nat) (fun (i,u3,c)=>⟨[(4,(.own 1 107 1 ((u0++[0]).length-b.length))),(6,(iJ (dI b))),(7,(.own 0 107 1 ((u0++[0]).length))),(8,(vl 107 1 jC v)),(9,(kF b.length)),(10,(kF j)),(12,(gE (G-1))),(20,(iJ c)),(200,(kF b.length)),(201,(kF i))],[(0,some (bm jC u3)),(1,some (bm jC q))]⟩) (fun (i,u3,c)=>u3.length=(u0++[0]).length/\Dig u3/\u3.take j=(u2.set (j+b.length) 999999999).take j/\u3.drop (j+i)=(u2.set (j+b.length) 999999999).drop (j+i)/\i<=b.length/\c<=1/\val ((u3.drop j).take i)+pw i*c=val (((u2.set (j+b.length) 999999999).drop j).take i)+val (v.take i)) (fun (i,u3,c)=>b.length-i) (0,u2.set (j+b.length) 999999999,0) wk ⟨by simpa using hl2,hd2.set _ (by decide),rfl,rfl,Nat.zero_le _,Nat.zero_le _,by simp [val]⟩ ?_
      rintro ⟨i,u3,c⟩ ⟨hl3,hd3,ht3,hd3',hin,hc,hv3⟩
      have hgi:=hvd.getD i
      have hgu:=hd3.getD (i+j)
      have hgt:=hd3.getD (j+b.length)
      refine jB<|kx [(202,(vb (decide (((i:Nat):Int)<((b.length:Nat):Int)))))] [] (zE gZ<|zZ) ?_
      refine jB<|jE rfl (fun h9=>?_) (fun h9=>?_)
      ·replace h9:=vY h9
       have hi:i<b.length:=by omega
       refine jD<|jB<|jH<|jB<|kx [(21,(kF i))] [] (zM<|zM<|zZ) ?_
       refine jB<|kd [(22,(iJ (((u3.getD (i+j) 0)+(v.getD i 0))+c)))] [] mo (wM<|wM<|wM<|wE (vT (i+j))<|wE (yE kG (i+j))<|wR (eZ qL (i+j) (0:Nat))<|wM<|wM<|wE (cT kG i (0:Nat))<|wE (nY qL)<|wE (vT ((u3.getD (i+j) 0)+(v.getD i 0)))<|wM<|wE (vT (((u3.getD (i+j) 0)+(v.getD i 0))+c))<|wM<|wZ) ?_
       refine jB<|kx [(20,(iJ 0))] [] (zM<|zZ) ?_
       refine jB<|jB<|kx [(218,(vb (decide (1000000000<=(((((u3.getD (i+j) 0)+(v.getD i 0))+c):Nat):Int)))))] [] (zM<|zE oGe<|zZ) ?_
       refine jE rfl (fun h10=>?_) (fun h10=>?_)
       ·replace h10:=vY h10
        refine kx [(20,(iJ 1)),(22,(iJ ((((u3.getD (i+j) 0)+(v.getD i 0))+c)-1000000000)))] [] (zM<|zE (oSb ((((u3.getD (i+j) 0)+(v.getD i 0))+c)-1000000000))<|zM<|zM<|zZ) ?_
        refine kx [] [(0,some (bm jC (u3.set (i+j) ((((u3.getD (i+j) 0)+(v.getD i 0))+c)-1000000000))))] (zM<|zM<|zM<|zE (vT (i+j))<|zM<|zE (yE kG (i+j))<|zT (eX qL (i+j) ((((u3.getD (i+j) 0)+(v.getD i 0))+c)-1000000000))<|zZ) ?_
        refine kx [(201,(kF (i+1)))] [] (zE (vT (i+1))<|zM<|zZ) ?_
        exact ⟨(i+1,u3.set (i+j) (u3.getD (i+j) 0+v.getD i 0+c-1000000000),1),wk,(by obtain ⟨q1,q2,q3,q4,q5⟩:=addb_step (v:=v) (L:=(u0++[0]).length) (s:=u3.getD (i+j) 0+v.getD i 0+c) (e:=u3.getD (i+j) 0+v.getD i 0+c-1000000000) (c':=1) hjn hi hl3 (by simpa using hl2) hd3 ht3 hd3' hv3 rfl (by omega) (by omega);exact ⟨q1,q2,q3,q4,by omega,by omega,q5⟩),(by first|omega|(dsimp only;omega))⟩
       ·replace h10:=xC h10
        refine jD<|kx [] [(0,some (bm jC (u3.set (i+j) (((u3.getD (i+j) 0)+(v.getD i 0))+c))))] (zM<|zM<|zM<|zE (vT (i+j))<|zM<|zE (yE kG (i+j))<|zT (eX qL (i+j) (((u3.getD (i+j) 0)+(v.getD i 0))+c))<|zZ) ?_
        refine kx [(201,(kF (i+1)))] [] (zE (vT (i+1))<|zM<|zZ) ?_
        exact ⟨(i+1,u3.set (i+j) (u3.getD (i+j) 0+v.getD i 0+c),0),wk,(by obtain ⟨q1,q2,q3,q4,q5⟩:=addb_step (v:=v) (L:=(u0++[0]).length) (s:=u3.getD (i+j) 0+v.getD i 0+c) (e:=u3.getD (i+j) 0+v.getD i 0+c) (c':=0) hjn hi hl3 (by simpa using hl2) hd3 ht3 hd3' hv3 rfl (by omega) (by omega);exact ⟨q1,q2,q3,q4,by omega,by omega,q5⟩),(by first|omega|(dsimp only;omega))⟩
      ·replace h9:=xC h9
       have hie2:i=b.length:=by omega
       rw[hie2] at hd3' hv3 hin
       refine kL<|kx [] [(0,some (bm jC (u3.set (j+b.length) (((u3.getD (j+b.length) 0)+c) % 1000000000))))] (zM<|zM<|zM<|zE (vT (j+b.length))<|zM<|zM<|zM<|zE (vT (j+b.length))<|zE (yE kG (j+b.length))<|zR (eZ qL (j+b.length) (0:Nat))<|zM<|zE (vT ((u3.getD (j+b.length) 0)+c))<|zE (oRe (((u3.getD (j+b.length) 0)+c) % 1000000000))<|zE (yE kG (j+b.length))<|zT (eX qL (j+b.length) (((u3.getD (j+b.length) 0)+c) % 1000000000))<|zZ) ?_
       refine kx [] [(1,some (bm jC (q.set j (G-1))))] (zM<|zM<|zM<|zE (cB nA gJ (G-1))<|zE (yE kG j)<|zT (eX qL j (G-1))<|zZ) ?_
       refine kx [(10,(vi (((j:Nat):Int)-1)))] [] (zM<|zE (zSb (((j:Nat):Int)-1))<|zM<|zZ) ?_
       exact ⟨(j,u3.set (j+b.length) ((u3.getD (j+b.length) 0+c) % 1000000000),q.set j (G-1)),wk,(by obtain ⟨p1,p2⟩:=neg_end hd3 hvd hvl (by omega) (by omega) (hl2.trans qK.symm) (hl3.trans qK.symm) ht2 hd2' hW hc ht3 hd3' hv3 n3 n4 n5 hU;exact ⟨by simpa using hl3,hd3.set _ (Nat.mod_lt _ (by decide)),by simpa using hql,hqd.set _ (by omega),by omega,p1,p2⟩),(by first|omega|(dsimp only;omega))⟩
     ·replace h8:=xC h8
      obtain ⟨n1,n2,n3⟩:=m3 (by omega)
      refine kx [] [(0,some (bm jC (u2.set (j+b.length) 0)))] (zM<|zM<|zM<|zE (vT (j+b.length))<|zM<|zE (cB un2 gJ 0 (hr:=by exact (wu32 (by omega) (by omega) (by omega))))<|zE (yE kG (j+b.length))<|zT (eX qL (j+b.length) 0)<|zZ) ?_
      refine kx [] [(1,some (bm jC (q.set j G)))] (zM<|zM<|zM<|zE (cB nA gJ G)<|zE (yE kG j)<|zT (eX qL j G)<|zZ) ?_
      refine kx [(10,(vi (((j:Nat):Int)-1)))] [] (zM<|zE (zSb (((j:Nat):Int)-1))<|zM<|zZ) ?_
      exact ⟨(j,u2.set (j+b.length) 0,q.set j G),wk,(by obtain ⟨p1,p2⟩:=pos_end hu hvd hvl (by omega) (by omega) (hl2.trans qK.symm) ht2 hd2' hW n2 n3 hU;exact ⟨by simpa using hl2,hd2.set _ (by decide),by simpa using hql,hqd.set _ (by omega),by omega,p1,p2⟩),(by first|omega|(dsimp only;omega))⟩
  ·replace h2:=xC h2
   obtain rfl:k=0:=by omega
   obtain ⟨e1,e2⟩:=scl_div hdb (by omega) (by rw[hvv] at hU;exact hU) (by rw[hvv] at hW;exact hW)
   rw[List.drop_zero] at hW
   refine kL<|jB<|qG (yG (t:=7) (k:=0) (es:=List.map jC u) rfl rfl (vW _ _ (fun _=>rfl)) (xR _ _ qK) (xY _ _ (fun _=>rfl) qK)) ?_
   refine kx [(5,(vl 107 1 jC (ofNat (val (ofNat (val (List.take b.length u))) / (dI b)))))] [] (zM<|zM<|zE (e_slc (l:=0) (h:=b.length) (kl:=.i64) (kh:=.i64) (es':=List.map jC (List.take b.length u)) (by exact rfl) kG (by exact rfl) (by exact rfl) (by exact rfl) (Nat.zero_le _) (by simp only[List.length_map];omega) (by rw[List.drop_zero,List.map_take]))<|zE (jY (t_trim (List.take b.length u) (hu.take _) (by rw[List.length_take];omega)))<|zM<|zE (jY (t_short (ofNat (val (List.take b.length u))) (dI b) (kE _) (by omega) (by omega) (Nat.le_trans (ofNat_val_len (hu.take _)) (by rw[List.length_take];omega))))<|zM<|zE xJ<|zE xJ<|zM<|zZ) ?_
   refine jB<|qG (yG (t:=4) (k:=1) (es:=List.map jC q) rfl rfl (vW _ _ (fun _=>rfl)) (xR _ _ hql) (xY _ _ (fun _=>rfl) hql)) ?_
   refine kx [(4,(vl 107 1 jC (ofNat (val q)))),(5,(vl 107 1 jC (ofNat (val (ofNat (val (List.take b.length u))) / (dI b)))))] [] (zM<|zE (jY (t_trim q hqd (by omega)))<|zM<|zM<|zM<|zZ) ?_
   refine jF ⟨_,(.tmp (d:=(.sl 107 1 (List.map jC (ofNat (val q))))) rfl (.tmp (d:=(.sl 107 1 (List.map jC (ofNat (val (ofNat (val (List.take b.length u))) / (dI b)))))) rfl .nil)),?_⟩
   rw[<- e1,<- e2,kD,val_take_of_lt (Nat.lt_trans hW (by rw[<- hvl];exact vR hvd))];rfl
theorem t_over(a b:List Nat)(ha:yY a)(hb:yY b)(hb0:0<val b)(hla:a.length<=1099511627776)(hlb:b.length<=1099511627776):jQ Tryz.prog 157 [(.sl 107 1 (List.map jC a)),(.sl 107 1 (List.map jC b))] (.tup [(.sl 107 1 (List.map jC (ofNat (val a / val b)))),(.sl 107 1 (List.map jC (ofNat (val a % val b))))]):=by
 refine uR Tryz.func157 ?_
 refine jB<|kx [] [] (zE (aY 107 1)<|zE (aY 107 1)<|zZ) ?_
 refine jB<|jB<|kx [(15,(vb (decide ((uT ((val a:Nat):Int) ((val b:Nat):Int))<0))))] [] (zM<|zM<|zE (jY (t_compare a b ha hb (by omega)))<|zE gZ<|zZ) ?_
 refine jE rfl (fun h1=>?_) (fun h1=>?_)
 ·replace h1:=vY h1
  refine jB<|kx [(4,(vl 107 1 jC [])),(5,(vl 107 1 jC a))] [] (zM<|zE (aY 107 1)<|zM<|zZ) ?_
  refine jF ⟨_,(.tmp (d:=(.sl 107 1 (List.map jC []))) rfl (.tmp (d:=(.sl 107 1 (List.map jC a))) rfl .nil)),?_⟩
  have hlt:=cmpI_neg h1
  rw[Nat.div_eq_of_lt hlt,Nat.mod_eq_of_lt hlt,uA,<- can_eq ha];rfl
 ·replace h1:=xC h1
  refine jD<|jB<|kx [(6,(gE (yJ a))),(7,(vb (mO a)))] [] (zM<|zE (jY (t_word a ha.1))<|zM<|zE xJ<|zE xJ<|zM<|zM<|zZ) ?_
  refine jB<|kx [(8,(gE (yJ b))),(9,(vb (mO b)))] [] (zM<|zE (jY (t_word b hb.1))<|zM<|zE xJ<|zE xJ<|zM<|zM<|zZ) ?_
  refine jB<|jB<|kx [(30,(vb ((mO a)&&(mO b))))] [] ?_ ?_
  ·refine zM<|zE (oV (vb (mO a)) (kW (by kernel_rfl)))<|?_
   rcases hb2:(mO a) with _ | _
   ·exact zK<|zE vL<|zZ
   ·exact zM<|zE aD<|zZ
  refine jE (b:=((mO a)&&(mO b))) rfl (fun h3=>?_) (fun h3=>?_)
  ·obtain ⟨w1,w2,w3⟩:=word_both ha.1 h3
   have w4:yJ a / yJ b<18446744073709551616:=Nat.lt_of_le_of_lt (Nat.div_le_self _ _) (by omega)
   have w5:yJ a % yJ b<18446744073709551616:=Nat.lt_of_le_of_lt (Nat.mod_le _ _) (by omega)
   refine jB<|kd [(4,(vl 107 1 jC (ofNat ((yJ a) / (yJ b))))),(5,(vl 107 1 jC (ofNat ((yJ a) % (yJ b)))))] [] mo (wM<|wM<|wE (oQu ((yJ a) / (yJ b)))<|wE (jY (t_split ((yJ a) / (yJ b)) (by omega)))<|wM<|wM<|wE (oRe ((yJ a) % (yJ b)))<|wE (jY (t_split ((yJ a) % (yJ b)) (by omega)))<|wM<|wM<|wZ) ?_
   refine jF ⟨_,(.tmp (d:=(.sl 107 1 (List.map jC (ofNat ((yJ a) / (yJ b)))))) rfl (.tmp (d:=(.sl 107 1 (List.map jC (ofNat ((yJ a) % (yJ b)))))) rfl .nil)),?_⟩
   rw[w1,w2];rfl
  ·refine jD<|jB<|jB<|kx [(41,(vb (((b.length:Nat):Int) == 1)))] [] (zM<|zE (xW kG)<|zE xU<|zZ) ?_
   refine jE (b:=(((b.length:Nat):Int) == 1)) rfl (fun h4=>?_) (fun h4=>?_)
   ·replace h4:=eq_of_beq h4
    have hv1:=val_len1 (b:=b) (by omega)
    have hg:=hb.1.getD 0
    have w5:val a % b.getD 0 0<4294967296:=Nat.lt_trans (Nat.mod_lt _ (by omega)) (by omega)
    refine jB<|kx [(10,(vl 107 1 jC (ofNat (val a / (b.getD 0 0))))),(11,(iJ (val a % (b.getD 0 0))))] [] (zM<|zM<|zE (cT kG 0 (0:Nat))<|zE (nY qL)<|zE (jY (t_short a (b.getD 0 0) ha.1 (by omega) (by omega) (by omega)))<|zM<|zE xJ<|zE xJ<|zM<|zM<|zZ) ?_
    refine jB<|kx [(4,(vl 107 1 jC (ofNat (val a / (b.getD 0 0))))),(5,(vl 107 1 jC (ofNat (val a % (b.getD 0 0)))))] [] (zM<|zM<|zE (cB yM yI (val a % (b.getD 0 0)))<|zE (jY (t_split (val a % (b.getD 0 0)) (by omega)))<|zM<|zM<|zZ) ?_
    refine jF ⟨_,(.tmp (d:=(.sl 107 1 (List.map jC (ofNat (val a / (b.getD 0 0)))))) rfl (.tmp (d:=(.sl 107 1 (List.map jC (ofNat (val a % (b.getD 0 0)))))) rfl .nil)),?_⟩
    rw[hv1];rfl
   ·replace h4:=ne_of_beq_false h4
    have hbl:=val_pos_len hb0
    refine jD<|jB<|kx [(4,(vl 107 1 jC (ofNat (val a / val b)))),(5,(vl 107 1 jC (ofNat (val a % val b))))] [] (zM<|zM<|zE (jY (t_long a b ha hb (by omega) (cmpI_nn h1) (by omega)))<|zE xJ<|zE xJ<|zM<|zM<|zZ) ?_
    refine jF ⟨_,(.tmp (d:=(.sl 107 1 (List.map jC (ofNat (val a / val b))))) rfl (.tmp (d:=(.sl 107 1 (List.map jC (ofNat (val a % val b))))) rfl .nil)),?_⟩
    rfl
theorem t_divideI(x y:kS)(hx:x.gs.length<=1099511627776)(hy:y.gs.length<=1099511627776)(hy0:jV y≠0):jQ Tryz.prog 160 [(jR x),(jR y)] (.tup [(jR (kH ((jV x).fdiv (jV y)))),(jR (kH ((jV x).fmod (jV y)))),(.val (.int .i64 (0)))]):=by
 have hgx:=qB x
 have hlx:=gD x
 have hgy:=qB y
 have hly:=gD y
 have hn:0<val (kJ y):=by have:=lH y;omega
 have hq:=len_quo (kJ x) hgx (val (kJ y))
 have hr:=len_rem (kJ x) hgx (val (kJ y))
 have hrn:=Nat.mod_lt (val (kJ x)) hn
 refine uR Tryz.func160 ?_
 refine jB<|kx [(2,(.ref 0 0)),(3,(.ref 1 0)),(4,(.ref 2 0)),(5,(.ref 3 0))] [(0,some (bx (jR x))),(1,some (bx (jR y))),(2,some (bx (jR (kS.mk false [])))),(3,some (bx (jR (kS.mk false []))))] (zN (xO 0)<|zN (xO 1)<|zN (vH 2 nN nL)<|zN (vH 3 nN nL)<|zM<|zZ) ?_
 refine jB<|kd [(7,(vl 107 1 jC (kJ x))),(8,(vl 107 1 jC (kJ y)))] [] mo (wR (kP kB)<|wE (jY (gQ x (by omega)))<|wR (kP kB)<|wE (jY (gQ y (by omega)))<|wM<|wM<|wZ) ?_
 refine jB<|jB<|kx [(17,(vb ((((kJ y).length:Nat):Int) == 0)))] [] (zM<|zE (xW kG (L:=(kJ y)))<|zE xU<|zZ) ?_
 refine jE (b:=((((kJ y).length:Nat):Int) == 0)) rfl (fun h1=>?_) (fun h1=>?_)
 ·replace h1:=eq_of_beq h1
  exact absurd (toZ_nil h1) hy0
 ·replace h1:=ne_of_beq_false h1
  refine jD<|jB<|kx [(9,(vl 107 1 jC (ofNat (val (kJ x) / val (kJ y))))),(10,(vl 107 1 jC (ofNat (val (kJ x) % val (kJ y)))))] [] (zM<|zM<|zE (jY (t_over (kJ x) (kJ y) hgx hgy (by omega) (by omega) (by omega)))<|zM<|zE xJ<|zE xJ<|zM<|zM<|zZ) ?_
  refine jB<|kx [(10,(vl 107 1 jC (ofNat (val (kJ x) % val (kJ y)))))] [] (zM<|zE (jY (t_clone (ofNat (val (kJ x) % val (kJ y))) (by omega)))<|zM<|zZ) ?_
  refine jB<|jB<|kx [(37,(vb (decide (0<(((ofNat (val (kJ x) % val (kJ y))).length:Nat):Int))&&!(x.neg == y.neg))))] [] ?_ ?_
  ·refine zM<|zE (xW kG (L:=(ofNat (val (kJ x) % val (kJ y)))))<|zE dV<|zE (oV (vb (decide (0<(((ofNat (val (kJ x) % val (kJ y))).length:Nat):Int)))) (kW (by kernel_rfl)))<|?_
   rcases hb2:(decide (0<(((ofNat (val (kJ x) % val (kJ y))).length:Nat):Int))) with _ | _
   ·replace hb2:=xC hb2
    exact zK<|zK<|zK<|zK<|zK<|zE vL<|zZ
   ·replace hb2:=vY hb2
    exact zE (kI vK)<|zR (qH aU)<|zE (kI vK)<|zR (qH aU)<|zE (oNb bo4)<|zE aD<|zZ
  refine jE rfl (fun h3=>?_) (fun h3=>?_)
  ·have e1:(ofNat (val (ofNat (val (kJ x) / val (kJ y)))+val [1])).length<=1099511627777:=uB (by rw[kD,cV];have:=ofNat_lt_pw (val (kJ x) / val (kJ y));have h3:pw (ofNat (val (kJ x) / val (kJ y))).length<=pw 1099511627776:=nH (by omega);have h4:=pw_lt (show 1099511627776<1099511627777 by decide);omega)
   have e2:=sub_len (b:=ofNat (val (kJ x) % val (kJ y))) hgy.1
   rw[Bool.and_eq_true,decide_eq_true_eq,Bool.not_eq_true',beq_eq_false_iff_ne] at h3
   obtain ⟨k1,k2⟩:=h3
   have k3:0<val (kJ x) % val (kJ y):=by have:=cL (kY (val (kJ x) % val (kJ y))) (by omega);rwa [kD] at this
   obtain ⟨d1,d2⟩:=div_other hn k2 k3
   refine kx [(9,(vl 107 1 jC (ofNat (val (ofNat (val (kJ x) / val (kJ y)))+val [1])))),(10,(vl 107 1 jC (ofNat (val (kJ y)-val (ofNat (val (kJ x) % val (kJ y)))))))] [] (zM<|zE (eY kG vQ yQ)<|zE (jY (t_plus (ofNat (val (kJ x) / val (kJ y))) [1] (kE _) (yR.2 ⟨by decide,gL⟩) (by omega) (by decide)))<|zM<|zM<|zE (jY (t_minus (kJ y) (ofNat (val (kJ x) % val (kJ y))) hgy.1 (kE _) (by rw[kD];omega) (by omega)))<|zM<|zM<|zZ) ?_
   refine jB<|kd [(6,(kF 0))] [(2,some (bx (jR (xI (!(x.neg == y.neg)) (val (ofNat (val (ofNat (val (kJ x) / val (kJ y)))+val [1]))))))),(3,some (bx (jR (xI y.neg (val (ofNat (val (kJ y)-val (ofNat (val (kJ x) % val (kJ y))))))))))] mo (wE (kI vK)<|wR (qH aU)<|wE (kI vK)<|wR (qH aU)<|wE (oNb bo4)<|wM<|wE (jY (eB (!(x.neg == y.neg)) (ofNat (val (ofNat (val (kJ x) / val (kJ y)))+val [1])) (kE _) (by omega)))<|wE (kI vK)<|wR (qH aU)<|wM<|wE (jY (eB y.neg (ofNat (val (kJ y)-val (ofNat (val (kJ x) % val (kJ y))))) (kE _) (by omega)))<|wT (qJ kB)<|wT (qJ kB)<|wM<|wZ) ?_
   refine jF ⟨_,(kR (cs:=(bx (jR (xI (!(x.neg == y.neg)) (val (ofNat (val (ofNat (val (kJ x) / val (kJ y)))+val [1]))))))) (d:=(jR (xI (!(x.neg == y.neg)) (val (ofNat (val (ofNat (val (kJ x) / val (kJ y)))+val [1])))))) rfl rfl kB rfl rfl (kR (cs:=(bx (jR (xI y.neg (val (ofNat (val (kJ y)-val (ofNat (val (kJ x) % val (kJ y)))))))))) (d:=(jR (xI y.neg (val (ofNat (val (kJ y)-val (ofNat (val (kJ x) % val (kJ y))))))))) rfl rfl kB rfl rfl (.tmp (d:=(.val (.int .i64 (0)))) rfl .nil))),?_⟩
   unfold jV
   rw[d1,d2]
   simp only[kD,cV]
   rfl
  ·obtain ⟨d1,d2⟩:=div_same (b:=x.neg) (c:=y.neg) (m:=val (kJ x)) hn (by rw[Bool.and_eq_false_iff,decide_eq_false_iff_not,Bool.not_eq_false',beq_iff_eq] at h3;rcases h3 with k | k;right;have:=eE (n:=val (kJ x) % val (kJ y));omega;exact .inl k)
   refine jD<|jB<|kd [(6,(kF 0))] [(2,some (bx (jR (xI (!(x.neg == y.neg)) (val (ofNat (val (kJ x) / val (kJ y)))))))),(3,some (bx (jR (xI y.neg (val (ofNat (val (kJ x) % val (kJ y))))))))] mo (wE (kI vK)<|wR (qH aU)<|wE (kI vK)<|wR (qH aU)<|wE (oNb bo4)<|wM<|wE (jY (eB (!(x.neg == y.neg)) (ofNat (val (kJ x) / val (kJ y))) (kE _) (by omega)))<|wE (kI vK)<|wR (qH aU)<|wM<|wE (jY (eB y.neg (ofNat (val (kJ x) % val (kJ y))) (kE _) (by omega)))<|wT (qJ kB)<|wT (qJ kB)<|wM<|wZ) ?_
   refine jF ⟨_,(kR (cs:=(bx (jR (xI (!(x.neg == y.neg)) (val (ofNat (val (kJ x) / val (kJ y)))))))) (d:=(jR (xI (!(x.neg == y.neg)) (val (ofNat (val (kJ x) / val (kJ y))))))) rfl rfl kB rfl rfl (kR (cs:=(bx (jR (xI y.neg (val (ofNat (val (kJ x) % val (kJ y)))))))) (d:=(jR (xI y.neg (val (ofNat (val (kJ x) % val (kJ y))))))) rfl rfl kB rfl rfl (.tmp (d:=(.val (.int .i64 (0)))) rfl .nil))),?_⟩
   unfold jV
   rw[d1,d2]
   simp only[kD]
   rfl
theorem t_gcdI(x y:kS)(hx:x.gs.length<=1099511627776)(hy:y.gs.length<=1099511627776):jQ Tryz.prog 86 [(jR x),(jR y)] (jR (kH ((Int.gcd (jV x) (jV y):Nat):Int))):=by
 have hgx:=qB x
 have hlx:=gD x
 have hgy:=qB y
 have hly:=gD y
 refine uR Tryz.func86 ?_
 refine jB<|kx [(2,(.ref 0 0)),(3,(.ref 1 0)),(4,(.ref 2 0))] [(0,some (bx (jR x))),(1,some (bx (jR y))),(2,some (bx (jR (kS.mk false []))))] (zN (xO 0)<|zN (xO 1)<|zN (vH 2 nN nL)<|zZ) ?_
 refine jB<|kd [(5,(vl 107 1 jC (kJ x))),(6,(vl 107 1 jC (kJ y)))] [] mo (wR (kP kB)<|wE (jY (gQ x (by omega)))<|wR (kP kB)<|wE (jY (gQ y (by omega)))<|wM<|wM<|wZ) ?_
 refine jB<|jH<|kO (α:=List Nat × List Nat) (fun (a,b)=>⟨[(4,(.ref 2 0)),(5,(vl 107 1 jC a)),(6,(vl 107 1 jC b))],[(2,some (bx (jR (kS.mk false []))))]⟩) (fun (a,b)=>yY a/\yY b/\a.length<=1099511627776/\b.length<=1099511627776/\Nat.gcd (val a) (val b)=Int.gcd (jV x) (jV y)) (fun (a,b)=>val b) (kJ x,kJ y) wk ⟨hgx,hgy,by omega,by omega,gcd_toZ x y⟩ ?_
 rintro ⟨a,b⟩ ⟨ha,hb,hla,hlb,hg⟩
 refine jB<|jB<|kx [(19,(vb (decide (0<((b.length:Nat):Int)))))] [] (zM<|zE (xW kG)<|zE dV<|zZ) ?_
 refine jE (b:=decide (0<((b.length:Nat):Int))) rfl (fun h1=>?_) (fun h1=>?_)
 ·replace h1:=vY h1
  have hb0:=cL hb (by omega)
  refine jD<|jH<|jB<|kx [(7,(gE (yJ a))),(8,(vb (mO a)))] [] (zM<|zE (jY (t_word a ha.1))<|zM<|zE xJ<|zE xJ<|zM<|zM<|zZ) ?_
  refine jB<|kx [(9,(gE (yJ b))),(10,(vb (mO b)))] [] (zM<|zE (jY (t_word b hb.1))<|zM<|zE xJ<|zE xJ<|zM<|zM<|zZ) ?_
  refine jB<|jB<|kx [(33,(vb ((mO a)&&(mO b))))] [] ?_ ?_
  ·refine zM<|zE (oV (vb (mO a)) (kW (by kernel_rfl)))<|?_
   rcases hb2:(mO a) with _ | _
   ·exact zK<|zE vL<|zZ
   ·exact zM<|zE aD<|zZ
  refine jE (b:=((mO a)&&(mO b))) rfl (fun h3=>?_) (fun h3=>?_)
  ·obtain ⟨w1,w2,w3⟩:=word_both ha.1 h3
   have w4:val b<1000000000000000000:=by rw[Bool.and_eq_true] at h3;exact val_len2 hb.1 (vY h3.2)
   refine jB<|jH<|kO (α:=Nat × Nat) (fun (m,n)=>⟨[(4,(.ref 2 0)),(7,(gE m)),(9,(gE n))],[(2,some (bx (jR (kS.mk false []))))]⟩) (fun (m,n)=>m<1000000000000000000/\n<1000000000000000000/\Nat.gcd m n=Int.gcd (jV x) (jV y)) (fun (m,n)=>n) (yJ a,yJ b) wk ⟨by omega,by omega,by rw[w1,w2];exact hg⟩ ?_
   rintro ⟨m,n⟩ ⟨hm,hn,hg2⟩
   refine jB<|jB<|kx [(35,(vb (decide (0<((n:Nat):Int)))))] [] (zM<|zE dV<|zZ) ?_
   refine jE (b:=decide (0<((n:Nat):Int))) rfl (fun h4=>?_) (fun h4=>?_)
   ·replace h4:=vY h4
    refine jD<|jH<|kd [(7,(gE n)),(9,(gE (m % n)))] [] mo (wM<|wM<|wM<|wE (oRe (m % n))<|wM<|wM<|wZ) ?_
    exact ⟨(n,m % n),wk,⟨hn,Nat.lt_of_le_of_lt (Nat.mod_le _ _) hm,by rw[<- hg2,Nat.gcd_comm,<- Nat.gcd_rec,Nat.gcd_comm]⟩,(by dsimp only;exact Nat.mod_lt _ (by omega))⟩
   ·replace h4:=xC h4
    obtain rfl:n=0:=by omega
    rw[Nat.gcd_zero_right] at hg2
    refine kL<|jB<|kx [] [(2,some (bx (jR (xI false (val (ofNat m))))))] (zM<|zE (jY (t_split m (by omega)))<|zE (jY (eB false (ofNat m) (kE _) (Nat.le_trans (fN (by omega)) (by decide))))<|zT (qJ kB)<|zZ) ?_
    refine jF ⟨_,(kR (cs:=(bx (jR (xI false (val (ofNat m)))))) (d:=(jR (xI false (val (ofNat m))))) rfl rfl kB rfl rfl .nil),?_⟩
    rw[<- hg2,kD,mkI_false];rfl
  ·refine jD<|jB<|kx [(12,(vl 107 1 jC (ofNat (val a % val b))))] [] (zM<|zM<|zE (jY (t_over a b ha hb hb0 (by omega) (by omega)))<|zM<|zE xJ<|zE xJ<|zM<|zM<|zZ) ?_
   refine kx [(5,(vl 107 1 jC b)),(6,(vl 107 1 jC (ofNat (val a % val b))))] [] (zM<|zM<|zM<|zM<|zZ) ?_
   exact ⟨(b,ofNat (val a % val b)),wk,⟨hb,kY _,hlb,Nat.le_trans (len_rem a ha _) hla,by rw[kD,<- hg,Nat.gcd_comm,<- Nat.gcd_rec,Nat.gcd_comm]⟩,(by dsimp only;rw[kD];exact Nat.mod_lt _ hb0)⟩
 ·replace h1:=xC h1
  have hb1:b=[]:=List.eq_nil_of_length_eq_zero (by omega)
  rw[hb1,val_nil,Nat.gcd_zero_right] at hg
  refine kL<|jB<|kx [] [(2,some (bx (jR (xI false (val a)))))] (zM<|zE (jY (t_clone a (by omega)))<|zE (jY (eB false a ha.1 (by omega)))<|zT (qJ kB)<|zZ) ?_
  refine jF ⟨_,(kR (cs:=(bx (jR (xI false (val a))))) (d:=(jR (xI false (val a)))) rfl rfl kB rfl rfl .nil),?_⟩
  rw[<- hg,mkI_false];rfl
end Go.Proofs.YtckccjhflbljgaaGreatDoor
