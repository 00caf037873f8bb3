/- Part 22 of a proof: rules, plain facts, and functions walked. -/
import Derived.Test.YtckccjhflbljgaaGreatDoorM21
set_option linter.all false
set_option maxRecDepth 4000
namespace Go.Proofs.YtckccjhflbljgaaGreatDoor
open Go.Fid
theorem ze28:xB Tryz.prog 28=some [.slice none 0 0]:=by kernel_rfl
theorem zo28:dR [.slice none 0 0] [.sl 107 1 []]:=by simp [dR,Value.oneCell']
theorem t_short(a:List Nat)(d:Nat)(hda:Dig a)(hd0:0<d)(hd1:d<=1000000000)(hla:a.length<=17592186044416):jS Tryz.prog 181 [(.sl 107 1 (List.map jC a)),(.val (.int .u32 (((d:Nat):Int))))] (.tup [(.sl 107 1 (List.map jC (ofNat (val a / d)))),(.val (.int .u32 ((((val a % d):Nat):Int))))]):=by
 refine uW Tryz.func181 ?_
 refine jB<|kx [(3,(.ref 0 0)),(4,(.ref 1 0)),(5,(iE 0))] [(0,some (bx (.val (.int .u32 (((d:Nat):Int)))))),(1,some (bx (.sl 107 1 (List.map jC []))))] (zN (vX 0)<|zN (uJ 1 ze28 zo28)<|zM<|zZ) ?_
 refine jB<|kx [] [(1,some [(.own 2 107 1 a.length)]),(2,some (bm jC (List.replicate a.length 0)))] (zM<|zE (yH kJ)<|zN (oMk 2 jC (0:Nat) a.length a.length kJ vY yT nY)<|zT (oSo xX)<|zZ) ?_
 refine jB<|kx [(6,(.ref 3 0))] [(3,some (bx (.val (.int .u64 (0)))))] (zH (uJ 3 ze137 zo137)<|zT (qM sh137)<|zZ) ?_
 refine jB<|pwp_backL backs cb178 rfl 7 jC a 0 (fun (q,xM)=>⟨[(3,(.ref 0 0)),(4,(.ref 1 0)),(5,(iE 0)),(6,(.ref 3 0))],[(0,some (bx (.val (.int .u32 (((d:Nat):Int)))))),(1,some [(.own 2 107 1 a.length)]),(2,some (bm jC q)),(3,some (bx (.val (.int .u64 (((xM:Nat):Int))))))]⟩) (fun (j:Nat) (q,xM)=>q.length=a.length/\Dig q/\xM<d/\val (a.drop (a.length-j))=val (q.drop (a.length-j))*d+xM) (List.replicate a.length 0,0) rfl rfl rfl rfl rfl rfl rfl rfl rfl rfl rfl rfl (fun _=>rfl) (fun _=>rfl) wk ⟨by simp,zP _,hd0,by simp [val,dZ]⟩ (by omega) ?_ ?_
 ·rintro rl j ⟨q,xM⟩ hj ⟨qO,hdq,hr,hv⟩
  have hg:=hda.getD (a.length-1-j)
  obtain ⟨hb1,hb2⟩:=short_bound hr hd1 hg
  refine jB<|kx [(7,(jT (a.length-1-j)))] [] (zM<|zZ) ?_
  refine kx [(8,(iE (a.getD (a.length-1-j) 0)))] [] (zM<|zZ) ?_
  refine jH<|jB<|kx [(9,(gN ((xM*1000000000)+(a.getD (a.length-1-j) 0))))] [] (zR (qJ sh137)<|zE (oMl (xM*1000000000))<|zM<|zE (mP yU yM (a.getD (a.length-1-j) 0))<|zE (xD ((xM*1000000000)+(a.getD (a.length-1-j) 0)))<|zM<|zZ) ?_
  refine kd [] [(2,some (bm jC (q.set (a.length-1-j) (((xM*1000000000)+(a.getD (a.length-1-j) 0)) / d)))),(3,some (bx (.val (.int .u64 ((((((xM*1000000000)+(a.getD (a.length-1-j) 0)) % d):Nat):Int))))))] mo (wR (qJ xX)<|wM<|wM<|wR (qJ qP)<|wE (mP yU yM d)<|wE (oQu (((xM*1000000000)+(a.getD (a.length-1-j) 0)) / d))<|wE (mP nC gV (((xM*1000000000)+(a.getD (a.length-1-j) 0)) / d))<|wM<|wR (qJ qP)<|wE (mP yU yM d)<|wE (oRe (((xM*1000000000)+(a.getD (a.length-1-j) 0)) % d))<|wE (yK kJ (a.length-1-j))<|wT (eR qP (a.length-1-j) (((xM*1000000000)+(a.getD (a.length-1-j) 0)) / d))<|wT (qM sh137)<|wZ) ?_
  exact ⟨(q.set (a.length-1-j) ((xM*1000000000+a.getD (a.length-1-j) 0) / d),(xM*1000000000+a.getD (a.length-1-j) 0) % d),wk,⟨by simpa using qO,hdq.set _ hb2,Nat.mod_lt _ hd0,short_step hj qO hv rfl⟩⟩
 ·rintro ⟨q,xM⟩ ⟨qO,hdq,hr,hv⟩
  obtain ⟨e1,e2⟩:=short_end hv hr
  refine jB<|kG (publishB (j:=1) (k:=2) (es:=List.map jC q) rfl rfl rfl (vQ _ _ (fun _=>rfl)) (vS _ _ qO) (xP _ _ (fun _=>rfl) qO)) ?_
  refine kd [(5,(iE xM))] [(1,some (bx (.sl 107 1 (List.map jC (ofNat (val q))))))] mo (wR (qJ xX)<|wE (kB (t_trim q (by assumption) (by omega)))<|wR (qJ sh137)<|wE (mP nC gV xM)<|wT (qM xX)<|wM<|wZ) ?_
  refine jD ⟨_,(res_1 (cs:=(bx (.sl 107 1 (List.map jC (ofNat (val q)))))) (d:=(.sl 107 1 (List.map jC (ofNat (val q))))) rfl rfl xX rfl rfl (.tmp (d:=(.val (.int .u32 (((xM:Nat):Int))))) rfl .nil)),?_⟩
  rw[<- e1,<- e2];rfl
theorem o_times(a b:List Nat)(hda:Dig a)(hdb:Dig b)(hla:a.length<=4398046511104)(hlb:b.length<=4398046511104)(h0:0<val a*val b):TakesO Tryz.prog 161 [(.sl 107 1 (List.map jC a)),(.sl 107 1 (List.map jC b))] 107 1 (ofNat (val a*val b)).length (List.map jC (ofNat (val a*val b))):=by
 refine fn_introO Tryz.func161 rfl cb161 rfl (dV h0) ?_
 refine jB<|kx [] [] (zE (bB 107 1)<|zZ) ?_
 refine jB<|kx [(5,(.own 0 107 1 (a.length+b.length)))] [(0,some (bm jC (List.replicate (a.length+b.length) 0)))] (zM<|zE (yH kJ)<|zM<|zE (yH kJ)<|zE (xD (a.length+b.length))<|zN (oMk 0 jC (0:Nat) (a.length+b.length) (a.length+b.length) kJ vY yT nY)<|zM<|zZ) ?_
 refine jB<|jB<|kx [(18,(vl 107 1 jC a)),(19,(jT a.length)),(20,(jT 0))] [] (zM<|zE (yH kJ)<|zM<|zZ) ?_
 refine jH<|kQ (α:=Nat × List Nat) (fun (i,out)=>⟨[(1,(vl 107 1 jC b)),(5,(.own 0 107 1 (a.length+b.length))),(18,(vl 107 1 jC a)),(19,(jT a.length)),(20,(jT i))],[(0,some (bm jC out))]⟩) (fun (i,out)=>out.length=a.length+b.length/\Dig out/\i<=a.length/\(∀ k,i+b.length<=k->out.getD k 0=0)/\val out=val (a.take i)*val b) (fun (i,out)=>a.length-i) (0,List.replicate (a.length+b.length) 0) wk ⟨by simp,zP _,Nat.zero_le _,fun k _=>fS _ k,by simp [val,dZ]⟩ ?_
 rintro ⟨i,out⟩ ⟨qO,hdo,hi,hz,hv⟩
 have hai:=hda.getD i
 refine jB<|kx [(21,(vb (decide (((i:Nat):Int)<((a.length:Nat):Int)))))] [] (zE yY<|zZ) ?_
 refine jB<|jF rfl (fun h1=>?_) (fun h1=>?_)
 ·replace h1:=vT h1
  refine jE<|jB<|jH<|jB<|kx [(6,(jT i)),(7,(iE (a.getD i 0)))] [] (zM<|zE (dA kJ i (0:Nat))<|zE (nX qP)<|zM<|zM<|zZ) ?_
  refine jB<|kx [(8,(gN 0))] [] (zM<|zZ) ?_
  refine jB<|jB<|kx [(25,(vl 107 1 jC b)),(26,(jT b.length)),(27,(jT 0))] [] (zM<|zE (yH kJ)<|zM<|zZ) ?_
  refine jH<|kQ (α:=Nat × List Nat × Nat) (fun (j,o2,c)=>⟨[(1,(vl 107 1 jC b)),(5,(.own 0 107 1 (a.length+b.length))),(6,(jT i)),(7,(iE (a.getD i 0))),(8,(gN c)),(18,(vl 107 1 jC a)),(19,(jT a.length)),(20,(jT i)),(25,(vl 107 1 jC b)),(26,(jT b.length)),(27,(jT j))],[(0,some (bm jC o2))]⟩) (fun (j,o2,c)=>o2.length=a.length+b.length/\Dig o2/\j<=b.length/\c<1000000000/\(∀ k,i+b.length<=k->o2.getD k 0=0)/\val o2+pw (i+j)*c=val (a.take i)*val b+pw i*(a.getD i 0*val (b.take j))) (fun (j,o2,c)=>b.length-j) (0,out,0) wk ⟨qO,hdo,Nat.zero_le _,by decide,hz,by simp [val,hv]⟩ ?_
  rintro ⟨j,o2,c⟩ ⟨hlen2,hdo2,hj,hc,hz2,hv2⟩
  have hbj:=hdb.getD j
  have hoj:=hdo2.getD (i+j)
  have hpq:a.getD i 0*b.getD j 0<=999999999*999999999:=Nat.mul_le_mul (by omega) (by omega)
  refine jB<|kx [(28,(vb (decide (((j:Nat):Int)<((b.length:Nat):Int)))))] [] (zE yY<|zZ) ?_
  refine jB<|jF rfl (fun h2=>?_) (fun h2=>?_)
  ·replace h2:=vT h2
   refine jE<|jB<|jH<|jB<|kx [(9,(jT j)),(10,(iE (b.getD j 0)))] [] (zM<|zE (dA kJ j (0:Nat))<|zE (nX qP)<|zM<|zM<|zZ) ?_
   refine jB<|kx [(11,(gN (((o2.getD (i+j) 0)+((a.getD i 0)*(b.getD j 0)))+c)))] [] (zM<|zM<|zM<|zE (xD (i+j))<|zE (yK kJ (i+j))<|zR (eQ qP (i+j) (0:Nat))<|zE (mP yU yM (o2.getD (i+j) 0))<|zM<|zE (mP yU yM (a.getD i 0))<|zM<|zE (mP yU yM (b.getD j 0))<|zE (oMl ((a.getD i 0)*(b.getD j 0)))<|zE (xD ((o2.getD (i+j) 0)+((a.getD i 0)*(b.getD j 0))))<|zM<|zE (xD (((o2.getD (i+j) 0)+((a.getD i 0)*(b.getD j 0)))+c))<|zM<|zZ) ?_
   refine kx [(8,(gN ((((o2.getD (i+j) 0)+((a.getD i 0)*(b.getD j 0)))+c) / 1000000000)))] [(0,some (bm jC (o2.set (i+j) ((((o2.getD (i+j) 0)+((a.getD i 0)*(b.getD j 0)))+c) % 1000000000))))] (zM<|zM<|zM<|zE (xD (i+j))<|zM<|zE (oRe ((((o2.getD (i+j) 0)+((a.getD i 0)*(b.getD j 0)))+c) % 1000000000))<|zE (mP nC gV ((((o2.getD (i+j) 0)+((a.getD i 0)*(b.getD j 0)))+c) % 1000000000))<|zM<|zE (oQu ((((o2.getD (i+j) 0)+((a.getD i 0)*(b.getD j 0)))+c) / 1000000000))<|zE (yK kJ (i+j))<|zT (eR qP (i+j) ((((o2.getD (i+j) 0)+((a.getD i 0)*(b.getD j 0)))+c) % 1000000000))<|zM<|zZ) ?_
   refine kx [(27,(jT (j+1)))] [] (zE (xD (j+1))<|zM<|zZ) ?_
   exact ⟨(j+1,o2.set (i+j) ((o2.getD (i+j) 0+a.getD i 0*b.getD j 0+c) % 1000000000),(o2.getD (i+j) 0+a.getD i 0*b.getD j 0+c) / 1000000000),wk,(by obtain ⟨q1,q2⟩:=times_step (by omega) hdo2 hv2 rfl (val_take_succ b j);exact ⟨by simpa using hlen2,q1,by omega,by omega,zero_set (by omega) hz2,q2⟩),(by first|omega|(dsimp only;omega))⟩
  ·replace h2:=xC h2
   have hje:j=b.length:=by omega
   rw[hje] at hv2
   refine kL<|kx [] [(0,some (bm jC (o2.set (i+b.length) c)))] (zM<|zM<|zM<|zE (yH kJ)<|zE (xD (i+b.length))<|zM<|zE (mP nC gV c)<|zE (yK kJ (i+b.length))<|zT (eR qP (i+b.length) c)<|zZ) ?_
   refine kx [(20,(jT (i+1)))] [] (zE (xD (i+1))<|zM<|zZ) ?_
   exact ⟨(i+1,o2.set (i+b.length) c),wk,(by obtain ⟨q1,q2,q3,q4⟩:=times_row hdo2 (by omega) hlen2 hz2 hc hv2;exact ⟨q1,q2,by omega,q3,q4⟩),(by first|omega|(dsimp only;omega))⟩
 ·replace h1:=xC h1
  have hie:i=a.length:=by omega
  rw[hie,List.take_length] at hv
  refine kL<|jB<|kx [(4,(.own 0 107 1 ((ofNat (val out)).length)))] [] (zM<|zR ⟨_,e_trimO out (by exact rfl) (by exact rfl) qO hdo (by omega),by kernel_rfl⟩<|zM<|zZ) ?_
  rw[<- hv]
  refine jD ⟨4,0,rfl,rfl,(bm jC out),rfl,?_⟩
  exact own_prefix _ (trim_take hdo)
theorem in2:intB Tryz.prog 2=some .i64:=by kernel_rfl
theorem un2:(Tryz.prog.underlying 2).isSome=true:=by kernel_rfl
set_option maxHeartbeats 4000000 in
theorem t_long(a b:List Nat)(hda:gH a)(hdb:gH b)(hb2:2<=b.length)(hba:val b<=val a)(hla:a.length<=1099511627776):jS Tryz.prog 182 [(.sl 107 1 (List.map jC a)),(.sl 107 1 (List.map jC b))] (.tup [(.sl 107 1 (List.map jC (ofNat (val a / val b)))),(.sl 107 1 (List.map jC (ofNat (val a % val b))))]):=by
 have hab:=len_of_le hda hdb hba
 have hsc:=bR hdb (by omega)
 have htp:=iL hdb (by omega)
 have hds:Dig [scl b]:=yS.2 ⟨by omega,gW⟩
 have hbp:0<val b:=by have:=val_top hdb.1 (by omega);have h2:=Nat.mul_le_mul_right (pw (b.length-1)) htp.1;have h3:=pw_pos (b.length-1);rw[Nat.succ_mul] at h2;omega
 obtain ⟨u0,hue⟩:∃ u0,u0=ofNat (val a*val [scl b]):=⟨_,rfl⟩
 obtain ⟨v,hve⟩:∃ v,v=ofNat (val b*val [scl b]):=⟨_,rfl⟩
 have hu0:Dig u0:=by rw[hue];exact kI _
 have hvd:Dig v:=by rw[hve];exact kI _
 have hvl:v.length=b.length:=by rw[hve,cO];exact scl_len hdb (by omega)
 have hvv:val v=val b*scl b:=by rw[hve,cO];exact kE _
 have hu0v:val u0=val a*scl b:=by rw[hue,cO];exact kE _
 have hu0l:a.length<=u0.length/\u0.length<=a.length+1:=by rw[hue,cO];exact scl_lenA hda hdb (by omega)
 have hLU:(u0++[0]).length=u0.length+1:=by simp
 have hcv:gH v:=by rw[hve];exact qB _
 have hv1p:0<v.getD (b.length-1) 0:=by rw[<- hvl];exact (iL hcv (by omega)).1
 have hpv:pw (b.length-1)<=val v:=by have h1:=val_top hvd (by omega);rw[hvl] at h1;have h2:=Nat.mul_le_mul_right (pw (b.length-1)) hv1p;omega
 refine uW Tryz.func182 ?_
 refine jB<|kx [] [] (zE (bB 107 1)<|zE (bB 107 1)<|zZ) ?_
 refine jB<|kx [(6,(iE (scl b)))] [] (zM<|zM<|zE (yH kJ)<|zE (oSb (b.length-1))<|zE (dA kJ (b.length-1) (0:Nat))<|zE (nX qP)<|zE (mP yU yM (b.getD (b.length-1) 0))<|zE (xD ((b.getD (b.length-1) 0)+1))<|zE (oQu (scl b) (hr:=by exact (quo_u64 1000000000 (b.getD (b.length-1) 0+1))))<|zE (mP nC gV (scl b))<|zM<|zZ) ?_
 refine jB<|kx [(7,(.own 0 107 1 u0.length))] [(0,some (bm jC u0))] (zM<|zM<|zE (fF kJ vY yT)<|zN (oCo 0 (hue▸o_times a [scl b] hda.1 hds (by omega) (by simp) (by rw[cO];exact Nat.mul_pos (by omega) hsc.1)))<|zM<|zZ) ?_
 refine jB<|kx [(8,(vl 107 1 jC v))] [] (zM<|zM<|zE (fF kJ vY yT)<|zE (kB (hve▸t_times b [scl b] hdb.1 hds (by omega) (by simp)))<|zM<|zZ) ?_
 refine jB<|kx [(9,(jT b.length))] [] (zM<|zE (oLn kJ b.length (hr:=by exact (by simp [hvl])))<|zM<|zZ) ?_
 refine jB<|kf [(7,(.own 0 107 1 ((u0++[0]).length)))] [(0,some (bm jC (u0++[0])))] (zM<|zE (fF kJ vY yT)<|zA jC u0 [0] rfl kJ vY nY<|zM<|zF) ?_
 refine jB<|jB<|kx [(50,(vb (decide ((((u0++[0]).length:Nat):Int)<=((a.length:Nat):Int)))))] [] (zM<|zE (oLo kJ)<|zM<|zE (yH kJ)<|zE oLe<|zZ) ?_
 refine jF rfl (fun h1=>?_) (fun h1=>?_)
 ·replace h1:=vT h1
  exfalso;simp at h1;omega
 ·replace h1:=xC h1
  refine jE<|jB<|kx [(4,(.own 1 107 1 ((u0++[0]).length-b.length)))] [(1,some (bm jC (List.replicate ((u0++[0]).length-b.length) 0)))] (zM<|zE (oLo kJ)<|zM<|zE (oSb ((u0++[0]).length-b.length))<|zH (oMk 1 jC (0:Nat) ((u0++[0]).length-b.length) ((u0++[0]).length-b.length) kJ vY yT nY)<|zM<|zZ) ?_
  refine jB<|jB<|kx [(10,(vi ((((u0++[0]).length-b.length:Nat):Int)-1)))] [] (zM<|zE (oLo kJ)<|zM<|zE (oSb ((u0++[0]).length-b.length))<|zE (zSb ((((u0++[0]).length-b.length:Nat):Int)-1))<|zM<|zZ) ?_
  refine jH<|kQ (α:=Nat × List Nat × List Nat) (fun (k,u,q)=>⟨[(4,(.own 1 107 1 ((u0++[0]).length-b.length))),(6,(iE (scl b))),(7,(.own 0 107 1 ((u0++[0]).length))),(8,(vl 107 1 jC v)),(9,(jT b.length)),(10,(vi (((k:Nat):Int)-1)))],[(0,some (bm jC u)),(1,some (bm jC q))]⟩) (fun (k,u,q)=>u.length=(u0++[0]).length/\Dig u/\q.length=(u0++[0]).length-b.length/\Dig q/\k<=(u0++[0]).length-b.length/\val u+val v*(pw k*val (q.drop k))=val a*scl b/\val (u.drop k)<val v) (fun (k,u,q)=>k) ((u0++[0]).length-b.length,u0++[0],List.replicate ((u0++[0]).length-b.length) 0) wk ⟨rfl,iT.2 ⟨hu0,yS.2 ⟨by decide,gW⟩⟩,by simp,zP _,Nat.le_refl _,by simp [dQ,val,hu0v],by have:=long_start hu0 hvl hb2 (by omega) hpv;rw[hLU];exact this⟩ ?_
  rintro ⟨k,u,q⟩ ⟨qO,hu,hql,hqd,hk,hU,hW⟩
  refine jB<|jB<|kx [(65,(vb (decide (0<=(((k:Nat):Int)-1)))))] [] (zM<|zE oGe<|zZ) ?_
  refine jF (b:=decide (0<=(((k:Nat):Int)-1))) rfl (fun h2=>?_) (fun h2=>?_)
  ·replace h2:=vT h2
   obtain ⟨j,rfl⟩:∃ j,k=j+1:=⟨k-1,by omega⟩
   rw[show (((j+1:Nat):Int)-1)=((j:Nat):Int) from by omega]
   have hg1:=hu.getD (j+b.length)
   have hg2:=hu.getD (j+b.length-1)
   have hg3:=hu.getD (j+b.length-2)
   have hg4:=hvd.getD (b.length-1)
   have hg5:=hvd.getD (b.length-2)
   obtain ⟨z1,z2,z3,z4,z5,z6⟩:=window_tops hu hvd hvl hb2 hW
   obtain ⟨hwz,hww⟩:=window hvd hvl hW
   refine jE<|jB<|jH<|jB<|kd [(10,(jT j)),(11,(gN (((u.getD (j+b.length) 0)*1000000000)+(u.getD ((j+b.length)-1) 0))))] [] mo (wM<|wM<|wM<|wE (xD (j+b.length))<|wR ⟨(bm jC u),e_clo (t_at u (j+b.length)) (by exact rfl) (by exact rfl) (by exact rfl) (.o (.d .nil)) (vQ jC u (fun _=>rfl)) (vS _ _ qO) (xP _ _ (fun _=>rfl) qO),by kernel_rfl⟩<|wE (mP yU yM (u.getD (j+b.length) 0))<|wE (oMl ((u.getD (j+b.length) 0)*1000000000))<|wM<|wM<|wM<|wE (xD (j+b.length))<|wE (oSb ((j+b.length)-1))<|wE (yK kJ ((j+b.length)-1))<|wR (eQ qP ((j+b.length)-1) (0:Nat))<|wE (mP yU yM (u.getD ((j+b.length)-1) 0))<|wE (xD (((u.getD (j+b.length) 0)*1000000000)+(u.getD ((j+b.length)-1) 0)))<|wM<|wZ) ?_
   refine jB<|kd [(12,(gN ((((u.getD (j+b.length) 0)*1000000000)+(u.getD ((j+b.length)-1) 0)) / (v.getD (b.length-1) 0)))),(13,(gN ((((u.getD (j+b.length) 0)*1000000000)+(u.getD ((j+b.length)-1) 0)) % (v.getD (b.length-1) 0))))] [] mo (wM<|wM<|wM<|wE (oSb (b.length-1))<|wE (dA kJ (b.length-1) (0:Nat))<|wE (nX qP)<|wE (mP yU yM (v.getD (b.length-1) 0))<|wE (oQu ((((u.getD (j+b.length) 0)*1000000000)+(u.getD ((j+b.length)-1) 0)) / (v.getD (b.length-1) 0)))<|wM<|wM<|wM<|wE (oSb (b.length-1))<|wE (dA kJ (b.length-1) (0:Nat))<|wE (nX qP)<|wE (mP yU yM (v.getD (b.length-1) 0))<|wE (oRe ((((u.getD (j+b.length) 0)*1000000000)+(u.getD ((j+b.length)-1) 0)) % (v.getD (b.length-1) 0)))<|wM<|wM<|wZ) ?_
   refine pwp_seqjoin (α:=Nat × Nat) (fun (G,R)=>⟨[(4,(.own 1 107 1 ((u0++[0]).length-b.length))),(6,(iE (scl b))),(7,(.own 0 107 1 ((u0++[0]).length))),(8,(vl 107 1 jC v)),(9,(jT b.length)),(10,(jT j)),(12,(gN G))],[(0,some (bm jC u)),(1,some (bm jC q))]⟩) (fun (G,R)=>G<1000000000/\val (u.drop j) / val v<=G/\G<=val (u.drop j) / val v+1) ?_ ?_
   ·refine kQ (α:=Nat × Nat) (fun (G,R)=>⟨[(4,(.own 1 107 1 ((u0++[0]).length-b.length))),(6,(iE (scl b))),(7,(.own 0 107 1 ((u0++[0]).length))),(8,(vl 107 1 jC v)),(9,(jT b.length)),(10,(jT j)),(12,(gN G)),(13,(gN R))],[(0,some (bm jC u)),(1,some (bm jC q))]⟩) (fun (G,R)=>G*(v.getD (b.length-1) 0)+R=(u.getD (j+b.length) 0*1000000000+u.getD (j+b.length-1) 0)/\val (u.drop j) / val v<=G/\R<1000000000/\G<=1999999999) (fun (G,R)=>G) ((u.getD (j+b.length) 0*1000000000+u.getD (j+b.length-1) 0) / v.getD (b.length-1) 0,(u.getD (j+b.length) 0*1000000000+u.getD (j+b.length-1) 0) % v.getD (b.length-1) 0) wk ⟨by rw[Nat.mul_comm];exact Nat.div_add_mod _ _,guess_first0 z5 z4 hv1p hg3,Nat.lt_trans (Nat.mod_lt _ hv1p) hg4,guess_top hv1p z1 hg2⟩ ?_
    rintro ⟨G,R⟩ ⟨hG0,hG1,hR,hGb⟩
    have hpq:G*v.getD (b.length-2) 0<=1999999999*999999999:=Nat.mul_le_mul hGb (by omega)
    refine jB<|jB<|kd [(123,(vb (decide (1000000000<=((G:Nat):Int))||decide (((((R*1000000000)+(u.getD ((j+b.length)-2) 0)):Nat):Int)<(((G*(v.getD (b.length-2) 0)):Nat):Int)))))] [] mo ?_ ?_
    ·refine wM<|wE oGe<|wE (oV (vb (decide (1000000000<=((G:Nat):Int)))) (qA (by kernel_rfl)))<|?_
     rcases hb3:(decide (1000000000<=((G:Nat):Int))) with _ | _
     ·replace hb3:=xC hb3
      exact wM<|wM<|wM<|wE (oSb (b.length-2))<|wE (dA kJ (b.length-2) (0:Nat))<|wE (nX qP)<|wE (mP yU yM (v.getD (b.length-2) 0))<|wE (oMl (G*(v.getD (b.length-2) 0)))<|wM<|wE (oMl (R*1000000000))<|wM<|wM<|wM<|wE (xD (j+b.length))<|wE (oSb ((j+b.length)-2))<|wE (yK kJ ((j+b.length)-2))<|wR (eQ qP ((j+b.length)-2) (0:Nat))<|wE (mP yU yM (u.getD ((j+b.length)-2) 0))<|wE (xD ((R*1000000000)+(u.getD ((j+b.length)-2) 0)))<|wE cI<|wE aD<|wZ
     ·replace hb3:=vT hb3
      exact wK<|wK<|wK<|wK<|wK<|wK<|wK<|wK<|wK<|wK<|wK<|wK<|wK<|wK<|wK<|wK<|wK<|wK<|wK<|wK<|wE nT<|wZ
    refine jF rfl (fun h4=>?_) (fun h4=>?_)
    ·rw[Bool.or_eq_true,decide_eq_true_eq,decide_eq_true_eq] at h4
     have hgl:=guess_less (pw_pos _) z5 z4 hG0 hG1 hv1p z2 (by omega)
     refine jE<|jH<|jB<|kx [(12,(gN (G-1)))] [] (zM<|zE (oSb (G-1))<|zM<|zZ) ?_
     refine jB<|kx [(13,(gN (R+(v.getD (b.length-1) 0))))] [] (zM<|zM<|zM<|zE (oSb (b.length-1))<|zE (dA kJ (b.length-1) (0:Nat))<|zE (nX qP)<|zE (mP yU yM (v.getD (b.length-1) 0))<|zE (xD (R+(v.getD (b.length-1) 0)))<|zM<|zZ) ?_
     refine jB<|kx [(135,(vb (decide (1000000000<=(((R+(v.getD (b.length-1) 0)):Nat):Int)))))] [] (zM<|zE oGe<|zZ) ?_
     refine jF rfl (fun h5=>?_) (fun h5=>?_)
     ·replace h5:=vT h5
      refine kL ?_
      refine pjoin_exit (id:=2) (α:=Nat × Nat) (Q:=fun _ _=>True) (St:=fun (G,R)=>⟨[(4,(.own 1 107 1 ((u0++[0]).length-b.length))),(6,(iE (scl b))),(7,(.own 0 107 1 ((u0++[0]).length))),(8,(vl 107 1 jC v)),(9,(jT b.length)),(10,(jT j)),(12,(gN G))],[(0,some (bm jC u)),(1,some (bm jC q))]⟩) (I:=fun (G,R)=>G<1000000000/\val (u.drop j) / val v<=G/\G<=val (u.drop j) / val v+1) ?_
      exact ⟨(G-1,R+v.getD (b.length-1) 0),wk,(by have hd:=guess_dec hgl.2 hG0;have hgb:=guess_break hd z1 hg2 (by omega);exact ⟨hgb,hgl.1,guess_near z6 z3 hd hv1p (by omega) hgb (Nat.le_trans (Nat.mul_le_mul (show G-1<=999999999 by omega) (show v.getD (b.length-2) 0<=999999999 by omega)) (by omega))⟩)⟩
     ·replace h5:=xC h5
      refine jE ?_
      exact ⟨(G-1,R+v.getD (b.length-1) 0),wk,(by exact ⟨guess_dec hgl.2 hG0,hgl.1,by omega,by omega⟩),(by first|omega|(dsimp only;omega))⟩
    ·refine kL ?_
     refine pjoin_exit (id:=2) (α:=Nat × Nat) (Q:=fun _ _=>True) (St:=fun (G,R)=>⟨[(4,(.own 1 107 1 ((u0++[0]).length-b.length))),(6,(iE (scl b))),(7,(.own 0 107 1 ((u0++[0]).length))),(8,(vl 107 1 jC v)),(9,(jT b.length)),(10,(jT j)),(12,(gN G))],[(0,some (bm jC u)),(1,some (bm jC q))]⟩) (I:=fun (G,R)=>G<1000000000/\val (u.drop j) / val v<=G/\G<=val (u.drop j) / val v+1) ?_
     exact ⟨(G,R),wk,(by rw[Bool.or_eq_false_iff,decide_eq_false_iff_not,decide_eq_false_iff_not] at h4;exact ⟨by omega,hG1,guess_near z6 z3 hG0 hv1p (by omega) (by omega) (by omega)⟩)⟩
   ·rintro ⟨G,R⟩ ⟨hG,hG1,hG2⟩
    have hjn:j+b.length<(u0++[0]).length:=by omega
    refine jB<|kx [(14,(jT 0)),(15,(gN 0))] [] (zM<|zM<|zZ) ?_
    refine jB<|jB<|kx [(136,(jT b.length)),(137,(jT 0))] [] (zM<|zM<|zZ) ?_
    refine jH<|kQ (α:=Nat × List Nat × Nat × Nat) (fun (i,u2,bo,ca)=>⟨[(4,(.own 1 107 1 ((u0++[0]).length-b.length))),(6,(iE (scl b))),(7,(.own 0 107 1 ((u0++[0]).length))),(8,(vl 107 1 jC v)),(9,(jT b.length)),(10,(jT j)),(12,(gN G)),(14,(vi ((bo:Nat):Int))),(15,(gN ca)),(136,(jT b.length)),(137,(jT i))],[(0,some (bm jC u2)),(1,some (bm jC q))]⟩) (fun (i,u2,bo,ca)=>u2.length=(u0++[0]).length/\Dig u2/\u2.take j=u.take j/\u2.drop (j+i)=u.drop (j+i)/\i<=b.length/\bo<=1/\ca<1000000000/\val ((u2.drop j).take i)+G*val (v.take i)=val ((u.drop j).take i)+pw i*(ca+bo)) (fun (i,u2,bo,ca)=>b.length-i) (0,u,0,0) wk ⟨qO,hu,rfl,rfl,Nat.zero_le _,Nat.zero_le _,by decide,by simp [val]⟩ ?_
    rintro ⟨i,u2,bo,ca⟩ ⟨hl2,hd2,ht2,hd2',hin,hbo,hca,hv2⟩
    have hgi:=hvd.getD i
    have hgu:=hd2.getD (i+j)
    have hpq:G*v.getD i 0<=999999999*999999999:=Nat.mul_le_mul (by omega) (by omega)
    refine jB<|kx [(138,(vb (decide (((i:Nat):Int)<((b.length:Nat):Int)))))] [] (zE yY<|zZ) ?_
    refine jB<|jF rfl (fun h6=>?_) (fun h6=>?_)
    ·replace h6:=vT h6
     have hi:i<b.length:=by omega
     refine jE<|jB<|jH<|jB<|kx [(16,(jT i))] [] (zM<|zM<|zZ) ?_
     refine jB<|kx [(17,(gN ((G*(v.getD i 0))+ca)))] [] (zM<|zM<|zM<|zE (dA kJ i (0:Nat))<|zE (nX qP)<|zE (mP yU yM (v.getD i 0))<|zE (oMl (G*(v.getD i 0)))<|zM<|zE (xD ((G*(v.getD i 0))+ca))<|zM<|zZ) ?_
     refine jB<|kx [(15,(gN (((G*(v.getD i 0))+ca) / 1000000000)))] [] (zM<|zE (oQu (((G*(v.getD i 0))+ca) / 1000000000))<|zM<|zZ) ?_
     refine jB<|kx [(18,(vi (((((u2.getD (i+j) 0):Nat):Int)-((bo:Nat):Int))-(((((G*(v.getD i 0))+ca) % 1000000000):Nat):Int))))] [] (zM<|zM<|zM<|zE (xD (i+j))<|zE (yK kJ (i+j))<|zR (eQ qP (i+j) (0:Nat))<|zE (mP yU in2 (u2.getD (i+j) 0))<|zM<|zE (zSb ((((u2.getD (i+j) 0):Nat):Int)-((bo:Nat):Int)))<|zM<|zE (oRe (((G*(v.getD i 0))+ca) % 1000000000))<|zE (mP nC in2 (((G*(v.getD i 0))+ca) % 1000000000))<|zE (zSb (((((u2.getD (i+j) 0):Nat):Int)-((bo:Nat):Int))-(((((G*(v.getD i 0))+ca) % 1000000000):Nat):Int)))<|zM<|zZ) ?_
     refine jB<|kx [(14,(jT 0))] [] (zM<|zZ) ?_
     refine jB<|jB<|kx [(165,(vb (decide ((((((u2.getD (i+j) 0):Nat):Int)-((bo:Nat):Int))-(((((G*(v.getD i 0))+ca) % 1000000000):Nat):Int))<0))))] [] (zM<|zE yY<|zZ) ?_
     refine jF rfl (fun h7=>?_) (fun h7=>?_)
     ·replace h7:=vT h7
      refine kx [(14,(jT 1)),(18,(vi ((((((u2.getD (i+j) 0):Nat):Int)-((bo:Nat):Int))-(((((G*(v.getD i 0))+ca) % 1000000000):Nat):Int))+1000000000)))] [] (zM<|zE (zAd ((((((u2.getD (i+j) 0):Nat):Int)-((bo:Nat):Int))-(((((G*(v.getD i 0))+ca) % 1000000000):Nat):Int))+1000000000))<|zM<|zM<|zZ) ?_
      refine kx [] [(0,some (bm jC (u2.set (i+j) ((u2.getD (i+j) 0+1000000000)-bo-(G*v.getD i 0+ca) % 1000000000))))] (zM<|zM<|zM<|zE (xD (i+j))<|zM<|zE (mP un2 gV ((u2.getD (i+j) 0+1000000000)-bo-(G*v.getD i 0+ca) % 1000000000) (hr:=by exact (wu32 (by omega) (by omega) (by omega))))<|zE (yK kJ (i+j))<|zT (eR qP (i+j) ((u2.getD (i+j) 0+1000000000)-bo-(G*v.getD i 0+ca) % 1000000000))<|zZ) ?_
      refine kx [(137,(jT (i+1)))] [] (zE (xD (i+1))<|zM<|zZ) ?_
      exact ⟨(i+1,u2.set (i+j) ((u2.getD (i+j) 0+1000000000)-bo-(G*v.getD i 0+ca) % 1000000000),1,(G*v.getD i 0+ca) / 1000000000),wk,(by obtain ⟨q1,q2,q3,q4,q5⟩:=msub_step (v:=v) (L:=(u0++[0]).length) (e:=(u2.getD (i+j) 0+1000000000)-bo-(G*v.getD i 0+ca) % 1000000000) (borrow':=1) hjn hi hl2 qO hd2 ht2 hd2' hv2 rfl (by omega) (by omega);exact ⟨q1,q2,q3,q4,by omega,by omega,by omega,q5⟩),(by first|omega|(dsimp only;omega))⟩
     ·replace h7:=xC h7
      refine jE<|kx [] [(0,some (bm jC (u2.set (i+j) (u2.getD (i+j) 0-bo-(G*v.getD i 0+ca) % 1000000000))))] (zM<|zM<|zM<|zE (xD (i+j))<|zM<|zE (mP un2 gV (u2.getD (i+j) 0-bo-(G*v.getD i 0+ca) % 1000000000) (hr:=by exact (wu32 (by omega) (by omega) (by omega))))<|zE (yK kJ (i+j))<|zT (eR qP (i+j) (u2.getD (i+j) 0-bo-(G*v.getD i 0+ca) % 1000000000))<|zZ) ?_
      refine kx [(137,(jT (i+1)))] [] (zE (xD (i+1))<|zM<|zZ) ?_
      exact ⟨(i+1,u2.set (i+j) (u2.getD (i+j) 0-bo-(G*v.getD i 0+ca) % 1000000000),0,(G*v.getD i 0+ca) / 1000000000),wk,(by obtain ⟨q1,q2,q3,q4,q5⟩:=msub_step (v:=v) (L:=(u0++[0]).length) (e:=u2.getD (i+j) 0-bo-(G*v.getD i 0+ca) % 1000000000) (borrow':=0) hjn hi hl2 qO hd2 ht2 hd2' hv2 rfl (by omega) (by omega);exact ⟨q1,q2,q3,q4,by omega,by omega,by omega,q5⟩),(by first|omega|(dsimp only;omega))⟩
    ·replace h6:=xC h6
     have hie:i=b.length:=by omega
     rw[hie] at hd2' hv2 hin
     obtain ⟨m1,m2,m3⟩:=msub_end hu hd2 hvd hvl hW hG1 hG2 hd2' hv2
     refine kL<|jB<|kx [(19,(vi (((((u2.getD (j+b.length) 0):Nat):Int)-((bo:Nat):Int))-((ca:Nat):Int))))] [] (zM<|zM<|zM<|zE (xD (j+b.length))<|zE (yK kJ (j+b.length))<|zR (eQ qP (j+b.length) (0:Nat))<|zE (mP yU in2 (u2.getD (j+b.length) 0))<|zM<|zE (zSb ((((u2.getD (j+b.length) 0):Nat):Int)-((bo:Nat):Int)))<|zM<|zE (mP nC in2 ca)<|zE (zSb (((((u2.getD (j+b.length) 0):Nat):Int)-((bo:Nat):Int))-((ca:Nat):Int)))<|zM<|zZ) ?_
     refine jB<|jB<|kx [(189,(vb (decide ((((((u2.getD (j+b.length) 0):Nat):Int)-((bo:Nat):Int))-((ca:Nat):Int))<0))))] [] (zM<|zE yY<|zZ) ?_
     refine jF rfl (fun h8=>?_) (fun h8=>?_)
     ·replace h8:=vT h8
      obtain ⟨n1,n2,r,n3,n4,n5⟩:=m2 (by omega)
      refine jB<|kx [] [(0,some (bm jC (u2.set (j+b.length) 999999999)))] (zM<|zM<|zM<|zE (xD (j+b.length))<|zM<|zE (zAd ((((((u2.getD (j+b.length) 0):Nat):Int)-((bo:Nat):Int))-((ca:Nat):Int))+1000000000))<|zE (mP un2 gV 999999999 (hr:=by exact (wu32 (by omega) (by omega) (by omega))))<|zE (yK kJ (j+b.length))<|zT (eR qP (j+b.length) 999999999)<|zZ) ?_
      refine jB<|kx [(12,(gN (G-1)))] [] (zM<|zE (oSb (G-1))<|zM<|zZ) ?_
      refine jB<|kx [(20,(iE 0))] [] (zM<|zZ) ?_
      refine jB<|jB<|kx [(200,(jT b.length)),(201,(jT 0))] [] (zM<|zM<|zZ) ?_
      refine jH<|kQ (α:=Nat × List Nat × Nat) (fun (i,u3,c)=>⟨[(4,(.own 1 107 1 ((u0++[0]).length-b.length))),(6,(iE (scl b))),(7,(.own 0 107 1 ((u0++[0]).length))),(8,(vl 107 1 jC v)),(9,(jT b.length)),(10,(jT j)),(12,(gN (G-1))),(20,(iE c)),(200,(jT b.length)),(201,(jT i))],[(0,some (bm jC u3)),(1,some (bm jC q))]⟩) (fun (i,u3,c)=>u3.length=(u0++[0]).length/\Dig u3/\u3.take j=(u2.set (j+b.length) 999999999).take j/\u3.drop (j+i)=(u2.set (j+b.length) 999999999).drop (j+i)/\i<=b.length/\c<=1/\val ((u3.drop j).take i)+pw i*c=val (((u2.set (j+b.length) 999999999).drop j).take i)+val (v.take i)) (fun (i,u3,c)=>b.length-i) (0,u2.set (j+b.length) 999999999,0) wk ⟨by simpa using hl2,hd2.set _ (by decide),rfl,rfl,Nat.zero_le _,Nat.zero_le _,by simp [val]⟩ ?_
      rintro ⟨i,u3,c⟩ ⟨hl3,hd3,ht3,hd3',hin,hc,hv3⟩
      have hgi:=hvd.getD i
      have hgu:=hd3.getD (i+j)
      have hgt:=hd3.getD (j+b.length)
      refine jB<|kx [(202,(vb (decide (((i:Nat):Int)<((b.length:Nat):Int)))))] [] (zE yY<|zZ) ?_
      refine jB<|jF rfl (fun h9=>?_) (fun h9=>?_)
      ·replace h9:=vT h9
       have hi:i<b.length:=by omega
       refine jE<|jB<|jH<|jB<|kx [(21,(jT i))] [] (zM<|zM<|zZ) ?_
       refine jB<|kd [(22,(iE (((u3.getD (i+j) 0)+(v.getD i 0))+c)))] [] mo (wM<|wM<|wM<|wE (xD (i+j))<|wE (yK kJ (i+j))<|wR (eQ qP (i+j) (0:Nat))<|wM<|wM<|wE (dA kJ i (0:Nat))<|wE (nX qP)<|wE (xD ((u3.getD (i+j) 0)+(v.getD i 0)))<|wM<|wE (xD (((u3.getD (i+j) 0)+(v.getD i 0))+c))<|wM<|wZ) ?_
       refine jB<|kx [(20,(iE 0))] [] (zM<|zZ) ?_
       refine jB<|jB<|kx [(218,(vb (decide (1000000000<=(((((u3.getD (i+j) 0)+(v.getD i 0))+c):Nat):Int)))))] [] (zM<|zE oGe<|zZ) ?_
       refine jF rfl (fun h10=>?_) (fun h10=>?_)
       ·replace h10:=vT h10
        refine kx [(20,(iE 1)),(22,(iE ((((u3.getD (i+j) 0)+(v.getD i 0))+c)-1000000000)))] [] (zM<|zE (oSb ((((u3.getD (i+j) 0)+(v.getD i 0))+c)-1000000000))<|zM<|zM<|zZ) ?_
        refine kx [] [(0,some (bm jC (u3.set (i+j) ((((u3.getD (i+j) 0)+(v.getD i 0))+c)-1000000000))))] (zM<|zM<|zM<|zE (xD (i+j))<|zM<|zE (yK kJ (i+j))<|zT (eR qP (i+j) ((((u3.getD (i+j) 0)+(v.getD i 0))+c)-1000000000))<|zZ) ?_
        refine kx [(201,(jT (i+1)))] [] (zE (xD (i+1))<|zM<|zZ) ?_
        exact ⟨(i+1,u3.set (i+j) (u3.getD (i+j) 0+v.getD i 0+c-1000000000),1),wk,(by obtain ⟨q1,q2,q3,q4,q5⟩:=addb_step (v:=v) (L:=(u0++[0]).length) (s:=u3.getD (i+j) 0+v.getD i 0+c) (e:=u3.getD (i+j) 0+v.getD i 0+c-1000000000) (c':=1) hjn hi hl3 (by simpa using hl2) hd3 ht3 hd3' hv3 rfl (by omega) (by omega);exact ⟨q1,q2,q3,q4,by omega,by omega,q5⟩),(by first|omega|(dsimp only;omega))⟩
       ·replace h10:=xC h10
        refine jE<|kx [] [(0,some (bm jC (u3.set (i+j) (((u3.getD (i+j) 0)+(v.getD i 0))+c))))] (zM<|zM<|zM<|zE (xD (i+j))<|zM<|zE (yK kJ (i+j))<|zT (eR qP (i+j) (((u3.getD (i+j) 0)+(v.getD i 0))+c))<|zZ) ?_
        refine kx [(201,(jT (i+1)))] [] (zE (xD (i+1))<|zM<|zZ) ?_
        exact ⟨(i+1,u3.set (i+j) (u3.getD (i+j) 0+v.getD i 0+c),0),wk,(by obtain ⟨q1,q2,q3,q4,q5⟩:=addb_step (v:=v) (L:=(u0++[0]).length) (s:=u3.getD (i+j) 0+v.getD i 0+c) (e:=u3.getD (i+j) 0+v.getD i 0+c) (c':=0) hjn hi hl3 (by simpa using hl2) hd3 ht3 hd3' hv3 rfl (by omega) (by omega);exact ⟨q1,q2,q3,q4,by omega,by omega,q5⟩),(by first|omega|(dsimp only;omega))⟩
      ·replace h9:=xC h9
       have hie2:i=b.length:=by omega
       rw[hie2] at hd3' hv3 hin
       refine kL<|kx [] [(0,some (bm jC (u3.set (j+b.length) (((u3.getD (j+b.length) 0)+c) % 1000000000))))] (zM<|zM<|zM<|zE (xD (j+b.length))<|zM<|zM<|zM<|zE (xD (j+b.length))<|zE (yK kJ (j+b.length))<|zR (eQ qP (j+b.length) (0:Nat))<|zM<|zE (xD ((u3.getD (j+b.length) 0)+c))<|zE (oRe (((u3.getD (j+b.length) 0)+c) % 1000000000))<|zE (yK kJ (j+b.length))<|zT (eR qP (j+b.length) (((u3.getD (j+b.length) 0)+c) % 1000000000))<|zZ) ?_
       refine kx [] [(1,some (bm jC (q.set j (G-1))))] (zM<|zM<|zM<|zE (mP nC gV (G-1))<|zE (yK kJ j)<|zT (eR qP j (G-1))<|zZ) ?_
       refine kx [(10,(vi (((j:Nat):Int)-1)))] [] (zM<|zE (zSb (((j:Nat):Int)-1))<|zM<|zZ) ?_
       exact ⟨(j,u3.set (j+b.length) ((u3.getD (j+b.length) 0+c) % 1000000000),q.set j (G-1)),wk,(by obtain ⟨p1,p2⟩:=neg_end hd3 hvd hvl (by omega) (by omega) (hl2.trans qO.symm) (hl3.trans qO.symm) ht2 hd2' hW hc ht3 hd3' hv3 n3 n4 n5 hU;exact ⟨by simpa using hl3,hd3.set _ (Nat.mod_lt _ (by decide)),by simpa using hql,hqd.set _ (by omega),by omega,p1,p2⟩),(by first|omega|(dsimp only;omega))⟩
     ·replace h8:=xC h8
      obtain ⟨n1,n2,n3⟩:=m3 (by omega)
      refine kx [] [(0,some (bm jC (u2.set (j+b.length) 0)))] (zM<|zM<|zM<|zE (xD (j+b.length))<|zM<|zE (mP un2 gV 0 (hr:=by exact (wu32 (by omega) (by omega) (by omega))))<|zE (yK kJ (j+b.length))<|zT (eR qP (j+b.length) 0)<|zZ) ?_
      refine kx [] [(1,some (bm jC (q.set j G)))] (zM<|zM<|zM<|zE (mP nC gV G)<|zE (yK kJ j)<|zT (eR qP j G)<|zZ) ?_
      refine kx [(10,(vi (((j:Nat):Int)-1)))] [] (zM<|zE (zSb (((j:Nat):Int)-1))<|zM<|zZ) ?_
      exact ⟨(j,u2.set (j+b.length) 0,q.set j G),wk,(by obtain ⟨p1,p2⟩:=pos_end hu hvd hvl (by omega) (by omega) (hl2.trans qO.symm) ht2 hd2' hW n2 n3 hU;exact ⟨by simpa using hl2,hd2.set _ (by decide),by simpa using hql,hqd.set _ (by omega),by omega,p1,p2⟩),(by first|omega|(dsimp only;omega))⟩
  ·replace h2:=xC h2
   obtain rfl:k=0:=by omega
   obtain ⟨e1,e2⟩:=scl_div hdb (by omega) (by rw[hvv] at hU;exact hU) (by rw[hvv] at hW;exact hW)
   rw[List.drop_zero] at hW
   refine kL<|jB<|kG (yL (t:=7) (k:=0) (es:=List.map jC u) rfl rfl (vQ _ _ (fun _=>rfl)) (vS _ _ qO) (xP _ _ (fun _=>rfl) qO)) ?_
   refine kx [(5,(vl 107 1 jC (ofNat (val (ofNat (val (List.take b.length u))) / (scl b)))))] [] (zM<|zM<|zE (e_slc (l:=0) (h:=b.length) (kl:=.i64) (kh:=.i64) (es':=List.map jC (List.take b.length u)) (by exact rfl) kJ (by exact rfl) (by exact rfl) (by exact rfl) (Nat.zero_le _) (by simp only[List.length_map];omega) (by rw[List.drop_zero,List.map_take]))<|zE (kB (t_trim (List.take b.length u) (hu.take _) (by rw[List.length_take];omega)))<|zM<|zE (kB (t_short (ofNat (val (List.take b.length u))) (scl b) (kI _) (by omega) (by omega) (Nat.le_trans (ofNat_val_len (hu.take _)) (by rw[List.length_take];omega))))<|zM<|zE zJ<|zE zJ<|zM<|zZ) ?_
   refine jB<|kG (yL (t:=4) (k:=1) (es:=List.map jC q) rfl rfl (vQ _ _ (fun _=>rfl)) (vS _ _ hql) (xP _ _ (fun _=>rfl) hql)) ?_
   refine kx [(4,(vl 107 1 jC (ofNat (val q)))),(5,(vl 107 1 jC (ofNat (val (ofNat (val (List.take b.length u))) / (scl b)))))] [] (zM<|zE (kB (t_trim q hqd (by omega)))<|zM<|zM<|zM<|zZ) ?_
   refine jD ⟨_,(.tmp (d:=(.sl 107 1 (List.map jC (ofNat (val q))))) rfl (.tmp (d:=(.sl 107 1 (List.map jC (ofNat (val (ofNat (val (List.take b.length u))) / (scl b)))))) rfl .nil)),?_⟩
   rw[<- e1,<- e2,kE,val_take_of_lt (Nat.lt_trans hW (by rw[<- hvl];exact xA hvd))];rfl
theorem t_over(a b:List Nat)(ha:gH a)(hb:gH b)(hb0:0<val b)(hla:a.length<=1099511627776)(hlb:b.length<=1099511627776):jS Tryz.prog 157 [(.sl 107 1 (List.map jC a)),(.sl 107 1 (List.map jC b))] (.tup [(.sl 107 1 (List.map jC (ofNat (val a / val b)))),(.sl 107 1 (List.map jC (ofNat (val a % val b))))]):=by
 refine uW Tryz.func157 ?_
 refine jB<|kx [] [] (zE (bB 107 1)<|zE (bB 107 1)<|zZ) ?_
 refine jB<|jB<|kx [(15,(vb (decide ((vD ((val a:Nat):Int) ((val b:Nat):Int))<0))))] [] (zM<|zM<|zE (kB (t_compare a b ha hb (by omega)))<|zE yY<|zZ) ?_
 refine jF rfl (fun h1=>?_) (fun h1=>?_)
 ·replace h1:=vT h1
  refine jB<|kx [(4,(vl 107 1 jC [])),(5,(vl 107 1 jC a))] [] (zM<|zE (bB 107 1)<|zM<|zZ) ?_
  refine jD ⟨_,(.tmp (d:=(.sl 107 1 (List.map jC []))) rfl (.tmp (d:=(.sl 107 1 (List.map jC a))) rfl .nil)),?_⟩
  have hlt:=cmpI_neg h1
  rw[Nat.div_eq_of_lt hlt,Nat.mod_eq_of_lt hlt,uB,<- can_eq ha];rfl
 ·replace h1:=xC h1
  refine jE<|jB<|kx [(6,(gN (yO a))),(7,(vb (mN a)))] [] (zM<|zE (kB (t_word a ha.1))<|zM<|zE zJ<|zE zJ<|zM<|zM<|zZ) ?_
  refine jB<|kx [(8,(gN (yO b))),(9,(vb (mN b)))] [] (zM<|zE (kB (t_word b hb.1))<|zM<|zE zJ<|zE zJ<|zM<|zM<|zZ) ?_
  refine jB<|jB<|kx [(30,(vb ((mN a)&&(mN b))))] [] ?_ ?_
  ·refine zM<|zE (oV (vb (mN a)) (qA (by kernel_rfl)))<|?_
   rcases hb2:(mN a) with _ | _
   ·exact zK<|zE yJ<|zZ
   ·exact zM<|zE aB<|zZ
  refine jF (b:=((mN a)&&(mN b))) rfl (fun h3=>?_) (fun h3=>?_)
  ·obtain ⟨w1,w2,w3⟩:=word_both ha.1 h3
   have w4:yO a / yO b<18446744073709551616:=Nat.lt_of_le_of_lt (Nat.div_le_self _ _) (by omega)
   have w5:yO a % yO b<18446744073709551616:=Nat.lt_of_le_of_lt (Nat.mod_le _ _) (by omega)
   refine jB<|kd [(4,(vl 107 1 jC (ofNat ((yO a) / (yO b))))),(5,(vl 107 1 jC (ofNat ((yO a) % (yO b)))))] [] mo (wM<|wM<|wE (oQu ((yO a) / (yO b)))<|wE (kB (t_split ((yO a) / (yO b)) (by omega)))<|wM<|wM<|wE (oRe ((yO a) % (yO b)))<|wE (kB (t_split ((yO a) % (yO b)) (by omega)))<|wM<|wM<|wZ) ?_
   refine jD ⟨_,(.tmp (d:=(.sl 107 1 (List.map jC (ofNat ((yO a) / (yO b)))))) rfl (.tmp (d:=(.sl 107 1 (List.map jC (ofNat ((yO a) % (yO b)))))) rfl .nil)),?_⟩
   rw[w1,w2];rfl
  ·refine jE<|jB<|jB<|kx [(41,(vb (((b.length:Nat):Int) == 1)))] [] (zM<|zE (yH kJ)<|zE yP<|zZ) ?_
   refine jF (b:=(((b.length:Nat):Int) == 1)) rfl (fun h4=>?_) (fun h4=>?_)
   ·replace h4:=eq_of_beq h4
    have hv1:=val_len1 (b:=b) (by omega)
    have hg:=hb.1.getD 0
    have w5:val a % b.getD 0 0<4294967296:=Nat.lt_trans (Nat.mod_lt _ (by omega)) (by omega)
    refine jB<|kx [(10,(vl 107 1 jC (ofNat (val a / (b.getD 0 0))))),(11,(iE (val a % (b.getD 0 0))))] [] (zM<|zM<|zE (dA kJ 0 (0:Nat))<|zE (nX qP)<|zE (kB (t_short a (b.getD 0 0) ha.1 (by omega) (by omega) (by omega)))<|zM<|zE zJ<|zE zJ<|zM<|zM<|zZ) ?_
    refine jB<|kx [(4,(vl 107 1 jC (ofNat (val a / (b.getD 0 0))))),(5,(vl 107 1 jC (ofNat (val a % (b.getD 0 0)))))] [] (zM<|zM<|zE (mP yU yM (val a % (b.getD 0 0)))<|zE (kB (t_split (val a % (b.getD 0 0)) (by omega)))<|zM<|zM<|zZ) ?_
    refine jD ⟨_,(.tmp (d:=(.sl 107 1 (List.map jC (ofNat (val a / (b.getD 0 0)))))) rfl (.tmp (d:=(.sl 107 1 (List.map jC (ofNat (val a % (b.getD 0 0)))))) rfl .nil)),?_⟩
    rw[hv1];rfl
   ·replace h4:=ne_of_beq_false h4
    have hbl:=val_pos_len hb0
    refine jE<|jB<|kx [(4,(vl 107 1 jC (ofNat (val a / val b)))),(5,(vl 107 1 jC (ofNat (val a % val b))))] [] (zM<|zM<|zE (kB (t_long a b ha hb (by omega) (cmpI_nn h1) (by omega)))<|zE zJ<|zE zJ<|zM<|zM<|zZ) ?_
    refine jD ⟨_,(.tmp (d:=(.sl 107 1 (List.map jC (ofNat (val a / val b))))) rfl (.tmp (d:=(.sl 107 1 (List.map jC (ofNat (val a % val b))))) rfl .nil)),?_⟩
    rfl
theorem t_divideI(x y:kW)(hx:x.gs.length<=1099511627776)(hy:y.gs.length<=1099511627776)(hy0:jX y≠0):jS Tryz.prog 160 [(jR x),(jR y)] (.tup [(jR (kM ((jX x).fdiv (jX y)))),(jR (kM ((jX x).fmod (jX y)))),(.val (.int .i64 (0)))]):=by
 have hgx:=qG x
 have hlx:=gF x
 have hgy:=qG y
 have hly:=gF y
 have hn:0<val (kP y):=by have:=lD y;omega
 have hq:=len_quo (kP x) hgx (val (kP y))
 have hr:=len_rem (kP x) hgx (val (kP y))
 have hrn:=Nat.mod_lt (val (kP x)) hn
 refine uW Tryz.func160 ?_
 refine jB<|kx [(2,(.ref 0 0)),(3,(.ref 1 0)),(4,(.ref 2 0)),(5,(.ref 3 0))] [(0,some (bx (jR x))),(1,some (bx (jR y))),(2,some (bx (jR (kW.mk false [])))),(3,some (bx (jR (kW.mk false []))))] (zN (vX 0)<|zN (vX 1)<|zN (uJ 2 nM nN)<|zN (uJ 3 nM nN)<|zM<|zZ) ?_
 refine jB<|kd [(7,(vl 107 1 jC (kP x))),(8,(vl 107 1 jC (kP y)))] [] mo (wR (kR kD)<|wE (kB (gY x (by omega)))<|wR (kR kD)<|wE (kB (gY y (by omega)))<|wM<|wM<|wZ) ?_
 refine jB<|jB<|kx [(17,(vb ((((kP y).length:Nat):Int) == 0)))] [] (zM<|zE (yH kJ (L:=(kP y)))<|zE yP<|zZ) ?_
 refine jF (b:=((((kP y).length:Nat):Int) == 0)) rfl (fun h1=>?_) (fun h1=>?_)
 ·replace h1:=eq_of_beq h1
  exact absurd (toZ_nil h1) hy0
 ·replace h1:=ne_of_beq_false h1
  refine jE<|jB<|kx [(9,(vl 107 1 jC (ofNat (val (kP x) / val (kP y))))),(10,(vl 107 1 jC (ofNat (val (kP x) % val (kP y)))))] [] (zM<|zM<|zE (kB (t_over (kP x) (kP y) hgx hgy (by omega) (by omega) (by omega)))<|zM<|zE zJ<|zE zJ<|zM<|zM<|zZ) ?_
  refine jB<|kx [(10,(vl 107 1 jC (ofNat (val (kP x) % val (kP y)))))] [] (zM<|zE (kB (t_clone (ofNat (val (kP x) % val (kP y))) (by omega)))<|zM<|zZ) ?_
  refine jB<|jB<|kx [(37,(vb (decide (0<(((ofNat (val (kP x) % val (kP y))).length:Nat):Int))&&!(x.neg == y.neg))))] [] ?_ ?_
  ·refine zM<|zE (yH kJ (L:=(ofNat (val (kP x) % val (kP y)))))<|zE cI<|zE (oV (vb (decide (0<(((ofNat (val (kP x) % val (kP y))).length:Nat):Int)))) (qA (by kernel_rfl)))<|?_
   rcases hb2:(decide (0<(((ofNat (val (kP x) % val (kP y))).length:Nat):Int))) with _ | _
   ·replace hb2:=xC hb2
    exact zK<|zK<|zK<|zK<|zK<|zE yJ<|zZ
   ·replace hb2:=vT hb2
    exact zE (kN vO)<|zR (qJ fG)<|zE (kN vO)<|zR (qJ fG)<|zE (oNb bo4)<|zE aB<|zZ
  refine jF rfl (fun h3=>?_) (fun h3=>?_)
  ·have e1:(ofNat (val (ofNat (val (kP x) / val (kP y)))+val [1])).length<=1099511627777:=uD (by rw[kE,cO];have:=ofNat_lt_pw (val (kP x) / val (kP y));have h3:pw (ofNat (val (kP x) / val (kP y))).length<=pw 1099511627776:=nH (by omega);have h4:=pw_lt (show 1099511627776<1099511627777 by decide);omega)
   have e2:=sub_len (b:=ofNat (val (kP x) % val (kP y))) hgy.1
   rw[Bool.and_eq_true,decide_eq_true_eq,Bool.not_eq_true',beq_eq_false_iff_ne] at h3
   obtain ⟨k1,k2⟩:=h3
   have k3:0<val (kP x) % val (kP y):=by have:=cE (qB (val (kP x) % val (kP y))) (by omega);rwa [kE] at this
   obtain ⟨d1,d2⟩:=div_other hn k2 k3
   refine kx [(9,(vl 107 1 jC (ofNat (val (ofNat (val (kP x) / val (kP y)))+val [1])))),(10,(vl 107 1 jC (ofNat (val (kP y)-val (ofNat (val (kP x) % val (kP y)))))))] [] (zM<|zE (fF kJ vY yT)<|zE (kB (t_plus (ofNat (val (kP x) / val (kP y))) [1] (kI _) (yS.2 ⟨by decide,gW⟩) (by omega) (by decide)))<|zM<|zM<|zE (kB (t_minus (kP y) (ofNat (val (kP x) % val (kP y))) hgy.1 (kI _) (by rw[kE];omega) (by omega)))<|zM<|zM<|zZ) ?_
   refine jB<|kd [(6,(jT 0))] [(2,some (bx (jR (xN (!(x.neg == y.neg)) (val (ofNat (val (ofNat (val (kP x) / val (kP y)))+val [1]))))))),(3,some (bx (jR (xN y.neg (val (ofNat (val (kP y)-val (ofNat (val (kP x) % val (kP y))))))))))] mo (wE (kN vO)<|wR (qJ fG)<|wE (kN vO)<|wR (qJ fG)<|wE (oNb bo4)<|wM<|wE (kB (dK (!(x.neg == y.neg)) (ofNat (val (ofNat (val (kP x) / val (kP y)))+val [1])) (kI _) (by omega)))<|wE (kN vO)<|wR (qJ fG)<|wM<|wE (kB (dK y.neg (ofNat (val (kP y)-val (ofNat (val (kP x) % val (kP y))))) (kI _) (by omega)))<|wT (qM kD)<|wT (qM kD)<|wM<|wZ) ?_
   refine jD ⟨_,(kS (cs:=(bx (jR (xN (!(x.neg == y.neg)) (val (ofNat (val (ofNat (val (kP x) / val (kP y)))+val [1]))))))) (d:=(jR (xN (!(x.neg == y.neg)) (val (ofNat (val (ofNat (val (kP x) / val (kP y)))+val [1])))))) rfl rfl kD rfl rfl (kS (cs:=(bx (jR (xN y.neg (val (ofNat (val (kP y)-val (ofNat (val (kP x) % val (kP y)))))))))) (d:=(jR (xN y.neg (val (ofNat (val (kP y)-val (ofNat (val (kP x) % val (kP y))))))))) rfl rfl kD rfl rfl (.tmp (d:=(.val (.int .i64 (0)))) rfl .nil))),?_⟩
   unfold jX
   rw[d1,d2]
   simp only[kE,cO]
   rfl
  ·obtain ⟨d1,d2⟩:=div_same (b:=x.neg) (c:=y.neg) (m:=val (kP x)) hn (by rw[Bool.and_eq_false_iff,decide_eq_false_iff_not,Bool.not_eq_false',beq_iff_eq] at h3;rcases h3 with k | k;right;have:=dV (n:=val (kP x) % val (kP y));omega;exact .inl k)
   refine jE<|jB<|kd [(6,(jT 0))] [(2,some (bx (jR (xN (!(x.neg == y.neg)) (val (ofNat (val (kP x) / val (kP y)))))))),(3,some (bx (jR (xN y.neg (val (ofNat (val (kP x) % val (kP y))))))))] mo (wE (kN vO)<|wR (qJ fG)<|wE (kN vO)<|wR (qJ fG)<|wE (oNb bo4)<|wM<|wE (kB (dK (!(x.neg == y.neg)) (ofNat (val (kP x) / val (kP y))) (kI _) (by omega)))<|wE (kN vO)<|wR (qJ fG)<|wM<|wE (kB (dK y.neg (ofNat (val (kP x) % val (kP y))) (kI _) (by omega)))<|wT (qM kD)<|wT (qM kD)<|wM<|wZ) ?_
   refine jD ⟨_,(kS (cs:=(bx (jR (xN (!(x.neg == y.neg)) (val (ofNat (val (kP x) / val (kP y)))))))) (d:=(jR (xN (!(x.neg == y.neg)) (val (ofNat (val (kP x) / val (kP y))))))) rfl rfl kD rfl rfl (kS (cs:=(bx (jR (xN y.neg (val (ofNat (val (kP x) % val (kP y)))))))) (d:=(jR (xN y.neg (val (ofNat (val (kP x) % val (kP y))))))) rfl rfl kD rfl rfl (.tmp (d:=(.val (.int .i64 (0)))) rfl .nil))),?_⟩
   unfold jX
   rw[d1,d2]
   simp only[kE]
   rfl
theorem t_gcdI(x y:kW)(hx:x.gs.length<=1099511627776)(hy:y.gs.length<=1099511627776):jS Tryz.prog 86 [(jR x),(jR y)] (jR (kM ((Int.gcd (jX x) (jX y):Nat):Int))):=by
 have hgx:=qG x
 have hlx:=gF x
 have hgy:=qG y
 have hly:=gF y
 refine uW Tryz.func86 ?_
 refine jB<|kx [(2,(.ref 0 0)),(3,(.ref 1 0)),(4,(.ref 2 0))] [(0,some (bx (jR x))),(1,some (bx (jR y))),(2,some (bx (jR (kW.mk false []))))] (zN (vX 0)<|zN (vX 1)<|zN (uJ 2 nM nN)<|zZ) ?_
 refine jB<|kd [(5,(vl 107 1 jC (kP x))),(6,(vl 107 1 jC (kP y)))] [] mo (wR (kR kD)<|wE (kB (gY x (by omega)))<|wR (kR kD)<|wE (kB (gY y (by omega)))<|wM<|wM<|wZ) ?_
 refine jB<|jH<|kQ (α:=List Nat × List Nat) (fun (a,b)=>⟨[(4,(.ref 2 0)),(5,(vl 107 1 jC a)),(6,(vl 107 1 jC b))],[(2,some (bx (jR (kW.mk false []))))]⟩) (fun (a,b)=>gH a/\gH b/\a.length<=1099511627776/\b.length<=1099511627776/\Nat.gcd (val a) (val b)=Int.gcd (jX x) (jX y)) (fun (a,b)=>val b) (kP x,kP y) wk ⟨hgx,hgy,by omega,by omega,gcd_toZ x y⟩ ?_
 rintro ⟨a,b⟩ ⟨ha,hb,hla,hlb,hg⟩
 refine jB<|jB<|kx [(19,(vb (decide (0<((b.length:Nat):Int)))))] [] (zM<|zE (yH kJ)<|zE cI<|zZ) ?_
 refine jF (b:=decide (0<((b.length:Nat):Int))) rfl (fun h1=>?_) (fun h1=>?_)
 ·replace h1:=vT h1
  have hb0:=cE hb (by omega)
  refine jE<|jH<|jB<|kx [(7,(gN (yO a))),(8,(vb (mN a)))] [] (zM<|zE (kB (t_word a ha.1))<|zM<|zE zJ<|zE zJ<|zM<|zM<|zZ) ?_
  refine jB<|kx [(9,(gN (yO b))),(10,(vb (mN b)))] [] (zM<|zE (kB (t_word b hb.1))<|zM<|zE zJ<|zE zJ<|zM<|zM<|zZ) ?_
  refine jB<|jB<|kx [(33,(vb ((mN a)&&(mN b))))] [] ?_ ?_
  ·refine zM<|zE (oV (vb (mN a)) (qA (by kernel_rfl)))<|?_
   rcases hb2:(mN a) with _ | _
   ·exact zK<|zE yJ<|zZ
   ·exact zM<|zE aB<|zZ
  refine jF (b:=((mN a)&&(mN b))) rfl (fun h3=>?_) (fun h3=>?_)
  ·obtain ⟨w1,w2,w3⟩:=word_both ha.1 h3
   have w4:val b<1000000000000000000:=by rw[Bool.and_eq_true] at h3;exact val_len2 hb.1 (vT h3.2)
   refine jB<|jH<|kQ (α:=Nat × Nat) (fun (m,n)=>⟨[(4,(.ref 2 0)),(7,(gN m)),(9,(gN n))],[(2,some (bx (jR (kW.mk false []))))]⟩) (fun (m,n)=>m<1000000000000000000/\n<1000000000000000000/\Nat.gcd m n=Int.gcd (jX x) (jX y)) (fun (m,n)=>n) (yO a,yO b) wk ⟨by omega,by omega,by rw[w1,w2];exact hg⟩ ?_
   rintro ⟨m,n⟩ ⟨hm,hn,hg2⟩
   refine jB<|jB<|kx [(35,(vb (decide (0<((n:Nat):Int)))))] [] (zM<|zE cI<|zZ) ?_
   refine jF (b:=decide (0<((n:Nat):Int))) rfl (fun h4=>?_) (fun h4=>?_)
   ·replace h4:=vT h4
    refine jE<|jH<|kd [(7,(gN n)),(9,(gN (m % n)))] [] mo (wM<|wM<|wM<|wE (oRe (m % n))<|wM<|wM<|wZ) ?_
    exact ⟨(n,m % n),wk,⟨hn,Nat.lt_of_le_of_lt (Nat.mod_le _ _) hm,by rw[<- hg2,Nat.gcd_comm,<- Nat.gcd_rec,Nat.gcd_comm]⟩,(by dsimp only;exact Nat.mod_lt _ (by omega))⟩
   ·replace h4:=xC h4
    obtain rfl:n=0:=by omega
    rw[Nat.gcd_zero_right] at hg2
    refine kL<|jB<|kx [] [(2,some (bx (jR (xN false (val (ofNat m))))))] (zM<|zE (kB (t_split m (by omega)))<|zE (kB (dK false (ofNat m) (kI _) (Nat.le_trans (fP (by omega)) (by decide))))<|zT (qM kD)<|zZ) ?_
    refine jD ⟨_,(kS (cs:=(bx (jR (xN false (val (ofNat m)))))) (d:=(jR (xN false (val (ofNat m))))) rfl rfl kD rfl rfl .nil),?_⟩
    rw[<- hg2,kE,mkI_false];rfl
  ·refine jE<|jB<|kx [(12,(vl 107 1 jC (ofNat (val a % val b))))] [] (zM<|zM<|zE (kB (t_over a b ha hb hb0 (by omega) (by omega)))<|zM<|zE zJ<|zE zJ<|zM<|zM<|zZ) ?_
   refine kx [(5,(vl 107 1 jC b)),(6,(vl 107 1 jC (ofNat (val a % val b))))] [] (zM<|zM<|zM<|zM<|zZ) ?_
   exact ⟨(b,ofNat (val a % val b)),wk,⟨hb,qB _,hlb,Nat.le_trans (len_rem a ha _) hla,by rw[kE,<- hg,Nat.gcd_comm,<- Nat.gcd_rec,Nat.gcd_comm]⟩,(by dsimp only;rw[kE];exact Nat.mod_lt _ hb0)⟩
 ·replace h1:=xC h1
  have hb1:b=[]:=List.eq_nil_of_length_eq_zero (by omega)
  rw[hb1,val_nil,Nat.gcd_zero_right] at hg
  refine kL<|jB<|kx [] [(2,some (bx (jR (xN false (val a)))))] (zM<|zE (kB (t_clone a (by omega)))<|zE (kB (dK false a ha.1 (by omega)))<|zT (qM kD)<|zZ) ?_
  refine jD ⟨_,(kS (cs:=(bx (jR (xN false (val a))))) (d:=(jR (xN false (val a)))) rfl rfl kD rfl rfl .nil),?_⟩
  rw[<- hg,mkI_false];rfl
end Go.Proofs.YtckccjhflbljgaaGreatDoor
