/- Part 22 of a proof: rules, plain facts, and functions walked. -/
import Derived.Test.YtckccjhflbljgaaGreatDoorM21
set_option linter.all false
set_option maxRecDepth 4000
namespace Go.Proofs.YtckccjhflbljgaaGreatDoor
open Go.Fid
theorem ze28:vO Tryz.prog 28=some [.slice none 0 0]:=by kernel_rfl
theorem zo28:dC [.slice none 0 0] [.sl 107 1 []]:=by simp [dC,Value.oneCell']
theorem t_short(a:List Nat)(d:Nat)(hda:Dig a)(hd0:0<d)(hd1:d<=1000000000)(hla:a.length<=17592186044416):jR Tryz.prog 181 [(.sl 107 1 (List.map jD a)),(.val (.int .u32 (((d:Nat):Int))))] (.tup [(.sl 107 1 (List.map jD (ofNat (val a / d)))),(.val (.int .u32 ((((val a % d):Nat):Int))))]):=by
 refine uU Tryz.func181 ?_
 refine jB<|kx [(3,(.ref 0 0)),(4,(.ref 1 0)),(5,(aL 0))] [(0,some (bx (.val (.int .u32 (((d:Nat):Int)))))),(1,some (bx (.sl 107 1 (List.map jD []))))] (zN (vZ 0)<|zN (vC 1 ze28 zo28)<|zM<|zZ) ?_
 refine jB<|kx [] [(1,some [(.own 2 107 1 a.length)]),(2,some (bm jD (List.replicate a.length 0)))] (zM<|zE (zL kD)<|zN (oMk 2 jD (0:Nat) a.length a.length kD vH yD nC)<|zT (oSo xG)<|zZ) ?_
 refine jB<|kx [(6,(.ref 3 0))] [(3,some (bx (.val (.int .u64 (0)))))] (zH (vC 3 ze137 zo137)<|zT (qM sh137)<|zZ) ?_
 refine jB<|pwp_backL backs cb178 rfl 7 jD a 0 (fun (q,vT)=>⟨[(3,(.ref 0 0)),(4,(.ref 1 0)),(5,(aL 0)),(6,(.ref 3 0))],[(0,some (bx (.val (.int .u32 (((d:Nat):Int)))))),(1,some [(.own 2 107 1 a.length)]),(2,some (bm jD q)),(3,some (bx (.val (.int .u64 (((vT:Nat):Int))))))]⟩) (fun (j:Nat) (q,vT)=>q.length=a.length/\Dig q/\vT<d/\val (a.drop (a.length-j))=val (q.drop (a.length-j))*d+vT) (List.replicate a.length 0,0) rfl rfl rfl rfl rfl rfl rfl rfl rfl rfl rfl rfl (fun _=>rfl) (fun _=>rfl) wk ⟨by simp,xQ _,hd0,by simp [val,cN]⟩ (by omega) ?_ ?_
 ·rintro rl j ⟨q,vT⟩ hj ⟨qK,hdq,hr,hv⟩
  have hg:=hda.getD (a.length-1-j)
  obtain ⟨hb1,hb2⟩:=short_bound hr hd1 hg
  refine jB<|kx [(7,(kG (a.length-1-j)))] [] (zM<|zZ) ?_
  refine kx [(8,(aL (a.getD (a.length-1-j) 0)))] [] (zM<|zZ) ?_
  refine jL<|jB<|kx [(9,(yO ((vT*1000000000)+(a.getD (a.length-1-j) 0))))] [] (zR (qI sh137)<|zE (oMl (vT*1000000000))<|zM<|zE (nZ yA zU (a.getD (a.length-1-j) 0))<|zE (vY ((vT*1000000000)+(a.getD (a.length-1-j) 0)))<|zM<|zZ) ?_
  refine kd [] [(2,some (bm jD (q.set (a.length-1-j) (((vT*1000000000)+(a.getD (a.length-1-j) 0)) / d)))),(3,some (bx (.val (.int .u64 ((((((vT*1000000000)+(a.getD (a.length-1-j) 0)) % d):Nat):Int))))))] mo (wR (qI xG)<|wM<|wM<|wR (qI qJ)<|wE (nZ yA zU d)<|wE (oQu (((vT*1000000000)+(a.getD (a.length-1-j) 0)) / d))<|wE (nZ gF yT (((vT*1000000000)+(a.getD (a.length-1-j) 0)) / d))<|wM<|wR (qI qJ)<|wE (nZ yA zU d)<|wE (oRe (((vT*1000000000)+(a.getD (a.length-1-j) 0)) % d))<|wE (zJ kD (a.length-1-j))<|wT (dH qJ (a.length-1-j) (((vT*1000000000)+(a.getD (a.length-1-j) 0)) / d))<|wT (qM sh137)<|wZ) ?_
  exact ⟨(q.set (a.length-1-j) ((vT*1000000000+a.getD (a.length-1-j) 0) / d),(vT*1000000000+a.getD (a.length-1-j) 0) % d),wk,⟨by simpa using qK,hdq.set _ hb2,Nat.mod_lt _ hd0,short_step hj qK hv rfl⟩⟩
 ·rintro ⟨q,vT⟩ ⟨qK,hdq,hr,hv⟩
  obtain ⟨e1,e2⟩:=short_end hv hr
  refine jB<|qL (publishB (j:=1) (k:=2) (es:=List.map jD q) rfl rfl rfl (vK _ _ (fun _=>rfl)) (xH _ _ qK) (xJ _ _ (fun _=>rfl) qK)) ?_
  refine kd [(5,(aL vT))] [(1,some (bx (.sl 107 1 (List.map jD (ofNat (val q))))))] mo (wR (qI xG)<|wE (kB (t_trim q (by assumption) (by omega)))<|wR (qI sh137)<|wE (nZ gF yT vT)<|wT (qM xG)<|wM<|wZ) ?_
  refine jE ⟨_,(res_1 (cs:=(bx (.sl 107 1 (List.map jD (ofNat (val q)))))) (d:=(.sl 107 1 (List.map jD (ofNat (val q))))) rfl rfl xG rfl rfl (.tmp (d:=(.val (.int .u32 (((vT:Nat):Int))))) rfl .nil)),?_⟩
  rw[<- e1,<- e2];rfl
theorem o_times(a b:List Nat)(hda:Dig a)(hdb:Dig b)(hla:a.length<=4398046511104)(hlb:b.length<=4398046511104)(h0:0<val a*val b):TakesO Tryz.prog 161 [(.sl 107 1 (List.map jD a)),(.sl 107 1 (List.map jD b))] 107 1 (ofNat (val a*val b)).length (List.map jD (ofNat (val a*val b))):=by
 refine fn_introO Tryz.func161 rfl cb161 rfl (cM h0) ?_
 refine jB<|kx [] [] (zE (fQ 107 1)<|zZ) ?_
 refine jB<|kx [(5,(.own 0 107 1 (a.length+b.length)))] [(0,some (bm jD (List.replicate (a.length+b.length) 0)))] (zM<|zE (zL kD)<|zM<|zE (zL kD)<|zE (vY (a.length+b.length))<|zN (oMk 0 jD (0:Nat) (a.length+b.length) (a.length+b.length) kD vH yD nC)<|zM<|zZ) ?_
 refine jB<|jB<|kx [(18,(vl 107 1 jD a)),(19,(kG a.length)),(20,(kG 0))] [] (zM<|zE (zL kD)<|zM<|zZ) ?_
 refine jL<|kQ (α:=Nat × List Nat) (fun (i,out)=>⟨[(1,(vl 107 1 jD b)),(5,(.own 0 107 1 (a.length+b.length))),(18,(vl 107 1 jD a)),(19,(kG a.length)),(20,(kG i))],[(0,some (bm jD out))]⟩) (fun (i,out)=>out.length=a.length+b.length/\Dig out/\i<=a.length/\(∀ k,i+b.length<=k->out.getD k 0=0)/\val out=val (a.take i)*val b) (fun (i,out)=>a.length-i) (0,List.replicate (a.length+b.length) 0) wk ⟨by simp,xQ _,Nat.zero_le _,fun k _=>eD _ k,by simp [val,cN]⟩ ?_
 rintro ⟨i,out⟩ ⟨qK,hdo,hi,hz,hv⟩
 have hai:=hda.getD i
 refine jB<|kx [(21,(vb (decide (((i:Nat):Int)<((a.length:Nat):Int)))))] [] (zE gX<|zZ) ?_
 refine jB<|jF rfl (fun h1=>?_) (fun h1=>?_)
 ·replace h1:=vN h1
  refine jG<|jB<|jL<|jB<|kx [(6,(kG i)),(7,(aL (a.getD i 0)))] [] (zM<|zE (mV kD i (0:Nat))<|zE (nK qJ)<|zM<|zM<|zZ) ?_
  refine jB<|kx [(8,(yO 0))] [] (zM<|zZ) ?_
  refine jB<|jB<|kx [(25,(vl 107 1 jD b)),(26,(kG b.length)),(27,(kG 0))] [] (zM<|zE (zL kD)<|zM<|zZ) ?_
  refine jL<|kQ (α:=Nat × List Nat × Nat) (fun (j,o2,c)=>⟨[(1,(vl 107 1 jD b)),(5,(.own 0 107 1 (a.length+b.length))),(6,(kG i)),(7,(aL (a.getD i 0))),(8,(yO c)),(18,(vl 107 1 jD a)),(19,(kG a.length)),(20,(kG i)),(25,(vl 107 1 jD b)),(26,(kG b.length)),(27,(kG j))],[(0,some (bm jD o2))]⟩) (fun (j,o2,c)=>o2.length=a.length+b.length/\Dig o2/\j<=b.length/\c<1000000000/\(∀ k,i+b.length<=k->o2.getD k 0=0)/\val o2+pw (i+j)*c=val (a.take i)*val b+pw i*(a.getD i 0*val (b.take j))) (fun (j,o2,c)=>b.length-j) (0,out,0) wk ⟨qK,hdo,Nat.zero_le _,by decide,hz,by simp [val,hv]⟩ ?_
  rintro ⟨j,o2,c⟩ ⟨hlen2,hdo2,hj,hc,hz2,hv2⟩
  have hbj:=hdb.getD j
  have hoj:=hdo2.getD (i+j)
  have hpq:a.getD i 0*b.getD j 0<=999999999*999999999:=Nat.mul_le_mul (by omega) (by omega)
  refine jB<|kx [(28,(vb (decide (((j:Nat):Int)<((b.length:Nat):Int)))))] [] (zE gX<|zZ) ?_
  refine jB<|jF rfl (fun h2=>?_) (fun h2=>?_)
  ·replace h2:=vN h2
   refine jG<|jB<|jL<|jB<|kx [(9,(kG j)),(10,(aL (b.getD j 0)))] [] (zM<|zE (mV kD j (0:Nat))<|zE (nK qJ)<|zM<|zM<|zZ) ?_
   refine jB<|kx [(11,(yO (((o2.getD (i+j) 0)+((a.getD i 0)*(b.getD j 0)))+c)))] [] (zM<|zM<|zM<|zE (vY (i+j))<|zE (zJ kD (i+j))<|zR (dG qJ (i+j) (0:Nat))<|zE (nZ yA zU (o2.getD (i+j) 0))<|zM<|zE (nZ yA zU (a.getD i 0))<|zM<|zE (nZ yA zU (b.getD j 0))<|zE (oMl ((a.getD i 0)*(b.getD j 0)))<|zE (vY ((o2.getD (i+j) 0)+((a.getD i 0)*(b.getD j 0))))<|zM<|zE (vY (((o2.getD (i+j) 0)+((a.getD i 0)*(b.getD j 0)))+c))<|zM<|zZ) ?_
   refine kx [(8,(yO ((((o2.getD (i+j) 0)+((a.getD i 0)*(b.getD j 0)))+c) / 1000000000)))] [(0,some (bm jD (o2.set (i+j) ((((o2.getD (i+j) 0)+((a.getD i 0)*(b.getD j 0)))+c) % 1000000000))))] (zM<|zM<|zM<|zE (vY (i+j))<|zM<|zE (oRe ((((o2.getD (i+j) 0)+((a.getD i 0)*(b.getD j 0)))+c) % 1000000000))<|zE (nZ gF yT ((((o2.getD (i+j) 0)+((a.getD i 0)*(b.getD j 0)))+c) % 1000000000))<|zM<|zE (oQu ((((o2.getD (i+j) 0)+((a.getD i 0)*(b.getD j 0)))+c) / 1000000000))<|zE (zJ kD (i+j))<|zT (dH qJ (i+j) ((((o2.getD (i+j) 0)+((a.getD i 0)*(b.getD j 0)))+c) % 1000000000))<|zM<|zZ) ?_
   refine kx [(27,(kG (j+1)))] [] (zE (vY (j+1))<|zM<|zZ) ?_
   exact ⟨(j+1,o2.set (i+j) ((o2.getD (i+j) 0+a.getD i 0*b.getD j 0+c) % 1000000000),(o2.getD (i+j) 0+a.getD i 0*b.getD j 0+c) / 1000000000),wk,(by obtain ⟨q1,q2⟩:=times_step (by omega) hdo2 hv2 rfl (val_take_succ b j);exact ⟨by simpa using hlen2,q1,by omega,by omega,zero_set (by omega) hz2,q2⟩),(by first|omega|(dsimp only;omega))⟩
  ·replace h2:=vX h2
   have hje:j=b.length:=by omega
   rw[hje] at hv2
   refine kN<|kx [] [(0,some (bm jD (o2.set (i+b.length) c)))] (zM<|zM<|zM<|zE (zL kD)<|zE (vY (i+b.length))<|zM<|zE (nZ gF yT c)<|zE (zJ kD (i+b.length))<|zT (dH qJ (i+b.length) c)<|zZ) ?_
   refine kx [(20,(kG (i+1)))] [] (zE (vY (i+1))<|zM<|zZ) ?_
   exact ⟨(i+1,o2.set (i+b.length) c),wk,(by obtain ⟨q1,q2,q3,q4⟩:=times_row hdo2 (by omega) hlen2 hz2 hc hv2;exact ⟨q1,q2,by omega,q3,q4⟩),(by first|omega|(dsimp only;omega))⟩
 ·replace h1:=vX h1
  have hie:i=a.length:=by omega
  rw[hie,List.take_length] at hv
  refine kN<|jB<|kx [(4,(.own 0 107 1 ((ofNat (val out)).length)))] [] (zM<|zR ⟨_,e_trimO out (by exact rfl) (by exact rfl) qK hdo (by omega),by kernel_rfl⟩<|zM<|zZ) ?_
  rw[<- hv]
  refine jE ⟨4,0,rfl,rfl,(bm jD out),rfl,?_⟩
  exact own_prefix _ (trim_take hdo)
theorem in2:intB Tryz.prog 2=some .i64:=by kernel_rfl
theorem un2:(Tryz.prog.underlying 2).isSome=true:=by kernel_rfl
set_option maxHeartbeats 4000000 in
theorem t_long(a b:List Nat)(hda:yM a)(hdb:yM b)(hb2:2<=b.length)(hba:val b<=val a)(hla:a.length<=1099511627776):jR Tryz.prog 182 [(.sl 107 1 (List.map jD a)),(.sl 107 1 (List.map jD b))] (.tup [(.sl 107 1 (List.map jD (ofNat (val a / val b)))),(.sl 107 1 (List.map jD (ofNat (val a % val b))))]):=by
 have hab:=len_of_le hda hdb hba
 have hsc:=fW hdb (by omega)
 have htp:=bK hdb (by omega)
 have hds:Dig [mX b]:=zY.2 ⟨by omega,yW⟩
 have hbp:0<val b:=by have:=val_top hdb.1 (by omega);have h2:=Nat.mul_le_mul_right (pw (b.length-1)) htp.1;have h3:=pw_pos (b.length-1);rw[Nat.succ_mul] at h2;omega
 obtain ⟨u0,hue⟩:∃ u0,u0=ofNat (val a*val [mX b]):=⟨_,rfl⟩
 obtain ⟨v,hve⟩:∃ v,v=ofNat (val b*val [mX b]):=⟨_,rfl⟩
 have hu0:Dig u0:=by rw[hue];exact kE _
 have hvd:Dig v:=by rw[hve];exact kE _
 have hvl:v.length=b.length:=by rw[hve,mK];exact scl_len hdb (by omega)
 have hvv:val v=val b*mX b:=by rw[hve,mK];exact kA _
 have hu0v:val u0=val a*mX b:=by rw[hue,mK];exact kA _
 have hu0l:a.length<=u0.length/\u0.length<=a.length+1:=by rw[hue,mK];exact scl_lenA hda hdb (by omega)
 have hLU:(u0++[0]).length=u0.length+1:=by simp
 have hcv:yM v:=by rw[hve];exact qB _
 have hv1p:0<v.getD (b.length-1) 0:=by rw[<- hvl];exact (bK hcv (by omega)).1
 have hpv:pw (b.length-1)<=val v:=by have h1:=val_top hvd (by omega);rw[hvl] at h1;have h2:=Nat.mul_le_mul_right (pw (b.length-1)) hv1p;omega
 refine uU Tryz.func182 ?_
 refine jB<|kx [] [] (zE (fQ 107 1)<|zE (fQ 107 1)<|zZ) ?_
 refine jB<|kx [(6,(aL (mX b)))] [] (zM<|zM<|zE (zL kD)<|zE (oSb (b.length-1))<|zE (mV kD (b.length-1) (0:Nat))<|zE (nK qJ)<|zE (nZ yA zU (b.getD (b.length-1) 0))<|zE (vY ((b.getD (b.length-1) 0)+1))<|zE (oQu (mX b) (hr:=by exact (quo_u64 1000000000 (b.getD (b.length-1) 0+1))))<|zE (nZ gF yT (mX b))<|zM<|zZ) ?_
 refine jB<|kx [(7,(.own 0 107 1 u0.length))] [(0,some (bm jD u0))] (zM<|zM<|zE (fH kD vH yD)<|zN (oCo 0 (hue▸o_times a [mX b] hda.1 hds (by omega) (by simp) (by rw[mK];exact Nat.mul_pos (by omega) hsc.1)))<|zM<|zZ) ?_
 refine jB<|kx [(8,(vl 107 1 jD v))] [] (zM<|zM<|zE (fH kD vH yD)<|zE (kB (hve▸t_times b [mX b] hdb.1 hds (by omega) (by simp)))<|zM<|zZ) ?_
 refine jB<|kx [(9,(kG b.length))] [] (zM<|zE (oLn kD b.length (hr:=by exact (by simp [hvl])))<|zM<|zZ) ?_
 refine jB<|kf [(7,(.own 0 107 1 ((u0++[0]).length)))] [(0,some (bm jD (u0++[0])))] (zM<|zE (fH kD vH yD)<|zA jD u0 [0] rfl kD vH nC<|zM<|zF) ?_
 refine jB<|jB<|kx [(50,(vb (decide ((((u0++[0]).length:Nat):Int)<=((a.length:Nat):Int)))))] [] (zM<|zE (oLo kD)<|zM<|zE (zL kD)<|zE oLe<|zZ) ?_
 refine jF rfl (fun h1=>?_) (fun h1=>?_)
 ·replace h1:=vN h1
  exfalso;simp at h1;omega
 ·replace h1:=vX h1
  refine jG<|jB<|kx [(4,(.own 1 107 1 ((u0++[0]).length-b.length)))] [(1,some (bm jD (List.replicate ((u0++[0]).length-b.length) 0)))] (zM<|zE (oLo kD)<|zM<|zE (oSb ((u0++[0]).length-b.length))<|zH (oMk 1 jD (0:Nat) ((u0++[0]).length-b.length) ((u0++[0]).length-b.length) kD vH yD nC)<|zM<|zZ) ?_
  refine jB<|jB<|kx [(10,(vi ((((u0++[0]).length-b.length:Nat):Int)-1)))] [] (zM<|zE (oLo kD)<|zM<|zE (oSb ((u0++[0]).length-b.length))<|zE (zSb ((((u0++[0]).length-b.length:Nat):Int)-1))<|zM<|zZ) ?_
  refine jL<|kQ (α:=Nat × List Nat × List Nat) (fun (k,u,q)=>⟨[(4,(.own 1 107 1 ((u0++[0]).length-b.length))),(6,(aL (mX b))),(7,(.own 0 107 1 ((u0++[0]).length))),(8,(vl 107 1 jD v)),(9,(kG b.length)),(10,(vi (((k:Nat):Int)-1)))],[(0,some (bm jD u)),(1,some (bm jD q))]⟩) (fun (k,u,q)=>u.length=(u0++[0]).length/\Dig u/\q.length=(u0++[0]).length-b.length/\Dig q/\k<=(u0++[0]).length-b.length/\val u+val v*(pw k*val (q.drop k))=val a*mX b/\val (u.drop k)<val v) (fun (k,u,q)=>k) ((u0++[0]).length-b.length,u0++[0],List.replicate ((u0++[0]).length-b.length) 0) wk ⟨rfl,aZ.2 ⟨hu0,zY.2 ⟨by decide,yW⟩⟩,by simp,xQ _,Nat.le_refl _,by simp [cE,val,hu0v],by have:=long_start hu0 hvl hb2 (by omega) hpv;rw[hLU];exact this⟩ ?_
  rintro ⟨k,u,q⟩ ⟨qK,hu,hql,hqd,hk,hU,hW⟩
  refine jB<|jB<|kx [(65,(vb (decide (0<=(((k:Nat):Int)-1)))))] [] (zM<|zE oGe<|zZ) ?_
  refine jF (b:=decide (0<=(((k:Nat):Int)-1))) rfl (fun h2=>?_) (fun h2=>?_)
  ·replace h2:=vN h2
   obtain ⟨j,rfl⟩:∃ j,k=j+1:=⟨k-1,by omega⟩
   rw[show (((j+1:Nat):Int)-1)=((j:Nat):Int) from by omega]
   have hg1:=hu.getD (j+b.length)
   have hg2:=hu.getD (j+b.length-1)
   have hg3:=hu.getD (j+b.length-2)
   have hg4:=hvd.getD (b.length-1)
   have hg5:=hvd.getD (b.length-2)
   obtain ⟨z1,z2,z3,z4,z5,z6⟩:=window_tops hu hvd hvl hb2 hW
   obtain ⟨hwz,hww⟩:=window hvd hvl hW
   refine jG<|jB<|jL<|jB<|kd [(10,(kG j)),(11,(yO (((u.getD (j+b.length) 0)*1000000000)+(u.getD ((j+b.length)-1) 0))))] [] mo (wM<|wM<|wM<|wE (vY (j+b.length))<|wR ⟨(bm jD u),e_clo (t_at u (j+b.length)) (by exact rfl) (by exact rfl) (by exact rfl) (.o (.d .nil)) (vK jD u (fun _=>rfl)) (xH _ _ qK) (xJ _ _ (fun _=>rfl) qK),by kernel_rfl⟩<|wE (nZ yA zU (u.getD (j+b.length) 0))<|wE (oMl ((u.getD (j+b.length) 0)*1000000000))<|wM<|wM<|wM<|wE (vY (j+b.length))<|wE (oSb ((j+b.length)-1))<|wE (zJ kD ((j+b.length)-1))<|wR (dG qJ ((j+b.length)-1) (0:Nat))<|wE (nZ yA zU (u.getD ((j+b.length)-1) 0))<|wE (vY (((u.getD (j+b.length) 0)*1000000000)+(u.getD ((j+b.length)-1) 0)))<|wM<|wZ) ?_
   refine jB<|kd [(12,(yO ((((u.getD (j+b.length) 0)*1000000000)+(u.getD ((j+b.length)-1) 0)) / (v.getD (b.length-1) 0)))),(13,(yO ((((u.getD (j+b.length) 0)*1000000000)+(u.getD ((j+b.length)-1) 0)) % (v.getD (b.length-1) 0))))] [] mo (wM<|wM<|wM<|wE (oSb (b.length-1))<|wE (mV kD (b.length-1) (0:Nat))<|wE (nK qJ)<|wE (nZ yA zU (v.getD (b.length-1) 0))<|wE (oQu ((((u.getD (j+b.length) 0)*1000000000)+(u.getD ((j+b.length)-1) 0)) / (v.getD (b.length-1) 0)))<|wM<|wM<|wM<|wE (oSb (b.length-1))<|wE (mV kD (b.length-1) (0:Nat))<|wE (nK qJ)<|wE (nZ yA zU (v.getD (b.length-1) 0))<|wE (oRe ((((u.getD (j+b.length) 0)*1000000000)+(u.getD ((j+b.length)-1) 0)) % (v.getD (b.length-1) 0)))<|wM<|wM<|wZ) ?_
   refine pwp_seqjoin (α:=Nat × Nat) (fun (G,R)=>⟨[(4,(.own 1 107 1 ((u0++[0]).length-b.length))),(6,(aL (mX b))),(7,(.own 0 107 1 ((u0++[0]).length))),(8,(vl 107 1 jD v)),(9,(kG b.length)),(10,(kG j)),(12,(yO G))],[(0,some (bm jD u)),(1,some (bm jD q))]⟩) (fun (G,R)=>G<1000000000/\val (u.drop j) / val v<=G/\G<=val (u.drop j) / val v+1) ?_ ?_
   ·refine kQ (α:=Nat × Nat) (fun (G,R)=>⟨[(4,(.own 1 107 1 ((u0++[0]).length-b.length))),(6,(aL (mX b))),(7,(.own 0 107 1 ((u0++[0]).length))),(8,(vl 107 1 jD v)),(9,(kG b.length)),(10,(kG j)),(12,(yO G)),(13,(yO R))],[(0,some (bm jD u)),(1,some (bm jD q))]⟩) (fun (G,R)=>G*(v.getD (b.length-1) 0)+R=(u.getD (j+b.length) 0*1000000000+u.getD (j+b.length-1) 0)/\val (u.drop j) / val v<=G/\R<1000000000/\G<=1999999999) (fun (G,R)=>G) ((u.getD (j+b.length) 0*1000000000+u.getD (j+b.length-1) 0) / v.getD (b.length-1) 0,(u.getD (j+b.length) 0*1000000000+u.getD (j+b.length-1) 0) % v.getD (b.length-1) 0) wk ⟨by rw[Nat.mul_comm];exact Nat.div_add_mod _ _,guess_first0 z5 z4 hv1p hg3,Nat.lt_trans (Nat.mod_lt _ hv1p) hg4,guess_top hv1p z1 hg2⟩ ?_
    rintro ⟨G,R⟩ ⟨hG0,hG1,hR,hGb⟩
    have hpq:G*v.getD (b.length-2) 0<=1999999999*999999999:=Nat.mul_le_mul hGb (by omega)
    refine jB<|jB<|kd [(123,(vb (decide (1000000000<=((G:Nat):Int))||decide (((((R*1000000000)+(u.getD ((j+b.length)-2) 0)):Nat):Int)<(((G*(v.getD (b.length-2) 0)):Nat):Int)))))] [] mo ?_ ?_
    ·refine wM<|wE oGe<|wE (oV (vb (decide (1000000000<=((G:Nat):Int)))) (qA (by kernel_rfl)))<|?_
     rcases hb3:(decide (1000000000<=((G:Nat):Int))) with _ | _
     ·replace hb3:=vX hb3
      exact wM<|wM<|wM<|wE (oSb (b.length-2))<|wE (mV kD (b.length-2) (0:Nat))<|wE (nK qJ)<|wE (nZ yA zU (v.getD (b.length-2) 0))<|wE (oMl (G*(v.getD (b.length-2) 0)))<|wM<|wE (oMl (R*1000000000))<|wM<|wM<|wM<|wE (vY (j+b.length))<|wE (oSb ((j+b.length)-2))<|wE (zJ kD ((j+b.length)-2))<|wR (dG qJ ((j+b.length)-2) (0:Nat))<|wE (nZ yA zU (u.getD ((j+b.length)-2) 0))<|wE (vY ((R*1000000000)+(u.getD ((j+b.length)-2) 0)))<|wE dI<|wE eM<|wZ
     ·replace hb3:=vN hb3
      exact wK<|wK<|wK<|wK<|wK<|wK<|wK<|wK<|wK<|wK<|wK<|wK<|wK<|wK<|wK<|wK<|wK<|wK<|wK<|wK<|wE gU<|wZ
    refine jF rfl (fun h4=>?_) (fun h4=>?_)
    ·rw[Bool.or_eq_true,decide_eq_true_eq,decide_eq_true_eq] at h4
     have hgl:=guess_less (pw_pos _) z5 z4 hG0 hG1 hv1p z2 (by omega)
     refine jG<|jL<|jB<|kx [(12,(yO (G-1)))] [] (zM<|zE (oSb (G-1))<|zM<|zZ) ?_
     refine jB<|kx [(13,(yO (R+(v.getD (b.length-1) 0))))] [] (zM<|zM<|zM<|zE (oSb (b.length-1))<|zE (mV kD (b.length-1) (0:Nat))<|zE (nK qJ)<|zE (nZ yA zU (v.getD (b.length-1) 0))<|zE (vY (R+(v.getD (b.length-1) 0)))<|zM<|zZ) ?_
     refine jB<|kx [(135,(vb (decide (1000000000<=(((R+(v.getD (b.length-1) 0)):Nat):Int)))))] [] (zM<|zE oGe<|zZ) ?_
     refine jF rfl (fun h5=>?_) (fun h5=>?_)
     ·replace h5:=vN h5
      refine kN ?_
      refine pjoin_exit (id:=2) (α:=Nat × Nat) (Q:=fun _ _=>True) (St:=fun (G,R)=>⟨[(4,(.own 1 107 1 ((u0++[0]).length-b.length))),(6,(aL (mX b))),(7,(.own 0 107 1 ((u0++[0]).length))),(8,(vl 107 1 jD v)),(9,(kG b.length)),(10,(kG j)),(12,(yO G))],[(0,some (bm jD u)),(1,some (bm jD q))]⟩) (I:=fun (G,R)=>G<1000000000/\val (u.drop j) / val v<=G/\G<=val (u.drop j) / val v+1) ?_
      exact ⟨(G-1,R+v.getD (b.length-1) 0),wk,(by have hd:=guess_dec hgl.2 hG0;have hgb:=guess_break hd z1 hg2 (by omega);exact ⟨hgb,hgl.1,guess_near z6 z3 hd hv1p (by omega) hgb (Nat.le_trans (Nat.mul_le_mul (show G-1<=999999999 by omega) (show v.getD (b.length-2) 0<=999999999 by omega)) (by omega))⟩)⟩
     ·replace h5:=vX h5
      refine jG ?_
      exact ⟨(G-1,R+v.getD (b.length-1) 0),wk,(by exact ⟨guess_dec hgl.2 hG0,hgl.1,by omega,by omega⟩),(by first|omega|(dsimp only;omega))⟩
    ·refine kN ?_
     refine pjoin_exit (id:=2) (α:=Nat × Nat) (Q:=fun _ _=>True) (St:=fun (G,R)=>⟨[(4,(.own 1 107 1 ((u0++[0]).length-b.length))),(6,(aL (mX b))),(7,(.own 0 107 1 ((u0++[0]).length))),(8,(vl 107 1 jD v)),(9,(kG b.length)),(10,(kG j)),(12,(yO G))],[(0,some (bm jD u)),(1,some (bm jD q))]⟩) (I:=fun (G,R)=>G<1000000000/\val (u.drop j) / val v<=G/\G<=val (u.drop j) / val v+1) ?_
     exact ⟨(G,R),wk,(by rw[Bool.or_eq_false_iff,decide_eq_false_iff_not,decide_eq_false_iff_not] at h4;exact ⟨by omega,hG1,guess_near z6 z3 hG0 hv1p (by omega) (by omega) (by omega)⟩)⟩
   ·rintro ⟨G,R⟩ ⟨hG,hG1,hG2⟩
    have hjn:j+b.length<(u0++[0]).length:=by omega
    refine jB<|kx [(14,(kG 0)),(15,(yO 0))] [] (zM<|zM<|zZ) ?_
    refine jB<|jB<|kx [(136,(kG b.length)),(137,(kG 0))] [] (zM<|zM<|zZ) ?_
    refine jL<|kQ (α:=Nat × List Nat × Nat × Nat) (fun (i,u2,bo,ca)=>⟨[(4,(.own 1 107 1 ((u0++[0]).length-b.length))),(6,(aL (mX b))),(7,(.own 0 107 1 ((u0++[0]).length))),(8,(vl 107 1 jD v)),(9,(kG b.length)),(10,(kG j)),(12,(yO G)),(14,(vi ((bo:Nat):Int))),(15,(yO ca)),(136,(kG b.length)),(137,(kG i))],[(0,some (bm jD u2)),(1,some (bm jD q))]⟩) (fun (i,u2,bo,ca)=>u2.length=(u0++[0]).length/\Dig u2/\u2.take j=u.take j/\u2.drop (j+i)=u.drop (j+i)/\i<=b.length/\bo<=1/\ca<1000000000/\val ((u2.drop j).take i)+G*val (v.take i)=val ((u.drop j).take i)+pw i*(ca+bo)) (fun (i,u2,bo,ca)=>b.length-i) (0,u,0,0) wk ⟨qK,hu,rfl,rfl,Nat.zero_le _,Nat.zero_le _,by decide,by simp [val]⟩ ?_
    rintro ⟨i,u2,bo,ca⟩ ⟨hl2,hd2,ht2,hd2',hin,hbo,hca,hv2⟩
    have hgi:=hvd.getD i
    have hgu:=hd2.getD (i+j)
    have hpq:G*v.getD i 0<=999999999*999999999:=Nat.mul_le_mul (by omega) (by omega)
    refine jB<|kx [(138,(vb (decide (((i:Nat):Int)<((b.length:Nat):Int)))))] [] (zE gX<|zZ) ?_
    refine jB<|jF rfl (fun h6=>?_) (fun h6=>?_)
    ·replace h6:=vN h6
     have hi:i<b.length:=by omega
     refine jG<|jB<|jL<|jB<|kx [(16,(kG i))] [] (zM<|zM<|zZ) ?_
     refine jB<|kx [(17,(yO ((G*(v.getD i 0))+ca)))] [] (zM<|zM<|zM<|zE (mV kD i (0:Nat))<|zE (nK qJ)<|zE (nZ yA zU (v.getD i 0))<|zE (oMl (G*(v.getD i 0)))<|zM<|zE (vY ((G*(v.getD i 0))+ca))<|zM<|zZ) ?_
     refine jB<|kx [(15,(yO (((G*(v.getD i 0))+ca) / 1000000000)))] [] (zM<|zE (oQu (((G*(v.getD i 0))+ca) / 1000000000))<|zM<|zZ) ?_
     refine jB<|kx [(18,(vi (((((u2.getD (i+j) 0):Nat):Int)-((bo:Nat):Int))-(((((G*(v.getD i 0))+ca) % 1000000000):Nat):Int))))] [] (zM<|zM<|zM<|zE (vY (i+j))<|zE (zJ kD (i+j))<|zR (dG qJ (i+j) (0:Nat))<|zE (nZ yA in2 (u2.getD (i+j) 0))<|zM<|zE (zSb ((((u2.getD (i+j) 0):Nat):Int)-((bo:Nat):Int)))<|zM<|zE (oRe (((G*(v.getD i 0))+ca) % 1000000000))<|zE (nZ gF in2 (((G*(v.getD i 0))+ca) % 1000000000))<|zE (zSb (((((u2.getD (i+j) 0):Nat):Int)-((bo:Nat):Int))-(((((G*(v.getD i 0))+ca) % 1000000000):Nat):Int)))<|zM<|zZ) ?_
     refine jB<|kx [(14,(kG 0))] [] (zM<|zZ) ?_
     refine jB<|jB<|kx [(165,(vb (decide ((((((u2.getD (i+j) 0):Nat):Int)-((bo:Nat):Int))-(((((G*(v.getD i 0))+ca) % 1000000000):Nat):Int))<0))))] [] (zM<|zE gX<|zZ) ?_
     refine jF rfl (fun h7=>?_) (fun h7=>?_)
     ·replace h7:=vN h7
      refine kx [(14,(kG 1)),(18,(vi ((((((u2.getD (i+j) 0):Nat):Int)-((bo:Nat):Int))-(((((G*(v.getD i 0))+ca) % 1000000000):Nat):Int))+1000000000)))] [] (zM<|zE (zAd ((((((u2.getD (i+j) 0):Nat):Int)-((bo:Nat):Int))-(((((G*(v.getD i 0))+ca) % 1000000000):Nat):Int))+1000000000))<|zM<|zM<|zZ) ?_
      refine kx [] [(0,some (bm jD (u2.set (i+j) ((u2.getD (i+j) 0+1000000000)-bo-(G*v.getD i 0+ca) % 1000000000))))] (zM<|zM<|zM<|zE (vY (i+j))<|zM<|zE (nZ un2 yT ((u2.getD (i+j) 0+1000000000)-bo-(G*v.getD i 0+ca) % 1000000000) (hr:=by exact (wu32 (by omega) (by omega) (by omega))))<|zE (zJ kD (i+j))<|zT (dH qJ (i+j) ((u2.getD (i+j) 0+1000000000)-bo-(G*v.getD i 0+ca) % 1000000000))<|zZ) ?_
      refine kx [(137,(kG (i+1)))] [] (zE (vY (i+1))<|zM<|zZ) ?_
      exact ⟨(i+1,u2.set (i+j) ((u2.getD (i+j) 0+1000000000)-bo-(G*v.getD i 0+ca) % 1000000000),1,(G*v.getD i 0+ca) / 1000000000),wk,(by obtain ⟨q1,q2,q3,q4,q5⟩:=msub_step (v:=v) (L:=(u0++[0]).length) (e:=(u2.getD (i+j) 0+1000000000)-bo-(G*v.getD i 0+ca) % 1000000000) (borrow':=1) hjn hi hl2 qK hd2 ht2 hd2' hv2 rfl (by omega) (by omega);exact ⟨q1,q2,q3,q4,by omega,by omega,by omega,q5⟩),(by first|omega|(dsimp only;omega))⟩
     ·replace h7:=vX h7
      refine jG<|kx [] [(0,some (bm jD (u2.set (i+j) (u2.getD (i+j) 0-bo-(G*v.getD i 0+ca) % 1000000000))))] (zM<|zM<|zM<|zE (vY (i+j))<|zM<|zE (nZ un2 yT (u2.getD (i+j) 0-bo-(G*v.getD i 0+ca) % 1000000000) (hr:=by exact (wu32 (by omega) (by omega) (by omega))))<|zE (zJ kD (i+j))<|zT (dH qJ (i+j) (u2.getD (i+j) 0-bo-(G*v.getD i 0+ca) % 1000000000))<|zZ) ?_
      refine kx [(137,(kG (i+1)))] [] (zE (vY (i+1))<|zM<|zZ) ?_
      exact ⟨(i+1,u2.set (i+j) (u2.getD (i+j) 0-bo-(G*v.getD i 0+ca) % 1000000000),0,(G*v.getD i 0+ca) / 1000000000),wk,(by obtain ⟨q1,q2,q3,q4,q5⟩:=msub_step (v:=v) (L:=(u0++[0]).length) (e:=u2.getD (i+j) 0-bo-(G*v.getD i 0+ca) % 1000000000) (borrow':=0) hjn hi hl2 qK hd2 ht2 hd2' hv2 rfl (by omega) (by omega);exact ⟨q1,q2,q3,q4,by omega,by omega,by omega,q5⟩),(by first|omega|(dsimp only;omega))⟩
    ·replace h6:=vX h6
     have hie:i=b.length:=by omega
     rw[hie] at hd2' hv2 hin
     obtain ⟨m1,m2,m3⟩:=msub_end hu hd2 hvd hvl hW hG1 hG2 hd2' hv2
     refine kN<|jB<|kx [(19,(vi (((((u2.getD (j+b.length) 0):Nat):Int)-((bo:Nat):Int))-((ca:Nat):Int))))] [] (zM<|zM<|zM<|zE (vY (j+b.length))<|zE (zJ kD (j+b.length))<|zR (dG qJ (j+b.length) (0:Nat))<|zE (nZ yA in2 (u2.getD (j+b.length) 0))<|zM<|zE (zSb ((((u2.getD (j+b.length) 0):Nat):Int)-((bo:Nat):Int)))<|zM<|zE (nZ gF in2 ca)<|zE (zSb (((((u2.getD (j+b.length) 0):Nat):Int)-((bo:Nat):Int))-((ca:Nat):Int)))<|zM<|zZ) ?_
     refine jB<|jB<|kx [(189,(vb (decide ((((((u2.getD (j+b.length) 0):Nat):Int)-((bo:Nat):Int))-((ca:Nat):Int))<0))))] [] (zM<|zE gX<|zZ) ?_
     refine jF rfl (fun h8=>?_) (fun h8=>?_)
     ·replace h8:=vN h8
      obtain ⟨n1,n2,r,n3,n4,n5⟩:=m2 (by omega)
      refine jB<|kx [] [(0,some (bm jD (u2.set (j+b.length) 999999999)))] (zM<|zM<|zM<|zE (vY (j+b.length))<|zM<|zE (zAd ((((((u2.getD (j+b.length) 0):Nat):Int)-((bo:Nat):Int))-((ca:Nat):Int))+1000000000))<|zE (nZ un2 yT 999999999 (hr:=by exact (wu32 (by omega) (by omega) (by omega))))<|zE (zJ kD (j+b.length))<|zT (dH qJ (j+b.length) 999999999)<|zZ) ?_
      refine jB<|kx [(12,(yO (G-1)))] [] (zM<|zE (oSb (G-1))<|zM<|zZ) ?_
      refine jB<|kx [(20,(aL 0))] [] (zM<|zZ) ?_
      refine jB<|jB<|kx [(200,(kG b.length)),(201,(kG 0))] [] (zM<|zM<|zZ) ?_
      refine jL<|kQ (α:=Nat × List Nat × Nat) (fun (i,u3,c)=>⟨[(4,(.own 1 107 1 ((u0++[0]).length-b.length))),(6,(aL (mX b))),(7,(.own 0 107 1 ((u0++[0]).length))),(8,(vl 107 1 jD v)),(9,(kG b.length)),(10,(kG j)),(12,(yO (G-1))),(20,(aL c)),(200,(kG b.length)),(201,(kG i))],[(0,some (bm jD u3)),(1,some (bm jD q))]⟩) (fun (i,u3,c)=>u3.length=(u0++[0]).length/\Dig u3/\u3.take j=(u2.set (j+b.length) 999999999).take j/\u3.drop (j+i)=(u2.set (j+b.length) 999999999).drop (j+i)/\i<=b.length/\c<=1/\val ((u3.drop j).take i)+pw i*c=val (((u2.set (j+b.length) 999999999).drop j).take i)+val (v.take i)) (fun (i,u3,c)=>b.length-i) (0,u2.set (j+b.length) 999999999,0) wk ⟨by simpa using hl2,hd2.set _ (by decide),rfl,rfl,Nat.zero_le _,Nat.zero_le _,by simp [val]⟩ ?_
      rintro ⟨i,u3,c⟩ ⟨hl3,hd3,ht3,hd3',hin,hc,hv3⟩
      have hgi:=hvd.getD i
      have hgu:=hd3.getD (i+j)
      have hgt:=hd3.getD (j+b.length)
      refine jB<|kx [(202,(vb (decide (((i:Nat):Int)<((b.length:Nat):Int)))))] [] (zE gX<|zZ) ?_
      refine jB<|jF rfl (fun h9=>?_) (fun h9=>?_)
      ·replace h9:=vN h9
       have hi:i<b.length:=by omega
       refine jG<|jB<|jL<|jB<|kx [(21,(kG i))] [] (zM<|zM<|zZ) ?_
       refine jB<|kd [(22,(aL (((u3.getD (i+j) 0)+(v.getD i 0))+c)))] [] mo (wM<|wM<|wM<|wE (vY (i+j))<|wE (zJ kD (i+j))<|wR (dG qJ (i+j) (0:Nat))<|wM<|wM<|wE (mV kD i (0:Nat))<|wE (nK qJ)<|wE (vY ((u3.getD (i+j) 0)+(v.getD i 0)))<|wM<|wE (vY (((u3.getD (i+j) 0)+(v.getD i 0))+c))<|wM<|wZ) ?_
       refine jB<|kx [(20,(aL 0))] [] (zM<|zZ) ?_
       refine jB<|jB<|kx [(218,(vb (decide (1000000000<=(((((u3.getD (i+j) 0)+(v.getD i 0))+c):Nat):Int)))))] [] (zM<|zE oGe<|zZ) ?_
       refine jF rfl (fun h10=>?_) (fun h10=>?_)
       ·replace h10:=vN h10
        refine kx [(20,(aL 1)),(22,(aL ((((u3.getD (i+j) 0)+(v.getD i 0))+c)-1000000000)))] [] (zM<|zE (oSb ((((u3.getD (i+j) 0)+(v.getD i 0))+c)-1000000000))<|zM<|zM<|zZ) ?_
        refine kx [] [(0,some (bm jD (u3.set (i+j) ((((u3.getD (i+j) 0)+(v.getD i 0))+c)-1000000000))))] (zM<|zM<|zM<|zE (vY (i+j))<|zM<|zE (zJ kD (i+j))<|zT (dH qJ (i+j) ((((u3.getD (i+j) 0)+(v.getD i 0))+c)-1000000000))<|zZ) ?_
        refine kx [(201,(kG (i+1)))] [] (zE (vY (i+1))<|zM<|zZ) ?_
        exact ⟨(i+1,u3.set (i+j) (u3.getD (i+j) 0+v.getD i 0+c-1000000000),1),wk,(by obtain ⟨q1,q2,q3,q4,q5⟩:=addb_step (v:=v) (L:=(u0++[0]).length) (s:=u3.getD (i+j) 0+v.getD i 0+c) (e:=u3.getD (i+j) 0+v.getD i 0+c-1000000000) (c':=1) hjn hi hl3 (by simpa using hl2) hd3 ht3 hd3' hv3 rfl (by omega) (by omega);exact ⟨q1,q2,q3,q4,by omega,by omega,q5⟩),(by first|omega|(dsimp only;omega))⟩
       ·replace h10:=vX h10
        refine jG<|kx [] [(0,some (bm jD (u3.set (i+j) (((u3.getD (i+j) 0)+(v.getD i 0))+c))))] (zM<|zM<|zM<|zE (vY (i+j))<|zM<|zE (zJ kD (i+j))<|zT (dH qJ (i+j) (((u3.getD (i+j) 0)+(v.getD i 0))+c))<|zZ) ?_
        refine kx [(201,(kG (i+1)))] [] (zE (vY (i+1))<|zM<|zZ) ?_
        exact ⟨(i+1,u3.set (i+j) (u3.getD (i+j) 0+v.getD i 0+c),0),wk,(by obtain ⟨q1,q2,q3,q4,q5⟩:=addb_step (v:=v) (L:=(u0++[0]).length) (s:=u3.getD (i+j) 0+v.getD i 0+c) (e:=u3.getD (i+j) 0+v.getD i 0+c) (c':=0) hjn hi hl3 (by simpa using hl2) hd3 ht3 hd3' hv3 rfl (by omega) (by omega);exact ⟨q1,q2,q3,q4,by omega,by omega,q5⟩),(by first|omega|(dsimp only;omega))⟩
      ·replace h9:=vX h9
       have hie2:i=b.length:=by omega
       rw[hie2] at hd3' hv3 hin
       refine kN<|kx [] [(0,some (bm jD (u3.set (j+b.length) (((u3.getD (j+b.length) 0)+c) % 1000000000))))] (zM<|zM<|zM<|zE (vY (j+b.length))<|zM<|zM<|zM<|zE (vY (j+b.length))<|zE (zJ kD (j+b.length))<|zR (dG qJ (j+b.length) (0:Nat))<|zM<|zE (vY ((u3.getD (j+b.length) 0)+c))<|zE (oRe (((u3.getD (j+b.length) 0)+c) % 1000000000))<|zE (zJ kD (j+b.length))<|zT (dH qJ (j+b.length) (((u3.getD (j+b.length) 0)+c) % 1000000000))<|zZ) ?_
       refine kx [] [(1,some (bm jD (q.set j (G-1))))] (zM<|zM<|zM<|zE (nZ gF yT (G-1))<|zE (zJ kD j)<|zT (dH qJ j (G-1))<|zZ) ?_
       refine kx [(10,(vi (((j:Nat):Int)-1)))] [] (zM<|zE (zSb (((j:Nat):Int)-1))<|zM<|zZ) ?_
       exact ⟨(j,u3.set (j+b.length) ((u3.getD (j+b.length) 0+c) % 1000000000),q.set j (G-1)),wk,(by obtain ⟨p1,p2⟩:=neg_end hd3 hvd hvl (by omega) (by omega) (hl2.trans qK.symm) (hl3.trans qK.symm) ht2 hd2' hW hc ht3 hd3' hv3 n3 n4 n5 hU;exact ⟨by simpa using hl3,hd3.set _ (Nat.mod_lt _ (by decide)),by simpa using hql,hqd.set _ (by omega),by omega,p1,p2⟩),(by first|omega|(dsimp only;omega))⟩
     ·replace h8:=vX h8
      obtain ⟨n1,n2,n3⟩:=m3 (by omega)
      refine kx [] [(0,some (bm jD (u2.set (j+b.length) 0)))] (zM<|zM<|zM<|zE (vY (j+b.length))<|zM<|zE (nZ un2 yT 0 (hr:=by exact (wu32 (by omega) (by omega) (by omega))))<|zE (zJ kD (j+b.length))<|zT (dH qJ (j+b.length) 0)<|zZ) ?_
      refine kx [] [(1,some (bm jD (q.set j G)))] (zM<|zM<|zM<|zE (nZ gF yT G)<|zE (zJ kD j)<|zT (dH qJ j G)<|zZ) ?_
      refine kx [(10,(vi (((j:Nat):Int)-1)))] [] (zM<|zE (zSb (((j:Nat):Int)-1))<|zM<|zZ) ?_
      exact ⟨(j,u2.set (j+b.length) 0,q.set j G),wk,(by obtain ⟨p1,p2⟩:=pos_end hu hvd hvl (by omega) (by omega) (hl2.trans qK.symm) ht2 hd2' hW n2 n3 hU;exact ⟨by simpa using hl2,hd2.set _ (by decide),by simpa using hql,hqd.set _ (by omega),by omega,p1,p2⟩),(by first|omega|(dsimp only;omega))⟩
  ·replace h2:=vX h2
   obtain rfl:k=0:=by omega
   obtain ⟨e1,e2⟩:=scl_div hdb (by omega) (by rw[hvv] at hU;exact hU) (by rw[hvv] at hW;exact hW)
   rw[List.drop_zero] at hW
   refine kN<|jB<|qL (yG (t:=7) (k:=0) (es:=List.map jD u) rfl rfl (vK _ _ (fun _=>rfl)) (xH _ _ qK) (xJ _ _ (fun _=>rfl) qK)) ?_
   refine kx [(5,(vl 107 1 jD (ofNat (val (ofNat (val (List.take b.length u))) / (mX b)))))] [] (zM<|zM<|zE (e_slc (l:=0) (h:=b.length) (kl:=.i64) (kh:=.i64) (es':=List.map jD (List.take b.length u)) (by exact rfl) kD (by exact rfl) (by exact rfl) (by exact rfl) (Nat.zero_le _) (by simp only[List.length_map];omega) (by rw[List.drop_zero,List.map_take]))<|zE (kB (t_trim (List.take b.length u) (hu.take _) (by rw[List.length_take];omega)))<|zM<|zE (kB (t_short (ofNat (val (List.take b.length u))) (mX b) (kE _) (by omega) (by omega) (Nat.le_trans (ofNat_val_len (hu.take _)) (by rw[List.length_take];omega))))<|zM<|zE xU<|zE xU<|zM<|zZ) ?_
   refine jB<|qL (yG (t:=4) (k:=1) (es:=List.map jD q) rfl rfl (vK _ _ (fun _=>rfl)) (xH _ _ hql) (xJ _ _ (fun _=>rfl) hql)) ?_
   refine kx [(4,(vl 107 1 jD (ofNat (val q)))),(5,(vl 107 1 jD (ofNat (val (ofNat (val (List.take b.length u))) / (mX b)))))] [] (zM<|zE (kB (t_trim q hqd (by omega)))<|zM<|zM<|zM<|zZ) ?_
   refine jE ⟨_,(.tmp (d:=(.sl 107 1 (List.map jD (ofNat (val q))))) rfl (.tmp (d:=(.sl 107 1 (List.map jD (ofNat (val (ofNat (val (List.take b.length u))) / (mX b)))))) rfl .nil)),?_⟩
   rw[<- e1,<- e2,kA,val_take_of_lt (Nat.lt_trans hW (by rw[<- hvl];exact vI hvd))];rfl
theorem t_over(a b:List Nat)(ha:yM a)(hb:yM b)(hb0:0<val b)(hla:a.length<=1099511627776)(hlb:b.length<=1099511627776):jR Tryz.prog 157 [(.sl 107 1 (List.map jD a)),(.sl 107 1 (List.map jD b))] (.tup [(.sl 107 1 (List.map jD (ofNat (val a / val b)))),(.sl 107 1 (List.map jD (ofNat (val a % val b))))]):=by
 refine uU Tryz.func157 ?_
 refine jB<|kx [] [] (zE (fQ 107 1)<|zE (fQ 107 1)<|zZ) ?_
 refine jB<|jB<|kx [(15,(vb (decide ((uX ((val a:Nat):Int) ((val b:Nat):Int))<0))))] [] (zM<|zM<|zE (kB (t_compare a b ha hb (by omega)))<|zE gX<|zZ) ?_
 refine jF rfl (fun h1=>?_) (fun h1=>?_)
 ·replace h1:=vN h1
  refine jB<|kx [(4,(vl 107 1 jD [])),(5,(vl 107 1 jD a))] [] (zM<|zE (fQ 107 1)<|zM<|zZ) ?_
  refine jE ⟨_,(.tmp (d:=(.sl 107 1 (List.map jD []))) rfl (.tmp (d:=(.sl 107 1 (List.map jD a))) rfl .nil)),?_⟩
  have hlt:=cmpI_neg h1
  rw[Nat.div_eq_of_lt hlt,Nat.mod_eq_of_lt hlt,qV,<- can_eq ha];rfl
 ·replace h1:=vX h1
  refine jG<|jB<|kx [(6,(yO (zV a))),(7,(vb (nI a)))] [] (zM<|zE (kB (t_word a ha.1))<|zM<|zE xU<|zE xU<|zM<|zM<|zZ) ?_
  refine jB<|kx [(8,(yO (zV b))),(9,(vb (nI b)))] [] (zM<|zE (kB (t_word b hb.1))<|zM<|zE xU<|zE xU<|zM<|zM<|zZ) ?_
  refine jB<|jB<|kx [(30,(vb ((nI a)&&(nI b))))] [] ?_ ?_
  ·refine zM<|zE (oV (vb (nI a)) (qA (by kernel_rfl)))<|?_
   rcases hb2:(nI a) with _ | _
   ·exact zK<|zE yS<|zZ
   ·exact zM<|zE eK<|zZ
  refine jF (b:=((nI a)&&(nI b))) rfl (fun h3=>?_) (fun h3=>?_)
  ·obtain ⟨w1,w2,w3⟩:=word_both ha.1 h3
   have w4:zV a / zV b<18446744073709551616:=Nat.lt_of_le_of_lt (Nat.div_le_self _ _) (by omega)
   have w5:zV a % zV b<18446744073709551616:=Nat.lt_of_le_of_lt (Nat.mod_le _ _) (by omega)
   refine jB<|kd [(4,(vl 107 1 jD (ofNat ((zV a) / (zV b))))),(5,(vl 107 1 jD (ofNat ((zV a) % (zV b)))))] [] mo (wM<|wM<|wE (oQu ((zV a) / (zV b)))<|wE (kB (t_split ((zV a) / (zV b)) (by omega)))<|wM<|wM<|wE (oRe ((zV a) % (zV b)))<|wE (kB (t_split ((zV a) % (zV b)) (by omega)))<|wM<|wM<|wZ) ?_
   refine jE ⟨_,(.tmp (d:=(.sl 107 1 (List.map jD (ofNat ((zV a) / (zV b)))))) rfl (.tmp (d:=(.sl 107 1 (List.map jD (ofNat ((zV a) % (zV b)))))) rfl .nil)),?_⟩
   rw[w1,w2];rfl
  ·refine jG<|jB<|jB<|kx [(41,(vb (((b.length:Nat):Int) == 1)))] [] (zM<|zE (zL kD)<|zE xV<|zZ) ?_
   refine jF (b:=(((b.length:Nat):Int) == 1)) rfl (fun h4=>?_) (fun h4=>?_)
   ·replace h4:=eq_of_beq h4
    have hv1:=val_len1 (b:=b) (by omega)
    have hg:=hb.1.getD 0
    have w5:val a % b.getD 0 0<4294967296:=Nat.lt_trans (Nat.mod_lt _ (by omega)) (by omega)
    refine jB<|kx [(10,(vl 107 1 jD (ofNat (val a / (b.getD 0 0))))),(11,(aL (val a % (b.getD 0 0))))] [] (zM<|zM<|zE (mV kD 0 (0:Nat))<|zE (nK qJ)<|zE (kB (t_short a (b.getD 0 0) ha.1 (by omega) (by omega) (by omega)))<|zM<|zE xU<|zE xU<|zM<|zM<|zZ) ?_
    refine jB<|kx [(4,(vl 107 1 jD (ofNat (val a / (b.getD 0 0))))),(5,(vl 107 1 jD (ofNat (val a % (b.getD 0 0)))))] [] (zM<|zM<|zE (nZ yA zU (val a % (b.getD 0 0)))<|zE (kB (t_split (val a % (b.getD 0 0)) (by omega)))<|zM<|zM<|zZ) ?_
    refine jE ⟨_,(.tmp (d:=(.sl 107 1 (List.map jD (ofNat (val a / (b.getD 0 0)))))) rfl (.tmp (d:=(.sl 107 1 (List.map jD (ofNat (val a % (b.getD 0 0)))))) rfl .nil)),?_⟩
    rw[hv1];rfl
   ·replace h4:=ne_of_beq_false h4
    have hbl:=val_pos_len hb0
    refine jG<|jB<|kx [(4,(vl 107 1 jD (ofNat (val a / val b)))),(5,(vl 107 1 jD (ofNat (val a % val b))))] [] (zM<|zM<|zE (kB (t_long a b ha hb (by omega) (cmpI_nn h1) (by omega)))<|zE xU<|zE xU<|zM<|zM<|zZ) ?_
    refine jE ⟨_,(.tmp (d:=(.sl 107 1 (List.map jD (ofNat (val a / val b))))) rfl (.tmp (d:=(.sl 107 1 (List.map jD (ofNat (val a % val b))))) rfl .nil)),?_⟩
    rfl
theorem t_divideI(x y:kS)(hx:x.gs.length<=1099511627776)(hy:y.gs.length<=1099511627776)(hy0:jV y≠0):jR Tryz.prog 160 [(jQ x),(jQ y)] (.tup [(jQ (kH ((jV x).fdiv (jV y)))),(jQ (kH ((jV x).fmod (jV y)))),(.val (.int .i64 (0)))]):=by
 have hgx:=qF x
 have hlx:=yN x
 have hgy:=qF y
 have hly:=yN y
 have hn:0<val (kI y):=by have:=aU y;omega
 have hq:=len_quo (kI x) hgx (val (kI y))
 have hr:=len_rem (kI x) hgx (val (kI y))
 have hrn:=Nat.mod_lt (val (kI x)) hn
 refine uU Tryz.func160 ?_
 refine jB<|kx [(2,(.ref 0 0)),(3,(.ref 1 0)),(4,(.ref 2 0)),(5,(.ref 3 0))] [(0,some (bx (jQ x))),(1,some (bx (jQ y))),(2,some (bx (jQ (kS.mk false [])))),(3,some (bx (jQ (kS.mk false []))))] (zN (vZ 0)<|zN (vZ 1)<|zN (vC 2 gN gM)<|zN (vC 3 gN gM)<|zM<|zZ) ?_
 refine jB<|kd [(7,(vl 107 1 jD (kI x))),(8,(vl 107 1 jD (kI y)))] [] mo (wR (kR jZ)<|wE (kB (yZ x (by omega)))<|wR (kR jZ)<|wE (kB (yZ y (by omega)))<|wM<|wM<|wZ) ?_
 refine jB<|jB<|kx [(17,(vb ((((kI y).length:Nat):Int) == 0)))] [] (zM<|zE (zL kD (L:=(kI y)))<|zE xV<|zZ) ?_
 refine jF (b:=((((kI y).length:Nat):Int) == 0)) rfl (fun h1=>?_) (fun h1=>?_)
 ·replace h1:=eq_of_beq h1
  exact absurd (toZ_nil h1) hy0
 ·replace h1:=ne_of_beq_false h1
  refine jG<|jB<|kx [(9,(vl 107 1 jD (ofNat (val (kI x) / val (kI y))))),(10,(vl 107 1 jD (ofNat (val (kI x) % val (kI y)))))] [] (zM<|zM<|zE (kB (t_over (kI x) (kI y) hgx hgy (by omega) (by omega) (by omega)))<|zM<|zE xU<|zE xU<|zM<|zM<|zZ) ?_
  refine jB<|kx [(10,(vl 107 1 jD (ofNat (val (kI x) % val (kI y)))))] [] (zM<|zE (kB (t_clone (ofNat (val (kI x) % val (kI y))) (by omega)))<|zM<|zZ) ?_
  refine jB<|jB<|kx [(37,(vb (decide (0<(((ofNat (val (kI x) % val (kI y))).length:Nat):Int))&&!(x.neg == y.neg))))] [] ?_ ?_
  ·refine zM<|zE (zL kD (L:=(ofNat (val (kI x) % val (kI y)))))<|zE dI<|zE (oV (vb (decide (0<(((ofNat (val (kI x) % val (kI y))).length:Nat):Int)))) (qA (by kernel_rfl)))<|?_
   rcases hb2:(decide (0<(((ofNat (val (kI x) % val (kI y))).length:Nat):Int))) with _ | _
   ·replace hb2:=vX hb2
    exact zK<|zK<|zK<|zK<|zK<|zE yS<|zZ
   ·replace hb2:=vN hb2
    exact zE (kK uW)<|zR (qI eL)<|zE (kK uW)<|zR (qI eL)<|zE (oNb bo4)<|zE eK<|zZ
  refine jF rfl (fun h3=>?_) (fun h3=>?_)
  ·have e1:(ofNat (val (ofNat (val (kI x) / val (kI y)))+val [1])).length<=1099511627777:=qX (by rw[kA,mK];have:=ofNat_lt_pw (val (kI x) / val (kI y));have h3:pw (ofNat (val (kI x) / val (kI y))).length<=pw 1099511627776:=gK (by omega);have h4:=pw_lt (show 1099511627776<1099511627777 by decide);omega)
   have e2:=sub_len (b:=ofNat (val (kI x) % val (kI y))) hgy.1
   rw[Bool.and_eq_true,decide_eq_true_eq,Bool.not_eq_true',beq_eq_false_iff_ne] at h3
   obtain ⟨k1,k2⟩:=h3
   have k3:0<val (kI x) % val (kI y):=by have:=mD (qB (val (kI x) % val (kI y))) (by omega);rwa [kA] at this
   obtain ⟨d1,d2⟩:=div_other hn k2 k3
   refine kx [(9,(vl 107 1 jD (ofNat (val (ofNat (val (kI x) / val (kI y)))+val [1])))),(10,(vl 107 1 jD (ofNat (val (kI y)-val (ofNat (val (kI x) % val (kI y)))))))] [] (zM<|zE (fH kD vH yD)<|zE (kB (t_plus (ofNat (val (kI x) / val (kI y))) [1] (kE _) (zY.2 ⟨by decide,yW⟩) (by omega) (by decide)))<|zM<|zM<|zE (kB (t_minus (kI y) (ofNat (val (kI x) % val (kI y))) hgy.1 (kE _) (by rw[kA];omega) (by omega)))<|zM<|zM<|zZ) ?_
   refine jB<|kd [(6,(kG 0))] [(2,some (bx (jQ (vW (!(x.neg == y.neg)) (val (ofNat (val (ofNat (val (kI x) / val (kI y)))+val [1]))))))),(3,some (bx (jQ (vW y.neg (val (ofNat (val (kI y)-val (ofNat (val (kI x) % val (kI y))))))))))] mo (wE (kK uW)<|wR (qI eL)<|wE (kK uW)<|wR (qI eL)<|wE (oNb bo4)<|wM<|wE (kB (cJ (!(x.neg == y.neg)) (ofNat (val (ofNat (val (kI x) / val (kI y)))+val [1])) (kE _) (by omega)))<|wE (kK uW)<|wR (qI eL)<|wM<|wE (kB (cJ y.neg (ofNat (val (kI y)-val (ofNat (val (kI x) % val (kI y))))) (kE _) (by omega)))<|wT (qM jZ)<|wT (qM jZ)<|wM<|wZ) ?_
   refine jE ⟨_,(kP (cs:=(bx (jQ (vW (!(x.neg == y.neg)) (val (ofNat (val (ofNat (val (kI x) / val (kI y)))+val [1]))))))) (d:=(jQ (vW (!(x.neg == y.neg)) (val (ofNat (val (ofNat (val (kI x) / val (kI y)))+val [1])))))) rfl rfl jZ rfl rfl (kP (cs:=(bx (jQ (vW y.neg (val (ofNat (val (kI y)-val (ofNat (val (kI x) % val (kI y)))))))))) (d:=(jQ (vW y.neg (val (ofNat (val (kI y)-val (ofNat (val (kI x) % val (kI y))))))))) rfl rfl jZ rfl rfl (.tmp (d:=(.val (.int .i64 (0)))) rfl .nil))),?_⟩
   unfold jV
   rw[d1,d2]
   simp only[kA,mK]
   rfl
  ·obtain ⟨d1,d2⟩:=div_same (b:=x.neg) (c:=y.neg) (m:=val (kI x)) hn (by rw[Bool.and_eq_false_iff,decide_eq_false_iff_not,Bool.not_eq_false',beq_iff_eq] at h3;rcases h3 with k | k;right;have:=cM (n:=val (kI x) % val (kI y));omega;exact .inl k)
   refine jG<|jB<|kd [(6,(kG 0))] [(2,some (bx (jQ (vW (!(x.neg == y.neg)) (val (ofNat (val (kI x) / val (kI y)))))))),(3,some (bx (jQ (vW y.neg (val (ofNat (val (kI x) % val (kI y))))))))] mo (wE (kK uW)<|wR (qI eL)<|wE (kK uW)<|wR (qI eL)<|wE (oNb bo4)<|wM<|wE (kB (cJ (!(x.neg == y.neg)) (ofNat (val (kI x) / val (kI y))) (kE _) (by omega)))<|wE (kK uW)<|wR (qI eL)<|wM<|wE (kB (cJ y.neg (ofNat (val (kI x) % val (kI y))) (kE _) (by omega)))<|wT (qM jZ)<|wT (qM jZ)<|wM<|wZ) ?_
   refine jE ⟨_,(kP (cs:=(bx (jQ (vW (!(x.neg == y.neg)) (val (ofNat (val (kI x) / val (kI y)))))))) (d:=(jQ (vW (!(x.neg == y.neg)) (val (ofNat (val (kI x) / val (kI y))))))) rfl rfl jZ rfl rfl (kP (cs:=(bx (jQ (vW y.neg (val (ofNat (val (kI x) % val (kI y)))))))) (d:=(jQ (vW y.neg (val (ofNat (val (kI x) % val (kI y))))))) rfl rfl jZ rfl rfl (.tmp (d:=(.val (.int .i64 (0)))) rfl .nil))),?_⟩
   unfold jV
   rw[d1,d2]
   simp only[kA]
   rfl
theorem t_gcdI(x y:kS)(hx:x.gs.length<=1099511627776)(hy:y.gs.length<=1099511627776):jR Tryz.prog 86 [(jQ x),(jQ y)] (jQ (kH ((Int.gcd (jV x) (jV y):Nat):Int))):=by
 have hgx:=qF x
 have hlx:=yN x
 have hgy:=qF y
 have hly:=yN y
 refine uU Tryz.func86 ?_
 refine jB<|kx [(2,(.ref 0 0)),(3,(.ref 1 0)),(4,(.ref 2 0))] [(0,some (bx (jQ x))),(1,some (bx (jQ y))),(2,some (bx (jQ (kS.mk false []))))] (zN (vZ 0)<|zN (vZ 1)<|zN (vC 2 gN gM)<|zZ) ?_
 refine jB<|kd [(5,(vl 107 1 jD (kI x))),(6,(vl 107 1 jD (kI y)))] [] mo (wR (kR jZ)<|wE (kB (yZ x (by omega)))<|wR (kR jZ)<|wE (kB (yZ y (by omega)))<|wM<|wM<|wZ) ?_
 refine jB<|jL<|kQ (α:=List Nat × List Nat) (fun (a,b)=>⟨[(4,(.ref 2 0)),(5,(vl 107 1 jD a)),(6,(vl 107 1 jD b))],[(2,some (bx (jQ (kS.mk false []))))]⟩) (fun (a,b)=>yM a/\yM b/\a.length<=1099511627776/\b.length<=1099511627776/\Nat.gcd (val a) (val b)=Int.gcd (jV x) (jV y)) (fun (a,b)=>val b) (kI x,kI y) wk ⟨hgx,hgy,by omega,by omega,gcd_toZ x y⟩ ?_
 rintro ⟨a,b⟩ ⟨ha,hb,hla,hlb,hg⟩
 refine jB<|jB<|kx [(19,(vb (decide (0<((b.length:Nat):Int)))))] [] (zM<|zE (zL kD)<|zE dI<|zZ) ?_
 refine jF (b:=decide (0<((b.length:Nat):Int))) rfl (fun h1=>?_) (fun h1=>?_)
 ·replace h1:=vN h1
  have hb0:=mD hb (by omega)
  refine jG<|jL<|jB<|kx [(7,(yO (zV a))),(8,(vb (nI a)))] [] (zM<|zE (kB (t_word a ha.1))<|zM<|zE xU<|zE xU<|zM<|zM<|zZ) ?_
  refine jB<|kx [(9,(yO (zV b))),(10,(vb (nI b)))] [] (zM<|zE (kB (t_word b hb.1))<|zM<|zE xU<|zE xU<|zM<|zM<|zZ) ?_
  refine jB<|jB<|kx [(33,(vb ((nI a)&&(nI b))))] [] ?_ ?_
  ·refine zM<|zE (oV (vb (nI a)) (qA (by kernel_rfl)))<|?_
   rcases hb2:(nI a) with _ | _
   ·exact zK<|zE yS<|zZ
   ·exact zM<|zE eK<|zZ
  refine jF (b:=((nI a)&&(nI b))) rfl (fun h3=>?_) (fun h3=>?_)
  ·obtain ⟨w1,w2,w3⟩:=word_both ha.1 h3
   have w4:val b<1000000000000000000:=by rw[Bool.and_eq_true] at h3;exact val_len2 hb.1 (vN h3.2)
   refine jB<|jL<|kQ (α:=Nat × Nat) (fun (m,n)=>⟨[(4,(.ref 2 0)),(7,(yO m)),(9,(yO n))],[(2,some (bx (jQ (kS.mk false []))))]⟩) (fun (m,n)=>m<1000000000000000000/\n<1000000000000000000/\Nat.gcd m n=Int.gcd (jV x) (jV y)) (fun (m,n)=>n) (zV a,zV b) wk ⟨by omega,by omega,by rw[w1,w2];exact hg⟩ ?_
   rintro ⟨m,n⟩ ⟨hm,hn,hg2⟩
   refine jB<|jB<|kx [(35,(vb (decide (0<((n:Nat):Int)))))] [] (zM<|zE dI<|zZ) ?_
   refine jF (b:=decide (0<((n:Nat):Int))) rfl (fun h4=>?_) (fun h4=>?_)
   ·replace h4:=vN h4
    refine jG<|jL<|kd [(7,(yO n)),(9,(yO (m % n)))] [] mo (wM<|wM<|wM<|wE (oRe (m % n))<|wM<|wM<|wZ) ?_
    exact ⟨(n,m % n),wk,⟨hn,Nat.lt_of_le_of_lt (Nat.mod_le _ _) hm,by rw[<- hg2,Nat.gcd_comm,<- Nat.gcd_rec,Nat.gcd_comm]⟩,(by dsimp only;exact Nat.mod_lt _ (by omega))⟩
   ·replace h4:=vX h4
    obtain rfl:n=0:=by omega
    rw[Nat.gcd_zero_right] at hg2
    refine kN<|jB<|kx [] [(2,some (bx (jQ (vW false (val (ofNat m))))))] (zM<|zE (kB (t_split m (by omega)))<|zE (kB (cJ false (ofNat m) (kE _) (Nat.le_trans (dX (by omega)) (by decide))))<|zT (qM jZ)<|zZ) ?_
    refine jE ⟨_,(kP (cs:=(bx (jQ (vW false (val (ofNat m)))))) (d:=(jQ (vW false (val (ofNat m))))) rfl rfl jZ rfl rfl .nil),?_⟩
    rw[<- hg2,kA,mkI_false];rfl
  ·refine jG<|jB<|kx [(12,(vl 107 1 jD (ofNat (val a % val b))))] [] (zM<|zM<|zE (kB (t_over a b ha hb hb0 (by omega) (by omega)))<|zM<|zE xU<|zE xU<|zM<|zM<|zZ) ?_
   refine kx [(5,(vl 107 1 jD b)),(6,(vl 107 1 jD (ofNat (val a % val b))))] [] (zM<|zM<|zM<|zM<|zZ) ?_
   exact ⟨(b,ofNat (val a % val b)),wk,⟨hb,qB _,hlb,Nat.le_trans (len_rem a ha _) hla,by rw[kA,<- hg,Nat.gcd_comm,<- Nat.gcd_rec,Nat.gcd_comm]⟩,(by dsimp only;rw[kA];exact Nat.mod_lt _ hb0)⟩
 ·replace h1:=vX h1
  have hb1:b=[]:=List.eq_nil_of_length_eq_zero (by omega)
  rw[hb1,val_nil,Nat.gcd_zero_right] at hg
  refine kN<|jB<|kx [] [(2,some (bx (jQ (vW false (val a)))))] (zM<|zE (kB (t_clone a (by omega)))<|zE (kB (cJ false a ha.1 (by omega)))<|zT (qM jZ)<|zZ) ?_
  refine jE ⟨_,(kP (cs:=(bx (jQ (vW false (val a))))) (d:=(jQ (vW false (val a)))) rfl rfl jZ rfl rfl .nil),?_⟩
  rw[<- hg,mkI_false];rfl
end Go.Proofs.YtckccjhflbljgaaGreatDoor
