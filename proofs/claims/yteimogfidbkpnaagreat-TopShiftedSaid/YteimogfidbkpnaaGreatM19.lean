/- Part 19 of a proof: rules, plain facts, and functions walked. -/
import Derived.Test.YteimogfidbkpnaaGreatM18
set_option linter.all false
set_option maxRecDepth 4000
namespace Go.Proofs.YteimogfidbkpnaaGreat
open Go.Fid
theorem cb113:callB Tryz.prog 113=true:=by kernel_rfl
theorem in2:intB Tryz.prog 2=some .i64:=by kernel_rfl
theorem un2:(Tryz.prog.underlying 2).isSome=true:=by kernel_rfl
set_option maxHeartbeats 4000000 in
theorem t_long(a b:List Nat)(hda:yB a)(hdb:yB b)(hb2:2≤b.length)(hba:val b≤val a)(hla:a.length≤1099511627776):jR Tryz.prog 113 [(.sl 121 1 (List.map jB a)),(.sl 121 1 (List.map jB b))] (.tup [(.sl 121 1 (List.map jB (ofNat (val a / val b)))),(.sl 121 1 (List.map jB (ofNat (val a % val b))))]):=by
 have hab:=len_of_le hda hdb hba
 have hsc:=eO hdb (by omega)
 have htp:=eS hdb (by omega)
 have hds:Dig [nQ b]:=xW.2 ⟨by omega,yG⟩
 have hbp:0<val b:=by have:=val_top hdb.1 (by omega);have h2:=Nat.mul_le_mul_right (pw (b.length-1)) htp.1;have h3:=pw_pos (b.length-1);rw[Nat.succ_mul] at h2;omega
 obtain ⟨u0,hue⟩:∃ u0,u0=ofNat (val a*val [nQ b]):=⟨_,rfl⟩
 obtain ⟨v,hve⟩:∃ v,v=ofNat (val b*val [nQ b]):=⟨_,rfl⟩
 have hu0:Dig u0:=by rw[hue];exact jY _
 have hvd:Dig v:=by rw[hve];exact jY _
 have hvl:v.length=b.length:=by rw[hve,nO];exact scl_len hdb (by omega)
 have hvv:val v=val b*nQ b:=by rw[hve,nO];exact jU _
 have hu0v:val u0=val a*nQ b:=by rw[hue,nO];exact jU _
 have hu0l:a.length≤u0.length∧u0.length≤a.length+1:=by rw[hue,nO];exact scl_lenA hda hdb (by omega)
 have hLU:(u0++[0]).length=u0.length+1:=by simp
 have hcv:yB v:=by rw[hve];exact kU _
 have hv1p:0<v.getD (b.length-1) 0:=by rw[← hvl];exact (eS hcv (by omega)).1
 have hpv:pw (b.length-1)≤val v:=by have h1:=val_top hvd (by omega);rw[hvl] at h1;have h2:=Nat.mul_le_mul_right (pw (b.length-1)) hv1p;omega
 refine jH Tryz.func113 rfl cb113 rfl ?_
 show qS _ _ _ _ ⟨[(0,(vl 121 1 jB a)),(1,(vl 121 1 jB b))],[]⟩
 refine jA<|kx [] [] (zE (oNl 121 1)<|zE (oNl 121 1)<|zZ) ?_
 refine jA<|kx [(6,(cV (nQ b)))] [] (zM<|zM<|zE (yU kC)<|zE (cO (b.length-1))<|zE (nG kC (b.length-1) (0:Nat))<|zE (xE qJ)<|zE (gM xU xR (b.getD (b.length-1) 0))<|zE (qP ((b.getD (b.length-1) 0)+1))<|zE (oQu (nQ b) (hr:=by exact (quo_u64 1000000000 (b.getD (b.length-1) 0+1) (by decide))))<|zE (gM yN yE (nQ b))<|zM<|zZ) ?_
 refine jA<|kx [(7,(.own 0 121 1 u0.length))] [(0,some (bm jB u0))] (zM<|zM<|zE (oBs kC vC xV)<|zN (oCo 0 (hue▸o_times a [nQ b] hda.1 hds (by omega) (by simp) (by rw[nO];exact Nat.mul_pos (by omega) hsc.1)))<|zM<|zZ) ?_
 refine jA<|kx [(8,(vl 121 1 jB v))] [] (zM<|zM<|zE (oBs kC vC xV)<|zE (jX (hve▸t_times b [nQ b] hdb.1 hds (by omega) (by simp)))<|zM<|zZ) ?_
 refine jA<|kx [(9,(jL b.length))] [] (zM<|zE (oLn kC b.length (hr:=by exact (by simp [hvl])))<|zM<|zZ) ?_
 refine jA<|kf [(7,(.own 0 121 1 ((u0++[0]).length)))] [(0,some (bm jB (u0++[0])))] (zM<|zE (oBs kC vC xV)<|zA jB u0 [0] rfl kC vC gH<|zM<|zF) ?_
 refine jA<|jA<|kx [(50,(vb (decide ((((u0++[0]).length:Nat):Int)≤((a.length:Nat):Int)))))] [] (zM<|zE (oLo kC)<|zM<|zE (yU kC)<|zE oLe<|zZ) ?_
 refine jG rfl (fun h1=>?_) (fun h1=>?_)
 ·replace h1:=vM h1
  exfalso;simp at h1;omega
 ·replace h1:=vK h1
  refine jC<|jA<|kx [(4,(.own 1 121 1 ((u0++[0]).length-b.length)))] [(1,some (bm jB (List.replicate ((u0++[0]).length-b.length) 0)))] (zM<|zE (oLo kC)<|zM<|zE (cO ((u0++[0]).length-b.length))<|zH (oMk 1 jB (0:Nat) ((u0++[0]).length-b.length) ((u0++[0]).length-b.length) kC vC xV gH)<|zM<|zZ) ?_
  refine jA<|jA<|kx [(10,(vi ((((u0++[0]).length-b.length:Nat):Int)-1)))] [] (zM<|zE (oLo kC)<|zM<|zE (cO ((u0++[0]).length-b.length))<|zE (cN ((((u0++[0]).length-b.length:Nat):Int)-1))<|zM<|zZ) ?_
  refine jD<|kP (α:=Nat × List Nat × List Nat) (fun (k,u,q)=>⟨[(4,(.own 1 121 1 ((u0++[0]).length-b.length))),(6,(cV (nQ b))),(7,(.own 0 121 1 ((u0++[0]).length))),(8,(vl 121 1 jB v)),(9,(jL b.length)),(10,(vi (((k:Nat):Int)-1)))],[(0,some (bm jB u)),(1,some (bm jB q))]⟩) (fun (k,u,q)=>u.length=(u0++[0]).length∧Dig u∧q.length=(u0++[0]).length-b.length∧Dig q∧k≤(u0++[0]).length-b.length∧val u+val v*(pw k*val (q.drop k))=val a*nQ b∧val (u.drop k)<val v) (fun (k,u,q)=>k) ((u0++[0]).length-b.length,u0++[0],List.replicate ((u0++[0]).length-b.length) 0) wk ⟨rfl,eV.2 ⟨hu0,xW.2 ⟨by decide,yG⟩⟩,by simp,xH _,Nat.le_refl _,by simp [mA,val,hu0v],by have:=long_start hu0 hvl hb2 (by omega) hpv;rw[hLU];exact this⟩ ?_
  rintro ⟨k,u,q⟩ ⟨uB,hu,hql,hqd,hk,hU,hW⟩
  refine jA<|jA<|kx [(65,(vb (decide (0≤(((k:Nat):Int)-1)))))] [] (zM<|zE oGe<|zZ) ?_
  refine jG (b:=decide (0≤(((k:Nat):Int)-1))) rfl (fun h2=>?_) (fun h2=>?_)
  ·replace h2:=vM h2
   obtain ⟨j,rfl⟩:∃ j,k=j+1:=⟨k-1,by omega⟩
   rw[show (((j+1:Nat):Int)-1)=((j:Nat):Int) from by omega]
   have hg1:=hu.getD (j+b.length)
   have hg2:=hu.getD (j+b.length-1)
   have hg3:=hu.getD (j+b.length-2)
   have hg4:=hvd.getD (b.length-1)
   have hg5:=hvd.getD (b.length-2)
   obtain ⟨z1,z2,z3,z4,z5,z6⟩:=window_tops hu hvd hvl hb2 hW
   obtain ⟨hwz,hww⟩:=window hvd hvl hW
   refine jC<|jA<|jD<|jA<|kd [(10,(jL j)),(11,(zG (((u.getD (j+b.length) 0)*1000000000)+(u.getD ((j+b.length)-1) 0))))] [] mo (wM<|wM<|wM<|wE (qP (j+b.length))<|wR ⟨(bm jB u),e_clo (t_at u (j+b.length)) (by exact rfl) (by exact rfl) (by exact rfl) (.o (.d .nil)) (qZ jB u (fun _=>rfl)) (uR _ _ uB) (uS _ _ (fun _=>rfl) uB),by kernel_rfl⟩<|wE (gM xU xR (u.getD (j+b.length) 0))<|wE (oMl ((u.getD (j+b.length) 0)*1000000000))<|wM<|wM<|wM<|wE (qP (j+b.length))<|wE (cO ((j+b.length)-1))<|wE (cH kC ((j+b.length)-1))<|wR (oLp qJ ((j+b.length)-1) (0:Nat))<|wE (gM xU xR (u.getD ((j+b.length)-1) 0))<|wE (qP (((u.getD (j+b.length) 0)*1000000000)+(u.getD ((j+b.length)-1) 0)))<|wM<|wZ) ?_
   refine jA<|kd [(12,(zG ((((u.getD (j+b.length) 0)*1000000000)+(u.getD ((j+b.length)-1) 0)) / (v.getD (b.length-1) 0)))),(13,(zG ((((u.getD (j+b.length) 0)*1000000000)+(u.getD ((j+b.length)-1) 0)) % (v.getD (b.length-1) 0))))] [] mo (wM<|wM<|wM<|wE (cO (b.length-1))<|wE (nG kC (b.length-1) (0:Nat))<|wE (xE qJ)<|wE (gM xU xR (v.getD (b.length-1) 0))<|wE (oQu ((((u.getD (j+b.length) 0)*1000000000)+(u.getD ((j+b.length)-1) 0)) / (v.getD (b.length-1) 0)))<|wM<|wM<|wM<|wE (cO (b.length-1))<|wE (nG kC (b.length-1) (0:Nat))<|wE (xE qJ)<|wE (gM xU xR (v.getD (b.length-1) 0))<|wE (oRe ((((u.getD (j+b.length) 0)*1000000000)+(u.getD ((j+b.length)-1) 0)) % (v.getD (b.length-1) 0)))<|wM<|wM<|wZ) ?_
   refine pwp_seqjoin (α:=Nat × Nat) (fun (G,R)=>⟨[(4,(.own 1 121 1 ((u0++[0]).length-b.length))),(6,(cV (nQ b))),(7,(.own 0 121 1 ((u0++[0]).length))),(8,(vl 121 1 jB v)),(9,(jL b.length)),(10,(jL j)),(12,(zG G))],[(0,some (bm jB u)),(1,some (bm jB q))]⟩) (fun (G,R)=>G<1000000000∧val (u.drop j) / val v≤G∧G≤val (u.drop j) / val v+1) ?_ ?_
   ·refine kP (α:=Nat × Nat) (fun (G,R)=>⟨[(4,(.own 1 121 1 ((u0++[0]).length-b.length))),(6,(cV (nQ b))),(7,(.own 0 121 1 ((u0++[0]).length))),(8,(vl 121 1 jB v)),(9,(jL b.length)),(10,(jL j)),(12,(zG G)),(13,(zG R))],[(0,some (bm jB u)),(1,some (bm jB q))]⟩) (fun (G,R)=>G*(v.getD (b.length-1) 0)+R=(u.getD (j+b.length) 0*1000000000+u.getD (j+b.length-1) 0)∧val (u.drop j) / val v≤G∧R<1000000000∧G≤1999999999) (fun (G,R)=>G) ((u.getD (j+b.length) 0*1000000000+u.getD (j+b.length-1) 0) / v.getD (b.length-1) 0,(u.getD (j+b.length) 0*1000000000+u.getD (j+b.length-1) 0) % v.getD (b.length-1) 0) wk ⟨by rw[Nat.mul_comm];exact Nat.div_add_mod _ _,guess_first0 z5 z4 hv1p hg3,Nat.lt_trans (Nat.mod_lt _ hv1p) hg4,guess_top hv1p z1 hg2⟩ ?_
    rintro ⟨G,R⟩ ⟨hG0,hG1,hR,hGb⟩
    have hpq:G*v.getD (b.length-2) 0≤1999999999*999999999:=Nat.mul_le_mul hGb (by omega)
    refine jA<|jA<|kd [(123,(vb (decide (1000000000≤((G:Nat):Int))||decide (((((R*1000000000)+(u.getD ((j+b.length)-2) 0)):Nat):Int)<(((G*(v.getD (b.length-2) 0)):Nat):Int)))))] [] mo ?_ ?_
    ·refine wM<|wE oGe<|wE (oV (vb (decide (1000000000≤((G:Nat):Int)))) (kT (by kernel_rfl)))<|?_
     rcases hb3:(decide (1000000000≤((G:Nat):Int))) with _ | _
     ·replace hb3:=vK hb3
      exact wM<|wM<|wM<|wE (cO (b.length-2))<|wE (nG kC (b.length-2) (0:Nat))<|wE (xE qJ)<|wE (gM xU xR (v.getD (b.length-2) 0))<|wE (oMl (G*(v.getD (b.length-2) 0)))<|wM<|wE (oMl (R*1000000000))<|wM<|wM<|wM<|wE (qP (j+b.length))<|wE (cO ((j+b.length)-2))<|wE (cH kC ((j+b.length)-2))<|wR (oLp qJ ((j+b.length)-2) (0:Nat))<|wE (gM xU xR (u.getD ((j+b.length)-2) 0))<|wE (qP ((R*1000000000)+(u.getD ((j+b.length)-2) 0)))<|wE gF<|wE nS<|wZ
     ·replace hb3:=vM hb3
      exact wK<|wK<|wK<|wK<|wK<|wK<|wK<|wK<|wK<|wK<|wK<|wK<|wK<|wK<|wK<|wK<|wK<|wK<|wK<|wK<|wE xB<|wZ
    refine jG rfl (fun h4=>?_) (fun h4=>?_)
    ·rw[Bool.or_eq_true,decide_eq_true_eq,decide_eq_true_eq] at h4
     have hgl:=guess_less (pw_pos _) z5 z4 hG0 hG1 hv1p z2 (by omega)
     refine jC<|jD<|jA<|kx [(12,(zG (G-1)))] [] (zM<|zE (cO (G-1))<|zM<|zZ) ?_
     refine jA<|kx [(13,(zG (R+(v.getD (b.length-1) 0))))] [] (zM<|zM<|zM<|zE (cO (b.length-1))<|zE (nG kC (b.length-1) (0:Nat))<|zE (xE qJ)<|zE (gM xU xR (v.getD (b.length-1) 0))<|zE (qP (R+(v.getD (b.length-1) 0)))<|zM<|zZ) ?_
     refine jA<|kx [(135,(vb (decide (1000000000≤(((R+(v.getD (b.length-1) 0)):Nat):Int)))))] [] (zM<|zE oGe<|zZ) ?_
     refine jG rfl (fun h5=>?_) (fun h5=>?_)
     ·replace h5:=vM h5
      refine jV ?_
      refine pjoin_exit (id:=2) (α:=Nat × Nat) (Q:=fun _ _=>True) (St:=fun (G,R)=>⟨[(4,(.own 1 121 1 ((u0++[0]).length-b.length))),(6,(cV (nQ b))),(7,(.own 0 121 1 ((u0++[0]).length))),(8,(vl 121 1 jB v)),(9,(jL b.length)),(10,(jL j)),(12,(zG G))],[(0,some (bm jB u)),(1,some (bm jB q))]⟩) (I:=fun (G,R)=>G<1000000000∧val (u.drop j) / val v≤G∧G≤val (u.drop j) / val v+1) ?_
      exact ⟨(G-1,R+v.getD (b.length-1) 0),wk,(by have hd:=guess_dec hgl.2 hG0;have hgb:=guess_break hd z1 hg2 (by omega);exact ⟨hgb,hgl.1,guess_near z6 z3 hd hv1p (by omega) hgb (Nat.le_trans (Nat.mul_le_mul (show G-1≤999999999 by omega) (show v.getD (b.length-2) 0≤999999999 by omega)) (by omega))⟩)⟩
     ·replace h5:=vK h5
      refine jC ?_
      exact ⟨(G-1,R+v.getD (b.length-1) 0),wk,(by exact ⟨guess_dec hgl.2 hG0,hgl.1,by omega,by omega⟩),(by first|omega|(dsimp only;omega))⟩
    ·refine jV ?_
     refine pjoin_exit (id:=2) (α:=Nat × Nat) (Q:=fun _ _=>True) (St:=fun (G,R)=>⟨[(4,(.own 1 121 1 ((u0++[0]).length-b.length))),(6,(cV (nQ b))),(7,(.own 0 121 1 ((u0++[0]).length))),(8,(vl 121 1 jB v)),(9,(jL b.length)),(10,(jL j)),(12,(zG G))],[(0,some (bm jB u)),(1,some (bm jB q))]⟩) (I:=fun (G,R)=>G<1000000000∧val (u.drop j) / val v≤G∧G≤val (u.drop j) / val v+1) ?_
     exact ⟨(G,R),wk,(by rw[Bool.or_eq_false_iff,decide_eq_false_iff_not,decide_eq_false_iff_not] at h4;exact ⟨by omega,hG1,guess_near z6 z3 hG0 hv1p (by omega) (by omega) (by omega)⟩)⟩
   ·rintro ⟨G,R⟩ ⟨hG,hG1,hG2⟩
    have hjn:j+b.length<(u0++[0]).length:=by omega
    refine jA<|kx [(14,(jL 0)),(15,(zG 0))] [] (zM<|zM<|zZ) ?_
    refine jA<|jA<|kx [(136,(jL b.length)),(137,(jL 0))] [] (zM<|zM<|zZ) ?_
    refine jD<|kP (α:=Nat × List Nat × Nat × Nat) (fun (i,u2,bo,ca)=>⟨[(4,(.own 1 121 1 ((u0++[0]).length-b.length))),(6,(cV (nQ b))),(7,(.own 0 121 1 ((u0++[0]).length))),(8,(vl 121 1 jB v)),(9,(jL b.length)),(10,(jL j)),(12,(zG G)),(14,(vi ((bo:Nat):Int))),(15,(zG ca)),(136,(jL b.length)),(137,(jL i))],[(0,some (bm jB u2)),(1,some (bm jB q))]⟩) (fun (i,u2,bo,ca)=>u2.length=(u0++[0]).length∧Dig u2∧u2.take j=u.take j∧u2.drop (j+i)=u.drop (j+i)∧i≤b.length∧bo≤1∧ca<1000000000∧val ((u2.drop j).take i)+G*val (v.take i)=val ((u.drop j).take i)+pw i*(ca+bo)) (fun (i,u2,bo,ca)=>b.length-i) (0,u,0,0) wk ⟨uB,hu,rfl,rfl,Nat.zero_le _,Nat.zero_le _,by decide,by simp [val]⟩ ?_
    rintro ⟨i,u2,bo,ca⟩ ⟨hl2,hd2,ht2,hd2',hin,hbo,hca,hv2⟩
    have hgi:=hvd.getD i
    have hgu:=hd2.getD (i+j)
    have hpq:G*v.getD i 0≤999999999*999999999:=Nat.mul_le_mul (by omega) (by omega)
    refine jA<|kx [(138,(vb (decide (((i:Nat):Int)<((b.length:Nat):Int)))))] [] (zE uE<|zZ) ?_
    refine jA<|jG rfl (fun h6=>?_) (fun h6=>?_)
    ·replace h6:=vM h6
     have hi:i<b.length:=by omega
     refine jC<|jA<|jD<|jA<|kx [(16,(jL i))] [] (zM<|zM<|zZ) ?_
     refine jA<|kx [(17,(zG ((G*(v.getD i 0))+ca)))] [] (zM<|zM<|zM<|zE (nG kC i (0:Nat))<|zE (xE qJ)<|zE (gM xU xR (v.getD i 0))<|zE (oMl (G*(v.getD i 0)))<|zM<|zE (qP ((G*(v.getD i 0))+ca))<|zM<|zZ) ?_
     refine jA<|kx [(15,(zG (((G*(v.getD i 0))+ca) / 1000000000)))] [] (zM<|zE (oQu (((G*(v.getD i 0))+ca) / 1000000000))<|zM<|zZ) ?_
     refine jA<|kx [(18,(vi (((((u2.getD (i+j) 0):Nat):Int)-((bo:Nat):Int))-(((((G*(v.getD i 0))+ca) % 1000000000):Nat):Int))))] [] (zM<|zM<|zM<|zE (qP (i+j))<|zE (cH kC (i+j))<|zR (oLp qJ (i+j) (0:Nat))<|zE (gM xU in2 (u2.getD (i+j) 0))<|zM<|zE (cN ((((u2.getD (i+j) 0):Nat):Int)-((bo:Nat):Int)))<|zM<|zE (oRe (((G*(v.getD i 0))+ca) % 1000000000))<|zE (gM yN in2 (((G*(v.getD i 0))+ca) % 1000000000))<|zE (cN (((((u2.getD (i+j) 0):Nat):Int)-((bo:Nat):Int))-(((((G*(v.getD i 0))+ca) % 1000000000):Nat):Int)))<|zM<|zZ) ?_
     refine jA<|kx [(14,(jL 0))] [] (zM<|zZ) ?_
     refine jA<|jA<|kx [(165,(vb (decide ((((((u2.getD (i+j) 0):Nat):Int)-((bo:Nat):Int))-(((((G*(v.getD i 0))+ca) % 1000000000):Nat):Int))<0))))] [] (zM<|zE uE<|zZ) ?_
     refine jG rfl (fun h7=>?_) (fun h7=>?_)
     ·replace h7:=vM h7
      refine kx [(14,(jL 1)),(18,(vi ((((((u2.getD (i+j) 0):Nat):Int)-((bo:Nat):Int))-(((((G*(v.getD i 0))+ca) % 1000000000):Nat):Int))+1000000000)))] [] (zM<|zE (zAd ((((((u2.getD (i+j) 0):Nat):Int)-((bo:Nat):Int))-(((((G*(v.getD i 0))+ca) % 1000000000):Nat):Int))+1000000000))<|zM<|zM<|zZ) ?_
      refine kx [] [(0,some (bm jB (u2.set (i+j) ((u2.getD (i+j) 0+1000000000)-bo-(G*v.getD i 0+ca) % 1000000000))))] (zM<|zM<|zM<|zE (qP (i+j))<|zM<|zE (gM un2 yE ((u2.getD (i+j) 0+1000000000)-bo-(G*v.getD i 0+ca) % 1000000000) (hr:=by exact (wu32 (by omega) (by omega) (by omega))))<|zE (cH kC (i+j))<|zT (oSp qJ (i+j) ((u2.getD (i+j) 0+1000000000)-bo-(G*v.getD i 0+ca) % 1000000000))<|zZ) ?_
      refine kx [(137,(jL (i+1)))] [] (zE (qP (i+1))<|zM<|zZ) ?_
      exact ⟨(i+1,u2.set (i+j) ((u2.getD (i+j) 0+1000000000)-bo-(G*v.getD i 0+ca) % 1000000000),1,(G*v.getD i 0+ca) / 1000000000),wk,(by obtain ⟨q1,q2,q3,q4,q5⟩:=msub_step (v:=v) (L:=(u0++[0]).length) (e:=(u2.getD (i+j) 0+1000000000)-bo-(G*v.getD i 0+ca) % 1000000000) (borrow':=1) hjn hi hl2 uB hd2 ht2 hd2' hv2 rfl (by omega) (by omega);exact ⟨q1,q2,q3,q4,by omega,by omega,by omega,q5⟩),(by first|omega|(dsimp only;omega))⟩
     ·replace h7:=vK h7
      refine jC<|kx [] [(0,some (bm jB (u2.set (i+j) (u2.getD (i+j) 0-bo-(G*v.getD i 0+ca) % 1000000000))))] (zM<|zM<|zM<|zE (qP (i+j))<|zM<|zE (gM un2 yE (u2.getD (i+j) 0-bo-(G*v.getD i 0+ca) % 1000000000) (hr:=by exact (wu32 (by omega) (by omega) (by omega))))<|zE (cH kC (i+j))<|zT (oSp qJ (i+j) (u2.getD (i+j) 0-bo-(G*v.getD i 0+ca) % 1000000000))<|zZ) ?_
      refine kx [(137,(jL (i+1)))] [] (zE (qP (i+1))<|zM<|zZ) ?_
      exact ⟨(i+1,u2.set (i+j) (u2.getD (i+j) 0-bo-(G*v.getD i 0+ca) % 1000000000),0,(G*v.getD i 0+ca) / 1000000000),wk,(by obtain ⟨q1,q2,q3,q4,q5⟩:=msub_step (v:=v) (L:=(u0++[0]).length) (e:=u2.getD (i+j) 0-bo-(G*v.getD i 0+ca) % 1000000000) (borrow':=0) hjn hi hl2 uB hd2 ht2 hd2' hv2 rfl (by omega) (by omega);exact ⟨q1,q2,q3,q4,by omega,by omega,by omega,q5⟩),(by first|omega|(dsimp only;omega))⟩
    ·replace h6:=vK h6
     have hie:i=b.length:=by omega
     rw[hie] at hd2' hv2 hin
     obtain ⟨m1,m2,m3⟩:=msub_end hu hd2 hvd hvl hW hG1 hG2 hd2' hv2
     refine jV<|jA<|kx [(19,(vi (((((u2.getD (j+b.length) 0):Nat):Int)-((bo:Nat):Int))-((ca:Nat):Int))))] [] (zM<|zM<|zM<|zE (qP (j+b.length))<|zE (cH kC (j+b.length))<|zR (oLp qJ (j+b.length) (0:Nat))<|zE (gM xU in2 (u2.getD (j+b.length) 0))<|zM<|zE (cN ((((u2.getD (j+b.length) 0):Nat):Int)-((bo:Nat):Int)))<|zM<|zE (gM yN in2 ca)<|zE (cN (((((u2.getD (j+b.length) 0):Nat):Int)-((bo:Nat):Int))-((ca:Nat):Int)))<|zM<|zZ) ?_
     refine jA<|jA<|kx [(189,(vb (decide ((((((u2.getD (j+b.length) 0):Nat):Int)-((bo:Nat):Int))-((ca:Nat):Int))<0))))] [] (zM<|zE uE<|zZ) ?_
     refine jG rfl (fun h8=>?_) (fun h8=>?_)
     ·replace h8:=vM h8
      obtain ⟨n1,n2,r,n3,n4,n5⟩:=m2 (by omega)
      refine jA<|kx [] [(0,some (bm jB (u2.set (j+b.length) 999999999)))] (zM<|zM<|zM<|zE (qP (j+b.length))<|zM<|zE (zAd ((((((u2.getD (j+b.length) 0):Nat):Int)-((bo:Nat):Int))-((ca:Nat):Int))+1000000000))<|zE (gM un2 yE 999999999 (hr:=by exact (wu32 (by omega) (by omega) (by omega))))<|zE (cH kC (j+b.length))<|zT (oSp qJ (j+b.length) 999999999)<|zZ) ?_
      refine jA<|kx [(12,(zG (G-1)))] [] (zM<|zE (cO (G-1))<|zM<|zZ) ?_
      refine jA<|kx [(20,(cV 0))] [] (zM<|zZ) ?_
      refine jA<|jA<|kx [(200,(jL b.length)),(201,(jL 0))] [] (zM<|zM<|zZ) ?_
      refine jD<|kP (α:=Nat × List Nat × Nat) (fun (i,u3,c)=>⟨[(4,(.own 1 121 1 ((u0++[0]).length-b.length))),(6,(cV (nQ b))),(7,(.own 0 121 1 ((u0++[0]).length))),(8,(vl 121 1 jB v)),(9,(jL b.length)),(10,(jL j)),(12,(zG (G-1))),(20,(cV c)),(200,(jL b.length)),(201,(jL i))],[(0,some (bm jB u3)),(1,some (bm jB q))]⟩) (fun (i,u3,c)=>u3.length=(u0++[0]).length∧Dig u3∧u3.take j=(u2.set (j+b.length) 999999999).take j∧u3.drop (j+i)=(u2.set (j+b.length) 999999999).drop (j+i)∧i≤b.length∧c≤1∧val ((u3.drop j).take i)+pw i*c=val (((u2.set (j+b.length) 999999999).drop j).take i)+val (v.take i)) (fun (i,u3,c)=>b.length-i) (0,u2.set (j+b.length) 999999999,0) wk ⟨by simpa using hl2,hd2.set _ (by decide),rfl,rfl,Nat.zero_le _,Nat.zero_le _,by simp [val]⟩ ?_
      rintro ⟨i,u3,c⟩ ⟨hl3,hd3,ht3,hd3',hin,hc,hv3⟩
      have hgi:=hvd.getD i
      have hgu:=hd3.getD (i+j)
      have hgt:=hd3.getD (j+b.length)
      refine jA<|kx [(202,(vb (decide (((i:Nat):Int)<((b.length:Nat):Int)))))] [] (zE uE<|zZ) ?_
      refine jA<|jG rfl (fun h9=>?_) (fun h9=>?_)
      ·replace h9:=vM h9
       have hi:i<b.length:=by omega
       refine jC<|jA<|jD<|jA<|kx [(21,(jL i))] [] (zM<|zM<|zZ) ?_
       refine jA<|kd [(22,(cV (((u3.getD (i+j) 0)+(v.getD i 0))+c)))] [] mo (wM<|wM<|wM<|wE (qP (i+j))<|wE (cH kC (i+j))<|wR (oLp qJ (i+j) (0:Nat))<|wM<|wM<|wE (nG kC i (0:Nat))<|wE (xE qJ)<|wE (qP ((u3.getD (i+j) 0)+(v.getD i 0)))<|wM<|wE (qP (((u3.getD (i+j) 0)+(v.getD i 0))+c))<|wM<|wZ) ?_
       refine jA<|kx [(20,(cV 0))] [] (zM<|zZ) ?_
       refine jA<|jA<|kx [(218,(vb (decide (1000000000≤(((((u3.getD (i+j) 0)+(v.getD i 0))+c):Nat):Int)))))] [] (zM<|zE oGe<|zZ) ?_
       refine jG rfl (fun h10=>?_) (fun h10=>?_)
       ·replace h10:=vM h10
        refine kx [(20,(cV 1)),(22,(cV ((((u3.getD (i+j) 0)+(v.getD i 0))+c)-1000000000)))] [] (zM<|zE (cO ((((u3.getD (i+j) 0)+(v.getD i 0))+c)-1000000000))<|zM<|zM<|zZ) ?_
        refine kx [] [(0,some (bm jB (u3.set (i+j) ((((u3.getD (i+j) 0)+(v.getD i 0))+c)-1000000000))))] (zM<|zM<|zM<|zE (qP (i+j))<|zM<|zE (cH kC (i+j))<|zT (oSp qJ (i+j) ((((u3.getD (i+j) 0)+(v.getD i 0))+c)-1000000000))<|zZ) ?_
        refine kx [(201,(jL (i+1)))] [] (zE (qP (i+1))<|zM<|zZ) ?_
        exact ⟨(i+1,u3.set (i+j) (u3.getD (i+j) 0+v.getD i 0+c-1000000000),1),wk,(by obtain ⟨q1,q2,q3,q4,q5⟩:=addb_step (v:=v) (L:=(u0++[0]).length) (s:=u3.getD (i+j) 0+v.getD i 0+c) (e:=u3.getD (i+j) 0+v.getD i 0+c-1000000000) (c':=1) hjn hi hl3 (by simpa using hl2) hd3 ht3 hd3' hv3 rfl (by omega) (by omega);exact ⟨q1,q2,q3,q4,by omega,by omega,q5⟩),(by first|omega|(dsimp only;omega))⟩
       ·replace h10:=vK h10
        refine jC<|kx [] [(0,some (bm jB (u3.set (i+j) (((u3.getD (i+j) 0)+(v.getD i 0))+c))))] (zM<|zM<|zM<|zE (qP (i+j))<|zM<|zE (cH kC (i+j))<|zT (oSp qJ (i+j) (((u3.getD (i+j) 0)+(v.getD i 0))+c))<|zZ) ?_
        refine kx [(201,(jL (i+1)))] [] (zE (qP (i+1))<|zM<|zZ) ?_
        exact ⟨(i+1,u3.set (i+j) (u3.getD (i+j) 0+v.getD i 0+c),0),wk,(by obtain ⟨q1,q2,q3,q4,q5⟩:=addb_step (v:=v) (L:=(u0++[0]).length) (s:=u3.getD (i+j) 0+v.getD i 0+c) (e:=u3.getD (i+j) 0+v.getD i 0+c) (c':=0) hjn hi hl3 (by simpa using hl2) hd3 ht3 hd3' hv3 rfl (by omega) (by omega);exact ⟨q1,q2,q3,q4,by omega,by omega,q5⟩),(by first|omega|(dsimp only;omega))⟩
      ·replace h9:=vK h9
       have hie2:i=b.length:=by omega
       rw[hie2] at hd3' hv3 hin
       refine jV<|kx [] [(0,some (bm jB (u3.set (j+b.length) (((u3.getD (j+b.length) 0)+c) % 1000000000))))] (zM<|zM<|zM<|zE (qP (j+b.length))<|zM<|zM<|zM<|zE (qP (j+b.length))<|zE (cH kC (j+b.length))<|zR (oLp qJ (j+b.length) (0:Nat))<|zM<|zE (qP ((u3.getD (j+b.length) 0)+c))<|zE (oRe (((u3.getD (j+b.length) 0)+c) % 1000000000))<|zE (cH kC (j+b.length))<|zT (oSp qJ (j+b.length) (((u3.getD (j+b.length) 0)+c) % 1000000000))<|zZ) ?_
       refine kx [] [(1,some (bm jB (q.set j (G-1))))] (zM<|zM<|zM<|zE (gM yN yE (G-1))<|zE (cH kC j)<|zT (oSp qJ j (G-1))<|zZ) ?_
       refine kx [(10,(vi (((j:Nat):Int)-1)))] [] (zM<|zE (cN (((j:Nat):Int)-1))<|zM<|zZ) ?_
       exact ⟨(j,u3.set (j+b.length) ((u3.getD (j+b.length) 0+c) % 1000000000),q.set j (G-1)),wk,(by obtain ⟨p1,p2⟩:=neg_end hd3 hvd hvl (by omega) (by omega) (hl2.trans uB.symm) (hl3.trans uB.symm) ht2 hd2' hW hc ht3 hd3' hv3 n3 n4 n5 hU;exact ⟨by simpa using hl3,hd3.set _ (Nat.mod_lt _ (by decide)),by simpa using hql,hqd.set _ (by omega),by omega,p1,p2⟩),(by first|omega|(dsimp only;omega))⟩
     ·replace h8:=vK h8
      obtain ⟨n1,n2,n3⟩:=m3 (by omega)
      refine kx [] [(0,some (bm jB (u2.set (j+b.length) 0)))] (zM<|zM<|zM<|zE (qP (j+b.length))<|zM<|zE (gM un2 yE 0 (hr:=by exact (wu32 (by omega) (by omega) (by omega))))<|zE (cH kC (j+b.length))<|zT (oSp qJ (j+b.length) 0)<|zZ) ?_
      refine kx [] [(1,some (bm jB (q.set j G)))] (zM<|zM<|zM<|zE (gM yN yE G)<|zE (cH kC j)<|zT (oSp qJ j G)<|zZ) ?_
      refine kx [(10,(vi (((j:Nat):Int)-1)))] [] (zM<|zE (cN (((j:Nat):Int)-1))<|zM<|zZ) ?_
      exact ⟨(j,u2.set (j+b.length) 0,q.set j G),wk,(by obtain ⟨p1,p2⟩:=pos_end hu hvd hvl (by omega) (by omega) (hl2.trans uB.symm) ht2 hd2' hW n2 n3 hU;exact ⟨by simpa using hl2,hd2.set _ (by decide),by simpa using hql,hqd.set _ (by omega),by omega,p1,p2⟩),(by first|omega|(dsimp only;omega))⟩
  ·replace h2:=vK h2
   obtain rfl:k=0:=by omega
   obtain ⟨e1,e2⟩:=scl_div hdb (by omega) (by rw[hvv] at hU;exact hU) (by rw[hvv] at hW;exact hW)
   rw[List.drop_zero] at hW
   refine jV<|jA<|kE (vP (t:=7) (k:=0) (es:=List.map jB u) rfl rfl (qZ _ _ (fun _=>rfl)) (uR _ _ uB) (uS _ _ (fun _=>rfl) uB)) ?_
   refine kx [(5,(vl 121 1 jB (ofNat (val (ofNat (val (List.take b.length u))) / (nQ b)))))] [] (zM<|zM<|zE (e_slc (l:=0) (h:=b.length) (kl:=.i64) (kh:=.i64) (es':=List.map jB (List.take b.length u)) (by exact rfl) kC (by exact rfl) (by exact rfl) (by exact rfl) (Nat.zero_le _) (by simp only[List.length_map];omega) (by rw[List.drop_zero,List.map_take]))<|zE (jX (t_trim (List.take b.length u) (hu.take _) (by rw[List.length_take];omega)))<|zM<|zE (jX (t_short (ofNat (val (List.take b.length u))) (nQ b) (jY _) (by omega) (by omega) (Nat.le_trans (ofNat_val_len (hu.take _)) (by rw[List.length_take];omega))))<|zM<|zE vQ<|zE vQ<|zM<|zZ) ?_
   refine jA<|kE (vP (t:=4) (k:=1) (es:=List.map jB q) rfl rfl (qZ _ _ (fun _=>rfl)) (uR _ _ hql) (uS _ _ (fun _=>rfl) hql)) ?_
   refine kx [(4,(vl 121 1 jB (ofNat (val q)))),(5,(vl 121 1 jB (ofNat (val (ofNat (val (List.take b.length u))) / (nQ b)))))] [] (zM<|zE (jX (t_trim q hqd (by omega)))<|zM<|zM<|zM<|zZ) ?_
   refine jE ⟨_,(.tmp (d:=(.sl 121 1 (List.map jB (ofNat (val q))))) rfl (.tmp (d:=(.sl 121 1 (List.map jB (ofNat (val (ofNat (val (List.take b.length u))) / (nQ b)))))) rfl .nil)),?_⟩
   rw[← e1,← e2,jU,val_take_of_lt (Nat.lt_trans hW (by rw[← hvl];exact vF hvd))];rfl
theorem cb37:callB Tryz.prog 37=true:=by kernel_rfl
theorem cb84:callB Tryz.prog 84=true:=by kernel_rfl
theorem cb87:callB Tryz.prog 87=true:=by kernel_rfl
theorem cb101:callB Tryz.prog 101=true:=by kernel_rfl
theorem t_over(a b:List Nat)(ha:yB a)(hb:yB b)(hb0:0<val b)(hla:a.length≤1099511627776)(hlb:b.length≤1099511627776):jR Tryz.prog 84 [(.sl 121 1 (List.map jB a)),(.sl 121 1 (List.map jB b))] (.tup [(.sl 121 1 (List.map jB (ofNat (val a / val b)))),(.sl 121 1 (List.map jB (ofNat (val a % val b))))]):=by
 refine jH Tryz.func84 rfl cb84 rfl ?_
 show qS _ _ _ _ ⟨[(0,(vl 121 1 jB a)),(1,(vl 121 1 jB b))],[]⟩
 refine jA<|kx [] [] (zE (oNl 121 1)<|zE (oNl 121 1)<|zZ) ?_
 refine jA<|jA<|kx [(15,(vb (decide ((uP ((val a:Nat):Int) ((val b:Nat):Int))<0))))] [] (zM<|zM<|zE (jX (t_compare a b ha hb (by omega)))<|zE uE<|zZ) ?_
 refine jG rfl (fun h1=>?_) (fun h1=>?_)
 ·replace h1:=vM h1
  refine jA<|kx [(4,(vl 121 1 jB [])),(5,(vl 121 1 jB a))] [] (zM<|zE (oNl 121 1)<|zM<|zZ) ?_
  refine jE ⟨_,(.tmp (d:=(.sl 121 1 (List.map jB []))) rfl (.tmp (d:=(.sl 121 1 (List.map jB a))) rfl .nil)),?_⟩
  have hlt:=cmpI_neg h1
  rw[Nat.div_eq_of_lt hlt,Nat.mod_eq_of_lt hlt,uJ,← can_eq ha];rfl
 ·replace h1:=vK h1
  refine jC<|jA<|kx [(6,(zG (xS a))),(7,(vb (gR a)))] [] (zM<|zE (jX (t_word a ha.1))<|zM<|zE vQ<|zE vQ<|zM<|zM<|zZ) ?_
  refine jA<|kx [(8,(zG (xS b))),(9,(vb (gR b)))] [] (zM<|zE (jX (t_word b hb.1))<|zM<|zE vQ<|zE vQ<|zM<|zM<|zZ) ?_
  refine jA<|jA<|kx [(30,(vb ((gR a)&&(gR b))))] [] ?_ ?_
  ·refine zM<|zE (oV (vb (gR a)) (kT (by kernel_rfl)))<|?_
   rcases hb2:(gR a) with _ | _
   ·exact zK<|zE cB<|zZ
   ·exact zM<|zE oPa<|zZ
  refine jG (b:=((gR a)&&(gR b))) rfl (fun h3=>?_) (fun h3=>?_)
  ·obtain ⟨w1,w2,w3⟩:=word_both ha.1 h3
   have w4:xS a / xS b<18446744073709551616:=Nat.lt_of_le_of_lt (Nat.div_le_self _ _) (by omega)
   have w5:xS a % xS b<18446744073709551616:=Nat.lt_of_le_of_lt (Nat.mod_le _ _) (by omega)
   refine jA<|kd [(4,(vl 121 1 jB (ofNat ((xS a) / (xS b))))),(5,(vl 121 1 jB (ofNat ((xS a) % (xS b)))))] [] mo (wM<|wM<|wE (oQu ((xS a) / (xS b)))<|wE (jX (t_split ((xS a) / (xS b)) (by omega)))<|wM<|wM<|wE (oRe ((xS a) % (xS b)))<|wE (jX (t_split ((xS a) % (xS b)) (by omega)))<|wM<|wM<|wZ) ?_
   refine jE ⟨_,(.tmp (d:=(.sl 121 1 (List.map jB (ofNat ((xS a) / (xS b)))))) rfl (.tmp (d:=(.sl 121 1 (List.map jB (ofNat ((xS a) % (xS b)))))) rfl .nil)),?_⟩
   rw[w1,w2];rfl
  ·refine jC<|jA<|jA<|kx [(41,(vb (((b.length:Nat):Int) == 1)))] [] (zM<|zE (yU kC)<|zE oEq<|zZ) ?_
   refine jG (b:=(((b.length:Nat):Int) == 1)) rfl (fun h4=>?_) (fun h4=>?_)
   ·replace h4:=eq_of_beq h4
    have hv1:=val_len1 (b:=b) (by omega)
    have hg:=hb.1.getD 0
    have w5:val a % b.getD 0 0<4294967296:=Nat.lt_trans (Nat.mod_lt _ (by omega)) (by omega)
    refine jA<|kx [(10,(vl 121 1 jB (ofNat (val a / (b.getD 0 0))))),(11,(cV (val a % (b.getD 0 0))))] [] (zM<|zM<|zE (nG kC 0 (0:Nat))<|zE (xE qJ)<|zE (jX (t_short a (b.getD 0 0) ha.1 (by omega) (by omega) (by omega)))<|zM<|zE vQ<|zE vQ<|zM<|zM<|zZ) ?_
    refine jA<|kx [(4,(vl 121 1 jB (ofNat (val a / (b.getD 0 0))))),(5,(vl 121 1 jB (ofNat (val a % (b.getD 0 0)))))] [] (zM<|zM<|zE (gM xU xR (val a % (b.getD 0 0)))<|zE (jX (t_split (val a % (b.getD 0 0)) (by omega)))<|zM<|zM<|zZ) ?_
    refine jE ⟨_,(.tmp (d:=(.sl 121 1 (List.map jB (ofNat (val a / (b.getD 0 0)))))) rfl (.tmp (d:=(.sl 121 1 (List.map jB (ofNat (val a % (b.getD 0 0)))))) rfl .nil)),?_⟩
    rw[hv1];rfl
   ·replace h4:=ne_of_beq_false h4
    have hbl:=val_pos_len hb0
    refine jC<|jA<|kx [(4,(vl 121 1 jB (ofNat (val a / val b)))),(5,(vl 121 1 jB (ofNat (val a % val b))))] [] (zM<|zM<|zE (jX (t_long a b ha hb (by omega) (cmpI_nn h1) (by omega)))<|zE vQ<|zE vQ<|zM<|zM<|zZ) ?_
    refine jE ⟨_,(.tmp (d:=(.sl 121 1 (List.map jB (ofNat (val a / val b))))) rfl (.tmp (d:=(.sl 121 1 (List.map jB (ofNat (val a % val b))))) rfl .nil)),?_⟩
    rfl
theorem t_divideI(x y:kM)(hx:x.gs.length≤1099511627776)(hy:y.gs.length≤1099511627776)(hy0:jO y≠0):jR Tryz.prog 101 [(jJ x),(jJ y)] (.tup [(jJ (jZ ((jO x).fdiv (jO y)))),(jJ (jZ ((jO x).fmod (jO y)))),(.val (.int .i64 (0)))]):=by
 have hgx:=kW x
 have hlx:=xM x
 have hgy:=kW y
 have hly:=xM y
 have hn:0<val (kF y):=by have:=cR y;omega
 have hq:=len_quo (kF x) hgx (val (kF y))
 have hr:=len_rem (kF x) hgx (val (kF y))
 have hrn:=Nat.mod_lt (val (kF x)) hn
 refine jH Tryz.func101 rfl cb101 rfl ?_
 show qS _ _ _ _ ⟨[(0,(.d (jJ x))),(1,(.d (jJ y)))],[]⟩
 refine jA<|kx [(2,(.ref 0 0)),(3,(.ref 1 0)),(4,(.ref 2 0)),(5,(.ref 3 0))] [(0,some (bx (jJ x))),(1,some (bx (jJ y))),(2,some (bx (jJ (kM.mk false [])))),(3,some (bx (jJ (kM.mk false []))))] (zN (vL 0)<|zN (vL 1)<|zN (uX 2 yI yL)<|zN (uX 3 yI yL)<|zM<|zZ) ?_
 refine jA<|kd [(7,(vl 121 1 jB (kF x))),(8,(vl 121 1 jB (kF y)))] [] mo (wR (kI jS)<|wE (jX (yJ x (by omega)))<|wR (kI jS)<|wE (jX (yJ y (by omega)))<|wM<|wM<|wZ) ?_
 refine jA<|jA<|kx [(17,(vb ((((kF y).length:Nat):Int) == 0)))] [] (zM<|zE (yU kC (L:=(kF y)))<|zE oEq<|zZ) ?_
 refine jG (b:=((((kF y).length:Nat):Int) == 0)) rfl (fun h1=>?_) (fun h1=>?_)
 ·replace h1:=eq_of_beq h1
  exact absurd (toZ_nil h1) hy0
 ·replace h1:=ne_of_beq_false h1
  refine jC<|jA<|kx [(9,(vl 121 1 jB (ofNat (val (kF x) / val (kF y))))),(10,(vl 121 1 jB (ofNat (val (kF x) % val (kF y)))))] [] (zM<|zM<|zE (jX (t_over (kF x) (kF y) hgx hgy (by omega) (by omega) (by omega)))<|zM<|zE vQ<|zE vQ<|zM<|zM<|zZ) ?_
  refine jA<|kx [(10,(vl 121 1 jB (ofNat (val (kF x) % val (kF y)))))] [] (zM<|zE (jX (t_clone (ofNat (val (kF x) % val (kF y))) (by omega)))<|zM<|zZ) ?_
  refine jA<|jA<|kx [(37,(vb (decide (0<(((ofNat (val (kF x) % val (kF y))).length:Nat):Int))&&!(x.neg == y.neg))))] [] ?_ ?_
  ·refine zM<|zE (yU kC (L:=(ofNat (val (kF x) % val (kF y)))))<|zE gF<|zE (oV (vb (decide (0<(((ofNat (val (kF x) % val (kF y))).length:Nat):Int)))) (kT (by kernel_rfl)))<|?_
   rcases hb2:(decide (0<(((ofNat (val (kF x) % val (kF y))).length:Nat):Int))) with _ | _
   ·replace hb2:=vK hb2
    exact zK<|zK<|zK<|zK<|zK<|zE cB<|zZ
   ·replace hb2:=vM hb2
    exact zE (kJ vN)<|zR (kX sh4)<|zE (kJ vN)<|zR (kX sh4)<|zE (oNb bo4)<|zE oPa<|zZ
  refine jG rfl (fun h3=>?_) (fun h3=>?_)
  ·have e1:(ofNat (val (ofNat (val (kF x) / val (kF y)))+val [1])).length≤1099511627777:=qU (by rw[jU,nO];have:=ofNat_lt_pw (val (kF x) / val (kF y));have h3:pw (ofNat (val (kF x) / val (kF y))).length≤pw 1099511627776:=yS (by omega);have h4:=pw_lt (show 1099511627776<1099511627777 by decide);omega)
   have e2:=sub_len (b:=ofNat (val (kF x) % val (kF y))) hgy.1
   rw[Bool.and_eq_true,decide_eq_true_eq,Bool.not_eq_true',beq_eq_false_iff_ne] at h3
   obtain ⟨k1,k2⟩:=h3
   have k3:0<val (kF x) % val (kF y):=by have:=nF (kU (val (kF x) % val (kF y))) (by omega);rwa [jU] at this
   obtain ⟨d1,d2⟩:=div_other hn k2 k3
   refine kx [(9,(vl 121 1 jB (ofNat (val (ofNat (val (kF x) / val (kF y)))+val [1])))),(10,(vl 121 1 jB (ofNat (val (kF y)-val (ofNat (val (kF x) % val (kF y)))))))] [] (zM<|zE (oBs kC vC xV)<|zE (jX (t_plus (ofNat (val (kF x) / val (kF y))) [1] (jY _) (xW.2 ⟨by decide,yG⟩) (by omega) (by decide)))<|zM<|zM<|zE (jX (t_minus (kF y) (ofNat (val (kF x) % val (kF y))) hgy.1 (jY _) (by rw[jU];omega) (by omega)))<|zM<|zM<|zZ) ?_
   refine jA<|kd [(6,(jL 0))] [(2,some (bx (jJ (vO (!(x.neg == y.neg)) (val (ofNat (val (ofNat (val (kF x) / val (kF y)))+val [1]))))))),(3,some (bx (jJ (vO y.neg (val (ofNat (val (kF y)-val (ofNat (val (kF x) % val (kF y))))))))))] mo (wE (kJ vN)<|wR (kX sh4)<|wE (kJ vN)<|wR (kX sh4)<|wE (oNb bo4)<|wM<|wE (jX (nI (!(x.neg == y.neg)) (ofNat (val (ofNat (val (kF x) / val (kF y)))+val [1])) (jY _) (by omega)))<|wE (kJ vN)<|wR (kX sh4)<|wM<|wE (jX (nI y.neg (ofNat (val (kF y)-val (ofNat (val (kF x) % val (kF y))))) (jY _) (by omega)))<|wT (qF jS)<|wT (qF jS)<|wM<|wZ) ?_
   refine jE ⟨_,(kV (cs:=(bx (jJ (vO (!(x.neg == y.neg)) (val (ofNat (val (ofNat (val (kF x) / val (kF y)))+val [1]))))))) (d:=(jJ (vO (!(x.neg == y.neg)) (val (ofNat (val (ofNat (val (kF x) / val (kF y)))+val [1])))))) rfl rfl jS rfl rfl (kV (cs:=(bx (jJ (vO y.neg (val (ofNat (val (kF y)-val (ofNat (val (kF x) % val (kF y)))))))))) (d:=(jJ (vO y.neg (val (ofNat (val (kF y)-val (ofNat (val (kF x) % val (kF y))))))))) rfl rfl jS rfl rfl (.tmp (d:=(.val (.int .i64 (0)))) rfl .nil))),?_⟩
   unfold jO
   rw[d1,d2]
   simp only[jU,nO]
   rfl
  ·obtain ⟨d1,d2⟩:=div_same (b:=x.neg) (c:=y.neg) (m:=val (kF x)) hn (by rw[Bool.and_eq_false_iff,decide_eq_false_iff_not,Bool.not_eq_false',beq_iff_eq] at h3;rcases h3 with k | k;right;have:=mD (n:=val (kF x) % val (kF y));omega;exact .inl k)
   refine jC<|jA<|kd [(6,(jL 0))] [(2,some (bx (jJ (vO (!(x.neg == y.neg)) (val (ofNat (val (kF x) / val (kF y)))))))),(3,some (bx (jJ (vO y.neg (val (ofNat (val (kF x) % val (kF y))))))))] mo (wE (kJ vN)<|wR (kX sh4)<|wE (kJ vN)<|wR (kX sh4)<|wE (oNb bo4)<|wM<|wE (jX (nI (!(x.neg == y.neg)) (ofNat (val (kF x) / val (kF y))) (jY _) (by omega)))<|wE (kJ vN)<|wR (kX sh4)<|wM<|wE (jX (nI y.neg (ofNat (val (kF x) % val (kF y))) (jY _) (by omega)))<|wT (qF jS)<|wT (qF jS)<|wM<|wZ) ?_
   refine jE ⟨_,(kV (cs:=(bx (jJ (vO (!(x.neg == y.neg)) (val (ofNat (val (kF x) / val (kF y)))))))) (d:=(jJ (vO (!(x.neg == y.neg)) (val (ofNat (val (kF x) / val (kF y))))))) rfl rfl jS rfl rfl (kV (cs:=(bx (jJ (vO y.neg (val (ofNat (val (kF x) % val (kF y)))))))) (d:=(jJ (vO y.neg (val (ofNat (val (kF x) % val (kF y))))))) rfl rfl jS rfl rfl (.tmp (d:=(.val (.int .i64 (0)))) rfl .nil))),?_⟩
   unfold jO
   rw[d1,d2]
   simp only[jU]
   rfl
theorem t_gcdI(x y:kM)(hx:x.gs.length≤1099511627776)(hy:y.gs.length≤1099511627776):jR Tryz.prog 37 [(jJ x),(jJ y)] (jJ (jZ ((Int.gcd (jO x) (jO y):Nat):Int))):=by
 have hgx:=kW x
 have hlx:=xM x
 have hgy:=kW y
 have hly:=xM y
 refine jH Tryz.func37 rfl cb37 rfl ?_
 show qS _ _ _ _ ⟨[(0,(.d (jJ x))),(1,(.d (jJ y)))],[]⟩
 refine jA<|kx [(2,(.ref 0 0)),(3,(.ref 1 0)),(4,(.ref 2 0))] [(0,some (bx (jJ x))),(1,some (bx (jJ y))),(2,some (bx (jJ (kM.mk false []))))] (zN (vL 0)<|zN (vL 1)<|zN (uX 2 yI yL)<|zZ) ?_
 refine jA<|kd [(5,(vl 121 1 jB (kF x))),(6,(vl 121 1 jB (kF y)))] [] mo (wR (kI jS)<|wE (jX (yJ x (by omega)))<|wR (kI jS)<|wE (jX (yJ y (by omega)))<|wM<|wM<|wZ) ?_
 refine jA<|jD<|kP (α:=List Nat × List Nat) (fun (a,b)=>⟨[(4,(.ref 2 0)),(5,(vl 121 1 jB a)),(6,(vl 121 1 jB b))],[(2,some (bx (jJ (kM.mk false []))))]⟩) (fun (a,b)=>yB a∧yB b∧a.length≤1099511627776∧b.length≤1099511627776∧Nat.gcd (val a) (val b)=Int.gcd (jO x) (jO y)) (fun (a,b)=>val b) (kF x,kF y) wk ⟨hgx,hgy,by omega,by omega,gcd_toZ x y⟩ ?_
 rintro ⟨a,b⟩ ⟨ha,hb,hla,hlb,hg⟩
 refine jA<|jA<|kx [(19,(vb (decide (0<((b.length:Nat):Int)))))] [] (zM<|zE (yU kC)<|zE gF<|zZ) ?_
 refine jG (b:=decide (0<((b.length:Nat):Int))) rfl (fun h1=>?_) (fun h1=>?_)
 ·replace h1:=vM h1
  have hb0:=nF hb (by omega)
  refine jC<|jD<|jA<|kx [(7,(zG (xS a))),(8,(vb (gR a)))] [] (zM<|zE (jX (t_word a ha.1))<|zM<|zE vQ<|zE vQ<|zM<|zM<|zZ) ?_
  refine jA<|kx [(9,(zG (xS b))),(10,(vb (gR b)))] [] (zM<|zE (jX (t_word b hb.1))<|zM<|zE vQ<|zE vQ<|zM<|zM<|zZ) ?_
  refine jA<|jA<|kx [(33,(vb ((gR a)&&(gR b))))] [] ?_ ?_
  ·refine zM<|zE (oV (vb (gR a)) (kT (by kernel_rfl)))<|?_
   rcases hb2:(gR a) with _ | _
   ·exact zK<|zE cB<|zZ
   ·exact zM<|zE oPa<|zZ
  refine jG (b:=((gR a)&&(gR b))) rfl (fun h3=>?_) (fun h3=>?_)
  ·obtain ⟨w1,w2,w3⟩:=word_both ha.1 h3
   have w4:val b<1000000000000000000:=by rw[Bool.and_eq_true] at h3;exact val_len2 hb.1 (vM h3.2)
   refine jA<|jD<|kP (α:=Nat × Nat) (fun (m,n)=>⟨[(4,(.ref 2 0)),(7,(zG m)),(9,(zG n))],[(2,some (bx (jJ (kM.mk false []))))]⟩) (fun (m,n)=>m<1000000000000000000∧n<1000000000000000000∧Nat.gcd m n=Int.gcd (jO x) (jO y)) (fun (m,n)=>n) (xS a,xS b) wk ⟨by omega,by omega,by rw[w1,w2];exact hg⟩ ?_
   rintro ⟨m,n⟩ ⟨hm,hn,hg2⟩
   refine jA<|jA<|kx [(35,(vb (decide (0<((n:Nat):Int)))))] [] (zM<|zE gF<|zZ) ?_
   refine jG (b:=decide (0<((n:Nat):Int))) rfl (fun h4=>?_) (fun h4=>?_)
   ·replace h4:=vM h4
    refine jC<|jD<|kd [(7,(zG n)),(9,(zG (m % n)))] [] mo (wM<|wM<|wM<|wE (oRe (m % n))<|wM<|wM<|wZ) ?_
    exact ⟨(n,m % n),wk,⟨hn,Nat.lt_of_le_of_lt (Nat.mod_le _ _) hm,by rw[← hg2,Nat.gcd_comm,← Nat.gcd_rec,Nat.gcd_comm]⟩,(by dsimp only;exact Nat.mod_lt _ (by omega))⟩
   ·replace h4:=vK h4
    obtain rfl:n=0:=by omega
    rw[Nat.gcd_zero_right] at hg2
    refine jV<|jA<|kx [] [(2,some (bx (jJ (vO false (val (ofNat m))))))] (zM<|zE (jX (t_split m (by omega)))<|zE (jX (nI false (ofNat m) (jY _) (Nat.le_trans (cQ (by omega)) (by decide))))<|zT (qF jS)<|zZ) ?_
    refine jE ⟨_,(kV (cs:=(bx (jJ (vO false (val (ofNat m)))))) (d:=(jJ (vO false (val (ofNat m))))) rfl rfl jS rfl rfl .nil),?_⟩
    rw[← hg2,jU,eC];rfl
  ·refine jC<|jA<|kx [(12,(vl 121 1 jB (ofNat (val a % val b))))] [] (zM<|zM<|zE (jX (t_over a b ha hb hb0 (by omega) (by omega)))<|zM<|zE vQ<|zE vQ<|zM<|zM<|zZ) ?_
   refine kx [(5,(vl 121 1 jB b)),(6,(vl 121 1 jB (ofNat (val a % val b))))] [] (zM<|zM<|zM<|zM<|zZ) ?_
   exact ⟨(b,ofNat (val a % val b)),wk,⟨hb,kU _,hlb,Nat.le_trans (len_rem a ha _) hla,by rw[jU,← hg,Nat.gcd_comm,← Nat.gcd_rec,Nat.gcd_comm]⟩,(by dsimp only;rw[jU];exact Nat.mod_lt _ hb0)⟩
 ·replace h1:=vK h1
  have hb1:b=[]:=List.eq_nil_of_length_eq_zero (by omega)
  rw[hb1,val_nil,Nat.gcd_zero_right] at hg
  refine jV<|jA<|kx [] [(2,some (bx (jJ (vO false (val a)))))] (zM<|zE (jX (t_clone a (by omega)))<|zE (jX (nI false a ha.1 (by omega)))<|zT (qF jS)<|zZ) ?_
  refine jE ⟨_,(kV (cs:=(bx (jJ (vO false (val a))))) (d:=(jJ (vO false (val a)))) rfl rfl jS rfl rfl .nil),?_⟩
  rw[← hg,eC];rfl
theorem t_absI(x:kM)(hx:x.gs.length≤1099511627776):jR Tryz.prog 87 [(jJ x)] (jJ (jZ ((jO x).natAbs:Int))):=by
 refine jH Tryz.func87 rfl cb87 rfl ?_
 show qS _ _ _ _ ⟨[(0,(.d (jJ x)))],[]⟩
 refine jA<|kx [(1,(.ref 0 0)),(2,(.ref 1 0))] [(0,some (bx (jJ x))),(1,some (bx (jJ (kM.mk false []))))] (zN (vL 0)<|zN (uX 1 yI yL)<|zZ) ?_
 refine jA<|kx [] [(1,some (bx (jJ (vO false (val (kF x))))))] (zR (kI jS)<|zE (jX (yJ x (by omega)))<|zE (jX (t_clone (kF x) (Nat.le_trans (xM _) (by omega))))<|zE (jX (nI false (kF x) (kW _).1 (Nat.le_trans (xM _) (by omega))))<|zT (qF jS)<|zZ) ?_
 refine jE ⟨_,(kV (cs:=(bx (jJ (vO false (val (kF x)))))) (d:=(jJ (vO false (val (kF x))))) rfl rfl jS rfl rfl .nil),?_⟩
 rw[← eC,cR];rfl
end Go.Proofs.YteimogfidbkpnaaGreat
