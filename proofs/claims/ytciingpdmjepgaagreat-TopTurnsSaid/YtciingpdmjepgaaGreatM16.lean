/- Part 16 of a proof: rules, plain facts, and functions walked. -/
import Derived.Test.YtciingpdmjepgaaGreatM15
set_option linter.all false
set_option maxRecDepth 4000
namespace Go.Proofs.YtciingpdmjepgaaGreat
open Go.Fid
theorem in2:intB Tryz.prog 2=some .i64:=by kernel_rfl
theorem un2:(Tryz.prog.underlying 2).isSome=true:=by kernel_rfl
set_option maxHeartbeats 4000000 in
theorem t_long(a b:List Nat)(hda:yA a)(hdb:yA b)(hb2:2<=b.length)(hba:val b<=val a)(hla:a.length<=1099511627776):jU Tryz.prog 120 [(.sl 135 1 (List.map jC a)),(.sl 135 1 (List.map jC b))] (.tup [(.sl 135 1 (List.map jC (ofNat (val a / val b)))),(.sl 135 1 (List.map jC (ofNat (val a % val b))))]):=by
 have hab:=len_of_le hda hdb hba
 have hsc:=fW hdb (by omega)
 have htp:=aT hdb (by omega)
 have hds:Dig [mG b]:=xL.2 ⟨by omega,yF⟩
 have hbp:0<val b:=by have:=val_top hdb.1 (by omega);have h2:=Nat.mul_le_mul_right (pw (b.length-1)) htp.1;have h3:=pw_pos (b.length-1);rw[Nat.succ_mul] at h2;omega
 obtain ⟨u0,hue⟩:∃ u0,u0=ofNat (val a*val [mG b]):=⟨_,rfl⟩
 obtain ⟨v,hve⟩:∃ v,v=ofNat (val b*val [mG b]):=⟨_,rfl⟩
 have hu0:Dig u0:=by rw[hue];exact kB _
 have hvd:Dig v:=by rw[hve];exact kB _
 have hvl:v.length=b.length:=by rw[hve,nW];exact scl_len hdb (by omega)
 have hvv:val v=val b*mG b:=by rw[hve,nW];exact kI _
 have hu0v:val u0=val a*mG b:=by rw[hue,nW];exact kI _
 have hu0l:a.length<=u0.length/\u0.length<=a.length+1:=by rw[hue,nW];exact scl_lenA hda hdb (by omega)
 have hLU:(u0++[0]).length=u0.length+1:=by simp
 have hcv:yA v:=by rw[hve];exact kZ _
 have hv1p:0<v.getD (b.length-1) 0:=by rw[<- hvl];exact (aT hcv (by omega)).1
 have hpv:pw (b.length-1)<=val v:=by have h1:=val_top hvd (by omega);rw[hvl] at h1;have h2:=Nat.mul_le_mul_right (pw (b.length-1)) hv1p;omega
 refine vD Tryz.func120 ?_
 refine jA<|kx [] [] (zE (fH 135 1)<|zE (fH 135 1)<|zZ) ?_
 refine jA<|kx [(6,(fU (mG b)))] [] (zM<|zM<|zE (vV kE)<|zE (oSb (b.length-1))<|zE (nA kE (b.length-1) (0:Nat))<|zE (mV qM)<|zE (nR xW xM (b.getD (b.length-1) 0))<|zE (uL ((b.getD (b.length-1) 0)+1))<|zE (oQu (mG b) (hr:=by exact (quo_u64 1000000000 (b.getD (b.length-1) 0+1))))<|zE (nR yS yT (mG b))<|zM<|zZ) ?_
 refine jA<|kx [(7,(.own 0 135 1 u0.length))] [(0,some (bm jC u0))] (zM<|zM<|zE (eG kE uW xY)<|zN (oCo 0 (hue▸o_times a [mG b] hda.1 hds (by omega) (by simp) (by rw[nW];exact Nat.mul_pos (by omega) hsc.1)))<|zM<|zZ) ?_
 refine jA<|kx [(8,(vl 135 1 jC v))] [] (zM<|zM<|zE (eG kE uW xY)<|zE (kD (hve▸t_times b [mG b] hdb.1 hds (by omega) (by simp)))<|zM<|zZ) ?_
 refine jA<|kx [(9,(jN b.length))] [] (zM<|zE (oLn kE b.length (hr:=by exact (by simp [hvl])))<|zM<|zZ) ?_
 refine jA<|kf [(7,(.own 0 135 1 ((u0++[0]).length)))] [(0,some (bm jC (u0++[0])))] (zM<|zE (eG kE uW xY)<|zA jC u0 [0] rfl kE uW nC<|zM<|zF) ?_
 refine jA<|jA<|kx [(50,(vb (decide ((((u0++[0]).length:Nat):Int)<=((a.length:Nat):Int)))))] [] (zM<|zE (oLo kE)<|zM<|zE (vV kE)<|zE oLe<|zZ) ?_
 refine jF rfl (fun h1=>?_) (fun h1=>?_)
 ·replace h1:=uY h1
  exfalso;simp at h1;omega
 ·replace h1:=uZ h1
  refine jD<|jA<|kx [(4,(.own 1 135 1 ((u0++[0]).length-b.length)))] [(1,some (bm jC (List.replicate ((u0++[0]).length-b.length) 0)))] (zM<|zE (oLo kE)<|zM<|zE (oSb ((u0++[0]).length-b.length))<|zH (oMk 1 jC (0:Nat) ((u0++[0]).length-b.length) ((u0++[0]).length-b.length) kE uW xY nC)<|zM<|zZ) ?_
  refine jA<|jA<|kx [(10,(vi ((((u0++[0]).length-b.length:Nat):Int)-1)))] [] (zM<|zE (oLo kE)<|zM<|zE (oSb ((u0++[0]).length-b.length))<|zE (zSb ((((u0++[0]).length-b.length:Nat):Int)-1))<|zM<|zZ) ?_
  refine jH<|kF (α:=Nat × List Nat × List Nat) (fun (k,u,q)=>⟨[(4,(.own 1 135 1 ((u0++[0]).length-b.length))),(6,(fU (mG b))),(7,(.own 0 135 1 ((u0++[0]).length))),(8,(vl 135 1 jC v)),(9,(jN b.length)),(10,(vi (((k:Nat):Int)-1)))],[(0,some (bm jC u)),(1,some (bm jC q))]⟩) (fun (k,u,q)=>u.length=(u0++[0]).length/\Dig u/\q.length=(u0++[0]).length-b.length/\Dig q/\k<=(u0++[0]).length-b.length/\val u+val v*(pw k*val (q.drop k))=val a*mG b/\val (u.drop k)<val v) (fun (k,u,q)=>k) ((u0++[0]).length-b.length,u0++[0],List.replicate ((u0++[0]).length-b.length) 0) wk ⟨rfl,aX.2 ⟨hu0,xL.2 ⟨by decide,yF⟩⟩,by simp,xF _,Nat.le_refl _,by simp [mP,val,hu0v],by have:=long_start hu0 hvl hb2 (by omega) hpv;rw[hLU];exact this⟩ ?_
  rintro ⟨k,u,q⟩ ⟨uB,hu,hql,hqd,hk,hU,hW⟩
  refine jA<|jA<|kx [(65,(vb (decide (0<=(((k:Nat):Int)-1)))))] [] (zM<|zE oGe<|zZ) ?_
  refine jF (b:=decide (0<=(((k:Nat):Int)-1))) rfl (fun h2=>?_) (fun h2=>?_)
  ·replace h2:=uY h2
   obtain ⟨j,rfl⟩:∃ j,k=j+1:=⟨k-1,by omega⟩
   rw[show (((j+1:Nat):Int)-1)=((j:Nat):Int) from by omega]
   have hg1:=hu.getD (j+b.length)
   have hg2:=hu.getD (j+b.length-1)
   have hg3:=hu.getD (j+b.length-2)
   have hg4:=hvd.getD (b.length-1)
   have hg5:=hvd.getD (b.length-2)
   obtain ⟨z1,z2,z3,z4,z5,z6⟩:=window_tops hu hvd hvl hb2 hW
   obtain ⟨hwz,hww⟩:=window hvd hvl hW
   refine jD<|jA<|jH<|jA<|kd [(10,(jN j)),(11,(yH (((u.getD (j+b.length) 0)*1000000000)+(u.getD ((j+b.length)-1) 0))))] [] mo (wM<|wM<|wM<|wE (uL (j+b.length))<|wR ⟨(bm jC u),e_clo (t_at u (j+b.length)) (by exact rfl) (by exact rfl) (by exact rfl) (.o (.d .nil)) (vP jC u (fun _=>rfl)) (vN _ _ uB) (xO _ _ (fun _=>rfl) uB),by kernel_rfl⟩<|wE (nR xW xM (u.getD (j+b.length) 0))<|wE (oMl ((u.getD (j+b.length) 0)*1000000000))<|wM<|wM<|wM<|wE (uL (j+b.length))<|wE (oSb ((j+b.length)-1))<|wE (oXo kE ((j+b.length)-1))<|wR (oLp qM ((j+b.length)-1) (0:Nat))<|wE (nR xW xM (u.getD ((j+b.length)-1) 0))<|wE (uL (((u.getD (j+b.length) 0)*1000000000)+(u.getD ((j+b.length)-1) 0)))<|wM<|wZ) ?_
   refine jA<|kd [(12,(yH ((((u.getD (j+b.length) 0)*1000000000)+(u.getD ((j+b.length)-1) 0)) / (v.getD (b.length-1) 0)))),(13,(yH ((((u.getD (j+b.length) 0)*1000000000)+(u.getD ((j+b.length)-1) 0)) % (v.getD (b.length-1) 0))))] [] mo (wM<|wM<|wM<|wE (oSb (b.length-1))<|wE (nA kE (b.length-1) (0:Nat))<|wE (mV qM)<|wE (nR xW xM (v.getD (b.length-1) 0))<|wE (oQu ((((u.getD (j+b.length) 0)*1000000000)+(u.getD ((j+b.length)-1) 0)) / (v.getD (b.length-1) 0)))<|wM<|wM<|wM<|wE (oSb (b.length-1))<|wE (nA kE (b.length-1) (0:Nat))<|wE (mV qM)<|wE (nR xW xM (v.getD (b.length-1) 0))<|wE (oRe ((((u.getD (j+b.length) 0)*1000000000)+(u.getD ((j+b.length)-1) 0)) % (v.getD (b.length-1) 0)))<|wM<|wM<|wZ) ?_
   refine pwp_seqjoin (α:=Nat × Nat) (fun (G,R)=>⟨[(4,(.own 1 135 1 ((u0++[0]).length-b.length))),(6,(fU (mG b))),(7,(.own 0 135 1 ((u0++[0]).length))),(8,(vl 135 1 jC v)),(9,(jN b.length)),(10,(jN j)),(12,(yH G))],[(0,some (bm jC u)),(1,some (bm jC q))]⟩) (fun (G,R)=>G<1000000000/\val (u.drop j) / val v<=G/\G<=val (u.drop j) / val v+1) ?_ ?_
   ·refine kF (α:=Nat × Nat) (fun (G,R)=>⟨[(4,(.own 1 135 1 ((u0++[0]).length-b.length))),(6,(fU (mG b))),(7,(.own 0 135 1 ((u0++[0]).length))),(8,(vl 135 1 jC v)),(9,(jN b.length)),(10,(jN j)),(12,(yH G)),(13,(yH R))],[(0,some (bm jC u)),(1,some (bm jC q))]⟩) (fun (G,R)=>G*(v.getD (b.length-1) 0)+R=(u.getD (j+b.length) 0*1000000000+u.getD (j+b.length-1) 0)/\val (u.drop j) / val v<=G/\R<1000000000/\G<=1999999999) (fun (G,R)=>G) ((u.getD (j+b.length) 0*1000000000+u.getD (j+b.length-1) 0) / v.getD (b.length-1) 0,(u.getD (j+b.length) 0*1000000000+u.getD (j+b.length-1) 0) % v.getD (b.length-1) 0) wk ⟨by rw[Nat.mul_comm];exact Nat.div_add_mod _ _,guess_first0 z5 z4 hv1p hg3,Nat.lt_trans (Nat.mod_lt _ hv1p) hg4,guess_top hv1p z1 hg2⟩ ?_
    rintro ⟨G,R⟩ ⟨hG0,hG1,hR,hGb⟩
    have hpq:G*v.getD (b.length-2) 0<=1999999999*999999999:=Nat.mul_le_mul hGb (by omega)
    refine jA<|jA<|kd [(123,(vb (decide (1000000000<=((G:Nat):Int))||decide (((((R*1000000000)+(u.getD ((j+b.length)-2) 0)):Nat):Int)<(((G*(v.getD (b.length-2) 0)):Nat):Int)))))] [] mo ?_ ?_
    ·refine wM<|wE oGe<|wE (oV (vb (decide (1000000000<=((G:Nat):Int)))) (kA (by kernel_rfl)))<|?_
     rcases hb3:(decide (1000000000<=((G:Nat):Int))) with _ | _
     ·replace hb3:=uZ hb3
      exact wM<|wM<|wM<|wE (oSb (b.length-2))<|wE (nA kE (b.length-2) (0:Nat))<|wE (mV qM)<|wE (nR xW xM (v.getD (b.length-2) 0))<|wE (oMl (G*(v.getD (b.length-2) 0)))<|wM<|wE (oMl (R*1000000000))<|wM<|wM<|wM<|wE (uL (j+b.length))<|wE (oSb ((j+b.length)-2))<|wE (oXo kE ((j+b.length)-2))<|wR (oLp qM ((j+b.length)-2) (0:Nat))<|wE (nR xW xM (u.getD ((j+b.length)-2) 0))<|wE (uL ((R*1000000000)+(u.getD ((j+b.length)-2) 0)))<|wE cC<|wE zG<|wZ
     ·replace hb3:=uY hb3
      exact wK<|wK<|wK<|wK<|wK<|wK<|wK<|wK<|wK<|wK<|wK<|wK<|wK<|wK<|wK<|wK<|wK<|wK<|wK<|wK<|wE uP<|wZ
    refine jF rfl (fun h4=>?_) (fun h4=>?_)
    ·rw[Bool.or_eq_true,decide_eq_true_eq,decide_eq_true_eq] at h4
     have hgl:=guess_less (pw_pos _) z5 z4 hG0 hG1 hv1p z2 (by omega)
     refine jD<|jH<|jA<|kx [(12,(yH (G-1)))] [] (zM<|zE (oSb (G-1))<|zM<|zZ) ?_
     refine jA<|kx [(13,(yH (R+(v.getD (b.length-1) 0))))] [] (zM<|zM<|zM<|zE (oSb (b.length-1))<|zE (nA kE (b.length-1) (0:Nat))<|zE (mV qM)<|zE (nR xW xM (v.getD (b.length-1) 0))<|zE (uL (R+(v.getD (b.length-1) 0)))<|zM<|zZ) ?_
     refine jA<|kx [(135,(vb (decide (1000000000<=(((R+(v.getD (b.length-1) 0)):Nat):Int)))))] [] (zM<|zE oGe<|zZ) ?_
     refine jF rfl (fun h5=>?_) (fun h5=>?_)
     ·replace h5:=uY h5
      refine jS ?_
      refine pjoin_exit (id:=2) (α:=Nat × Nat) (Q:=fun _ _=>True) (St:=fun (G,R)=>⟨[(4,(.own 1 135 1 ((u0++[0]).length-b.length))),(6,(fU (mG b))),(7,(.own 0 135 1 ((u0++[0]).length))),(8,(vl 135 1 jC v)),(9,(jN b.length)),(10,(jN j)),(12,(yH G))],[(0,some (bm jC u)),(1,some (bm jC q))]⟩) (I:=fun (G,R)=>G<1000000000/\val (u.drop j) / val v<=G/\G<=val (u.drop j) / val v+1) ?_
      exact ⟨(G-1,R+v.getD (b.length-1) 0),wk,(by have hd:=guess_dec hgl.2 hG0;have hgb:=guess_break hd z1 hg2 (by omega);exact ⟨hgb,hgl.1,guess_near z6 z3 hd hv1p (by omega) hgb (Nat.le_trans (Nat.mul_le_mul (show G-1<=999999999 by omega) (show v.getD (b.length-2) 0<=999999999 by omega)) (by omega))⟩)⟩
     ·replace h5:=uZ h5
      refine jD ?_
      exact ⟨(G-1,R+v.getD (b.length-1) 0),wk,(by exact ⟨guess_dec hgl.2 hG0,hgl.1,by omega,by omega⟩),(by first|omega|(dsimp only;omega))⟩
    ·refine jS ?_
     refine pjoin_exit (id:=2) (α:=Nat × Nat) (Q:=fun _ _=>True) (St:=fun (G,R)=>⟨[(4,(.own 1 135 1 ((u0++[0]).length-b.length))),(6,(fU (mG b))),(7,(.own 0 135 1 ((u0++[0]).length))),(8,(vl 135 1 jC v)),(9,(jN b.length)),(10,(jN j)),(12,(yH G))],[(0,some (bm jC u)),(1,some (bm jC q))]⟩) (I:=fun (G,R)=>G<1000000000/\val (u.drop j) / val v<=G/\G<=val (u.drop j) / val v+1) ?_
     exact ⟨(G,R),wk,(by rw[Bool.or_eq_false_iff,decide_eq_false_iff_not,decide_eq_false_iff_not] at h4;exact ⟨by omega,hG1,guess_near z6 z3 hG0 hv1p (by omega) (by omega) (by omega)⟩)⟩
   ·rintro ⟨G,R⟩ ⟨hG,hG1,hG2⟩
    have hjn:j+b.length<(u0++[0]).length:=by omega
    refine jA<|kx [(14,(jN 0)),(15,(yH 0))] [] (zM<|zM<|zZ) ?_
    refine jA<|jA<|kx [(136,(jN b.length)),(137,(jN 0))] [] (zM<|zM<|zZ) ?_
    refine jH<|kF (α:=Nat × List Nat × Nat × Nat) (fun (i,u2,bo,ca)=>⟨[(4,(.own 1 135 1 ((u0++[0]).length-b.length))),(6,(fU (mG b))),(7,(.own 0 135 1 ((u0++[0]).length))),(8,(vl 135 1 jC v)),(9,(jN b.length)),(10,(jN j)),(12,(yH G)),(14,(vi ((bo:Nat):Int))),(15,(yH ca)),(136,(jN b.length)),(137,(jN i))],[(0,some (bm jC u2)),(1,some (bm jC q))]⟩) (fun (i,u2,bo,ca)=>u2.length=(u0++[0]).length/\Dig u2/\u2.take j=u.take j/\u2.drop (j+i)=u.drop (j+i)/\i<=b.length/\bo<=1/\ca<1000000000/\val ((u2.drop j).take i)+G*val (v.take i)=val ((u.drop j).take i)+pw i*(ca+bo)) (fun (i,u2,bo,ca)=>b.length-i) (0,u,0,0) wk ⟨uB,hu,rfl,rfl,Nat.zero_le _,Nat.zero_le _,by decide,by simp [val]⟩ ?_
    rintro ⟨i,u2,bo,ca⟩ ⟨hl2,hd2,ht2,hd2',hin,hbo,hca,hv2⟩
    have hgi:=hvd.getD i
    have hgu:=hd2.getD (i+j)
    have hpq:G*v.getD i 0<=999999999*999999999:=Nat.mul_le_mul (by omega) (by omega)
    refine jA<|kx [(138,(vb (decide (((i:Nat):Int)<((b.length:Nat):Int)))))] [] (zE uT<|zZ) ?_
    refine jA<|jF rfl (fun h6=>?_) (fun h6=>?_)
    ·replace h6:=uY h6
     have hi:i<b.length:=by omega
     refine jD<|jA<|jH<|jA<|kx [(16,(jN i))] [] (zM<|zM<|zZ) ?_
     refine jA<|kx [(17,(yH ((G*(v.getD i 0))+ca)))] [] (zM<|zM<|zM<|zE (nA kE i (0:Nat))<|zE (mV qM)<|zE (nR xW xM (v.getD i 0))<|zE (oMl (G*(v.getD i 0)))<|zM<|zE (uL ((G*(v.getD i 0))+ca))<|zM<|zZ) ?_
     refine jA<|kx [(15,(yH (((G*(v.getD i 0))+ca) / 1000000000)))] [] (zM<|zE (oQu (((G*(v.getD i 0))+ca) / 1000000000))<|zM<|zZ) ?_
     refine jA<|kx [(18,(vi (((((u2.getD (i+j) 0):Nat):Int)-((bo:Nat):Int))-(((((G*(v.getD i 0))+ca) % 1000000000):Nat):Int))))] [] (zM<|zM<|zM<|zE (uL (i+j))<|zE (oXo kE (i+j))<|zR (oLp qM (i+j) (0:Nat))<|zE (nR xW in2 (u2.getD (i+j) 0))<|zM<|zE (zSb ((((u2.getD (i+j) 0):Nat):Int)-((bo:Nat):Int)))<|zM<|zE (oRe (((G*(v.getD i 0))+ca) % 1000000000))<|zE (nR yS in2 (((G*(v.getD i 0))+ca) % 1000000000))<|zE (zSb (((((u2.getD (i+j) 0):Nat):Int)-((bo:Nat):Int))-(((((G*(v.getD i 0))+ca) % 1000000000):Nat):Int)))<|zM<|zZ) ?_
     refine jA<|kx [(14,(jN 0))] [] (zM<|zZ) ?_
     refine jA<|jA<|kx [(165,(vb (decide ((((((u2.getD (i+j) 0):Nat):Int)-((bo:Nat):Int))-(((((G*(v.getD i 0))+ca) % 1000000000):Nat):Int))<0))))] [] (zM<|zE uT<|zZ) ?_
     refine jF rfl (fun h7=>?_) (fun h7=>?_)
     ·replace h7:=uY h7
      refine kx [(14,(jN 1)),(18,(vi ((((((u2.getD (i+j) 0):Nat):Int)-((bo:Nat):Int))-(((((G*(v.getD i 0))+ca) % 1000000000):Nat):Int))+1000000000)))] [] (zM<|zE (zAd ((((((u2.getD (i+j) 0):Nat):Int)-((bo:Nat):Int))-(((((G*(v.getD i 0))+ca) % 1000000000):Nat):Int))+1000000000))<|zM<|zM<|zZ) ?_
      refine kx [] [(0,some (bm jC (u2.set (i+j) ((u2.getD (i+j) 0+1000000000)-bo-(G*v.getD i 0+ca) % 1000000000))))] (zM<|zM<|zM<|zE (uL (i+j))<|zM<|zE (nR un2 yT ((u2.getD (i+j) 0+1000000000)-bo-(G*v.getD i 0+ca) % 1000000000) (hr:=by exact (wu32 (by omega) (by omega) (by omega))))<|zE (oXo kE (i+j))<|zT (oSp qM (i+j) ((u2.getD (i+j) 0+1000000000)-bo-(G*v.getD i 0+ca) % 1000000000))<|zZ) ?_
      refine kx [(137,(jN (i+1)))] [] (zE (uL (i+1))<|zM<|zZ) ?_
      exact ⟨(i+1,u2.set (i+j) ((u2.getD (i+j) 0+1000000000)-bo-(G*v.getD i 0+ca) % 1000000000),1,(G*v.getD i 0+ca) / 1000000000),wk,(by obtain ⟨q1,q2,q3,q4,q5⟩:=msub_step (v:=v) (L:=(u0++[0]).length) (e:=(u2.getD (i+j) 0+1000000000)-bo-(G*v.getD i 0+ca) % 1000000000) (borrow':=1) hjn hi hl2 uB hd2 ht2 hd2' hv2 rfl (by omega) (by omega);exact ⟨q1,q2,q3,q4,by omega,by omega,by omega,q5⟩),(by first|omega|(dsimp only;omega))⟩
     ·replace h7:=uZ h7
      refine jD<|kx [] [(0,some (bm jC (u2.set (i+j) (u2.getD (i+j) 0-bo-(G*v.getD i 0+ca) % 1000000000))))] (zM<|zM<|zM<|zE (uL (i+j))<|zM<|zE (nR un2 yT (u2.getD (i+j) 0-bo-(G*v.getD i 0+ca) % 1000000000) (hr:=by exact (wu32 (by omega) (by omega) (by omega))))<|zE (oXo kE (i+j))<|zT (oSp qM (i+j) (u2.getD (i+j) 0-bo-(G*v.getD i 0+ca) % 1000000000))<|zZ) ?_
      refine kx [(137,(jN (i+1)))] [] (zE (uL (i+1))<|zM<|zZ) ?_
      exact ⟨(i+1,u2.set (i+j) (u2.getD (i+j) 0-bo-(G*v.getD i 0+ca) % 1000000000),0,(G*v.getD i 0+ca) / 1000000000),wk,(by obtain ⟨q1,q2,q3,q4,q5⟩:=msub_step (v:=v) (L:=(u0++[0]).length) (e:=u2.getD (i+j) 0-bo-(G*v.getD i 0+ca) % 1000000000) (borrow':=0) hjn hi hl2 uB hd2 ht2 hd2' hv2 rfl (by omega) (by omega);exact ⟨q1,q2,q3,q4,by omega,by omega,by omega,q5⟩),(by first|omega|(dsimp only;omega))⟩
    ·replace h6:=uZ h6
     have hie:i=b.length:=by omega
     rw[hie] at hd2' hv2 hin
     obtain ⟨m1,m2,m3⟩:=msub_end hu hd2 hvd hvl hW hG1 hG2 hd2' hv2
     refine jS<|jA<|kx [(19,(vi (((((u2.getD (j+b.length) 0):Nat):Int)-((bo:Nat):Int))-((ca:Nat):Int))))] [] (zM<|zM<|zM<|zE (uL (j+b.length))<|zE (oXo kE (j+b.length))<|zR (oLp qM (j+b.length) (0:Nat))<|zE (nR xW in2 (u2.getD (j+b.length) 0))<|zM<|zE (zSb ((((u2.getD (j+b.length) 0):Nat):Int)-((bo:Nat):Int)))<|zM<|zE (nR yS in2 ca)<|zE (zSb (((((u2.getD (j+b.length) 0):Nat):Int)-((bo:Nat):Int))-((ca:Nat):Int)))<|zM<|zZ) ?_
     refine jA<|jA<|kx [(189,(vb (decide ((((((u2.getD (j+b.length) 0):Nat):Int)-((bo:Nat):Int))-((ca:Nat):Int))<0))))] [] (zM<|zE uT<|zZ) ?_
     refine jF rfl (fun h8=>?_) (fun h8=>?_)
     ·replace h8:=uY h8
      obtain ⟨n1,n2,r,n3,n4,n5⟩:=m2 (by omega)
      refine jA<|kx [] [(0,some (bm jC (u2.set (j+b.length) 999999999)))] (zM<|zM<|zM<|zE (uL (j+b.length))<|zM<|zE (zAd ((((((u2.getD (j+b.length) 0):Nat):Int)-((bo:Nat):Int))-((ca:Nat):Int))+1000000000))<|zE (nR un2 yT 999999999 (hr:=by exact (wu32 (by omega) (by omega) (by omega))))<|zE (oXo kE (j+b.length))<|zT (oSp qM (j+b.length) 999999999)<|zZ) ?_
      refine jA<|kx [(12,(yH (G-1)))] [] (zM<|zE (oSb (G-1))<|zM<|zZ) ?_
      refine jA<|kx [(20,(fU 0))] [] (zM<|zZ) ?_
      refine jA<|jA<|kx [(200,(jN b.length)),(201,(jN 0))] [] (zM<|zM<|zZ) ?_
      refine jH<|kF (α:=Nat × List Nat × Nat) (fun (i,u3,c)=>⟨[(4,(.own 1 135 1 ((u0++[0]).length-b.length))),(6,(fU (mG b))),(7,(.own 0 135 1 ((u0++[0]).length))),(8,(vl 135 1 jC v)),(9,(jN b.length)),(10,(jN j)),(12,(yH (G-1))),(20,(fU c)),(200,(jN b.length)),(201,(jN i))],[(0,some (bm jC u3)),(1,some (bm jC q))]⟩) (fun (i,u3,c)=>u3.length=(u0++[0]).length/\Dig u3/\u3.take j=(u2.set (j+b.length) 999999999).take j/\u3.drop (j+i)=(u2.set (j+b.length) 999999999).drop (j+i)/\i<=b.length/\c<=1/\val ((u3.drop j).take i)+pw i*c=val (((u2.set (j+b.length) 999999999).drop j).take i)+val (v.take i)) (fun (i,u3,c)=>b.length-i) (0,u2.set (j+b.length) 999999999,0) wk ⟨by simpa using hl2,hd2.set _ (by decide),rfl,rfl,Nat.zero_le _,Nat.zero_le _,by simp [val]⟩ ?_
      rintro ⟨i,u3,c⟩ ⟨hl3,hd3,ht3,hd3',hin,hc,hv3⟩
      have hgi:=hvd.getD i
      have hgu:=hd3.getD (i+j)
      have hgt:=hd3.getD (j+b.length)
      refine jA<|kx [(202,(vb (decide (((i:Nat):Int)<((b.length:Nat):Int)))))] [] (zE uT<|zZ) ?_
      refine jA<|jF rfl (fun h9=>?_) (fun h9=>?_)
      ·replace h9:=uY h9
       have hi:i<b.length:=by omega
       refine jD<|jA<|jH<|jA<|kx [(21,(jN i))] [] (zM<|zM<|zZ) ?_
       refine jA<|kd [(22,(fU (((u3.getD (i+j) 0)+(v.getD i 0))+c)))] [] mo (wM<|wM<|wM<|wE (uL (i+j))<|wE (oXo kE (i+j))<|wR (oLp qM (i+j) (0:Nat))<|wM<|wM<|wE (nA kE i (0:Nat))<|wE (mV qM)<|wE (uL ((u3.getD (i+j) 0)+(v.getD i 0)))<|wM<|wE (uL (((u3.getD (i+j) 0)+(v.getD i 0))+c))<|wM<|wZ) ?_
       refine jA<|kx [(20,(fU 0))] [] (zM<|zZ) ?_
       refine jA<|jA<|kx [(218,(vb (decide (1000000000<=(((((u3.getD (i+j) 0)+(v.getD i 0))+c):Nat):Int)))))] [] (zM<|zE oGe<|zZ) ?_
       refine jF rfl (fun h10=>?_) (fun h10=>?_)
       ·replace h10:=uY h10
        refine kx [(20,(fU 1)),(22,(fU ((((u3.getD (i+j) 0)+(v.getD i 0))+c)-1000000000)))] [] (zM<|zE (oSb ((((u3.getD (i+j) 0)+(v.getD i 0))+c)-1000000000))<|zM<|zM<|zZ) ?_
        refine kx [] [(0,some (bm jC (u3.set (i+j) ((((u3.getD (i+j) 0)+(v.getD i 0))+c)-1000000000))))] (zM<|zM<|zM<|zE (uL (i+j))<|zM<|zE (oXo kE (i+j))<|zT (oSp qM (i+j) ((((u3.getD (i+j) 0)+(v.getD i 0))+c)-1000000000))<|zZ) ?_
        refine kx [(201,(jN (i+1)))] [] (zE (uL (i+1))<|zM<|zZ) ?_
        exact ⟨(i+1,u3.set (i+j) (u3.getD (i+j) 0+v.getD i 0+c-1000000000),1),wk,(by obtain ⟨q1,q2,q3,q4,q5⟩:=addb_step (v:=v) (L:=(u0++[0]).length) (s:=u3.getD (i+j) 0+v.getD i 0+c) (e:=u3.getD (i+j) 0+v.getD i 0+c-1000000000) (c':=1) hjn hi hl3 (by simpa using hl2) hd3 ht3 hd3' hv3 rfl (by omega) (by omega);exact ⟨q1,q2,q3,q4,by omega,by omega,q5⟩),(by first|omega|(dsimp only;omega))⟩
       ·replace h10:=uZ h10
        refine jD<|kx [] [(0,some (bm jC (u3.set (i+j) (((u3.getD (i+j) 0)+(v.getD i 0))+c))))] (zM<|zM<|zM<|zE (uL (i+j))<|zM<|zE (oXo kE (i+j))<|zT (oSp qM (i+j) (((u3.getD (i+j) 0)+(v.getD i 0))+c))<|zZ) ?_
        refine kx [(201,(jN (i+1)))] [] (zE (uL (i+1))<|zM<|zZ) ?_
        exact ⟨(i+1,u3.set (i+j) (u3.getD (i+j) 0+v.getD i 0+c),0),wk,(by obtain ⟨q1,q2,q3,q4,q5⟩:=addb_step (v:=v) (L:=(u0++[0]).length) (s:=u3.getD (i+j) 0+v.getD i 0+c) (e:=u3.getD (i+j) 0+v.getD i 0+c) (c':=0) hjn hi hl3 (by simpa using hl2) hd3 ht3 hd3' hv3 rfl (by omega) (by omega);exact ⟨q1,q2,q3,q4,by omega,by omega,q5⟩),(by first|omega|(dsimp only;omega))⟩
      ·replace h9:=uZ h9
       have hie2:i=b.length:=by omega
       rw[hie2] at hd3' hv3 hin
       refine jS<|kx [] [(0,some (bm jC (u3.set (j+b.length) (((u3.getD (j+b.length) 0)+c) % 1000000000))))] (zM<|zM<|zM<|zE (uL (j+b.length))<|zM<|zM<|zM<|zE (uL (j+b.length))<|zE (oXo kE (j+b.length))<|zR (oLp qM (j+b.length) (0:Nat))<|zM<|zE (uL ((u3.getD (j+b.length) 0)+c))<|zE (oRe (((u3.getD (j+b.length) 0)+c) % 1000000000))<|zE (oXo kE (j+b.length))<|zT (oSp qM (j+b.length) (((u3.getD (j+b.length) 0)+c) % 1000000000))<|zZ) ?_
       refine kx [] [(1,some (bm jC (q.set j (G-1))))] (zM<|zM<|zM<|zE (nR yS yT (G-1))<|zE (oXo kE j)<|zT (oSp qM j (G-1))<|zZ) ?_
       refine kx [(10,(vi (((j:Nat):Int)-1)))] [] (zM<|zE (zSb (((j:Nat):Int)-1))<|zM<|zZ) ?_
       exact ⟨(j,u3.set (j+b.length) ((u3.getD (j+b.length) 0+c) % 1000000000),q.set j (G-1)),wk,(by obtain ⟨p1,p2⟩:=neg_end hd3 hvd hvl (by omega) (by omega) (hl2.trans uB.symm) (hl3.trans uB.symm) ht2 hd2' hW hc ht3 hd3' hv3 n3 n4 n5 hU;exact ⟨by simpa using hl3,hd3.set _ (Nat.mod_lt _ (by decide)),by simpa using hql,hqd.set _ (by omega),by omega,p1,p2⟩),(by first|omega|(dsimp only;omega))⟩
     ·replace h8:=uZ h8
      obtain ⟨n1,n2,n3⟩:=m3 (by omega)
      refine kx [] [(0,some (bm jC (u2.set (j+b.length) 0)))] (zM<|zM<|zM<|zE (uL (j+b.length))<|zM<|zE (nR un2 yT 0 (hr:=by exact (wu32 (by omega) (by omega) (by omega))))<|zE (oXo kE (j+b.length))<|zT (oSp qM (j+b.length) 0)<|zZ) ?_
      refine kx [] [(1,some (bm jC (q.set j G)))] (zM<|zM<|zM<|zE (nR yS yT G)<|zE (oXo kE j)<|zT (oSp qM j G)<|zZ) ?_
      refine kx [(10,(vi (((j:Nat):Int)-1)))] [] (zM<|zE (zSb (((j:Nat):Int)-1))<|zM<|zZ) ?_
      exact ⟨(j,u2.set (j+b.length) 0,q.set j G),wk,(by obtain ⟨p1,p2⟩:=pos_end hu hvd hvl (by omega) (by omega) (hl2.trans uB.symm) ht2 hd2' hW n2 n3 hU;exact ⟨by simpa using hl2,hd2.set _ (by decide),by simpa using hql,hqd.set _ (by omega),by omega,p1,p2⟩),(by first|omega|(dsimp only;omega))⟩
  ·replace h2:=uZ h2
   obtain rfl:k=0:=by omega
   obtain ⟨e1,e2⟩:=scl_div hdb (by omega) (by rw[hvv] at hU;exact hU) (by rw[hvv] at hW;exact hW)
   rw[List.drop_zero] at hW
   refine jS<|jA<|kU (xR (t:=7) (k:=0) (es:=List.map jC u) rfl rfl (vP _ _ (fun _=>rfl)) (vN _ _ uB) (xO _ _ (fun _=>rfl) uB)) ?_
   refine kx [(5,(vl 135 1 jC (ofNat (val (ofNat (val (List.take b.length u))) / (mG b)))))] [] (zM<|zM<|zE (e_slc (l:=0) (h:=b.length) (kl:=.i64) (kh:=.i64) (es':=List.map jC (List.take b.length u)) (by exact rfl) kE (by exact rfl) (by exact rfl) (by exact rfl) (Nat.zero_le _) (by simp only[List.length_map];omega) (by rw[List.drop_zero,List.map_take]))<|zE (kD (t_trim (List.take b.length u) (hu.take _) (by rw[List.length_take];omega)))<|zM<|zE (kD (t_short (ofNat (val (List.take b.length u))) (mG b) (kB _) (by omega) (by omega) (Nat.le_trans (ofNat_val_len (hu.take _)) (by rw[List.length_take];omega))))<|zM<|zE vF<|zE vF<|zM<|zZ) ?_
   refine jA<|kU (xR (t:=4) (k:=1) (es:=List.map jC q) rfl rfl (vP _ _ (fun _=>rfl)) (vN _ _ hql) (xO _ _ (fun _=>rfl) hql)) ?_
   refine kx [(4,(vl 135 1 jC (ofNat (val q)))),(5,(vl 135 1 jC (ofNat (val (ofNat (val (List.take b.length u))) / (mG b)))))] [] (zM<|zE (kD (t_trim q hqd (by omega)))<|zM<|zM<|zM<|zZ) ?_
   refine jG ⟨_,(.tmp (d:=(.sl 135 1 (List.map jC (ofNat (val q))))) rfl (.tmp (d:=(.sl 135 1 (List.map jC (ofNat (val (ofNat (val (List.take b.length u))) / (mG b)))))) rfl .nil)),?_⟩
   rw[<- e1,<- e2,kI,val_take_of_lt (Nat.lt_trans hW (by rw[<- hvl];exact uV hvd))];rfl
theorem t_over(a b:List Nat)(ha:yA a)(hb:yA b)(hb0:0<val b)(hla:a.length<=1099511627776)(hlb:b.length<=1099511627776):jU Tryz.prog 102 [(.sl 135 1 (List.map jC a)),(.sl 135 1 (List.map jC b))] (.tup [(.sl 135 1 (List.map jC (ofNat (val a / val b)))),(.sl 135 1 (List.map jC (ofNat (val a % val b))))]):=by
 refine vD Tryz.func102 ?_
 refine jA<|kx [] [] (zE (fH 135 1)<|zE (fH 135 1)<|zZ) ?_
 refine jA<|jA<|kx [(15,(vb (decide ((uM ((val a:Nat):Int) ((val b:Nat):Int))<0))))] [] (zM<|zM<|zE (kD (t_compare a b ha hb (by omega)))<|zE uT<|zZ) ?_
 refine jF rfl (fun h1=>?_) (fun h1=>?_)
 ·replace h1:=uY h1
  refine jA<|kx [(4,(vl 135 1 jC [])),(5,(vl 135 1 jC a))] [] (zM<|zE (fH 135 1)<|zM<|zZ) ?_
  refine jG ⟨_,(.tmp (d:=(.sl 135 1 (List.map jC []))) rfl (.tmp (d:=(.sl 135 1 (List.map jC a))) rfl .nil)),?_⟩
  have hlt:=cmpI_neg h1
  rw[Nat.div_eq_of_lt hlt,Nat.mod_eq_of_lt hlt,uG,<- can_eq ha];rfl
 ·replace h1:=uZ h1
  refine jD<|jA<|kx [(6,(yH (xE a))),(7,(vb (nD a)))] [] (zM<|zE (kD (t_word a ha.1))<|zM<|zE vF<|zE vF<|zM<|zM<|zZ) ?_
  refine jA<|kx [(8,(yH (xE b))),(9,(vb (nD b)))] [] (zM<|zE (kD (t_word b hb.1))<|zM<|zE vF<|zE vF<|zM<|zM<|zZ) ?_
  refine jA<|jA<|kx [(30,(vb ((nD a)&&(nD b))))] [] ?_ ?_
  ·refine zM<|zE (oV (vb (nD a)) (kA (by kernel_rfl)))<|?_
   rcases hb2:(nD a) with _ | _
   ·exact zK<|zE mJ<|zZ
   ·exact zM<|zE aC<|zZ
  refine jF (b:=((nD a)&&(nD b))) rfl (fun h3=>?_) (fun h3=>?_)
  ·obtain ⟨w1,w2,w3⟩:=word_both ha.1 h3
   have w4:xE a / xE b<18446744073709551616:=Nat.lt_of_le_of_lt (Nat.div_le_self _ _) (by omega)
   have w5:xE a % xE b<18446744073709551616:=Nat.lt_of_le_of_lt (Nat.mod_le _ _) (by omega)
   refine jA<|kd [(4,(vl 135 1 jC (ofNat ((xE a) / (xE b))))),(5,(vl 135 1 jC (ofNat ((xE a) % (xE b)))))] [] mo (wM<|wM<|wE (oQu ((xE a) / (xE b)))<|wE (kD (t_split ((xE a) / (xE b)) (by omega)))<|wM<|wM<|wE (oRe ((xE a) % (xE b)))<|wE (kD (t_split ((xE a) % (xE b)) (by omega)))<|wM<|wM<|wZ) ?_
   refine jG ⟨_,(.tmp (d:=(.sl 135 1 (List.map jC (ofNat ((xE a) / (xE b)))))) rfl (.tmp (d:=(.sl 135 1 (List.map jC (ofNat ((xE a) % (xE b)))))) rfl .nil)),?_⟩
   rw[w1,w2];rfl
  ·refine jD<|jA<|jA<|kx [(41,(vb (((b.length:Nat):Int) == 1)))] [] (zM<|zE (vV kE)<|zE zW<|zZ) ?_
   refine jF (b:=(((b.length:Nat):Int) == 1)) rfl (fun h4=>?_) (fun h4=>?_)
   ·replace h4:=eq_of_beq h4
    have hv1:=val_len1 (b:=b) (by omega)
    have hg:=hb.1.getD 0
    have w5:val a % b.getD 0 0<4294967296:=Nat.lt_trans (Nat.mod_lt _ (by omega)) (by omega)
    refine jA<|kx [(10,(vl 135 1 jC (ofNat (val a / (b.getD 0 0))))),(11,(fU (val a % (b.getD 0 0))))] [] (zM<|zM<|zE (nA kE 0 (0:Nat))<|zE (mV qM)<|zE (kD (t_short a (b.getD 0 0) ha.1 (by omega) (by omega) (by omega)))<|zM<|zE vF<|zE vF<|zM<|zM<|zZ) ?_
    refine jA<|kx [(4,(vl 135 1 jC (ofNat (val a / (b.getD 0 0))))),(5,(vl 135 1 jC (ofNat (val a % (b.getD 0 0)))))] [] (zM<|zM<|zE (nR xW xM (val a % (b.getD 0 0)))<|zE (kD (t_split (val a % (b.getD 0 0)) (by omega)))<|zM<|zM<|zZ) ?_
    refine jG ⟨_,(.tmp (d:=(.sl 135 1 (List.map jC (ofNat (val a / (b.getD 0 0)))))) rfl (.tmp (d:=(.sl 135 1 (List.map jC (ofNat (val a % (b.getD 0 0)))))) rfl .nil)),?_⟩
    rw[hv1];rfl
   ·replace h4:=ne_of_beq_false h4
    have hbl:=val_pos_len hb0
    refine jD<|jA<|kx [(4,(vl 135 1 jC (ofNat (val a / val b)))),(5,(vl 135 1 jC (ofNat (val a % val b))))] [] (zM<|zM<|zE (kD (t_long a b ha hb (by omega) (cmpI_nn h1) (by omega)))<|zE vF<|zE vF<|zM<|zM<|zZ) ?_
    refine jG ⟨_,(.tmp (d:=(.sl 135 1 (List.map jC (ofNat (val a / val b))))) rfl (.tmp (d:=(.sl 135 1 (List.map jC (ofNat (val a % val b))))) rfl .nil)),?_⟩
    rfl
theorem t_divideI(x y:kR)(hx:x.gs.length<=1099511627776)(hy:y.gs.length<=1099511627776)(hy0:qB y≠0):jU Tryz.prog 87 [(jL x),(jL y)] (.tup [(jL (kG ((qB x).fdiv (qB y)))),(jL (kG ((qB x).fmod (qB y)))),(.val (.int .i64 (0)))]):=by
 have hgx:=kX x
 have hlx:=zV x
 have hgy:=kX y
 have hly:=zV y
 have hn:0<val (jQ y):=by have:=bD y;omega
 have hq:=len_quo (jQ x) hgx (val (jQ y))
 have hr:=len_rem (jQ x) hgx (val (jQ y))
 have hrn:=Nat.mod_lt (val (jQ x)) hn
 refine vD Tryz.func87 ?_
 refine jA<|kx [(2,(.ref 0 0)),(3,(.ref 1 0)),(4,(.ref 2 0)),(5,(.ref 3 0))] [(0,some (bx (jL x))),(1,some (bx (jL y))),(2,some (bx (jL (kR.mk false [])))),(3,some (bx (jL (kR.mk false []))))] (zN (yB 0)<|zN (yB 1)<|zN (vL 2 vY vZ)<|zN (vL 3 vY vZ)<|zM<|zZ) ?_
 refine jA<|kd [(7,(vl 135 1 jC (jQ x))),(8,(vl 135 1 jC (jQ y)))] [] mo (wR (qE jP)<|wE (kD (yJ x (by omega)))<|wR (qE jP)<|wE (kD (yJ y (by omega)))<|wM<|wM<|wZ) ?_
 refine jA<|jA<|kx [(17,(vb ((((jQ y).length:Nat):Int) == 0)))] [] (zM<|zE (vV kE (L:=(jQ y)))<|zE zW<|zZ) ?_
 refine jF (b:=((((jQ y).length:Nat):Int) == 0)) rfl (fun h1=>?_) (fun h1=>?_)
 ·replace h1:=eq_of_beq h1
  exact absurd (toZ_nil h1) hy0
 ·replace h1:=ne_of_beq_false h1
  refine jD<|jA<|kx [(9,(vl 135 1 jC (ofNat (val (jQ x) / val (jQ y))))),(10,(vl 135 1 jC (ofNat (val (jQ x) % val (jQ y)))))] [] (zM<|zM<|zE (kD (t_over (jQ x) (jQ y) hgx hgy (by omega) (by omega) (by omega)))<|zM<|zE vF<|zE vF<|zM<|zM<|zZ) ?_
  refine jA<|kx [(10,(vl 135 1 jC (ofNat (val (jQ x) % val (jQ y)))))] [] (zM<|zE (kD (t_clone (ofNat (val (jQ x) % val (jQ y))) (by omega)))<|zM<|zZ) ?_
  refine jA<|jA<|kx [(37,(vb (decide (0<(((ofNat (val (jQ x) % val (jQ y))).length:Nat):Int))&&!(x.neg == y.neg))))] [] ?_ ?_
  ·refine zM<|zE (vV kE (L:=(ofNat (val (jQ x) % val (jQ y)))))<|zE cC<|zE (oV (vb (decide (0<(((ofNat (val (jQ x) % val (jQ y))).length:Nat):Int)))) (kA (by kernel_rfl)))<|?_
   rcases hb2:(decide (0<(((ofNat (val (jQ x) % val (jQ y))).length:Nat):Int))) with _ | _
   ·replace hb2:=uZ hb2
    exact zK<|zK<|zK<|zK<|zK<|zE mJ<|zZ
   ·replace hb2:=uY hb2
    exact zE (jY vT)<|zR (jZ aH)<|zE (jY vT)<|zR (jZ aH)<|zE (oNb bo4)<|zE aC<|zZ
  refine jF rfl (fun h3=>?_) (fun h3=>?_)
  ·have e1:(ofNat (val (ofNat (val (jQ x) / val (jQ y)))+val [1])).length<=1099511627777:=qP (by rw[kI,nW];have:=ofNat_lt_pw (val (jQ x) / val (jQ y));have h3:pw (ofNat (val (jQ x) / val (jQ y))).length<=pw 1099511627776:=gD (by omega);have h4:=pw_lt (show 1099511627776<1099511627777 by decide);omega)
   have e2:=sub_len (b:=ofNat (val (jQ x) % val (jQ y))) hgy.1
   rw[Bool.and_eq_true,decide_eq_true_eq,Bool.not_eq_true',beq_eq_false_iff_ne] at h3
   obtain ⟨k1,k2⟩:=h3
   have k3:0<val (jQ x) % val (jQ y):=by have:=nS (kZ (val (jQ x) % val (jQ y))) (by omega);rwa [kI] at this
   obtain ⟨d1,d2⟩:=div_other hn k2 k3
   refine kx [(9,(vl 135 1 jC (ofNat (val (ofNat (val (jQ x) / val (jQ y)))+val [1])))),(10,(vl 135 1 jC (ofNat (val (jQ y)-val (ofNat (val (jQ x) % val (jQ y)))))))] [] (zM<|zE (eG kE uW xY)<|zE (kD (t_plus (ofNat (val (jQ x) / val (jQ y))) [1] (kB _) (xL.2 ⟨by decide,yF⟩) (by omega) (by decide)))<|zM<|zM<|zE (kD (t_minus (jQ y) (ofNat (val (jQ x) % val (jQ y))) hgy.1 (kB _) (by rw[kI];omega) (by omega)))<|zM<|zM<|zZ) ?_
   refine jA<|kd [(6,(jN 0))] [(2,some (bx (jL (xV (!(x.neg == y.neg)) (val (ofNat (val (ofNat (val (jQ x) / val (jQ y)))+val [1]))))))),(3,some (bx (jL (xV y.neg (val (ofNat (val (jQ y)-val (ofNat (val (jQ x) % val (jQ y))))))))))] mo (wE (jY vT)<|wR (jZ aH)<|wE (jY vT)<|wR (jZ aH)<|wE (oNb bo4)<|wM<|wE (kD (mT (!(x.neg == y.neg)) (ofNat (val (ofNat (val (jQ x) / val (jQ y)))+val [1])) (kB _) (by omega)))<|wE (jY vT)<|wR (jZ aH)<|wM<|wE (kD (mT y.neg (ofNat (val (jQ y)-val (ofNat (val (jQ x) % val (jQ y))))) (kB _) (by omega)))<|wT (qO jP)<|wT (qO jP)<|wM<|wZ) ?_
   refine jG ⟨_,(qK (cs:=(bx (jL (xV (!(x.neg == y.neg)) (val (ofNat (val (ofNat (val (jQ x) / val (jQ y)))+val [1]))))))) (d:=(jL (xV (!(x.neg == y.neg)) (val (ofNat (val (ofNat (val (jQ x) / val (jQ y)))+val [1])))))) rfl rfl jP rfl rfl (qK (cs:=(bx (jL (xV y.neg (val (ofNat (val (jQ y)-val (ofNat (val (jQ x) % val (jQ y)))))))))) (d:=(jL (xV y.neg (val (ofNat (val (jQ y)-val (ofNat (val (jQ x) % val (jQ y))))))))) rfl rfl jP rfl rfl (.tmp (d:=(.val (.int .i64 (0)))) rfl .nil))),?_⟩
   unfold qB
   rw[d1,d2]
   simp only[kI,nW]
   rfl
  ·obtain ⟨d1,d2⟩:=div_same (b:=x.neg) (c:=y.neg) (m:=val (jQ x)) hn (by rw[Bool.and_eq_false_iff,decide_eq_false_iff_not,Bool.not_eq_false',beq_iff_eq] at h3;rcases h3 with k | k;right;have:=fM (n:=val (jQ x) % val (jQ y));omega;exact .inl k)
   refine jD<|jA<|kd [(6,(jN 0))] [(2,some (bx (jL (xV (!(x.neg == y.neg)) (val (ofNat (val (jQ x) / val (jQ y)))))))),(3,some (bx (jL (xV y.neg (val (ofNat (val (jQ x) % val (jQ y))))))))] mo (wE (jY vT)<|wR (jZ aH)<|wE (jY vT)<|wR (jZ aH)<|wE (oNb bo4)<|wM<|wE (kD (mT (!(x.neg == y.neg)) (ofNat (val (jQ x) / val (jQ y))) (kB _) (by omega)))<|wE (jY vT)<|wR (jZ aH)<|wM<|wE (kD (mT y.neg (ofNat (val (jQ x) % val (jQ y))) (kB _) (by omega)))<|wT (qO jP)<|wT (qO jP)<|wM<|wZ) ?_
   refine jG ⟨_,(qK (cs:=(bx (jL (xV (!(x.neg == y.neg)) (val (ofNat (val (jQ x) / val (jQ y)))))))) (d:=(jL (xV (!(x.neg == y.neg)) (val (ofNat (val (jQ x) / val (jQ y))))))) rfl rfl jP rfl rfl (qK (cs:=(bx (jL (xV y.neg (val (ofNat (val (jQ x) % val (jQ y)))))))) (d:=(jL (xV y.neg (val (ofNat (val (jQ x) % val (jQ y))))))) rfl rfl jP rfl rfl (.tmp (d:=(.val (.int .i64 (0)))) rfl .nil))),?_⟩
   unfold qB
   rw[d1,d2]
   simp only[kI]
   rfl
theorem t_gcdI(x y:kR)(hx:x.gs.length<=1099511627776)(hy:y.gs.length<=1099511627776):jU Tryz.prog 85 [(jL x),(jL y)] (jL (kG ((Int.gcd (qB x) (qB y):Nat):Int))):=by
 have hgx:=kX x
 have hlx:=zV x
 have hgy:=kX y
 have hly:=zV y
 refine vD Tryz.func85 ?_
 refine jA<|kx [(2,(.ref 0 0)),(3,(.ref 1 0)),(4,(.ref 2 0))] [(0,some (bx (jL x))),(1,some (bx (jL y))),(2,some (bx (jL (kR.mk false []))))] (zN (yB 0)<|zN (yB 1)<|zN (vL 2 vY vZ)<|zZ) ?_
 refine jA<|kd [(5,(vl 135 1 jC (jQ x))),(6,(vl 135 1 jC (jQ y)))] [] mo (wR (qE jP)<|wE (kD (yJ x (by omega)))<|wR (qE jP)<|wE (kD (yJ y (by omega)))<|wM<|wM<|wZ) ?_
 refine jA<|jH<|kF (α:=List Nat × List Nat) (fun (a,b)=>⟨[(4,(.ref 2 0)),(5,(vl 135 1 jC a)),(6,(vl 135 1 jC b))],[(2,some (bx (jL (kR.mk false []))))]⟩) (fun (a,b)=>yA a/\yA b/\a.length<=1099511627776/\b.length<=1099511627776/\Nat.gcd (val a) (val b)=Int.gcd (qB x) (qB y)) (fun (a,b)=>val b) (jQ x,jQ y) wk ⟨hgx,hgy,by omega,by omega,gcd_toZ x y⟩ ?_
 rintro ⟨a,b⟩ ⟨ha,hb,hla,hlb,hg⟩
 refine jA<|jA<|kx [(19,(vb (decide (0<((b.length:Nat):Int)))))] [] (zM<|zE (vV kE)<|zE cC<|zZ) ?_
 refine jF (b:=decide (0<((b.length:Nat):Int))) rfl (fun h1=>?_) (fun h1=>?_)
 ·replace h1:=uY h1
  have hb0:=nS hb (by omega)
  refine jD<|jH<|jA<|kx [(7,(yH (xE a))),(8,(vb (nD a)))] [] (zM<|zE (kD (t_word a ha.1))<|zM<|zE vF<|zE vF<|zM<|zM<|zZ) ?_
  refine jA<|kx [(9,(yH (xE b))),(10,(vb (nD b)))] [] (zM<|zE (kD (t_word b hb.1))<|zM<|zE vF<|zE vF<|zM<|zM<|zZ) ?_
  refine jA<|jA<|kx [(33,(vb ((nD a)&&(nD b))))] [] ?_ ?_
  ·refine zM<|zE (oV (vb (nD a)) (kA (by kernel_rfl)))<|?_
   rcases hb2:(nD a) with _ | _
   ·exact zK<|zE mJ<|zZ
   ·exact zM<|zE aC<|zZ
  refine jF (b:=((nD a)&&(nD b))) rfl (fun h3=>?_) (fun h3=>?_)
  ·obtain ⟨w1,w2,w3⟩:=word_both ha.1 h3
   have w4:val b<1000000000000000000:=by rw[Bool.and_eq_true] at h3;exact val_len2 hb.1 (uY h3.2)
   refine jA<|jH<|kF (α:=Nat × Nat) (fun (m,n)=>⟨[(4,(.ref 2 0)),(7,(yH m)),(9,(yH n))],[(2,some (bx (jL (kR.mk false []))))]⟩) (fun (m,n)=>m<1000000000000000000/\n<1000000000000000000/\Nat.gcd m n=Int.gcd (qB x) (qB y)) (fun (m,n)=>n) (xE a,xE b) wk ⟨by omega,by omega,by rw[w1,w2];exact hg⟩ ?_
   rintro ⟨m,n⟩ ⟨hm,hn,hg2⟩
   refine jA<|jA<|kx [(35,(vb (decide (0<((n:Nat):Int)))))] [] (zM<|zE cC<|zZ) ?_
   refine jF (b:=decide (0<((n:Nat):Int))) rfl (fun h4=>?_) (fun h4=>?_)
   ·replace h4:=uY h4
    refine jD<|jH<|kd [(7,(yH n)),(9,(yH (m % n)))] [] mo (wM<|wM<|wM<|wE (oRe (m % n))<|wM<|wM<|wZ) ?_
    exact ⟨(n,m % n),wk,⟨hn,Nat.lt_of_le_of_lt (Nat.mod_le _ _) hm,by rw[<- hg2,Nat.gcd_comm,<- Nat.gcd_rec,Nat.gcd_comm]⟩,(by dsimp only;exact Nat.mod_lt _ (by omega))⟩
   ·replace h4:=uZ h4
    obtain rfl:n=0:=by omega
    rw[Nat.gcd_zero_right] at hg2
    refine jS<|jA<|kx [] [(2,some (bx (jL (xV false (val (ofNat m))))))] (zM<|zE (kD (t_split m (by omega)))<|zE (kD (mT false (ofNat m) (kB _) (Nat.le_trans (dX (by omega)) (by decide))))<|zT (qO jP)<|zZ) ?_
    refine jG ⟨_,(qK (cs:=(bx (jL (xV false (val (ofNat m)))))) (d:=(jL (xV false (val (ofNat m))))) rfl rfl jP rfl rfl .nil),?_⟩
    rw[<- hg2,kI,mkI_false];rfl
  ·refine jD<|jA<|kx [(12,(vl 135 1 jC (ofNat (val a % val b))))] [] (zM<|zM<|zE (kD (t_over a b ha hb hb0 (by omega) (by omega)))<|zM<|zE vF<|zE vF<|zM<|zM<|zZ) ?_
   refine kx [(5,(vl 135 1 jC b)),(6,(vl 135 1 jC (ofNat (val a % val b))))] [] (zM<|zM<|zM<|zM<|zZ) ?_
   exact ⟨(b,ofNat (val a % val b)),wk,⟨hb,kZ _,hlb,Nat.le_trans (len_rem a ha _) hla,by rw[kI,<- hg,Nat.gcd_comm,<- Nat.gcd_rec,Nat.gcd_comm]⟩,(by dsimp only;rw[kI];exact Nat.mod_lt _ hb0)⟩
 ·replace h1:=uZ h1
  have hb1:b=[]:=List.eq_nil_of_length_eq_zero (by omega)
  rw[hb1,val_nil,Nat.gcd_zero_right] at hg
  refine jS<|jA<|kx [] [(2,some (bx (jL (xV false (val a)))))] (zM<|zE (kD (t_clone a (by omega)))<|zE (kD (mT false a ha.1 (by omega)))<|zT (qO jP)<|zZ) ?_
  refine jG ⟨_,(qK (cs:=(bx (jL (xV false (val a))))) (d:=(jL (xV false (val a)))) rfl rfl jP rfl rfl .nil),?_⟩
  rw[<- hg,mkI_false];rfl
end Go.Proofs.YtciingpdmjepgaaGreat
