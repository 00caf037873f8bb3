/- Part 15 of a proof: rules, plain facts, and functions walked. -/
import Derived.Test.YtciingpdmjepgabGreatDoorM14
set_option linter.all false
set_option maxRecDepth 4000
namespace Go.Proofs.YtciingpdmjepgabGreatDoor
open Go.Fid
theorem in2:intB Tryz.prog 2=some .i64:=by kernel_rfl
theorem un2:(Tryz.prog.underlying 2).isSome=true:=by kernel_rfl
set_option maxHeartbeats 4000000 in
theorem t_long(a b:List Nat)(hda:zJ a)(hdb:zJ b)(hb2:2<=b.length)(hba:val b<=val a)(hla:a.length<=35184372087816):jW Tryz.prog 127 [(.sl 74 1 (List.map jC a)),(.sl 74 1 (List.map jC b))] (.tup [(.sl 74 1 (List.map jC (ofNat (val a / val b)))),(.sl 74 1 (List.map jC (ofNat (val a % val b))))]):=by
 have hab:=len_of_le hda hdb hba
 have hsc:=aC hdb (by omega)
 have htp:=bN hdb (by omega)
 have hds:Dig [cB b]:=xS.2 ⟨by omega,yA⟩
 have hbp:0<val b:=by have:=val_top hdb.1 (by omega);have h2:=Nat.mul_le_mul_right (pw (b.length-1)) htp.1;have h3:=pw_pos (b.length-1);rw[Nat.succ_mul] at h2;omega
 obtain ⟨u0,hue⟩:∃ u0,u0=ofNat (val a*val [cB b]):=⟨_,rfl⟩
 obtain ⟨v,hve⟩:∃ v,v=ofNat (val b*val [cB b]):=⟨_,rfl⟩
 have hu0:Dig u0:=by rw[hue];exact kB _
 have hvd:Dig v:=by rw[hve];exact kB _
 have hvl:v.length=b.length:=by rw[hve,mX];exact scl_len hdb (by omega)
 have hvv:val v=val b*cB b:=by rw[hve,mX];exact jZ _
 have hu0v:val u0=val a*cB b:=by rw[hue,mX];exact jZ _
 have hu0l:a.length<=u0.length/\u0.length<=a.length+1:=by rw[hue,mX];exact scl_lenA hda hdb (by omega)
 have hLU:(u0++[0]).length=u0.length+1:=by simp
 have hcv:zJ v:=by rw[hve];exact kX _
 have hv1p:0<v.getD (b.length-1) 0:=by rw[<- hvl];exact (bN hcv (by omega)).1
 have hpv:pw (b.length-1)<=val v:=by have h1:=val_top hvd (by omega);rw[hvl] at h1;have h2:=Nat.mul_le_mul_right (pw (b.length-1)) hv1p;omega
 refine uW Tryz.func127 ?_
 refine jB<|kx [] [] (zE (oNl 74 1)<|zE (oNl 74 1)<|zZ) ?_
 refine jB<|kx [(6,(aH (cB b)))] [] (zM<|zM<|zE (zV kC)<|zE (oSb (b.length-1))<|zE (dS kC (b.length-1) (0:Nat))<|zE (gJ uK)<|zE (hC gZ gY (b.getD (b.length-1) 0))<|zE (vD ((b.getD (b.length-1) 0)+1))<|zE (oQu (cB b) (hr:=by exact (quo_u64 1000000000 (b.getD (b.length-1) 0+1))))<|zE (hC cY cA (cB b))<|zM<|zZ) ?_
 refine jB<|kx [(7,(.own 0 74 1 u0.length))] [(0,some (bm jC u0))] (zM<|zM<|zE (dM kC xW hM)<|zN (oCo 0 (hue▸o_times a [cB b] hda.1 hds (by simp only[List.length_cons,List.length_nil];omega) (by simp) (by rw[mX];exact Nat.mul_pos (by omega) hsc.1)))<|zM<|zZ) ?_
 refine jB<|kx [(8,(vl 74 1 jC v))] [] (zM<|zM<|zE (dM kC xW hM)<|zE (kH (hve▸t_times b [cB b] hdb.1 hds (by simp only[List.length_cons,List.length_nil];omega) (by simp)))<|zM<|zZ) ?_
 refine jB<|kx [(9,(jS b.length))] [] (zM<|zE (oLn kC b.length (hr:=by exact (by simp [hvl])))<|zM<|zZ) ?_
 refine jB<|kf [(7,(.own 0 74 1 ((u0++[0]).length)))] [(0,some (bm jC (u0++[0])))] (zM<|zE (dM kC xW hM)<|zA jC u0 [0] rfl kC xW dT<|zM<|zF) ?_
 refine jB<|jB<|kx [(50,(vb (decide ((((u0++[0]).length:Nat):Int)<=((a.length:Nat):Int)))))] [] (zM<|zE (oLo kC)<|zM<|zE (zV kC)<|zE oLe<|zZ) ?_
 refine jH rfl (fun h1=>?_) (fun h1=>?_)
 ·replace h1:=xF h1
  exfalso;simp at h1;omega
 ·replace h1:=xH h1
  refine jF<|jB<|kx [(4,(.own 1 74 1 ((u0++[0]).length-b.length)))] [(1,some (bm jC (List.replicate ((u0++[0]).length-b.length) 0)))] (zM<|zE (oLo kC)<|zM<|zE (oSb ((u0++[0]).length-b.length))<|zH (oMk 1 jC (0:Nat) ((u0++[0]).length-b.length) ((u0++[0]).length-b.length) kC xW hM dT)<|zM<|zZ) ?_
  refine jB<|jB<|kx [(10,(vi ((((u0++[0]).length-b.length:Nat):Int)-1)))] [] (zM<|zE (oLo kC)<|zM<|zE (oSb ((u0++[0]).length-b.length))<|zE (zSb ((((u0++[0]).length-b.length:Nat):Int)-1))<|zM<|zZ) ?_
  refine jG<|kU (α:=Nat × List Nat × List Nat) (fun (k,u,q)=>⟨[(4,(.own 1 74 1 ((u0++[0]).length-b.length))),(6,(aH (cB b))),(7,(.own 0 74 1 ((u0++[0]).length))),(8,(vl 74 1 jC v)),(9,(jS b.length)),(10,(vi (((k:Nat):Int)-1)))],[(0,some (bm jC u)),(1,some (bm jC q))]⟩) (fun (k,u,q)=>u.length=(u0++[0]).length/\Dig u/\q.length=(u0++[0]).length-b.length/\Dig q/\k<=(u0++[0]).length-b.length/\val u+val v*(pw k*val (q.drop k))=val a*cB b/\val (u.drop k)<val v) (fun (k,u,q)=>k) ((u0++[0]).length-b.length,u0++[0],List.replicate ((u0++[0]).length-b.length) 0) wk ⟨rfl,bB.2 ⟨hu0,xS.2 ⟨by decide,yA⟩⟩,by simp,vY _,Nat.le_refl _,by simp [cK,val,hu0v],by have:=long_start hu0 hvl hb2 (by omega) hpv;rw[hLU];exact this⟩ ?_
  rintro ⟨k,u,q⟩ ⟨qL,hu,hql,hqd,hk,hU,hW⟩
  refine jB<|jB<|kx [(65,(vb (decide (0<=(((k:Nat):Int)-1)))))] [] (zM<|zE oGe<|zZ) ?_
  refine jH (b:=decide (0<=(((k:Nat):Int)-1))) rfl (fun h2=>?_) (fun h2=>?_)
  ·replace h2:=xF h2
   obtain ⟨j,rfl⟩:∃ j,k=j+1:=⟨k-1,by omega⟩
   rw[show (((j+1:Nat):Int)-1)=((j:Nat):Int) from by omega]
   have hg1:=hu.getD (j+b.length)
   have hg2:=hu.getD (j+b.length-1)
   have hg3:=hu.getD (j+b.length-2)
   have hg4:=hvd.getD (b.length-1)
   have hg5:=hvd.getD (b.length-2)
   obtain ⟨z1,z2,z3,z4,z5,z6⟩:=window_tops hu hvd hvl hb2 hW
   obtain ⟨hwz,hww⟩:=window hvd hvl hW
   refine jF<|jB<|jG<|jB<|kd [(10,(jS j)),(11,(zP (((u.getD (j+b.length) 0)*1000000000)+(u.getD ((j+b.length)-1) 0))))] [] mo (wM<|wM<|wM<|wE (vD (j+b.length))<|wR ⟨(bm jC u),e_clo (t_at u (j+b.length)) (by exact rfl) (by exact rfl) (by exact rfl) (.o (.d .nil)) (uM jC u (fun _=>rfl)) (uD _ _ qL) (vE _ _ (fun _=>rfl) qL),by kernel_rfl⟩<|wE (hC gZ gY (u.getD (j+b.length) 0))<|wE (oMl ((u.getD (j+b.length) 0)*1000000000))<|wM<|wM<|wM<|wE (vD (j+b.length))<|wE (oSb ((j+b.length)-1))<|wE (aJ kC ((j+b.length)-1))<|wR (oLp uK ((j+b.length)-1) (0:Nat))<|wE (hC gZ gY (u.getD ((j+b.length)-1) 0))<|wE (vD (((u.getD (j+b.length) 0)*1000000000)+(u.getD ((j+b.length)-1) 0)))<|wM<|wZ) ?_
   refine jB<|kd [(12,(zP ((((u.getD (j+b.length) 0)*1000000000)+(u.getD ((j+b.length)-1) 0)) / (v.getD (b.length-1) 0)))),(13,(zP ((((u.getD (j+b.length) 0)*1000000000)+(u.getD ((j+b.length)-1) 0)) % (v.getD (b.length-1) 0))))] [] mo (wM<|wM<|wM<|wE (oSb (b.length-1))<|wE (dS kC (b.length-1) (0:Nat))<|wE (gJ uK)<|wE (hC gZ gY (v.getD (b.length-1) 0))<|wE (oQu ((((u.getD (j+b.length) 0)*1000000000)+(u.getD ((j+b.length)-1) 0)) / (v.getD (b.length-1) 0)))<|wM<|wM<|wM<|wE (oSb (b.length-1))<|wE (dS kC (b.length-1) (0:Nat))<|wE (gJ uK)<|wE (hC gZ gY (v.getD (b.length-1) 0))<|wE (oRe ((((u.getD (j+b.length) 0)*1000000000)+(u.getD ((j+b.length)-1) 0)) % (v.getD (b.length-1) 0)))<|wM<|wM<|wZ) ?_
   refine pwp_seqjoin (α:=Nat × Nat) (fun (G,R)=>⟨[(4,(.own 1 74 1 ((u0++[0]).length-b.length))),(6,(aH (cB b))),(7,(.own 0 74 1 ((u0++[0]).length))),(8,(vl 74 1 jC v)),(9,(jS b.length)),(10,(jS j)),(12,(zP G))],[(0,some (bm jC u)),(1,some (bm jC q))]⟩) (fun (G,R)=>G<1000000000/\val (u.drop j) / val v<=G/\G<=val (u.drop j) / val v+1) ?_ ?_
   ·refine kU (α:=Nat × Nat) (fun (G,R)=>⟨[(4,(.own 1 74 1 ((u0++[0]).length-b.length))),(6,(aH (cB b))),(7,(.own 0 74 1 ((u0++[0]).length))),(8,(vl 74 1 jC v)),(9,(jS b.length)),(10,(jS j)),(12,(zP G)),(13,(zP R))],[(0,some (bm jC u)),(1,some (bm jC q))]⟩) (fun (G,R)=>G*(v.getD (b.length-1) 0)+R=(u.getD (j+b.length) 0*1000000000+u.getD (j+b.length-1) 0)/\val (u.drop j) / val v<=G/\R<1000000000/\G<=1999999999) (fun (G,R)=>G) ((u.getD (j+b.length) 0*1000000000+u.getD (j+b.length-1) 0) / v.getD (b.length-1) 0,(u.getD (j+b.length) 0*1000000000+u.getD (j+b.length-1) 0) % v.getD (b.length-1) 0) wk ⟨by rw[Nat.mul_comm];exact Nat.div_add_mod _ _,guess_first0 z5 z4 hv1p hg3,Nat.lt_trans (Nat.mod_lt _ hv1p) hg4,guess_top hv1p z1 hg2⟩ ?_
    rintro ⟨G,R⟩ ⟨hG0,hG1,hR,hGb⟩
    have hpq:G*v.getD (b.length-2) 0<=1999999999*999999999:=Nat.mul_le_mul hGb (by omega)
    refine jB<|jB<|kd [(123,(vb (decide (1000000000<=((G:Nat):Int))||decide (((((R*1000000000)+(u.getD ((j+b.length)-2) 0)):Nat):Int)<(((G*(v.getD (b.length-2) 0)):Nat):Int)))))] [] mo ?_ ?_
    ·refine wM<|wE oGe<|wE (oV (vb (decide (1000000000<=((G:Nat):Int)))) (qF (by kernel_rfl)))<|?_
     rcases hb3:(decide (1000000000<=((G:Nat):Int))) with _ | _
     ·replace hb3:=xH hb3
      exact wM<|wM<|wM<|wE (oSb (b.length-2))<|wE (dS kC (b.length-2) (0:Nat))<|wE (gJ uK)<|wE (hC gZ gY (v.getD (b.length-2) 0))<|wE (oMl (G*(v.getD (b.length-2) 0)))<|wM<|wE (oMl (R*1000000000))<|wM<|wM<|wM<|wE (vD (j+b.length))<|wE (oSb ((j+b.length)-2))<|wE (aJ kC ((j+b.length)-2))<|wR (oLp uK ((j+b.length)-2) (0:Nat))<|wE (hC gZ gY (u.getD ((j+b.length)-2) 0))<|wE (vD ((R*1000000000)+(u.getD ((j+b.length)-2) 0)))<|wE mB<|wE aG<|wZ
     ·replace hb3:=xF hb3
      exact wK<|wK<|wK<|wK<|wK<|wK<|wK<|wK<|wK<|wK<|wK<|wK<|wK<|wK<|wK<|wK<|wK<|wK<|wK<|wK<|wE yT<|wZ
    refine jH rfl (fun h4=>?_) (fun h4=>?_)
    ·rw[Bool.or_eq_true,decide_eq_true_eq,decide_eq_true_eq] at h4
     have hgl:=guess_less (pw_pos _) z5 z4 hG0 hG1 hv1p z2 (by omega)
     refine jF<|jG<|jB<|kx [(12,(zP (G-1)))] [] (zM<|zE (oSb (G-1))<|zM<|zZ) ?_
     refine jB<|kx [(13,(zP (R+(v.getD (b.length-1) 0))))] [] (zM<|zM<|zM<|zE (oSb (b.length-1))<|zE (dS kC (b.length-1) (0:Nat))<|zE (gJ uK)<|zE (hC gZ gY (v.getD (b.length-1) 0))<|zE (vD (R+(v.getD (b.length-1) 0)))<|zM<|zZ) ?_
     refine jB<|kx [(135,(vb (decide (1000000000<=(((R+(v.getD (b.length-1) 0)):Nat):Int)))))] [] (zM<|zE oGe<|zZ) ?_
     refine jH rfl (fun h5=>?_) (fun h5=>?_)
     ·replace h5:=xF h5
      refine kK ?_
      refine pjoin_exit (id:=2) (α:=Nat × Nat) (Q:=fun _ _=>True) (St:=fun (G,R)=>⟨[(4,(.own 1 74 1 ((u0++[0]).length-b.length))),(6,(aH (cB b))),(7,(.own 0 74 1 ((u0++[0]).length))),(8,(vl 74 1 jC v)),(9,(jS b.length)),(10,(jS j)),(12,(zP G))],[(0,some (bm jC u)),(1,some (bm jC q))]⟩) (I:=fun (G,R)=>G<1000000000/\val (u.drop j) / val v<=G/\G<=val (u.drop j) / val v+1) ?_
      exact ⟨(G-1,R+v.getD (b.length-1) 0),wk,(by have hd:=guess_dec hgl.2 hG0;have hgb:=guess_break hd z1 hg2 (by omega);exact ⟨hgb,hgl.1,guess_near z6 z3 hd hv1p (by omega) hgb (Nat.le_trans (Nat.mul_le_mul (show G-1<=999999999 by omega) (show v.getD (b.length-2) 0<=999999999 by omega)) (by omega))⟩)⟩
     ·replace h5:=xH h5
      refine jF ?_
      exact ⟨(G-1,R+v.getD (b.length-1) 0),wk,(by exact ⟨guess_dec hgl.2 hG0,hgl.1,by omega,by omega⟩),(by first|omega|(dsimp only;omega))⟩
    ·refine kK ?_
     refine pjoin_exit (id:=2) (α:=Nat × Nat) (Q:=fun _ _=>True) (St:=fun (G,R)=>⟨[(4,(.own 1 74 1 ((u0++[0]).length-b.length))),(6,(aH (cB b))),(7,(.own 0 74 1 ((u0++[0]).length))),(8,(vl 74 1 jC v)),(9,(jS b.length)),(10,(jS j)),(12,(zP G))],[(0,some (bm jC u)),(1,some (bm jC q))]⟩) (I:=fun (G,R)=>G<1000000000/\val (u.drop j) / val v<=G/\G<=val (u.drop j) / val v+1) ?_
     exact ⟨(G,R),wk,(by rw[Bool.or_eq_false_iff,decide_eq_false_iff_not,decide_eq_false_iff_not] at h4;exact ⟨by omega,hG1,guess_near z6 z3 hG0 hv1p (by omega) (by omega) (by omega)⟩)⟩
   ·rintro ⟨G,R⟩ ⟨hG,hG1,hG2⟩
    have hjn:j+b.length<(u0++[0]).length:=by omega
    refine jB<|kx [(14,(jS 0)),(15,(zP 0))] [] (zM<|zM<|zZ) ?_
    refine jB<|jB<|kx [(136,(jS b.length)),(137,(jS 0))] [] (zM<|zM<|zZ) ?_
    refine jG<|kU (α:=Nat × List Nat × Nat × Nat) (fun (i,u2,bo,ca)=>⟨[(4,(.own 1 74 1 ((u0++[0]).length-b.length))),(6,(aH (cB b))),(7,(.own 0 74 1 ((u0++[0]).length))),(8,(vl 74 1 jC v)),(9,(jS b.length)),(10,(jS j)),(12,(zP G)),(14,(vi ((bo:Nat):Int))),(15,(zP ca)),(136,(jS b.length)),(137,(jS i))],[(0,some (bm jC u2)),(1,some (bm jC q))]⟩) (fun (i,u2,bo,ca)=>u2.length=(u0++[0]).length/\Dig u2/\u2.take j=u.take j/\u2.drop (j+i)=u.drop (j+i)/\i<=b.length/\bo<=1/\ca<1000000000/\val ((u2.drop j).take i)+G*val (v.take i)=val ((u.drop j).take i)+pw i*(ca+bo)) (fun (i,u2,bo,ca)=>b.length-i) (0,u,0,0) wk ⟨qL,hu,rfl,rfl,Nat.zero_le _,Nat.zero_le _,by decide,by simp [val]⟩ ?_
    rintro ⟨i,u2,bo,ca⟩ ⟨hl2,hd2,ht2,hd2',hin,hbo,hca,hv2⟩
    have hgi:=hvd.getD i
    have hgu:=hd2.getD (i+j)
    have hpq:G*v.getD i 0<=999999999*999999999:=Nat.mul_le_mul (by omega) (by omega)
    refine jB<|kx [(138,(vb (decide (((i:Nat):Int)<((b.length:Nat):Int)))))] [] (zE xO<|zZ) ?_
    refine jB<|jH rfl (fun h6=>?_) (fun h6=>?_)
    ·replace h6:=xF h6
     have hi:i<b.length:=by omega
     refine jF<|jB<|jG<|jB<|kx [(16,(jS i))] [] (zM<|zM<|zZ) ?_
     refine jB<|kx [(17,(zP ((G*(v.getD i 0))+ca)))] [] (zM<|zM<|zM<|zE (dS kC i (0:Nat))<|zE (gJ uK)<|zE (hC gZ gY (v.getD i 0))<|zE (oMl (G*(v.getD i 0)))<|zM<|zE (vD ((G*(v.getD i 0))+ca))<|zM<|zZ) ?_
     refine jB<|kx [(15,(zP (((G*(v.getD i 0))+ca) / 1000000000)))] [] (zM<|zE (oQu (((G*(v.getD i 0))+ca) / 1000000000))<|zM<|zZ) ?_
     refine jB<|kx [(18,(vi (((((u2.getD (i+j) 0):Nat):Int)-((bo:Nat):Int))-(((((G*(v.getD i 0))+ca) % 1000000000):Nat):Int))))] [] (zM<|zM<|zM<|zE (vD (i+j))<|zE (aJ kC (i+j))<|zR (oLp uK (i+j) (0:Nat))<|zE (hC gZ in2 (u2.getD (i+j) 0))<|zM<|zE (zSb ((((u2.getD (i+j) 0):Nat):Int)-((bo:Nat):Int)))<|zM<|zE (oRe (((G*(v.getD i 0))+ca) % 1000000000))<|zE (hC cY in2 (((G*(v.getD i 0))+ca) % 1000000000))<|zE (zSb (((((u2.getD (i+j) 0):Nat):Int)-((bo:Nat):Int))-(((((G*(v.getD i 0))+ca) % 1000000000):Nat):Int)))<|zM<|zZ) ?_
     refine jB<|kx [(14,(jS 0))] [] (zM<|zZ) ?_
     refine jB<|jB<|kx [(165,(vb (decide ((((((u2.getD (i+j) 0):Nat):Int)-((bo:Nat):Int))-(((((G*(v.getD i 0))+ca) % 1000000000):Nat):Int))<0))))] [] (zM<|zE xO<|zZ) ?_
     refine jH rfl (fun h7=>?_) (fun h7=>?_)
     ·replace h7:=xF h7
      refine kx [(14,(jS 1)),(18,(vi ((((((u2.getD (i+j) 0):Nat):Int)-((bo:Nat):Int))-(((((G*(v.getD i 0))+ca) % 1000000000):Nat):Int))+1000000000)))] [] (zM<|zE (zAd ((((((u2.getD (i+j) 0):Nat):Int)-((bo:Nat):Int))-(((((G*(v.getD i 0))+ca) % 1000000000):Nat):Int))+1000000000))<|zM<|zM<|zZ) ?_
      refine kx [] [(0,some (bm jC (u2.set (i+j) ((u2.getD (i+j) 0+1000000000)-bo-(G*v.getD i 0+ca) % 1000000000))))] (zM<|zM<|zM<|zE (vD (i+j))<|zM<|zE (hC un2 cA ((u2.getD (i+j) 0+1000000000)-bo-(G*v.getD i 0+ca) % 1000000000) (hr:=by exact (wu32 (by omega) (by omega) (by omega))))<|zE (aJ kC (i+j))<|zT (oSp uK (i+j) ((u2.getD (i+j) 0+1000000000)-bo-(G*v.getD i 0+ca) % 1000000000))<|zZ) ?_
      refine kx [(137,(jS (i+1)))] [] (zE (vD (i+1))<|zM<|zZ) ?_
      exact ⟨(i+1,u2.set (i+j) ((u2.getD (i+j) 0+1000000000)-bo-(G*v.getD i 0+ca) % 1000000000),1,(G*v.getD i 0+ca) / 1000000000),wk,(by obtain ⟨q1,q2,q3,q4,q5⟩:=msub_step (v:=v) (L:=(u0++[0]).length) (e:=(u2.getD (i+j) 0+1000000000)-bo-(G*v.getD i 0+ca) % 1000000000) (borrow':=1) hjn hi hl2 qL hd2 ht2 hd2' hv2 rfl (by omega) (by omega);exact ⟨q1,q2,q3,q4,by omega,by omega,by omega,q5⟩),(by first|omega|(dsimp only;omega))⟩
     ·replace h7:=xH h7
      refine jF<|kx [] [(0,some (bm jC (u2.set (i+j) (u2.getD (i+j) 0-bo-(G*v.getD i 0+ca) % 1000000000))))] (zM<|zM<|zM<|zE (vD (i+j))<|zM<|zE (hC un2 cA (u2.getD (i+j) 0-bo-(G*v.getD i 0+ca) % 1000000000) (hr:=by exact (wu32 (by omega) (by omega) (by omega))))<|zE (aJ kC (i+j))<|zT (oSp uK (i+j) (u2.getD (i+j) 0-bo-(G*v.getD i 0+ca) % 1000000000))<|zZ) ?_
      refine kx [(137,(jS (i+1)))] [] (zE (vD (i+1))<|zM<|zZ) ?_
      exact ⟨(i+1,u2.set (i+j) (u2.getD (i+j) 0-bo-(G*v.getD i 0+ca) % 1000000000),0,(G*v.getD i 0+ca) / 1000000000),wk,(by obtain ⟨q1,q2,q3,q4,q5⟩:=msub_step (v:=v) (L:=(u0++[0]).length) (e:=u2.getD (i+j) 0-bo-(G*v.getD i 0+ca) % 1000000000) (borrow':=0) hjn hi hl2 qL hd2 ht2 hd2' hv2 rfl (by omega) (by omega);exact ⟨q1,q2,q3,q4,by omega,by omega,by omega,q5⟩),(by first|omega|(dsimp only;omega))⟩
    ·replace h6:=xH h6
     have hie:i=b.length:=by omega
     rw[hie] at hd2' hv2 hin
     obtain ⟨m1,m2,m3⟩:=msub_end hu hd2 hvd hvl hW hG1 hG2 hd2' hv2
     refine kK<|jB<|kx [(19,(vi (((((u2.getD (j+b.length) 0):Nat):Int)-((bo:Nat):Int))-((ca:Nat):Int))))] [] (zM<|zM<|zM<|zE (vD (j+b.length))<|zE (aJ kC (j+b.length))<|zR (oLp uK (j+b.length) (0:Nat))<|zE (hC gZ in2 (u2.getD (j+b.length) 0))<|zM<|zE (zSb ((((u2.getD (j+b.length) 0):Nat):Int)-((bo:Nat):Int)))<|zM<|zE (hC cY in2 ca)<|zE (zSb (((((u2.getD (j+b.length) 0):Nat):Int)-((bo:Nat):Int))-((ca:Nat):Int)))<|zM<|zZ) ?_
     refine jB<|jB<|kx [(189,(vb (decide ((((((u2.getD (j+b.length) 0):Nat):Int)-((bo:Nat):Int))-((ca:Nat):Int))<0))))] [] (zM<|zE xO<|zZ) ?_
     refine jH rfl (fun h8=>?_) (fun h8=>?_)
     ·replace h8:=xF h8
      obtain ⟨n1,n2,r,n3,n4,n5⟩:=m2 (by omega)
      refine jB<|kx [] [(0,some (bm jC (u2.set (j+b.length) 999999999)))] (zM<|zM<|zM<|zE (vD (j+b.length))<|zM<|zE (zAd ((((((u2.getD (j+b.length) 0):Nat):Int)-((bo:Nat):Int))-((ca:Nat):Int))+1000000000))<|zE (hC un2 cA 999999999 (hr:=by exact (wu32 (by omega) (by omega) (by omega))))<|zE (aJ kC (j+b.length))<|zT (oSp uK (j+b.length) 999999999)<|zZ) ?_
      refine jB<|kx [(12,(zP (G-1)))] [] (zM<|zE (oSb (G-1))<|zM<|zZ) ?_
      refine jB<|kx [(20,(aH 0))] [] (zM<|zZ) ?_
      refine jB<|jB<|kx [(200,(jS b.length)),(201,(jS 0))] [] (zM<|zM<|zZ) ?_
      refine jG<|kU (α:=Nat × List Nat × Nat) (fun (i,u3,c)=>⟨[(4,(.own 1 74 1 ((u0++[0]).length-b.length))),(6,(aH (cB b))),(7,(.own 0 74 1 ((u0++[0]).length))),(8,(vl 74 1 jC v)),(9,(jS b.length)),(10,(jS j)),(12,(zP (G-1))),(20,(aH c)),(200,(jS b.length)),(201,(jS i))],[(0,some (bm jC u3)),(1,some (bm jC q))]⟩) (fun (i,u3,c)=>u3.length=(u0++[0]).length/\Dig u3/\u3.take j=(u2.set (j+b.length) 999999999).take j/\u3.drop (j+i)=(u2.set (j+b.length) 999999999).drop (j+i)/\i<=b.length/\c<=1/\val ((u3.drop j).take i)+pw i*c=val (((u2.set (j+b.length) 999999999).drop j).take i)+val (v.take i)) (fun (i,u3,c)=>b.length-i) (0,u2.set (j+b.length) 999999999,0) wk ⟨by simpa using hl2,hd2.set _ (by decide),rfl,rfl,Nat.zero_le _,Nat.zero_le _,by simp [val]⟩ ?_
      rintro ⟨i,u3,c⟩ ⟨hl3,hd3,ht3,hd3',hin,hc,hv3⟩
      have hgi:=hvd.getD i
      have hgu:=hd3.getD (i+j)
      have hgt:=hd3.getD (j+b.length)
      refine jB<|kx [(202,(vb (decide (((i:Nat):Int)<((b.length:Nat):Int)))))] [] (zE xO<|zZ) ?_
      refine jB<|jH rfl (fun h9=>?_) (fun h9=>?_)
      ·replace h9:=xF h9
       have hi:i<b.length:=by omega
       refine jF<|jB<|jG<|jB<|kx [(21,(jS i))] [] (zM<|zM<|zZ) ?_
       refine jB<|kd [(22,(aH (((u3.getD (i+j) 0)+(v.getD i 0))+c)))] [] mo (wM<|wM<|wM<|wE (vD (i+j))<|wE (aJ kC (i+j))<|wR (oLp uK (i+j) (0:Nat))<|wM<|wM<|wE (dS kC i (0:Nat))<|wE (gJ uK)<|wE (vD ((u3.getD (i+j) 0)+(v.getD i 0)))<|wM<|wE (vD (((u3.getD (i+j) 0)+(v.getD i 0))+c))<|wM<|wZ) ?_
       refine jB<|kx [(20,(aH 0))] [] (zM<|zZ) ?_
       refine jB<|jB<|kx [(218,(vb (decide (1000000000<=(((((u3.getD (i+j) 0)+(v.getD i 0))+c):Nat):Int)))))] [] (zM<|zE oGe<|zZ) ?_
       refine jH rfl (fun h10=>?_) (fun h10=>?_)
       ·replace h10:=xF h10
        refine kx [(20,(aH 1)),(22,(aH ((((u3.getD (i+j) 0)+(v.getD i 0))+c)-1000000000)))] [] (zM<|zE (oSb ((((u3.getD (i+j) 0)+(v.getD i 0))+c)-1000000000))<|zM<|zM<|zZ) ?_
        refine kx [] [(0,some (bm jC (u3.set (i+j) ((((u3.getD (i+j) 0)+(v.getD i 0))+c)-1000000000))))] (zM<|zM<|zM<|zE (vD (i+j))<|zM<|zE (aJ kC (i+j))<|zT (oSp uK (i+j) ((((u3.getD (i+j) 0)+(v.getD i 0))+c)-1000000000))<|zZ) ?_
        refine kx [(201,(jS (i+1)))] [] (zE (vD (i+1))<|zM<|zZ) ?_
        exact ⟨(i+1,u3.set (i+j) (u3.getD (i+j) 0+v.getD i 0+c-1000000000),1),wk,(by obtain ⟨q1,q2,q3,q4,q5⟩:=addb_step (v:=v) (L:=(u0++[0]).length) (s:=u3.getD (i+j) 0+v.getD i 0+c) (e:=u3.getD (i+j) 0+v.getD i 0+c-1000000000) (c':=1) hjn hi hl3 (by simpa using hl2) hd3 ht3 hd3' hv3 rfl (by omega) (by omega);exact ⟨q1,q2,q3,q4,by omega,by omega,q5⟩),(by first|omega|(dsimp only;omega))⟩
       ·replace h10:=xH h10
        refine jF<|kx [] [(0,some (bm jC (u3.set (i+j) (((u3.getD (i+j) 0)+(v.getD i 0))+c))))] (zM<|zM<|zM<|zE (vD (i+j))<|zM<|zE (aJ kC (i+j))<|zT (oSp uK (i+j) (((u3.getD (i+j) 0)+(v.getD i 0))+c))<|zZ) ?_
        refine kx [(201,(jS (i+1)))] [] (zE (vD (i+1))<|zM<|zZ) ?_
        exact ⟨(i+1,u3.set (i+j) (u3.getD (i+j) 0+v.getD i 0+c),0),wk,(by obtain ⟨q1,q2,q3,q4,q5⟩:=addb_step (v:=v) (L:=(u0++[0]).length) (s:=u3.getD (i+j) 0+v.getD i 0+c) (e:=u3.getD (i+j) 0+v.getD i 0+c) (c':=0) hjn hi hl3 (by simpa using hl2) hd3 ht3 hd3' hv3 rfl (by omega) (by omega);exact ⟨q1,q2,q3,q4,by omega,by omega,q5⟩),(by first|omega|(dsimp only;omega))⟩
      ·replace h9:=xH h9
       have hie2:i=b.length:=by omega
       rw[hie2] at hd3' hv3 hin
       refine kK<|kx [] [(0,some (bm jC (u3.set (j+b.length) (((u3.getD (j+b.length) 0)+c) % 1000000000))))] (zM<|zM<|zM<|zE (vD (j+b.length))<|zM<|zM<|zM<|zE (vD (j+b.length))<|zE (aJ kC (j+b.length))<|zR (oLp uK (j+b.length) (0:Nat))<|zM<|zE (vD ((u3.getD (j+b.length) 0)+c))<|zE (oRe (((u3.getD (j+b.length) 0)+c) % 1000000000))<|zE (aJ kC (j+b.length))<|zT (oSp uK (j+b.length) (((u3.getD (j+b.length) 0)+c) % 1000000000))<|zZ) ?_
       refine kx [] [(1,some (bm jC (q.set j (G-1))))] (zM<|zM<|zM<|zE (hC cY cA (G-1))<|zE (aJ kC j)<|zT (oSp uK j (G-1))<|zZ) ?_
       refine kx [(10,(vi (((j:Nat):Int)-1)))] [] (zM<|zE (zSb (((j:Nat):Int)-1))<|zM<|zZ) ?_
       exact ⟨(j,u3.set (j+b.length) ((u3.getD (j+b.length) 0+c) % 1000000000),q.set j (G-1)),wk,(by obtain ⟨p1,p2⟩:=neg_end hd3 hvd hvl (by omega) (by omega) (hl2.trans qL.symm) (hl3.trans qL.symm) ht2 hd2' hW hc ht3 hd3' hv3 n3 n4 n5 hU;exact ⟨by simpa using hl3,hd3.set _ (Nat.mod_lt _ (by decide)),by simpa using hql,hqd.set _ (by omega),by omega,p1,p2⟩),(by first|omega|(dsimp only;omega))⟩
     ·replace h8:=xH h8
      obtain ⟨n1,n2,n3⟩:=m3 (by omega)
      refine kx [] [(0,some (bm jC (u2.set (j+b.length) 0)))] (zM<|zM<|zM<|zE (vD (j+b.length))<|zM<|zE (hC un2 cA 0 (hr:=by exact (wu32 (by omega) (by omega) (by omega))))<|zE (aJ kC (j+b.length))<|zT (oSp uK (j+b.length) 0)<|zZ) ?_
      refine kx [] [(1,some (bm jC (q.set j G)))] (zM<|zM<|zM<|zE (hC cY cA G)<|zE (aJ kC j)<|zT (oSp uK j G)<|zZ) ?_
      refine kx [(10,(vi (((j:Nat):Int)-1)))] [] (zM<|zE (zSb (((j:Nat):Int)-1))<|zM<|zZ) ?_
      exact ⟨(j,u2.set (j+b.length) 0,q.set j G),wk,(by obtain ⟨p1,p2⟩:=pos_end hu hvd hvl (by omega) (by omega) (hl2.trans qL.symm) ht2 hd2' hW n2 n3 hU;exact ⟨by simpa using hl2,hd2.set _ (by decide),by simpa using hql,hqd.set _ (by omega),by omega,p1,p2⟩),(by first|omega|(dsimp only;omega))⟩
  ·replace h2:=xH h2
   obtain rfl:k=0:=by omega
   obtain ⟨e1,e2⟩:=scl_div hdb (by omega) (by rw[hvv] at hU;exact hU) (by rw[hvv] at hW;exact hW)
   rw[List.drop_zero] at hW
   refine kK<|jB<|kM (vS (t:=7) (k:=0) (es:=List.map jC u) rfl rfl (uM _ _ (fun _=>rfl)) (uD _ _ qL) (vE _ _ (fun _=>rfl) qL)) ?_
   refine kx [(5,(vl 74 1 jC (ofNat (val (ofNat (val (List.take b.length u))) / (cB b)))))] [] (zM<|zM<|zE (e_slc (l:=0) (h:=b.length) (kl:=.i64) (kh:=.i64) (es':=List.map jC (List.take b.length u)) (by exact rfl) kC (by exact rfl) (by exact rfl) (by exact rfl) (Nat.zero_le _) (by simp only[List.length_map];omega) (by rw[List.drop_zero,List.map_take]))<|zE (kH (t_trim (List.take b.length u) (hu.take _) (by rw[List.length_take];omega)))<|zM<|zE (kH (t_short (ofNat (val (List.take b.length u))) (cB b) (kB _) (by omega) (by omega) (Nat.le_trans (ofNat_val_len (hu.take _)) (by rw[List.length_take];omega))))<|zM<|zE xX<|zE xX<|zM<|zZ) ?_
   refine jB<|kM (vS (t:=4) (k:=1) (es:=List.map jC q) rfl rfl (uM _ _ (fun _=>rfl)) (uD _ _ hql) (vE _ _ (fun _=>rfl) hql)) ?_
   refine kx [(4,(vl 74 1 jC (ofNat (val q)))),(5,(vl 74 1 jC (ofNat (val (ofNat (val (List.take b.length u))) / (cB b)))))] [] (zM<|zE (kH (t_trim q hqd (by omega)))<|zM<|zM<|zM<|zZ) ?_
   refine jE ⟨_,(.tmp (d:=(.sl 74 1 (List.map jC (ofNat (val q))))) rfl (.tmp (d:=(.sl 74 1 (List.map jC (ofNat (val (ofNat (val (List.take b.length u))) / (cB b)))))) rfl .nil)),?_⟩
   rw[<- e1,<- e2,jZ,val_take_of_lt (Nat.lt_trans hW (by rw[<- hvl];exact uV hvd))];rfl
theorem t_over(a b:List Nat)(ha:zJ a)(hb:zJ b)(hb0:0<val b)(hla:a.length<=35184372087816)(hlb:b.length<=35184372087816):jW Tryz.prog 105 [(.sl 74 1 (List.map jC a)),(.sl 74 1 (List.map jC b))] (.tup [(.sl 74 1 (List.map jC (ofNat (val a / val b)))),(.sl 74 1 (List.map jC (ofNat (val a % val b))))]):=by
 refine uW Tryz.func105 ?_
 refine jB<|kx [] [] (zE (oNl 74 1)<|zE (oNl 74 1)<|zZ) ?_
 refine jB<|jB<|kx [(15,(vb (decide ((uI ((val a:Nat):Int) ((val b:Nat):Int))<0))))] [] (zM<|zM<|zE (kH (t_compare a b ha hb (by omega)))<|zE xO<|zZ) ?_
 refine jH rfl (fun h1=>?_) (fun h1=>?_)
 ·replace h1:=xF h1
  refine jB<|kx [(4,(vl 74 1 jC [])),(5,(vl 74 1 jC a))] [] (zM<|zE (oNl 74 1)<|zM<|zZ) ?_
  refine jE ⟨_,(.tmp (d:=(.sl 74 1 (List.map jC []))) rfl (.tmp (d:=(.sl 74 1 (List.map jC a))) rfl .nil)),?_⟩
  have hlt:=cmpI_neg h1
  rw[Nat.div_eq_of_lt hlt,Nat.mod_eq_of_lt hlt,qS,<- can_eq ha];rfl
 ·replace h1:=xH h1
  refine jF<|jB<|kx [(6,(zP (xG a))),(7,(vb (gS a)))] [] (zM<|zE (kH (t_word a ha.1))<|zM<|zE xX<|zE xX<|zM<|zM<|zZ) ?_
  refine jB<|kx [(8,(zP (xG b))),(9,(vb (gS b)))] [] (zM<|zE (kH (t_word b hb.1))<|zM<|zE xX<|zE xX<|zM<|zM<|zZ) ?_
  refine jB<|jB<|kx [(30,(vb ((gS a)&&(gS b))))] [] ?_ ?_
  ·refine zM<|zE (oV (vb (gS a)) (qF (by kernel_rfl)))<|?_
   rcases hb2:(gS a) with _ | _
   ·exact zK<|zE gK<|zZ
   ·exact zM<|zE oPa<|zZ
  refine jH (b:=((gS a)&&(gS b))) rfl (fun h3=>?_) (fun h3=>?_)
  ·obtain ⟨w1,w2,w3⟩:=word_both ha.1 h3
   have w4:xG a / xG b<18446744073709551616:=Nat.lt_of_le_of_lt (Nat.div_le_self _ _) (by omega)
   have w5:xG a % xG b<18446744073709551616:=Nat.lt_of_le_of_lt (Nat.mod_le _ _) (by omega)
   refine jB<|kd [(4,(vl 74 1 jC (ofNat ((xG a) / (xG b))))),(5,(vl 74 1 jC (ofNat ((xG a) % (xG b)))))] [] mo (wM<|wM<|wE (oQu ((xG a) / (xG b)))<|wE (kH (t_split ((xG a) / (xG b)) (by omega)))<|wM<|wM<|wE (oRe ((xG a) % (xG b)))<|wE (kH (t_split ((xG a) % (xG b)) (by omega)))<|wM<|wM<|wZ) ?_
   refine jE ⟨_,(.tmp (d:=(.sl 74 1 (List.map jC (ofNat ((xG a) / (xG b)))))) rfl (.tmp (d:=(.sl 74 1 (List.map jC (ofNat ((xG a) % (xG b)))))) rfl .nil)),?_⟩
   rw[w1,w2];rfl
  ·refine jF<|jB<|jB<|kx [(41,(vb (((b.length:Nat):Int) == 1)))] [] (zM<|zE (zV kC)<|zE nT<|zZ) ?_
   refine jH (b:=(((b.length:Nat):Int) == 1)) rfl (fun h4=>?_) (fun h4=>?_)
   ·replace h4:=eq_of_beq h4
    have hv1:=val_len1 (b:=b) (by omega)
    have hg:=hb.1.getD 0
    have w5:val a % b.getD 0 0<4294967296:=Nat.lt_trans (Nat.mod_lt _ (by omega)) (by omega)
    refine jB<|kx [(10,(vl 74 1 jC (ofNat (val a / (b.getD 0 0))))),(11,(aH (val a % (b.getD 0 0))))] [] (zM<|zM<|zE (dS kC 0 (0:Nat))<|zE (gJ uK)<|zE (kH (t_short a (b.getD 0 0) ha.1 (by omega) (by omega) (by omega)))<|zM<|zE xX<|zE xX<|zM<|zM<|zZ) ?_
    refine jB<|kx [(4,(vl 74 1 jC (ofNat (val a / (b.getD 0 0))))),(5,(vl 74 1 jC (ofNat (val a % (b.getD 0 0)))))] [] (zM<|zM<|zE (hC gZ gY (val a % (b.getD 0 0)))<|zE (kH (t_split (val a % (b.getD 0 0)) (by omega)))<|zM<|zM<|zZ) ?_
    refine jE ⟨_,(.tmp (d:=(.sl 74 1 (List.map jC (ofNat (val a / (b.getD 0 0)))))) rfl (.tmp (d:=(.sl 74 1 (List.map jC (ofNat (val a % (b.getD 0 0)))))) rfl .nil)),?_⟩
    rw[hv1];rfl
   ·replace h4:=ne_of_beq_false h4
    have hbl:=val_pos_len hb0
    refine jF<|jB<|kx [(4,(vl 74 1 jC (ofNat (val a / val b)))),(5,(vl 74 1 jC (ofNat (val a % val b))))] [] (zM<|zM<|zE (kH (t_long a b ha hb (by omega) (cmpI_nn h1) (by omega)))<|zE xX<|zE xX<|zM<|zM<|zZ) ?_
    refine jE ⟨_,(.tmp (d:=(.sl 74 1 (List.map jC (ofNat (val a / val b))))) rfl (.tmp (d:=(.sl 74 1 (List.map jC (ofNat (val a % val b))))) rfl .nil)),?_⟩
    rfl
theorem t_divideI(x y:kO)(hx:x.gs.length<=35184372087816)(hy:y.gs.length<=35184372087816)(hy0:jQ y≠0):jW Tryz.prog 111 [(jM x),(jM y)] (.tup [(jM (kD ((jQ x).fdiv (jQ y)))),(jM (kD ((jQ x).fmod (jQ y)))),(.val (.int .i64 (0)))]):=by
 have hgx:=qA x
 have hlx:=xR x
 have hgy:=qA y
 have hly:=xR y
 have hn:0<val (kJ y):=by have:=aV y;omega
 have hq:=len_quo (kJ x) hgx (val (kJ y))
 have hr:=len_rem (kJ x) hgx (val (kJ y))
 have hrn:=Nat.mod_lt (val (kJ x)) hn
 refine uW Tryz.func111 ?_
 refine jB<|kx [(2,(.ref 0 0)),(3,(.ref 1 0)),(4,(.ref 2 0)),(5,(.ref 3 0))] [(0,some (bx (jM x))),(1,some (bx (jM y))),(2,some (bx (jM (kO.mk false [])))),(3,some (bx (jM (kO.mk false []))))] (zN (xA 0)<|zN (xA 1)<|zN (uT 2 xL xK)<|zN (uT 3 xL xK)<|zM<|zZ) ?_
 refine jB<|kd [(7,(vl 74 1 jC (kJ x))),(8,(vl 74 1 jC (kJ y)))] [] mo (wR (kT jX)<|wE (kH (yC x (by omega)))<|wR (kT jX)<|wE (kH (yC y (by omega)))<|wM<|wM<|wZ) ?_
 refine jB<|jB<|kx [(17,(vb ((((kJ y).length:Nat):Int) == 0)))] [] (zM<|zE (zV kC (L:=(kJ y)))<|zE nT<|zZ) ?_
 refine jH (b:=((((kJ y).length:Nat):Int) == 0)) rfl (fun h1=>?_) (fun h1=>?_)
 ·replace h1:=eq_of_beq h1
  exact absurd (toZ_nil h1) hy0
 ·replace h1:=ne_of_beq_false h1
  refine jF<|jB<|kx [(9,(vl 74 1 jC (ofNat (val (kJ x) / val (kJ y))))),(10,(vl 74 1 jC (ofNat (val (kJ x) % val (kJ y)))))] [] (zM<|zM<|zE (kH (t_over (kJ x) (kJ y) hgx hgy (by omega) (by omega) (by omega)))<|zM<|zE xX<|zE xX<|zM<|zM<|zZ) ?_
  refine jB<|kx [(10,(vl 74 1 jC (ofNat (val (kJ x) % val (kJ y)))))] [] (zM<|zE (kH (t_clone (ofNat (val (kJ x) % val (kJ y))) (by omega)))<|zM<|zZ) ?_
  refine jB<|jB<|kx [(37,(vb (decide (0<(((ofNat (val (kJ x) % val (kJ y))).length:Nat):Int))&&!(x.neg == y.neg))))] [] ?_ ?_
  ·refine zM<|zE (zV kC (L:=(ofNat (val (kJ x) % val (kJ y)))))<|zE mB<|zE (oV (vb (decide (0<(((ofNat (val (kJ x) % val (kJ y))).length:Nat):Int)))) (qF (by kernel_rfl)))<|?_
   rcases hb2:(decide (0<(((ofNat (val (kJ x) % val (kJ y))).length:Nat):Int))) with _ | _
   ·replace hb2:=xH hb2
    exact zK<|zK<|zK<|zK<|zK<|zE gK<|zZ
   ·replace hb2:=xF hb2
    exact zE (kW uS)<|zR (qR sh4)<|zE (kW uS)<|zR (qR sh4)<|zE (oNb bo4)<|zE oPa<|zZ
  refine jH rfl (fun h3=>?_) (fun h3=>?_)
  ·have e1:(ofNat (val (ofNat (val (kJ x) / val (kJ y)))+val [1])).length<=35184372087817:=qJ (by rw[jZ,mX];have:=ofNat_lt_pw (val (kJ x) / val (kJ y));have h3:pw (ofNat (val (kJ x) / val (kJ y))).length<=pw 35184372087816:=yK (by omega);have h4:=pw_lt (show 35184372087816<35184372087817 by decide);omega)
   have e2:=sub_len (b:=ofNat (val (kJ x) % val (kJ y))) hgy.1
   rw[Bool.and_eq_true,decide_eq_true_eq,Bool.not_eq_true',beq_eq_false_iff_ne] at h3
   obtain ⟨k1,k2⟩:=h3
   have k3:0<val (kJ x) % val (kJ y):=by have:=nS (kX (val (kJ x) % val (kJ y))) (by omega);rwa [jZ] at this
   obtain ⟨d1,d2⟩:=div_other hn k2 k3
   refine kx [(9,(vl 74 1 jC (ofNat (val (ofNat (val (kJ x) / val (kJ y)))+val [1])))),(10,(vl 74 1 jC (ofNat (val (kJ y)-val (ofNat (val (kJ x) % val (kJ y)))))))] [] (zM<|zE (dM kC xW hM)<|zE (kH (t_plus (ofNat (val (kJ x) / val (kJ y))) [1] (kB _) (xS.2 ⟨by decide,yA⟩) (by omega) (by decide)))<|zM<|zM<|zE (kH (t_minus (kJ y) (ofNat (val (kJ x) % val (kJ y))) hgy.1 (kB _) (by rw[jZ];omega) (by omega)))<|zM<|zM<|zZ) ?_
   refine jB<|kd [(6,(jS 0))] [(2,some (bx (jM (vC (!(x.neg == y.neg)) (val (ofNat (val (ofNat (val (kJ x) / val (kJ y)))+val [1]))))))),(3,some (bx (jM (vC y.neg (val (ofNat (val (kJ y)-val (ofNat (val (kJ x) % val (kJ y))))))))))] mo (wE (kW uS)<|wR (qR sh4)<|wE (kW uS)<|wR (qR sh4)<|wE (oNb bo4)<|wM<|wE (kH (nL (!(x.neg == y.neg)) (ofNat (val (ofNat (val (kJ x) / val (kJ y)))+val [1])) (kB _) (by omega)))<|wE (kW uS)<|wR (qR sh4)<|wM<|wE (kH (nL y.neg (ofNat (val (kJ y)-val (ofNat (val (kJ x) % val (kJ y))))) (kB _) (by omega)))<|wT (qK jX)<|wT (qK jX)<|wM<|wZ) ?_
   refine jE ⟨_,(kQ (cs:=(bx (jM (vC (!(x.neg == y.neg)) (val (ofNat (val (ofNat (val (kJ x) / val (kJ y)))+val [1]))))))) (d:=(jM (vC (!(x.neg == y.neg)) (val (ofNat (val (ofNat (val (kJ x) / val (kJ y)))+val [1])))))) rfl rfl jX rfl rfl (kQ (cs:=(bx (jM (vC y.neg (val (ofNat (val (kJ y)-val (ofNat (val (kJ x) % val (kJ y)))))))))) (d:=(jM (vC y.neg (val (ofNat (val (kJ y)-val (ofNat (val (kJ x) % val (kJ y))))))))) rfl rfl jX rfl rfl (.tmp (d:=(.val (.int .i64 (0)))) rfl .nil))),?_⟩
   unfold jQ
   rw[d1,d2]
   simp only[jZ,mX]
   rfl
  ·obtain ⟨d1,d2⟩:=div_same (b:=x.neg) (c:=y.neg) (m:=val (kJ x)) hn (by rw[Bool.and_eq_false_iff,decide_eq_false_iff_not,Bool.not_eq_false',beq_iff_eq] at h3;rcases h3 with k | k;right;have:=cP (n:=val (kJ x) % val (kJ y));omega;exact .inl k)
   refine jF<|jB<|kd [(6,(jS 0))] [(2,some (bx (jM (vC (!(x.neg == y.neg)) (val (ofNat (val (kJ x) / val (kJ y)))))))),(3,some (bx (jM (vC y.neg (val (ofNat (val (kJ x) % val (kJ y))))))))] mo (wE (kW uS)<|wR (qR sh4)<|wE (kW uS)<|wR (qR sh4)<|wE (oNb bo4)<|wM<|wE (kH (nL (!(x.neg == y.neg)) (ofNat (val (kJ x) / val (kJ y))) (kB _) (by omega)))<|wE (kW uS)<|wR (qR sh4)<|wM<|wE (kH (nL y.neg (ofNat (val (kJ x) % val (kJ y))) (kB _) (by omega)))<|wT (qK jX)<|wT (qK jX)<|wM<|wZ) ?_
   refine jE ⟨_,(kQ (cs:=(bx (jM (vC (!(x.neg == y.neg)) (val (ofNat (val (kJ x) / val (kJ y)))))))) (d:=(jM (vC (!(x.neg == y.neg)) (val (ofNat (val (kJ x) / val (kJ y))))))) rfl rfl jX rfl rfl (kQ (cs:=(bx (jM (vC y.neg (val (ofNat (val (kJ x) % val (kJ y)))))))) (d:=(jM (vC y.neg (val (ofNat (val (kJ x) % val (kJ y))))))) rfl rfl jX rfl rfl (.tmp (d:=(.val (.int .i64 (0)))) rfl .nil))),?_⟩
   unfold jQ
   rw[d1,d2]
   simp only[jZ]
   rfl
theorem t_gcdI(x y:kO)(hx:x.gs.length<=35184372087816)(hy:y.gs.length<=35184372087816):jW Tryz.prog 50 [(jM x),(jM y)] (jM (kD ((Int.gcd (jQ x) (jQ y):Nat):Int))):=by
 have hgx:=qA x
 have hlx:=xR x
 have hgy:=qA y
 have hly:=xR y
 refine uW Tryz.func50 ?_
 refine jB<|kx [(2,(.ref 0 0)),(3,(.ref 1 0)),(4,(.ref 2 0))] [(0,some (bx (jM x))),(1,some (bx (jM y))),(2,some (bx (jM (kO.mk false []))))] (zN (xA 0)<|zN (xA 1)<|zN (uT 2 xL xK)<|zZ) ?_
 refine jB<|kd [(5,(vl 74 1 jC (kJ x))),(6,(vl 74 1 jC (kJ y)))] [] mo (wR (kT jX)<|wE (kH (yC x (by omega)))<|wR (kT jX)<|wE (kH (yC y (by omega)))<|wM<|wM<|wZ) ?_
 refine jB<|jG<|kU (α:=List Nat × List Nat) (fun (a,b)=>⟨[(4,(.ref 2 0)),(5,(vl 74 1 jC a)),(6,(vl 74 1 jC b))],[(2,some (bx (jM (kO.mk false []))))]⟩) (fun (a,b)=>zJ a/\zJ b/\a.length<=35184372087816/\b.length<=35184372087816/\Nat.gcd (val a) (val b)=Int.gcd (jQ x) (jQ y)) (fun (a,b)=>val b) (kJ x,kJ y) wk ⟨hgx,hgy,by omega,by omega,gcd_toZ x y⟩ ?_
 rintro ⟨a,b⟩ ⟨ha,hb,hla,hlb,hg⟩
 refine jB<|jB<|kx [(19,(vb (decide (0<((b.length:Nat):Int)))))] [] (zM<|zE (zV kC)<|zE mB<|zZ) ?_
 refine jH (b:=decide (0<((b.length:Nat):Int))) rfl (fun h1=>?_) (fun h1=>?_)
 ·replace h1:=xF h1
  have hb0:=nS hb (by omega)
  refine jF<|jG<|jB<|kx [(7,(zP (xG a))),(8,(vb (gS a)))] [] (zM<|zE (kH (t_word a ha.1))<|zM<|zE xX<|zE xX<|zM<|zM<|zZ) ?_
  refine jB<|kx [(9,(zP (xG b))),(10,(vb (gS b)))] [] (zM<|zE (kH (t_word b hb.1))<|zM<|zE xX<|zE xX<|zM<|zM<|zZ) ?_
  refine jB<|jB<|kx [(33,(vb ((gS a)&&(gS b))))] [] ?_ ?_
  ·refine zM<|zE (oV (vb (gS a)) (qF (by kernel_rfl)))<|?_
   rcases hb2:(gS a) with _ | _
   ·exact zK<|zE gK<|zZ
   ·exact zM<|zE oPa<|zZ
  refine jH (b:=((gS a)&&(gS b))) rfl (fun h3=>?_) (fun h3=>?_)
  ·obtain ⟨w1,w2,w3⟩:=word_both ha.1 h3
   have w4:val b<1000000000000000000:=by rw[Bool.and_eq_true] at h3;exact val_len2 hb.1 (xF h3.2)
   refine jB<|jG<|kU (α:=Nat × Nat) (fun (m,n)=>⟨[(4,(.ref 2 0)),(7,(zP m)),(9,(zP n))],[(2,some (bx (jM (kO.mk false []))))]⟩) (fun (m,n)=>m<1000000000000000000/\n<1000000000000000000/\Nat.gcd m n=Int.gcd (jQ x) (jQ y)) (fun (m,n)=>n) (xG a,xG b) wk ⟨by omega,by omega,by rw[w1,w2];exact hg⟩ ?_
   rintro ⟨m,n⟩ ⟨hm,hn,hg2⟩
   refine jB<|jB<|kx [(35,(vb (decide (0<((n:Nat):Int)))))] [] (zM<|zE mB<|zZ) ?_
   refine jH (b:=decide (0<((n:Nat):Int))) rfl (fun h4=>?_) (fun h4=>?_)
   ·replace h4:=xF h4
    refine jF<|jG<|kd [(7,(zP n)),(9,(zP (m % n)))] [] mo (wM<|wM<|wM<|wE (oRe (m % n))<|wM<|wM<|wZ) ?_
    exact ⟨(n,m % n),wk,⟨hn,Nat.lt_of_le_of_lt (Nat.mod_le _ _) hm,by rw[<- hg2,Nat.gcd_comm,<- Nat.gcd_rec,Nat.gcd_comm]⟩,(by dsimp only;exact Nat.mod_lt _ (by omega))⟩
   ·replace h4:=xH h4
    obtain rfl:n=0:=by omega
    rw[Nat.gcd_zero_right] at hg2
    refine kK<|jB<|kx [] [(2,some (bx (jM (vC false (val (ofNat m))))))] (zM<|zE (kH (t_split m (by omega)))<|zE (kH (nL false (ofNat m) (kB _) (Nat.le_trans (eB (by omega)) (by decide))))<|zT (qK jX)<|zZ) ?_
    refine jE ⟨_,(kQ (cs:=(bx (jM (vC false (val (ofNat m)))))) (d:=(jM (vC false (val (ofNat m))))) rfl rfl jX rfl rfl .nil),?_⟩
    rw[<- hg2,jZ,mkI_false];rfl
  ·refine jF<|jB<|kx [(12,(vl 74 1 jC (ofNat (val a % val b))))] [] (zM<|zM<|zE (kH (t_over a b ha hb hb0 (by omega) (by omega)))<|zM<|zE xX<|zE xX<|zM<|zM<|zZ) ?_
   refine kx [(5,(vl 74 1 jC b)),(6,(vl 74 1 jC (ofNat (val a % val b))))] [] (zM<|zM<|zM<|zM<|zZ) ?_
   exact ⟨(b,ofNat (val a % val b)),wk,⟨hb,kX _,hlb,Nat.le_trans (len_rem a ha _) hla,by rw[jZ,<- hg,Nat.gcd_comm,<- Nat.gcd_rec,Nat.gcd_comm]⟩,(by dsimp only;rw[jZ];exact Nat.mod_lt _ hb0)⟩
 ·replace h1:=xH h1
  have hb1:b=[]:=List.eq_nil_of_length_eq_zero (by omega)
  rw[hb1,val_nil,Nat.gcd_zero_right] at hg
  refine kK<|jB<|kx [] [(2,some (bx (jM (vC false (val a)))))] (zM<|zE (kH (t_clone a (by omega)))<|zE (kH (nL false a ha.1 (by omega)))<|zT (qK jX)<|zZ) ?_
  refine jE ⟨_,(kQ (cs:=(bx (jM (vC false (val a))))) (d:=(jM (vC false (val a)))) rfl rfl jX rfl rfl .nil),?_⟩
  rw[<- hg,mkI_false];rfl
end Go.Proofs.YtciingpdmjepgabGreatDoor
