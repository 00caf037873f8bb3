/- Part 15 of a proof: rules, plain facts, and functions walked. -/
import Derived.Test.YtnajallgoaiahaaGreatDoorM14
set_option linter.all false
set_option maxRecDepth 4000
namespace Go.Proofs.YtnajallgoaiahaaGreatDoor
open Go.Fid
theorem in2:intB Tryz.prog 2=some .i64:=by kernel_rfl
theorem un2:(Tryz.prog.underlying 2).isSome=true:=by kernel_rfl
set_option maxHeartbeats 4000000 in
theorem t_long(a b:List Nat)(hda:yW a)(hdb:yW b)(hb2:2<=b.length)(hba:val b<=val a)(hla:a.length<=1099511627776):jO Tryz.prog 253 [(.sl 140 1 (List.map jD a)),(.sl 140 1 (List.map jD b))] (.tup [(.sl 140 1 (List.map jD (ofNat (val a / val b)))),(.sl 140 1 (List.map jD (ofNat (val a % val b))))]):=by
 have hab:=len_of_le hda hdb hba
 have hsc:=iX hdb (by omega)
 have htp:=lQ hdb (by omega)
 have hds:Dig [eF b]:=gX.2 ⟨by omega,nQ⟩
 have hbp:0<val b:=by have:=val_top hdb.1 (by omega);have h2:=Nat.mul_le_mul_right (pw (b.length-1)) htp.1;have h3:=pw_pos (b.length-1);rw[Nat.succ_mul] at h2;omega
 obtain ⟨u0,hue⟩:∃ u0,u0=ofNat (val a*val [eF b]):=⟨_,rfl⟩
 obtain ⟨v,hve⟩:∃ v,v=ofNat (val b*val [eF b]):=⟨_,rfl⟩
 have hu0:Dig u0:=by rw[hue];exact kP _
 have hvd:Dig v:=by rw[hve];exact kP _
 have hvl:v.length=b.length:=by rw[hve,dW];exact scl_len hdb (by omega)
 have hvv:val v=val b*eF b:=by rw[hve,dW];exact kL _
 have hu0v:val u0=val a*eF b:=by rw[hue,dW];exact kL _
 have hu0l:a.length<=u0.length/\u0.length<=a.length+1:=by rw[hue,dW];exact scl_lenA hda hdb (by omega)
 have hLU:(u0++[0]).length=u0.length+1:=by simp
 have hcv:yW v:=by rw[hve];exact qO _
 have hv1p:0<v.getD (b.length-1) 0:=by rw[<- hvl];exact (lQ hcv (by omega)).1
 have hpv:pw (b.length-1)<=val v:=by have h1:=val_top hvd (by omega);rw[hvl] at h1;have h2:=Nat.mul_le_mul_right (pw (b.length-1)) hv1p;omega
 refine qY Tryz.func253 ?_
 refine jB<|kx [] [] (zE (aZ 140 1)<|zE (aZ 140 1)<|zZ) ?_
 refine jB<|kx [(6,(lF (eF b)))] [] (zM<|zM<|zE (vP kO)<|zE (oSb (b.length-1))<|zE (yE kO (b.length-1) (0:Nat))<|zE (yV uB)<|zE (cM gN gL (b.getD (b.length-1) 0))<|zE (vO ((b.getD (b.length-1) 0)+1))<|zE (oQu (eF b) (hr:=by exact (quo_u64 1000000000 (b.getD (b.length-1) 0+1))))<|zE (cM mB nO (eF b))<|zM<|zZ) ?_
 refine jB<|kx [(7,(.own 0 140 1 u0.length))] [(0,some (bm jD u0))] (zM<|zM<|zE (eE kO xB yZ)<|zN (oCo 0 (hue▸o_times a [eF b] hda.1 hds (by omega) (by simp) (by rw[dW];exact Nat.mul_pos (by omega) hsc.1)))<|zM<|zZ) ?_
 refine jB<|kx [(8,(vl 140 1 jD v))] [] (zM<|zM<|zE (eE kO xB yZ)<|zE (jV (hve▸t_times b [eF b] hdb.1 hds (by omega) (by simp)))<|zM<|zZ) ?_
 refine jB<|kx [(9,(jS b.length))] [] (zM<|zE (fO kO b.length (hr:=by exact (by simp [hvl])))<|zM<|zZ) ?_
 refine jB<|kf [(7,(.own 0 140 1 ((u0++[0]).length)))] [(0,some (bm jD (u0++[0])))] (zM<|zE (eE kO xB yZ)<|zA jD u0 [0] rfl kO xB mI<|zM<|zF) ?_
 refine jB<|jB<|kx [(50,(vb (decide ((((u0++[0]).length:Nat):Int)<=((a.length:Nat):Int)))))] [] (zM<|zE (oLo kO)<|zM<|zE (vP kO)<|zE oLe<|zZ) ?_
 refine jG rfl (fun h1=>?_) (fun h1=>?_)
 ·replace h1:=uV h1
  exfalso;simp at h1;omega
 ·replace h1:=vB h1
  refine jC<|jB<|kx [(4,(.own 1 140 1 ((u0++[0]).length-b.length)))] [(1,some (bm jD (List.replicate ((u0++[0]).length-b.length) 0)))] (zM<|zE (oLo kO)<|zM<|zE (oSb ((u0++[0]).length-b.length))<|zH (oMk 1 jD (0:Nat) ((u0++[0]).length-b.length) ((u0++[0]).length-b.length) kO xB yZ mI)<|zM<|zZ) ?_
  refine jB<|jB<|kx [(10,(vi ((((u0++[0]).length-b.length:Nat):Int)-1)))] [] (zM<|zE (oLo kO)<|zM<|zE (oSb ((u0++[0]).length-b.length))<|zE (zSb ((((u0++[0]).length-b.length:Nat):Int)-1))<|zM<|zZ) ?_
  refine jH<|kF (α:=Nat × List Nat × List Nat) (fun (k,u,q)=>⟨[(4,(.own 1 140 1 ((u0++[0]).length-b.length))),(6,(lF (eF b))),(7,(.own 0 140 1 ((u0++[0]).length))),(8,(vl 140 1 jD v)),(9,(jS b.length)),(10,(vi (((k:Nat):Int)-1)))],[(0,some (bm jD u)),(1,some (bm jD q))]⟩) (fun (k,u,q)=>u.length=(u0++[0]).length/\Dig u/\q.length=(u0++[0]).length-b.length/\Dig q/\k<=(u0++[0]).length-b.length/\val u+val v*(pw k*val (q.drop k))=val a*eF b/\val (u.drop k)<val v) (fun (k,u,q)=>k) ((u0++[0]).length-b.length,u0++[0],List.replicate ((u0++[0]).length-b.length) 0) wk ⟨rfl,lJ.2 ⟨hu0,gX.2 ⟨by decide,nQ⟩⟩,by simp,yM _,Nat.le_refl _,by simp [eM,val,hu0v],by have:=long_start hu0 hvl hb2 (by omega) hpv;rw[hLU];exact this⟩ ?_
  rintro ⟨k,u,q⟩ ⟨uF,hu,hql,hqd,hk,hU,hW⟩
  refine jB<|jB<|kx [(65,(vb (decide (0<=(((k:Nat):Int)-1)))))] [] (zM<|zE oGe<|zZ) ?_
  refine jG (b:=decide (0<=(((k:Nat):Int)-1))) rfl (fun h2=>?_) (fun h2=>?_)
  ·replace h2:=uV h2
   obtain ⟨j,rfl⟩:∃ j,k=j+1:=⟨k-1,by omega⟩
   rw[show (((j+1:Nat):Int)-1)=((j:Nat):Int) from by omega]
   have hg1:=hu.getD (j+b.length)
   have hg2:=hu.getD (j+b.length-1)
   have hg3:=hu.getD (j+b.length-2)
   have hg4:=hvd.getD (b.length-1)
   have hg5:=hvd.getD (b.length-2)
   obtain ⟨z1,z2,z3,z4,z5,z6⟩:=window_tops hu hvd hvl hb2 hW
   obtain ⟨hwz,hww⟩:=window hvd hvl hW
   refine jC<|jB<|jH<|jB<|kd [(10,(jS j)),(11,(nK (((u.getD (j+b.length) 0)*1000000000)+(u.getD ((j+b.length)-1) 0))))] [] mo (wM<|wM<|wM<|wE (vO (j+b.length))<|wR ⟨(bm jD u),e_clo (t_at u (j+b.length)) (by exact rfl) (by exact rfl) (by exact rfl) (.o (.d .nil)) (vD jD u (fun _=>rfl)) (uW _ _ uF) (xE _ _ (fun _=>rfl) uF),by kernel_rfl⟩<|wE (cM gN gL (u.getD (j+b.length) 0))<|wE (oMl ((u.getD (j+b.length) 0)*1000000000))<|wM<|wM<|wM<|wE (vO (j+b.length))<|wE (oSb ((j+b.length)-1))<|wE (iE kO ((j+b.length)-1))<|wR (oLp uB ((j+b.length)-1) (0:Nat))<|wE (cM gN gL (u.getD ((j+b.length)-1) 0))<|wE (vO (((u.getD (j+b.length) 0)*1000000000)+(u.getD ((j+b.length)-1) 0)))<|wM<|wZ) ?_
   refine jB<|kd [(12,(nK ((((u.getD (j+b.length) 0)*1000000000)+(u.getD ((j+b.length)-1) 0)) / (v.getD (b.length-1) 0)))),(13,(nK ((((u.getD (j+b.length) 0)*1000000000)+(u.getD ((j+b.length)-1) 0)) % (v.getD (b.length-1) 0))))] [] mo (wM<|wM<|wM<|wE (oSb (b.length-1))<|wE (yE kO (b.length-1) (0:Nat))<|wE (yV uB)<|wE (cM gN gL (v.getD (b.length-1) 0))<|wE (oQu ((((u.getD (j+b.length) 0)*1000000000)+(u.getD ((j+b.length)-1) 0)) / (v.getD (b.length-1) 0)))<|wM<|wM<|wM<|wE (oSb (b.length-1))<|wE (yE kO (b.length-1) (0:Nat))<|wE (yV uB)<|wE (cM gN gL (v.getD (b.length-1) 0))<|wE (oRe ((((u.getD (j+b.length) 0)*1000000000)+(u.getD ((j+b.length)-1) 0)) % (v.getD (b.length-1) 0)))<|wM<|wM<|wZ) ?_
   refine pwp_seqjoin (α:=Nat × Nat) (fun (G,R)=>⟨[(4,(.own 1 140 1 ((u0++[0]).length-b.length))),(6,(lF (eF b))),(7,(.own 0 140 1 ((u0++[0]).length))),(8,(vl 140 1 jD v)),(9,(jS b.length)),(10,(jS j)),(12,(nK G))],[(0,some (bm jD u)),(1,some (bm jD q))]⟩) (fun (G,R)=>G<1000000000/\val (u.drop j) / val v<=G/\G<=val (u.drop j) / val v+1) ?_ ?_
   ·refine kF (α:=Nat × Nat) (fun (G,R)=>⟨[(4,(.own 1 140 1 ((u0++[0]).length-b.length))),(6,(lF (eF b))),(7,(.own 0 140 1 ((u0++[0]).length))),(8,(vl 140 1 jD v)),(9,(jS b.length)),(10,(jS j)),(12,(nK G)),(13,(nK R))],[(0,some (bm jD u)),(1,some (bm jD q))]⟩) (fun (G,R)=>G*(v.getD (b.length-1) 0)+R=(u.getD (j+b.length) 0*1000000000+u.getD (j+b.length-1) 0)/\val (u.drop j) / val v<=G/\R<1000000000/\G<=1999999999) (fun (G,R)=>G) ((u.getD (j+b.length) 0*1000000000+u.getD (j+b.length-1) 0) / v.getD (b.length-1) 0,(u.getD (j+b.length) 0*1000000000+u.getD (j+b.length-1) 0) % v.getD (b.length-1) 0) wk ⟨by rw[Nat.mul_comm];exact Nat.div_add_mod _ _,guess_first0 z5 z4 hv1p hg3,Nat.lt_trans (Nat.mod_lt _ hv1p) hg4,guess_top hv1p z1 hg2⟩ ?_
    rintro ⟨G,R⟩ ⟨hG0,hG1,hR,hGb⟩
    have hpq:G*v.getD (b.length-2) 0<=1999999999*999999999:=Nat.mul_le_mul hGb (by omega)
    refine jB<|jB<|kd [(123,(vb (decide (1000000000<=((G:Nat):Int))||decide (((((R*1000000000)+(u.getD ((j+b.length)-2) 0)):Nat):Int)<(((G*(v.getD (b.length-2) 0)):Nat):Int)))))] [] mo ?_ ?_
    ·refine wM<|wE oGe<|wE (oV (vb (decide (1000000000<=((G:Nat):Int)))) (qC (by kernel_rfl)))<|?_
     rcases hb3:(decide (1000000000<=((G:Nat):Int))) with _ | _
     ·replace hb3:=vB hb3
      exact wM<|wM<|wM<|wE (oSb (b.length-2))<|wE (yE kO (b.length-2) (0:Nat))<|wE (yV uB)<|wE (cM gN gL (v.getD (b.length-2) 0))<|wE (oMl (G*(v.getD (b.length-2) 0)))<|wM<|wE (oMl (R*1000000000))<|wM<|wM<|wM<|wE (vO (j+b.length))<|wE (oSb ((j+b.length)-2))<|wE (iE kO ((j+b.length)-2))<|wR (oLp uB ((j+b.length)-2) (0:Nat))<|wE (cM gN gL (u.getD ((j+b.length)-2) 0))<|wE (vO ((R*1000000000)+(u.getD ((j+b.length)-2) 0)))<|wE hH<|wE dG<|wZ
     ·replace hb3:=uV hb3
      exact wK<|wK<|wK<|wK<|wK<|wK<|wK<|wK<|wK<|wK<|wK<|wK<|wK<|wK<|wK<|wK<|wK<|wK<|wK<|wK<|wE yR<|wZ
    refine jG rfl (fun h4=>?_) (fun h4=>?_)
    ·rw[Bool.or_eq_true,decide_eq_true_eq,decide_eq_true_eq] at h4
     have hgl:=guess_less (pw_pos _) z5 z4 hG0 hG1 hv1p z2 (by omega)
     refine jC<|jH<|jB<|kx [(12,(nK (G-1)))] [] (zM<|zE (oSb (G-1))<|zM<|zZ) ?_
     refine jB<|kx [(13,(nK (R+(v.getD (b.length-1) 0))))] [] (zM<|zM<|zM<|zE (oSb (b.length-1))<|zE (yE kO (b.length-1) (0:Nat))<|zE (yV uB)<|zE (cM gN gL (v.getD (b.length-1) 0))<|zE (vO (R+(v.getD (b.length-1) 0)))<|zM<|zZ) ?_
     refine jB<|kx [(135,(vb (decide (1000000000<=(((R+(v.getD (b.length-1) 0)):Nat):Int)))))] [] (zM<|zE oGe<|zZ) ?_
     refine jG rfl (fun h5=>?_) (fun h5=>?_)
     ·replace h5:=uV h5
      refine kD ?_
      refine pjoin_exit (id:=2) (α:=Nat × Nat) (Q:=fun _ _=>True) (St:=fun (G,R)=>⟨[(4,(.own 1 140 1 ((u0++[0]).length-b.length))),(6,(lF (eF b))),(7,(.own 0 140 1 ((u0++[0]).length))),(8,(vl 140 1 jD v)),(9,(jS b.length)),(10,(jS j)),(12,(nK G))],[(0,some (bm jD u)),(1,some (bm jD q))]⟩) (I:=fun (G,R)=>G<1000000000/\val (u.drop j) / val v<=G/\G<=val (u.drop j) / val v+1) ?_
      exact ⟨(G-1,R+v.getD (b.length-1) 0),wk,(by have hd:=guess_dec hgl.2 hG0;have hgb:=guess_break hd z1 hg2 (by omega);exact ⟨hgb,hgl.1,guess_near z6 z3 hd hv1p (by omega) hgb (Nat.le_trans (Nat.mul_le_mul (show G-1<=999999999 by omega) (show v.getD (b.length-2) 0<=999999999 by omega)) (by omega))⟩)⟩
     ·replace h5:=vB h5
      refine jC ?_
      exact ⟨(G-1,R+v.getD (b.length-1) 0),wk,(by exact ⟨guess_dec hgl.2 hG0,hgl.1,by omega,by omega⟩),(by first|omega|(dsimp only;omega))⟩
    ·refine kD ?_
     refine pjoin_exit (id:=2) (α:=Nat × Nat) (Q:=fun _ _=>True) (St:=fun (G,R)=>⟨[(4,(.own 1 140 1 ((u0++[0]).length-b.length))),(6,(lF (eF b))),(7,(.own 0 140 1 ((u0++[0]).length))),(8,(vl 140 1 jD v)),(9,(jS b.length)),(10,(jS j)),(12,(nK G))],[(0,some (bm jD u)),(1,some (bm jD q))]⟩) (I:=fun (G,R)=>G<1000000000/\val (u.drop j) / val v<=G/\G<=val (u.drop j) / val v+1) ?_
     exact ⟨(G,R),wk,(by rw[Bool.or_eq_false_iff,decide_eq_false_iff_not,decide_eq_false_iff_not] at h4;exact ⟨by omega,hG1,guess_near z6 z3 hG0 hv1p (by omega) (by omega) (by omega)⟩)⟩
   ·rintro ⟨G,R⟩ ⟨hG,hG1,hG2⟩
    have hjn:j+b.length<(u0++[0]).length:=by omega
    refine jB<|kx [(14,(jS 0)),(15,(nK 0))] [] (zM<|zM<|zZ) ?_
    refine jB<|jB<|kx [(136,(jS b.length)),(137,(jS 0))] [] (zM<|zM<|zZ) ?_
    refine jH<|kF (α:=Nat × List Nat × Nat × Nat) (fun (i,u2,bo,ca)=>⟨[(4,(.own 1 140 1 ((u0++[0]).length-b.length))),(6,(lF (eF b))),(7,(.own 0 140 1 ((u0++[0]).length))),(8,(vl 140 1 jD v)),(9,(jS b.length)),(10,(jS j)),(12,(nK G)),(14,(vi ((bo:Nat):Int))),(15,(nK ca)),(136,(jS b.length)),(137,(jS i))],[(0,some (bm jD u2)),(1,some (bm jD q))]⟩) (fun (i,u2,bo,ca)=>u2.length=(u0++[0]).length/\Dig u2/\u2.take j=u.take j/\u2.drop (j+i)=u.drop (j+i)/\i<=b.length/\bo<=1/\ca<1000000000/\val ((u2.drop j).take i)+G*val (v.take i)=val ((u.drop j).take i)+pw i*(ca+bo)) (fun (i,u2,bo,ca)=>b.length-i) (0,u,0,0) wk ⟨uF,hu,rfl,rfl,Nat.zero_le _,Nat.zero_le _,by decide,by simp [val]⟩ ?_
    rintro ⟨i,u2,bo,ca⟩ ⟨hl2,hd2,ht2,hd2',hin,hbo,hca,hv2⟩
    have hgi:=hvd.getD i
    have hgu:=hd2.getD (i+j)
    have hpq:G*v.getD i 0<=999999999*999999999:=Nat.mul_le_mul (by omega) (by omega)
    refine jB<|kx [(138,(vb (decide (((i:Nat):Int)<((b.length:Nat):Int)))))] [] (zE xK<|zZ) ?_
    refine jB<|jG rfl (fun h6=>?_) (fun h6=>?_)
    ·replace h6:=uV h6
     have hi:i<b.length:=by omega
     refine jC<|jB<|jH<|jB<|kx [(16,(jS i))] [] (zM<|zM<|zZ) ?_
     refine jB<|kx [(17,(nK ((G*(v.getD i 0))+ca)))] [] (zM<|zM<|zM<|zE (yE kO i (0:Nat))<|zE (yV uB)<|zE (cM gN gL (v.getD i 0))<|zE (oMl (G*(v.getD i 0)))<|zM<|zE (vO ((G*(v.getD i 0))+ca))<|zM<|zZ) ?_
     refine jB<|kx [(15,(nK (((G*(v.getD i 0))+ca) / 1000000000)))] [] (zM<|zE (oQu (((G*(v.getD i 0))+ca) / 1000000000))<|zM<|zZ) ?_
     refine jB<|kx [(18,(vi (((((u2.getD (i+j) 0):Nat):Int)-((bo:Nat):Int))-(((((G*(v.getD i 0))+ca) % 1000000000):Nat):Int))))] [] (zM<|zM<|zM<|zE (vO (i+j))<|zE (iE kO (i+j))<|zR (oLp uB (i+j) (0:Nat))<|zE (cM gN in2 (u2.getD (i+j) 0))<|zM<|zE (zSb ((((u2.getD (i+j) 0):Nat):Int)-((bo:Nat):Int)))<|zM<|zE (oRe (((G*(v.getD i 0))+ca) % 1000000000))<|zE (cM mB in2 (((G*(v.getD i 0))+ca) % 1000000000))<|zE (zSb (((((u2.getD (i+j) 0):Nat):Int)-((bo:Nat):Int))-(((((G*(v.getD i 0))+ca) % 1000000000):Nat):Int)))<|zM<|zZ) ?_
     refine jB<|kx [(14,(jS 0))] [] (zM<|zZ) ?_
     refine jB<|jB<|kx [(165,(vb (decide ((((((u2.getD (i+j) 0):Nat):Int)-((bo:Nat):Int))-(((((G*(v.getD i 0))+ca) % 1000000000):Nat):Int))<0))))] [] (zM<|zE xK<|zZ) ?_
     refine jG rfl (fun h7=>?_) (fun h7=>?_)
     ·replace h7:=uV h7
      refine kx [(14,(jS 1)),(18,(vi ((((((u2.getD (i+j) 0):Nat):Int)-((bo:Nat):Int))-(((((G*(v.getD i 0))+ca) % 1000000000):Nat):Int))+1000000000)))] [] (zM<|zE (zAd ((((((u2.getD (i+j) 0):Nat):Int)-((bo:Nat):Int))-(((((G*(v.getD i 0))+ca) % 1000000000):Nat):Int))+1000000000))<|zM<|zM<|zZ) ?_
      refine kx [] [(0,some (bm jD (u2.set (i+j) ((u2.getD (i+j) 0+1000000000)-bo-(G*v.getD i 0+ca) % 1000000000))))] (zM<|zM<|zM<|zE (vO (i+j))<|zM<|zE (cM un2 nO ((u2.getD (i+j) 0+1000000000)-bo-(G*v.getD i 0+ca) % 1000000000) (hr:=by exact (wu32 (by omega) (by omega) (by omega))))<|zE (iE kO (i+j))<|zT (oSp uB (i+j) ((u2.getD (i+j) 0+1000000000)-bo-(G*v.getD i 0+ca) % 1000000000))<|zZ) ?_
      refine kx [(137,(jS (i+1)))] [] (zE (vO (i+1))<|zM<|zZ) ?_
      exact ⟨(i+1,u2.set (i+j) ((u2.getD (i+j) 0+1000000000)-bo-(G*v.getD i 0+ca) % 1000000000),1,(G*v.getD i 0+ca) / 1000000000),wk,(by obtain ⟨q1,q2,q3,q4,q5⟩:=msub_step (v:=v) (L:=(u0++[0]).length) (e:=(u2.getD (i+j) 0+1000000000)-bo-(G*v.getD i 0+ca) % 1000000000) (borrow':=1) hjn hi hl2 uF hd2 ht2 hd2' hv2 rfl (by omega) (by omega);exact ⟨q1,q2,q3,q4,by omega,by omega,by omega,q5⟩),(by first|omega|(dsimp only;omega))⟩
     ·replace h7:=vB h7
      refine jC<|kx [] [(0,some (bm jD (u2.set (i+j) (u2.getD (i+j) 0-bo-(G*v.getD i 0+ca) % 1000000000))))] (zM<|zM<|zM<|zE (vO (i+j))<|zM<|zE (cM un2 nO (u2.getD (i+j) 0-bo-(G*v.getD i 0+ca) % 1000000000) (hr:=by exact (wu32 (by omega) (by omega) (by omega))))<|zE (iE kO (i+j))<|zT (oSp uB (i+j) (u2.getD (i+j) 0-bo-(G*v.getD i 0+ca) % 1000000000))<|zZ) ?_
      refine kx [(137,(jS (i+1)))] [] (zE (vO (i+1))<|zM<|zZ) ?_
      exact ⟨(i+1,u2.set (i+j) (u2.getD (i+j) 0-bo-(G*v.getD i 0+ca) % 1000000000),0,(G*v.getD i 0+ca) / 1000000000),wk,(by obtain ⟨q1,q2,q3,q4,q5⟩:=msub_step (v:=v) (L:=(u0++[0]).length) (e:=u2.getD (i+j) 0-bo-(G*v.getD i 0+ca) % 1000000000) (borrow':=0) hjn hi hl2 uF hd2 ht2 hd2' hv2 rfl (by omega) (by omega);exact ⟨q1,q2,q3,q4,by omega,by omega,by omega,q5⟩),(by first|omega|(dsimp only;omega))⟩
    ·replace h6:=vB h6
     have hie:i=b.length:=by omega
     rw[hie] at hd2' hv2 hin
     obtain ⟨m1,m2,m3⟩:=msub_end hu hd2 hvd hvl hW hG1 hG2 hd2' hv2
     refine kD<|jB<|kx [(19,(vi (((((u2.getD (j+b.length) 0):Nat):Int)-((bo:Nat):Int))-((ca:Nat):Int))))] [] (zM<|zM<|zM<|zE (vO (j+b.length))<|zE (iE kO (j+b.length))<|zR (oLp uB (j+b.length) (0:Nat))<|zE (cM gN in2 (u2.getD (j+b.length) 0))<|zM<|zE (zSb ((((u2.getD (j+b.length) 0):Nat):Int)-((bo:Nat):Int)))<|zM<|zE (cM mB in2 ca)<|zE (zSb (((((u2.getD (j+b.length) 0):Nat):Int)-((bo:Nat):Int))-((ca:Nat):Int)))<|zM<|zZ) ?_
     refine jB<|jB<|kx [(189,(vb (decide ((((((u2.getD (j+b.length) 0):Nat):Int)-((bo:Nat):Int))-((ca:Nat):Int))<0))))] [] (zM<|zE xK<|zZ) ?_
     refine jG rfl (fun h8=>?_) (fun h8=>?_)
     ·replace h8:=uV h8
      obtain ⟨n1,n2,r,n3,n4,n5⟩:=m2 (by omega)
      refine jB<|kx [] [(0,some (bm jD (u2.set (j+b.length) 999999999)))] (zM<|zM<|zM<|zE (vO (j+b.length))<|zM<|zE (zAd ((((((u2.getD (j+b.length) 0):Nat):Int)-((bo:Nat):Int))-((ca:Nat):Int))+1000000000))<|zE (cM un2 nO 999999999 (hr:=by exact (wu32 (by omega) (by omega) (by omega))))<|zE (iE kO (j+b.length))<|zT (oSp uB (j+b.length) 999999999)<|zZ) ?_
      refine jB<|kx [(12,(nK (G-1)))] [] (zM<|zE (oSb (G-1))<|zM<|zZ) ?_
      refine jB<|kx [(20,(lF 0))] [] (zM<|zZ) ?_
      refine jB<|jB<|kx [(200,(jS b.length)),(201,(jS 0))] [] (zM<|zM<|zZ) ?_
      refine jH<|kF (α:=Nat × List Nat × Nat) (fun (i,u3,c)=>⟨[(4,(.own 1 140 1 ((u0++[0]).length-b.length))),(6,(lF (eF b))),(7,(.own 0 140 1 ((u0++[0]).length))),(8,(vl 140 1 jD v)),(9,(jS b.length)),(10,(jS j)),(12,(nK (G-1))),(20,(lF c)),(200,(jS b.length)),(201,(jS i))],[(0,some (bm jD u3)),(1,some (bm jD q))]⟩) (fun (i,u3,c)=>u3.length=(u0++[0]).length/\Dig u3/\u3.take j=(u2.set (j+b.length) 999999999).take j/\u3.drop (j+i)=(u2.set (j+b.length) 999999999).drop (j+i)/\i<=b.length/\c<=1/\val ((u3.drop j).take i)+pw i*c=val (((u2.set (j+b.length) 999999999).drop j).take i)+val (v.take i)) (fun (i,u3,c)=>b.length-i) (0,u2.set (j+b.length) 999999999,0) wk ⟨by simpa using hl2,hd2.set _ (by decide),rfl,rfl,Nat.zero_le _,Nat.zero_le _,by simp [val]⟩ ?_
      rintro ⟨i,u3,c⟩ ⟨hl3,hd3,ht3,hd3',hin,hc,hv3⟩
      have hgi:=hvd.getD i
      have hgu:=hd3.getD (i+j)
      have hgt:=hd3.getD (j+b.length)
      refine jB<|kx [(202,(vb (decide (((i:Nat):Int)<((b.length:Nat):Int)))))] [] (zE xK<|zZ) ?_
      refine jB<|jG rfl (fun h9=>?_) (fun h9=>?_)
      ·replace h9:=uV h9
       have hi:i<b.length:=by omega
       refine jC<|jB<|jH<|jB<|kx [(21,(jS i))] [] (zM<|zM<|zZ) ?_
       refine jB<|kd [(22,(lF (((u3.getD (i+j) 0)+(v.getD i 0))+c)))] [] mo (wM<|wM<|wM<|wE (vO (i+j))<|wE (iE kO (i+j))<|wR (oLp uB (i+j) (0:Nat))<|wM<|wM<|wE (yE kO i (0:Nat))<|wE (yV uB)<|wE (vO ((u3.getD (i+j) 0)+(v.getD i 0)))<|wM<|wE (vO (((u3.getD (i+j) 0)+(v.getD i 0))+c))<|wM<|wZ) ?_
       refine jB<|kx [(20,(lF 0))] [] (zM<|zZ) ?_
       refine jB<|jB<|kx [(218,(vb (decide (1000000000<=(((((u3.getD (i+j) 0)+(v.getD i 0))+c):Nat):Int)))))] [] (zM<|zE oGe<|zZ) ?_
       refine jG rfl (fun h10=>?_) (fun h10=>?_)
       ·replace h10:=uV h10
        refine kx [(20,(lF 1)),(22,(lF ((((u3.getD (i+j) 0)+(v.getD i 0))+c)-1000000000)))] [] (zM<|zE (oSb ((((u3.getD (i+j) 0)+(v.getD i 0))+c)-1000000000))<|zM<|zM<|zZ) ?_
        refine kx [] [(0,some (bm jD (u3.set (i+j) ((((u3.getD (i+j) 0)+(v.getD i 0))+c)-1000000000))))] (zM<|zM<|zM<|zE (vO (i+j))<|zM<|zE (iE kO (i+j))<|zT (oSp uB (i+j) ((((u3.getD (i+j) 0)+(v.getD i 0))+c)-1000000000))<|zZ) ?_
        refine kx [(201,(jS (i+1)))] [] (zE (vO (i+1))<|zM<|zZ) ?_
        exact ⟨(i+1,u3.set (i+j) (u3.getD (i+j) 0+v.getD i 0+c-1000000000),1),wk,(by obtain ⟨q1,q2,q3,q4,q5⟩:=addb_step (v:=v) (L:=(u0++[0]).length) (s:=u3.getD (i+j) 0+v.getD i 0+c) (e:=u3.getD (i+j) 0+v.getD i 0+c-1000000000) (c':=1) hjn hi hl3 (by simpa using hl2) hd3 ht3 hd3' hv3 rfl (by omega) (by omega);exact ⟨q1,q2,q3,q4,by omega,by omega,q5⟩),(by first|omega|(dsimp only;omega))⟩
       ·replace h10:=vB h10
        refine jC<|kx [] [(0,some (bm jD (u3.set (i+j) (((u3.getD (i+j) 0)+(v.getD i 0))+c))))] (zM<|zM<|zM<|zE (vO (i+j))<|zM<|zE (iE kO (i+j))<|zT (oSp uB (i+j) (((u3.getD (i+j) 0)+(v.getD i 0))+c))<|zZ) ?_
        refine kx [(201,(jS (i+1)))] [] (zE (vO (i+1))<|zM<|zZ) ?_
        exact ⟨(i+1,u3.set (i+j) (u3.getD (i+j) 0+v.getD i 0+c),0),wk,(by obtain ⟨q1,q2,q3,q4,q5⟩:=addb_step (v:=v) (L:=(u0++[0]).length) (s:=u3.getD (i+j) 0+v.getD i 0+c) (e:=u3.getD (i+j) 0+v.getD i 0+c) (c':=0) hjn hi hl3 (by simpa using hl2) hd3 ht3 hd3' hv3 rfl (by omega) (by omega);exact ⟨q1,q2,q3,q4,by omega,by omega,q5⟩),(by first|omega|(dsimp only;omega))⟩
      ·replace h9:=vB h9
       have hie2:i=b.length:=by omega
       rw[hie2] at hd3' hv3 hin
       refine kD<|kx [] [(0,some (bm jD (u3.set (j+b.length) (((u3.getD (j+b.length) 0)+c) % 1000000000))))] (zM<|zM<|zM<|zE (vO (j+b.length))<|zM<|zM<|zM<|zE (vO (j+b.length))<|zE (iE kO (j+b.length))<|zR (oLp uB (j+b.length) (0:Nat))<|zM<|zE (vO ((u3.getD (j+b.length) 0)+c))<|zE (oRe (((u3.getD (j+b.length) 0)+c) % 1000000000))<|zE (iE kO (j+b.length))<|zT (oSp uB (j+b.length) (((u3.getD (j+b.length) 0)+c) % 1000000000))<|zZ) ?_
       refine kx [] [(1,some (bm jD (q.set j (G-1))))] (zM<|zM<|zM<|zE (cM mB nO (G-1))<|zE (iE kO j)<|zT (oSp uB j (G-1))<|zZ) ?_
       refine kx [(10,(vi (((j:Nat):Int)-1)))] [] (zM<|zE (zSb (((j:Nat):Int)-1))<|zM<|zZ) ?_
       exact ⟨(j,u3.set (j+b.length) ((u3.getD (j+b.length) 0+c) % 1000000000),q.set j (G-1)),wk,(by obtain ⟨p1,p2⟩:=neg_end hd3 hvd hvl (by omega) (by omega) (hl2.trans uF.symm) (hl3.trans uF.symm) ht2 hd2' hW hc ht3 hd3' hv3 n3 n4 n5 hU;exact ⟨by simpa using hl3,hd3.set _ (Nat.mod_lt _ (by decide)),by simpa using hql,hqd.set _ (by omega),by omega,p1,p2⟩),(by first|omega|(dsimp only;omega))⟩
     ·replace h8:=vB h8
      obtain ⟨n1,n2,n3⟩:=m3 (by omega)
      refine kx [] [(0,some (bm jD (u2.set (j+b.length) 0)))] (zM<|zM<|zM<|zE (vO (j+b.length))<|zM<|zE (cM un2 nO 0 (hr:=by exact (wu32 (by omega) (by omega) (by omega))))<|zE (iE kO (j+b.length))<|zT (oSp uB (j+b.length) 0)<|zZ) ?_
      refine kx [] [(1,some (bm jD (q.set j G)))] (zM<|zM<|zM<|zE (cM mB nO G)<|zE (iE kO j)<|zT (oSp uB j G)<|zZ) ?_
      refine kx [(10,(vi (((j:Nat):Int)-1)))] [] (zM<|zE (zSb (((j:Nat):Int)-1))<|zM<|zZ) ?_
      exact ⟨(j,u2.set (j+b.length) 0,q.set j G),wk,(by obtain ⟨p1,p2⟩:=pos_end hu hvd hvl (by omega) (by omega) (hl2.trans uF.symm) ht2 hd2' hW n2 n3 hU;exact ⟨by simpa using hl2,hd2.set _ (by decide),by simpa using hql,hqd.set _ (by omega),by omega,p1,p2⟩),(by first|omega|(dsimp only;omega))⟩
  ·replace h2:=vB h2
   obtain rfl:k=0:=by omega
   obtain ⟨e1,e2⟩:=scl_div hdb (by omega) (by rw[hvv] at hU;exact hU) (by rw[hvv] at hW;exact hW)
   rw[List.drop_zero] at hW
   refine kD<|jB<|kU (xC (t:=7) (k:=0) (es:=List.map jD u) rfl rfl (vD _ _ (fun _=>rfl)) (uW _ _ uF) (xE _ _ (fun _=>rfl) uF)) ?_
   refine kx [(5,(vl 140 1 jD (ofNat (val (ofNat (val (List.take b.length u))) / (eF b)))))] [] (zM<|zM<|zE (e_slc (l:=0) (h:=b.length) (kl:=.i64) (kh:=.i64) (es':=List.map jD (List.take b.length u)) (by exact rfl) kO (by exact rfl) (by exact rfl) (by exact rfl) (Nat.zero_le _) (by simp only[List.length_map];omega) (by rw[List.drop_zero,List.map_take]))<|zE (jV (t_trim (List.take b.length u) (hu.take _) (by rw[List.length_take];omega)))<|zM<|zE (jV (t_short (ofNat (val (List.take b.length u))) (eF b) (kP _) (by omega) (by omega) (Nat.le_trans (ofNat_val_len (hu.take _)) (by rw[List.length_take];omega))))<|zM<|zE uX<|zE uX<|zM<|zZ) ?_
   refine jB<|kU (xC (t:=4) (k:=1) (es:=List.map jD q) rfl rfl (vD _ _ (fun _=>rfl)) (uW _ _ hql) (xE _ _ (fun _=>rfl) hql)) ?_
   refine kx [(4,(vl 140 1 jD (ofNat (val q)))),(5,(vl 140 1 jD (ofNat (val (ofNat (val (List.take b.length u))) / (eF b)))))] [] (zM<|zE (jV (t_trim q hqd (by omega)))<|zM<|zM<|zM<|zZ) ?_
   refine jE ⟨_,(.tmp (d:=(.sl 140 1 (List.map jD (ofNat (val q))))) rfl (.tmp (d:=(.sl 140 1 (List.map jD (ofNat (val (ofNat (val (List.take b.length u))) / (eF b)))))) rfl .nil)),?_⟩
   rw[<- e1,<- e2,kL,val_take_of_lt (Nat.lt_trans hW (by rw[<- hvl];exact xM hvd))];rfl
theorem t_over(a b:List Nat)(ha:yW a)(hb:yW b)(hb0:0<val b)(hla:a.length<=1099511627776)(hlb:b.length<=1099511627776):jO Tryz.prog 222 [(.sl 140 1 (List.map jD a)),(.sl 140 1 (List.map jD b))] (.tup [(.sl 140 1 (List.map jD (ofNat (val a / val b)))),(.sl 140 1 (List.map jD (ofNat (val a % val b))))]):=by
 refine qY Tryz.func222 ?_
 refine jB<|kx [] [] (zE (aZ 140 1)<|zE (aZ 140 1)<|zZ) ?_
 refine jB<|jB<|kx [(15,(vb (decide ((vK ((val a:Nat):Int) ((val b:Nat):Int))<0))))] [] (zM<|zM<|zE (jV (t_compare a b ha hb (by omega)))<|zE xK<|zZ) ?_
 refine jG rfl (fun h1=>?_) (fun h1=>?_)
 ·replace h1:=uV h1
  refine jB<|kx [(4,(vl 140 1 jD [])),(5,(vl 140 1 jD a))] [] (zM<|zE (aZ 140 1)<|zM<|zZ) ?_
  refine jE ⟨_,(.tmp (d:=(.sl 140 1 (List.map jD []))) rfl (.tmp (d:=(.sl 140 1 (List.map jD a))) rfl .nil)),?_⟩
  have hlt:=cmpI_neg h1
  rw[Nat.div_eq_of_lt hlt,Nat.mod_eq_of_lt hlt,uS,<- can_eq ha];rfl
 ·replace h1:=vB h1
  refine jC<|jB<|kx [(6,(nK (gM a))),(7,(vb (cC a)))] [] (zM<|zE (jV (t_word a ha.1))<|zM<|zE uX<|zE uX<|zM<|zM<|zZ) ?_
  refine jB<|kx [(8,(nK (gM b))),(9,(vb (cC b)))] [] (zM<|zE (jV (t_word b hb.1))<|zM<|zE uX<|zE uX<|zM<|zM<|zZ) ?_
  refine jB<|jB<|kx [(30,(vb ((cC a)&&(cC b))))] [] ?_ ?_
  ·refine zM<|zE (oV (vb (cC a)) (qC (by kernel_rfl)))<|?_
   rcases hb2:(cC a) with _ | _
   ·exact zK<|zE xQ<|zZ
   ·exact zM<|zE fR<|zZ
  refine jG (b:=((cC a)&&(cC b))) rfl (fun h3=>?_) (fun h3=>?_)
  ·obtain ⟨w1,w2,w3⟩:=word_both ha.1 h3
   have w4:gM a / gM b<18446744073709551616:=Nat.lt_of_le_of_lt (Nat.div_le_self _ _) (by omega)
   have w5:gM a % gM b<18446744073709551616:=Nat.lt_of_le_of_lt (Nat.mod_le _ _) (by omega)
   refine jB<|kd [(4,(vl 140 1 jD (ofNat ((gM a) / (gM b))))),(5,(vl 140 1 jD (ofNat ((gM a) % (gM b)))))] [] mo (wM<|wM<|wE (oQu ((gM a) / (gM b)))<|wE (jV (t_split ((gM a) / (gM b)) (by omega)))<|wM<|wM<|wE (oRe ((gM a) % (gM b)))<|wE (jV (t_split ((gM a) % (gM b)) (by omega)))<|wM<|wM<|wZ) ?_
   refine jE ⟨_,(.tmp (d:=(.sl 140 1 (List.map jD (ofNat ((gM a) / (gM b)))))) rfl (.tmp (d:=(.sl 140 1 (List.map jD (ofNat ((gM a) % (gM b)))))) rfl .nil)),?_⟩
   rw[w1,w2];rfl
  ·refine jC<|jB<|jB<|kx [(41,(vb (((b.length:Nat):Int) == 1)))] [] (zM<|zE (vP kO)<|zE xR<|zZ) ?_
   refine jG (b:=(((b.length:Nat):Int) == 1)) rfl (fun h4=>?_) (fun h4=>?_)
   ·replace h4:=eq_of_beq h4
    have hv1:=val_len1 (b:=b) (by omega)
    have hg:=hb.1.getD 0
    have w5:val a % b.getD 0 0<4294967296:=Nat.lt_trans (Nat.mod_lt _ (by omega)) (by omega)
    refine jB<|kx [(10,(vl 140 1 jD (ofNat (val a / (b.getD 0 0))))),(11,(lF (val a % (b.getD 0 0))))] [] (zM<|zM<|zE (yE kO 0 (0:Nat))<|zE (yV uB)<|zE (jV (t_short a (b.getD 0 0) ha.1 (by omega) (by omega) (by omega)))<|zM<|zE uX<|zE uX<|zM<|zM<|zZ) ?_
    refine jB<|kx [(4,(vl 140 1 jD (ofNat (val a / (b.getD 0 0))))),(5,(vl 140 1 jD (ofNat (val a % (b.getD 0 0)))))] [] (zM<|zM<|zE (cM gN gL (val a % (b.getD 0 0)))<|zE (jV (t_split (val a % (b.getD 0 0)) (by omega)))<|zM<|zM<|zZ) ?_
    refine jE ⟨_,(.tmp (d:=(.sl 140 1 (List.map jD (ofNat (val a / (b.getD 0 0)))))) rfl (.tmp (d:=(.sl 140 1 (List.map jD (ofNat (val a % (b.getD 0 0)))))) rfl .nil)),?_⟩
    rw[hv1];rfl
   ·replace h4:=ne_of_beq_false h4
    have hbl:=val_pos_len hb0
    refine jC<|jB<|kx [(4,(vl 140 1 jD (ofNat (val a / val b)))),(5,(vl 140 1 jD (ofNat (val a % val b))))] [] (zM<|zM<|zE (jV (t_long a b ha hb (by omega) (cmpI_nn h1) (by omega)))<|zE uX<|zE uX<|zM<|zM<|zZ) ?_
    refine jE ⟨_,(.tmp (d:=(.sl 140 1 (List.map jD (ofNat (val a / val b))))) rfl (.tmp (d:=(.sl 140 1 (List.map jD (ofNat (val a % val b))))) rfl .nil)),?_⟩
    rfl
theorem t_divideI(x y:qF)(hx:x.gs.length<=1099511627776)(hy:y.gs.length<=1099511627776)(hy0:kG y≠0):jO Tryz.prog 227 [(jX x),(jX y)] (.tup [(jX (kN ((kG x).fdiv (kG y)))),(jX (kN ((kG x).fmod (kG y)))),(.val (.int .i64 (0)))]):=by
 have hgx:=qV x
 have hlx:=nI x
 have hgy:=qV y
 have hly:=nI y
 have hn:0<val (kY y):=by have:=lV y;omega
 have hq:=len_quo (kY x) hgx (val (kY y))
 have hr:=len_rem (kY x) hgx (val (kY y))
 have hrn:=Nat.mod_lt (val (kY x)) hn
 refine qY Tryz.func227 ?_
 refine jB<|kx [(2,(.ref 0 0)),(3,(.ref 1 0)),(4,(.ref 2 0)),(5,(.ref 3 0))] [(0,some (bx (jX x))),(1,some (bx (jX y))),(2,some (bx (jX (qF.mk false [])))),(3,some (bx (jX (qF.mk false []))))] (zN (uU 0)<|zN (uU 1)<|zN (qR 2 gE gF)<|zN (qR 3 gE gF)<|zM<|zZ) ?_
 refine jB<|kd [(7,(vl 140 1 jD (kY x))),(8,(vl 140 1 jD (kY y)))] [] mo (wR (kJ kC)<|wE (jV (nD x (by omega)))<|wR (kJ kC)<|wE (jV (nD y (by omega)))<|wM<|wM<|wZ) ?_
 refine jB<|jB<|kx [(17,(vb ((((kY y).length:Nat):Int) == 0)))] [] (zM<|zE (vP kO (L:=(kY y)))<|zE xR<|zZ) ?_
 refine jG (b:=((((kY y).length:Nat):Int) == 0)) rfl (fun h1=>?_) (fun h1=>?_)
 ·replace h1:=eq_of_beq h1
  exact absurd (toZ_nil h1) hy0
 ·replace h1:=ne_of_beq_false h1
  refine jC<|jB<|kx [(9,(vl 140 1 jD (ofNat (val (kY x) / val (kY y))))),(10,(vl 140 1 jD (ofNat (val (kY x) % val (kY y)))))] [] (zM<|zM<|zE (jV (t_over (kY x) (kY y) hgx hgy (by omega) (by omega) (by omega)))<|zM<|zE uX<|zE uX<|zM<|zM<|zZ) ?_
  refine jB<|kx [(10,(vl 140 1 jD (ofNat (val (kY x) % val (kY y)))))] [] (zM<|zE (jV (t_clone (ofNat (val (kY x) % val (kY y))) (by omega)))<|zM<|zZ) ?_
  refine jB<|jB<|kx [(37,(vb (decide (0<(((ofNat (val (kY x) % val (kY y))).length:Nat):Int))&&!(x.neg == y.neg))))] [] ?_ ?_
  ·refine zM<|zE (vP kO (L:=(ofNat (val (kY x) % val (kY y)))))<|zE hH<|zE (oV (vb (decide (0<(((ofNat (val (kY x) % val (kY y))).length:Nat):Int)))) (qC (by kernel_rfl)))<|?_
   rcases hb2:(decide (0<(((ofNat (val (kY x) % val (kY y))).length:Nat):Int))) with _ | _
   ·replace hb2:=vB hb2
    exact zK<|zK<|zK<|zK<|zK<|zE xQ<|zZ
   ·replace hb2:=uV hb2
    exact zE (kV vZ)<|zR (uE iP)<|zE (kV vZ)<|zR (uE iP)<|zE (oNb bo4)<|zE fR<|zZ
  refine jG rfl (fun h3=>?_) (fun h3=>?_)
  ·have e1:(ofNat (val (ofNat (val (kY x) / val (kY y)))+val [1])).length<=1099511627777:=uL (by rw[kL,dW];have:=bD (val (kY x) / val (kY y));have h3:pw (ofNat (val (kY x) / val (kY y))).length<=pw 1099511627776:=nH (by omega);have h4:=pw_lt (show 1099511627776<1099511627777 by decide);omega)
   have e2:=sub_len (b:=ofNat (val (kY x) % val (kY y))) hgy.1
   rw[Bool.and_eq_true,decide_eq_true_eq,Bool.not_eq_true',beq_eq_false_iff_ne] at h3
   obtain ⟨k1,k2⟩:=h3
   have k3:0<val (kY x) % val (kY y):=by have:=dB (qO (val (kY x) % val (kY y))) (by omega);rwa [kL] at this
   obtain ⟨d1,d2⟩:=div_other hn k2 k3
   refine kx [(9,(vl 140 1 jD (ofNat (val (ofNat (val (kY x) / val (kY y)))+val [1])))),(10,(vl 140 1 jD (ofNat (val (kY y)-val (ofNat (val (kY x) % val (kY y)))))))] [] (zM<|zE (eE kO xB yZ)<|zE (jV (t_plus (ofNat (val (kY x) / val (kY y))) [1] (kP _) (gX.2 ⟨by decide,nQ⟩) (by omega) (by decide)))<|zM<|zM<|zE (jV (t_minus (kY y) (ofNat (val (kY x) % val (kY y))) hgy.1 (kP _) (by rw[kL];omega) (by omega)))<|zM<|zM<|zZ) ?_
   refine jB<|kd [(6,(jS 0))] [(2,some (bx (jX (xT (!(x.neg == y.neg)) (val (ofNat (val (ofNat (val (kY x) / val (kY y)))+val [1]))))))),(3,some (bx (jX (xT y.neg (val (ofNat (val (kY y)-val (ofNat (val (kY x) % val (kY y))))))))))] mo (wE (kV vZ)<|wR (uE iP)<|wE (kV vZ)<|wR (uE iP)<|wE (oNb bo4)<|wM<|wE (jV (cK (!(x.neg == y.neg)) (ofNat (val (ofNat (val (kY x) / val (kY y)))+val [1])) (kP _) (by omega)))<|wE (kV vZ)<|wR (uE iP)<|wM<|wE (jV (cK y.neg (ofNat (val (kY y)-val (ofNat (val (kY x) % val (kY y))))) (kP _) (by omega)))<|wT (qA kC)<|wT (qA kC)<|wM<|wZ) ?_
   refine jE ⟨_,(kI (cs:=(bx (jX (xT (!(x.neg == y.neg)) (val (ofNat (val (ofNat (val (kY x) / val (kY y)))+val [1]))))))) (d:=(jX (xT (!(x.neg == y.neg)) (val (ofNat (val (ofNat (val (kY x) / val (kY y)))+val [1])))))) rfl rfl kC rfl rfl (kI (cs:=(bx (jX (xT y.neg (val (ofNat (val (kY y)-val (ofNat (val (kY x) % val (kY y)))))))))) (d:=(jX (xT y.neg (val (ofNat (val (kY y)-val (ofNat (val (kY x) % val (kY y))))))))) rfl rfl kC rfl rfl (.tmp (d:=(.val (.int .i64 (0)))) rfl .nil))),?_⟩
   unfold kG
   rw[d1,d2]
   simp only[kL,dW]
   rfl
  ·obtain ⟨d1,d2⟩:=div_same (b:=x.neg) (c:=y.neg) (m:=val (kY x)) hn (by rw[Bool.and_eq_false_iff,decide_eq_false_iff_not,Bool.not_eq_false',beq_iff_eq] at h3;rcases h3 with k | k;right;have:=fD (n:=val (kY x) % val (kY y));omega;exact .inl k)
   refine jC<|jB<|kd [(6,(jS 0))] [(2,some (bx (jX (xT (!(x.neg == y.neg)) (val (ofNat (val (kY x) / val (kY y)))))))),(3,some (bx (jX (xT y.neg (val (ofNat (val (kY x) % val (kY y))))))))] mo (wE (kV vZ)<|wR (uE iP)<|wE (kV vZ)<|wR (uE iP)<|wE (oNb bo4)<|wM<|wE (jV (cK (!(x.neg == y.neg)) (ofNat (val (kY x) / val (kY y))) (kP _) (by omega)))<|wE (kV vZ)<|wR (uE iP)<|wM<|wE (jV (cK y.neg (ofNat (val (kY x) % val (kY y))) (kP _) (by omega)))<|wT (qA kC)<|wT (qA kC)<|wM<|wZ) ?_
   refine jE ⟨_,(kI (cs:=(bx (jX (xT (!(x.neg == y.neg)) (val (ofNat (val (kY x) / val (kY y)))))))) (d:=(jX (xT (!(x.neg == y.neg)) (val (ofNat (val (kY x) / val (kY y))))))) rfl rfl kC rfl rfl (kI (cs:=(bx (jX (xT y.neg (val (ofNat (val (kY x) % val (kY y)))))))) (d:=(jX (xT y.neg (val (ofNat (val (kY x) % val (kY y))))))) rfl rfl kC rfl rfl (.tmp (d:=(.val (.int .i64 (0)))) rfl .nil))),?_⟩
   unfold kG
   rw[d1,d2]
   simp only[kL]
   rfl
theorem t_gcdI(x y:qF)(hx:x.gs.length<=1099511627776)(hy:y.gs.length<=1099511627776):jO Tryz.prog 138 [(jX x),(jX y)] (jX (kN ((Int.gcd (kG x) (kG y):Nat):Int))):=by
 have hgx:=qV x
 have hlx:=nI x
 have hgy:=qV y
 have hly:=nI y
 refine qY Tryz.func138 ?_
 refine jB<|kx [(2,(.ref 0 0)),(3,(.ref 1 0)),(4,(.ref 2 0))] [(0,some (bx (jX x))),(1,some (bx (jX y))),(2,some (bx (jX (qF.mk false []))))] (zN (uU 0)<|zN (uU 1)<|zN (qR 2 gE gF)<|zZ) ?_
 refine jB<|kd [(5,(vl 140 1 jD (kY x))),(6,(vl 140 1 jD (kY y)))] [] mo (wR (kJ kC)<|wE (jV (nD x (by omega)))<|wR (kJ kC)<|wE (jV (nD y (by omega)))<|wM<|wM<|wZ) ?_
 refine jB<|jH<|kF (α:=List Nat × List Nat) (fun (a,b)=>⟨[(4,(.ref 2 0)),(5,(vl 140 1 jD a)),(6,(vl 140 1 jD b))],[(2,some (bx (jX (qF.mk false []))))]⟩) (fun (a,b)=>yW a/\yW b/\a.length<=1099511627776/\b.length<=1099511627776/\Nat.gcd (val a) (val b)=Int.gcd (kG x) (kG y)) (fun (a,b)=>val b) (kY x,kY y) wk ⟨hgx,hgy,by omega,by omega,gcd_toZ x y⟩ ?_
 rintro ⟨a,b⟩ ⟨ha,hb,hla,hlb,hg⟩
 refine jB<|jB<|kx [(19,(vb (decide (0<((b.length:Nat):Int)))))] [] (zM<|zE (vP kO)<|zE hH<|zZ) ?_
 refine jG (b:=decide (0<((b.length:Nat):Int))) rfl (fun h1=>?_) (fun h1=>?_)
 ·replace h1:=uV h1
  have hb0:=dB hb (by omega)
  refine jC<|jH<|jB<|kx [(7,(nK (gM a))),(8,(vb (cC a)))] [] (zM<|zE (jV (t_word a ha.1))<|zM<|zE uX<|zE uX<|zM<|zM<|zZ) ?_
  refine jB<|kx [(9,(nK (gM b))),(10,(vb (cC b)))] [] (zM<|zE (jV (t_word b hb.1))<|zM<|zE uX<|zE uX<|zM<|zM<|zZ) ?_
  refine jB<|jB<|kx [(33,(vb ((cC a)&&(cC b))))] [] ?_ ?_
  ·refine zM<|zE (oV (vb (cC a)) (qC (by kernel_rfl)))<|?_
   rcases hb2:(cC a) with _ | _
   ·exact zK<|zE xQ<|zZ
   ·exact zM<|zE fR<|zZ
  refine jG (b:=((cC a)&&(cC b))) rfl (fun h3=>?_) (fun h3=>?_)
  ·obtain ⟨w1,w2,w3⟩:=word_both ha.1 h3
   have w4:val b<1000000000000000000:=by rw[Bool.and_eq_true] at h3;exact val_len2 hb.1 (uV h3.2)
   refine jB<|jH<|kF (α:=Nat × Nat) (fun (m,n)=>⟨[(4,(.ref 2 0)),(7,(nK m)),(9,(nK n))],[(2,some (bx (jX (qF.mk false []))))]⟩) (fun (m,n)=>m<1000000000000000000/\n<1000000000000000000/\Nat.gcd m n=Int.gcd (kG x) (kG y)) (fun (m,n)=>n) (gM a,gM b) wk ⟨by omega,by omega,by rw[w1,w2];exact hg⟩ ?_
   rintro ⟨m,n⟩ ⟨hm,hn,hg2⟩
   refine jB<|jB<|kx [(35,(vb (decide (0<((n:Nat):Int)))))] [] (zM<|zE hH<|zZ) ?_
   refine jG (b:=decide (0<((n:Nat):Int))) rfl (fun h4=>?_) (fun h4=>?_)
   ·replace h4:=uV h4
    refine jC<|jH<|kd [(7,(nK n)),(9,(nK (m % n)))] [] mo (wM<|wM<|wM<|wE (oRe (m % n))<|wM<|wM<|wZ) ?_
    exact ⟨(n,m % n),wk,⟨hn,Nat.lt_of_le_of_lt (Nat.mod_le _ _) hm,by rw[<- hg2,Nat.gcd_comm,<- Nat.gcd_rec,Nat.gcd_comm]⟩,(by dsimp only;exact Nat.mod_lt _ (by omega))⟩
   ·replace h4:=vB h4
    obtain rfl:n=0:=by omega
    rw[Nat.gcd_zero_right] at hg2
    refine kD<|jB<|kx [] [(2,some (bx (jX (xT false (val (ofNat m))))))] (zM<|zE (jV (t_split m (by omega)))<|zE (jV (cK false (ofNat m) (kP _) (Nat.le_trans (aV (by omega)) (by decide))))<|zT (qA kC)<|zZ) ?_
    refine jE ⟨_,(kI (cs:=(bx (jX (xT false (val (ofNat m)))))) (d:=(jX (xT false (val (ofNat m))))) rfl rfl kC rfl rfl .nil),?_⟩
    rw[<- hg2,kL,mkI_false];rfl
  ·refine jC<|jB<|kx [(12,(vl 140 1 jD (ofNat (val a % val b))))] [] (zM<|zM<|zE (jV (t_over a b ha hb hb0 (by omega) (by omega)))<|zM<|zE uX<|zE uX<|zM<|zM<|zZ) ?_
   refine kx [(5,(vl 140 1 jD b)),(6,(vl 140 1 jD (ofNat (val a % val b))))] [] (zM<|zM<|zM<|zM<|zZ) ?_
   exact ⟨(b,ofNat (val a % val b)),wk,⟨hb,qO _,hlb,Nat.le_trans (len_rem a ha _) hla,by rw[kL,<- hg,Nat.gcd_comm,<- Nat.gcd_rec,Nat.gcd_comm]⟩,(by dsimp only;rw[kL];exact Nat.mod_lt _ hb0)⟩
 ·replace h1:=vB h1
  have hb1:b=[]:=List.eq_nil_of_length_eq_zero (by omega)
  rw[hb1,val_nil,Nat.gcd_zero_right] at hg
  refine kD<|jB<|kx [] [(2,some (bx (jX (xT false (val a)))))] (zM<|zE (jV (t_clone a (by omega)))<|zE (jV (cK false a ha.1 (by omega)))<|zT (qA kC)<|zZ) ?_
  refine jE ⟨_,(kI (cs:=(bx (jX (xT false (val a))))) (d:=(jX (xT false (val a)))) rfl rfl kC rfl rfl .nil),?_⟩
  rw[<- hg,mkI_false];rfl
end Go.Proofs.YtnajallgoaiahaaGreatDoor
