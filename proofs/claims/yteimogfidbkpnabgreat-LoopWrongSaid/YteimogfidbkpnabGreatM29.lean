/- Part 29 of a proof: rules, plain facts, and functions walked. -/
import Derived.Test.YteimogfidbkpnabGreatM28
import Derived.Test.YteimogfidbkpnabGreatM25
import Derived.Test.YteimogfidbkpnabGreatM7
set_option linter.all false
set_option maxRecDepth 4000
namespace Go.Proofs.YteimogfidbkpnabGreat
open Go.Fid
theorem cb11:callB Tryz.prog 11=true:=by kernel_rfl
theorem cb13:callB Tryz.prog 13=true:=by kernel_rfl
theorem cb16:callB Tryz.prog 16=true:=by kernel_rfl
theorem cb18:callB Tryz.prog 18=true:=by kernel_rfl
theorem cb19:callB Tryz.prog 19=true:=by kernel_rfl
theorem eqa62:eqaB Tryz.prog 62=some 3:=by kernel_rfl
theorem sh62:kS Tryz.prog 62=some (true,3):=by kernel_rfl
theorem l_Tree(z:Int)(es:List jC)(hb:es.length≤1000000):kB Tryz.prog 11 [(.val (.int .i64 (z))),(.sl 36 6 (List.map jP es))] (.tup [(.sl 3 1 (List.map jO (okL (uP z es) (jN (Int.toNat z) es)))),(.val (.int .i64 ((((uP z es):Nat):Int))))]):=by
 refine jK Tryz.func11 rfl cb11 rfl ?_
 show qU _ _ _ _ ⟨[(0,(vi z)),(1,(vl 36 6 jP es))],[]⟩
 refine jA<|kx [] [] (zE (oNl 3 1)<|zM<|zZ) ?_
 refine jA<|jA<|kx [(6,(jT (uP z es)))] [] (zM<|zM<|zE (kE (l_check z es hb))<|zM<|zZ) ?_
 refine jA<|kx [(11,(vb ((((uP z es):Nat):Int) != 0)))] [] (zM<|zE fO<|zZ) ?_
 refine jG (b:=((((uP z es):Nat):Int) != 0)) rfl (fun h1=>?_) (fun h1=>?_)
 ·replace h1:=bne_iff_ne.1 h1
  refine jA<|kx [(4,(vl 3 1 jO [])),(5,(jT (uP z es)))] [] (zM<|zE (oNl 3 1)<|zM<|zZ) ?_
  refine jI ⟨_,(.tmp (d:=(.sl 3 1 (List.map jO []))) rfl (.tmp (d:=(.val (.int .i64 ((((uP z es):Nat):Int))))) rfl .nil)),?_⟩
  rw[okL_n (eJ h1)];rfl
 ·replace h1:=bne_eq_false_iff_eq.1 h1
  have hc0:uP z es=0:=by omega
  obtain ⟨hz1,hz2,hl2,heo⟩:=lopC_0 hc0
  refine jE<|jA<|kx [(4,(vl 3 1 jO (jN z.toNat es))),(5,(jT 0))] [] (zE (oQd (.val (.int .i64 (z))) (.val (.int .i64 (((z.toNat:Nat):Int)))) (oV (vi z) (kZ (by kernel_rfl))) (by exact (congrArg (fun z=>kF.val (.int .i64 z)) (by omega))))<|zM<|zE (kE (l_tree z.toNat es heo (by omega) hl2))<|zM<|zM<|zZ) ?_
  refine jI ⟨_,(.tmp (d:=(.sl 3 1 (List.map jO (jN z.toNat es)))) rfl (.tmp (d:=(.val (.int .i64 (0)))) rfl .nil)),?_⟩
  rw[eB hc0,hc0];rfl
theorem l_Tris(z:Int)(es:List jC)(hb:es.length≤1000000):kB Tryz.prog 16 [(.val (.int .i64 (z))),(.sl 36 6 (List.map jP es))] (.tup [(.sl 62 3 (List.map kT (List.map t3 (okL (uP z es) (jU es))))),(.val (.int .i64 ((((uP z es):Nat):Int))))]):=by
 refine jK Tryz.func16 rfl cb16 rfl ?_
 show qU _ _ _ _ ⟨[(0,(vi z)),(1,(vl 36 6 jP es))],[]⟩
 refine jA<|kx [] [] (zE (oNl 62 3)<|zM<|zZ) ?_
 refine jA<|jA<|kx [(6,(jT (uP z es)))] [] (zM<|zM<|zE (kE (l_check z es hb))<|zM<|zZ) ?_
 refine jA<|kx [(13,(vb ((((uP z es):Nat):Int) != 0)))] [] (zM<|zE fO<|zZ) ?_
 refine jG (b:=((((uP z es):Nat):Int) != 0)) rfl (fun h1=>?_) (fun h1=>?_)
 ·replace h1:=bne_iff_ne.1 h1
  refine jA<|kx [(4,(vl 62 3 kT [])),(5,(jT (uP z es)))] [] (zM<|zE (oNl 62 3)<|zM<|zZ) ?_
  refine jI ⟨_,(.tmp (d:=(.sl 62 3 (List.map kT []))) rfl (.tmp (d:=(.val (.int .i64 ((((uP z es):Nat):Int))))) rfl .nil)),?_⟩
  rw[okL_n (eJ h1)];rfl
 ·replace h1:=bne_eq_false_iff_eq.1 h1
  have hc0:uP z es=0:=by omega
  obtain ⟨hz1,hz2,hl2,heo⟩:=lopC_0 hc0
  refine jE<|jA<|kx [(7,(vl 62 3 kT (List.map t3 (jU es))))] [] (zM<|zE (kE (l_tris es z.toNat heo (by omega) hl2))<|zM<|zE qQ<|zE qQ<|zM<|zM<|zZ) ?_
  refine jA<|kx [(4,(vl 62 3 kT (List.map t3 (jU es)))),(5,(jT 0))] [] (zM<|zM<|zM<|zZ) ?_
  refine jI ⟨_,(.tmp (d:=(.sl 62 3 (List.map kT (List.map t3 (jU es))))) rfl (.tmp (d:=(.val (.int .i64 (0)))) rfl .nil)),?_⟩
  rw[eB hc0,hc0];rfl
theorem l_Abs(z:Int)(es:List jC)(hb:es.length≤1000000):kB Tryz.prog 13 [(.val (.int .i64 (z))),(.sl 36 6 (List.map jP es))] (.tup [(.sl 24 4 (List.map jF (okL (uP z es) (absL (Int.toNat z) es)))),(.val (.int .i64 ((((okC (uP z es) (absC (Int.toNat z) es)):Nat):Int))))]):=by
 refine jK Tryz.func13 rfl cb13 rfl ?_
 show qU _ _ _ _ ⟨[(0,(vi z)),(1,(vl 36 6 jP es))],[]⟩
 refine jA<|kx [] [] (zE (oNl 24 4)<|zM<|zZ) ?_
 refine jA<|jA<|kx [(6,(jT (uP z es)))] [] (zM<|zM<|zE (kE (l_check z es hb))<|zM<|zZ) ?_
 refine jA<|kx [(11,(vb ((((uP z es):Nat):Int) != 0)))] [] (zM<|zE fO<|zZ) ?_
 refine jG (b:=((((uP z es):Nat):Int) != 0)) rfl (fun h1=>?_) (fun h1=>?_)
 ·replace h1:=bne_iff_ne.1 h1
  refine jA<|kx [(4,(vl 24 4 jF [])),(5,(jT (uP z es)))] [] (zM<|zE (oNl 24 4)<|zM<|zZ) ?_
  refine jI ⟨_,(.tmp (d:=(.sl 24 4 (List.map jF []))) rfl (.tmp (d:=(.val (.int .i64 ((((uP z es):Nat):Int))))) rfl .nil)),?_⟩
  rw[okL_n (eJ h1),okC_n (eJ h1)];rfl
 ·replace h1:=bne_eq_false_iff_eq.1 h1
  have hc0:uP z es=0:=by omega
  obtain ⟨hz1,hz2,hl2,heo⟩:=lopC_0 hc0
  refine jE<|jA<|kx [(4,(vl 24 4 jF (absL z.toNat es))),(5,(jT (absC z.toNat es)))] [] (zE (oQd (.val (.int .i64 (z))) (.val (.int .i64 (((z.toNat:Nat):Int)))) (oV (vi z) (kZ (by kernel_rfl))) (by exact (congrArg (fun z=>kF.val (.int .i64 z)) (by omega))))<|zM<|zE (kE (l_abs z.toNat es heo (by omega) hl2))<|zE qQ<|zE qQ<|zM<|zM<|zZ) ?_
  refine jI ⟨_,(.tmp (d:=(.sl 24 4 (List.map jF (absL z.toNat es)))) rfl (.tmp (d:=(.val (.int .i64 ((((absC z.toNat es):Nat):Int))))) rfl .nil)),?_⟩
  rw[eB hc0,okC_0 hc0];rfl
theorem l_eqT(l:List (A3 (Int)))(m:List (A3 (Int)))(hb:l.length≤1000000)(hlm:l=m):kB Tryz.prog 19 [(.sl 62 3 (List.map kT l)),(.sl 62 3 (List.map kT m))] (.val (.bool (true))):=by
 refine jK Tryz.func19 rfl cb19 rfl ?_
 show qU _ _ _ _ ⟨[(0,(vl 62 3 kT l)),(1,(vl 62 3 kT m))],[]⟩
 refine jA<|kx [] [] (zM<|zZ) ?_
 refine jA<|jA<|kx [(10,(vb (((l.length:Nat):Int) != ((m.length:Nat):Int))))] [] (zM<|zE (xD el56)<|zM<|zE (xD el56)<|zE fO<|zZ) ?_
 refine jG rfl (fun h1=>?_) (fun h1=>?_)
 ·replace h1:=bne_iff_ne.1 h1
  exfalso;subst hlm;exact h1 rfl
 ·replace h1:=bne_eq_false_iff_eq.1 h1
  have hll:m.length=l.length:=by rw[hlm]
  refine jE<|jA<|jA<|kx [(12,(jT l.length)),(13,(jT 0))] [] (zM<|zE (xD el56)<|zM<|zZ) ?_
  refine jH<|kI (α:=Nat) (fun k=>⟨[(0,(vl 62 3 kT l)),(1,(vl 62 3 kT m)),(12,(jT l.length)),(13,(jT k))],[]⟩) (fun k=>k≤l.length) (fun k=>l.length-k) 0 wk (Nat.zero_le _) ?_
  rintro k hk
  refine jA<|kx [(14,(vb (decide (((k:Nat):Int)<((l.length:Nat):Int)))))] [] (zE uM<|zZ) ?_
  refine jA<|jG rfl (fun h2=>?_) (fun h2=>?_)
  ·replace h2:=uW h2
   refine jE<|jA<|jH<|jA<|kx [(5,(jT k))] [] (zM<|zM<|zZ) ?_
   refine jA<|kd [(24,(vb (!(decide ([(l.getD k (A3.mk 0 0 0)).a0,(l.getD k (A3.mk 0 0 0)).a1,(l.getD k (A3.mk 0 0 0)).a2]=[(m.getD k (A3.mk 0 0 0)).a0,(m.getD k (A3.mk 0 0 0)).a1,(m.getD k (A3.mk 0 0 0)).a2])))))] [] mo (wM<|wM<|wE (gV el56 k ((A3.mk 0 0 0):A3 (Int)))<|wE (oCa sh62)<|wM<|wM<|wE (gV el56 k ((A3.mk 0 0 0):A3 (Int)))<|wE (oCa sh62)<|wE (oNA eqa62 .i64 [(l.getD k (A3.mk 0 0 0)).a0,(l.getD k (A3.mk 0 0 0)).a1,(l.getD k (A3.mk 0 0 0)).a2] [(m.getD k (A3.mk 0 0 0)).a0,(m.getD k (A3.mk 0 0 0)).a1,(m.getD k (A3.mk 0 0 0)).a2])<|wZ) ?_
   refine jG rfl (fun h3=>?_) (fun h3=>?_)
   ·exfalso;subst hlm;simp at h3
   ·refine jE<|kx [(13,(jT (k+1)))] [] (zE (qS (k+1))<|zM<|zZ) ?_
    exact ⟨(k+1),wk,(by omega),(by omega)⟩
  ·replace h2:=uY h2
   refine jW<|jA<|kx [(4,(vb true))] [] (zM<|zZ) ?_
   refine jI ⟨_,(.tmp (d:=(.val (.bool (true)))) rfl .nil),?_⟩
   rfl
theorem l_eqQ(l:List jB)(m:List jB)(hb:l.length≤1000000)(hlm:l=m):kB Tryz.prog 18 [(.sl 24 4 (List.map jF l)),(.sl 24 4 (List.map jF m))] (.val (.bool (true))):=by
 refine jK Tryz.func18 rfl cb18 rfl ?_
 show qU _ _ _ _ ⟨[(0,(vl 24 4 jF l)),(1,(vl 24 4 jF m))],[]⟩
 refine jA<|kx [] [] (zM<|zZ) ?_
 refine jA<|jA<|kx [(10,(vb (((l.length:Nat):Int) != ((m.length:Nat):Int))))] [] (zM<|zE (xD cI)<|zM<|zE (xD cI)<|zE fO<|zZ) ?_
 refine jG rfl (fun h1=>?_) (fun h1=>?_)
 ·replace h1:=bne_iff_ne.1 h1
  exfalso;subst hlm;exact h1 rfl
 ·replace h1:=bne_eq_false_iff_eq.1 h1
  have hll:m.length=l.length:=by rw[hlm]
  refine jE<|jA<|jA<|kx [(12,(jT l.length)),(13,(jT 0))] [] (zM<|zE (xD cI)<|zM<|zZ) ?_
  refine jH<|kI (α:=Nat) (fun k=>⟨[(0,(vl 24 4 jF l)),(1,(vl 24 4 jF m)),(12,(jT l.length)),(13,(jT k))],[]⟩) (fun k=>k≤l.length) (fun k=>l.length-k) 0 wk (Nat.zero_le _) ?_
  rintro k hk
  refine jA<|kx [(14,(vb (decide (((k:Nat):Int)<((l.length:Nat):Int)))))] [] (zE uM<|zZ) ?_
  refine jA<|jG rfl (fun h2=>?_) (fun h2=>?_)
  ·replace h2:=uW h2
   refine jE<|jA<|jH<|jA<|kx [(5,(jT k))] [] (zM<|zM<|zZ) ?_
   refine jA<|kd [(24,(vb (!(decide ([(l.getD k (jB.mk 0 0 0 0)).a,(l.getD k (jB.mk 0 0 0 0)).b,(l.getD k (jB.mk 0 0 0 0)).c,(l.getD k (jB.mk 0 0 0 0)).d]=[(m.getD k (jB.mk 0 0 0 0)).a,(m.getD k (jB.mk 0 0 0 0)).b,(m.getD k (jB.mk 0 0 0 0)).c,(m.getD k (jB.mk 0 0 0 0)).d])))))] [] mo (wM<|wM<|wE (gV cI k (jB.mk 0 0 0 0))<|wE (oCa kL)<|wM<|wM<|wE (gV cI k (jB.mk 0 0 0 0))<|wE (oCa kL)<|wE (oNs eqs24 .i64 [(l.getD k (jB.mk 0 0 0 0)).a,(l.getD k (jB.mk 0 0 0 0)).b,(l.getD k (jB.mk 0 0 0 0)).c,(l.getD k (jB.mk 0 0 0 0)).d] [(m.getD k (jB.mk 0 0 0 0)).a,(m.getD k (jB.mk 0 0 0 0)).b,(m.getD k (jB.mk 0 0 0 0)).c,(m.getD k (jB.mk 0 0 0 0)).d])<|wZ) ?_
   refine jG rfl (fun h3=>?_) (fun h3=>?_)
   ·exfalso;subst hlm;simp at h3
   ·refine jE<|kx [(13,(jT (k+1)))] [] (zE (qS (k+1))<|zM<|zZ) ?_
    exact ⟨(k+1),wk,(by omega),(by omega)⟩
  ·replace h2:=uY h2
   refine jW<|jA<|kx [(4,(vb true))] [] (zM<|zZ) ?_
   refine jI ⟨_,(.tmp (d:=(.val (.bool (true)))) rfl .nil),?_⟩
   rfl
theorem cb8:callB Tryz.prog 8=true:=by kernel_rfl
theorem vbw{b:Int}{v:List Int}{g:Int}(h:VB b v)(hg:g=1∨g=-1)(hb:b≤100000000)(k:Nat):IntKind.i64.wrap (v.getD k 0+g)=v.getD k 0+g:=qJ rfl (VB_w h hg hb k).1 (VB_w h hg hb k).2
theorem VB_e{b c:Int}{v:List Int}(h:VB b v)(e:b=c):VB c v:=e▸h
theorem l_Sel(z:Int)(es:List jC)(x:uN)(p:Rat)(hx:QOk x p 1000)(hb:es.length≤1000000):kB Tryz.prog 8 [(.val (.int .i64 (z))),(.sl 36 6 (List.map jP es)),(kN x)] (.tup [(.sl 3 1 (List.map jO (slV z es x p))),(.val (.int .i64 ((((slC z es x p):Nat):Int))))]):=by
 refine jK Tryz.func8 rfl cb8 rfl ?_
 show qU _ _ _ _ ⟨[(0,(vi z)),(1,(vl 36 6 jP es)),(2,(.d (kN x)))],[]⟩
 refine jA<|kx [(5,(.ref 0 0))] [(0,some (bx (kN x)))] (zN (yC 0)<|zE (oNl 3 1)<|zM<|zZ) ?_
 refine jA<|jA<|kx [(8,(jT (uP z es)))] [] (zM<|zM<|zE (kE (l_check z es hb))<|zM<|zZ) ?_
 refine jA<|kx [(28,(vb ((((uP z es):Nat):Int) != ((0:Nat):Int))))] [] (zM<|zE fO<|zZ) ?_
 refine jG rfl (fun h1=>?_) (fun h1=>?_)
 ·replace h1:=bne_iff_ne.1 h1
  refine jA<|kx [(6,(vl 3 1 jO [])),(7,(jT (uP z es)))] [] (zM<|zE (oNl 3 1)<|zM<|zZ) ?_
  refine jI ⟨_,(.tmp (d:=(.sl 3 1 (List.map jO []))) rfl (.tmp (d:=(.val (.int .i64 ((((uP z es):Nat):Int))))) rfl .nil)),?_⟩
  rw[show slV z es x p=[] from okL_n (eJ h1),show slC z es x p=uP z es from okC_n (eJ h1)];rfl
 ·replace h1:=bne_eq_false_iff_eq.1 h1
  have hc0:uP z es=0:=by omega
  obtain ⟨hz1,hz2,hl2,heo⟩:=lopC_0 hc0
  refine jE<|jA<|jA<|kx [(32,(vb (!(xO x))))] [] (zR (kY vB)<|zE (kE (f_valid x p (cV hx (by decide))))<|zE oNt<|zZ) ?_
  refine jG (b:=!(xO x)) rfl (fun h2=>?_) (fun h2=>?_)
  ·refine jA<|kx [(6,(vl 3 1 jO [])),(7,(jT 1))] [] (zE (oNl 3 1)<|zM<|zZ) ?_
   refine jI ⟨_,(.tmp (d:=(.sl 3 1 (List.map jO []))) rfl (.tmp (d:=(.val (.int .i64 (((1:Nat):Int))))) rfl .nil)),?_⟩
   obtain ⟨q1,q2⟩:=sld_1 (es:=es) (p:=p) (bn_t h2)
   rw[show slV z es x p=sldV es x p from eB hc0,show slC z es x p=sldC es x p from okC_0 hc0,q1,q2];rfl
  ·refine jE<|jA<|jA<|kd [(41,(vb (decide ((signQ p)<((0:Nat):Int))||decide (((0:Nat):Int)<(cmpQ p ((1:Int):Rat))))))] [] mo ?_ ?_
   ·refine wR (kY vB)<|wE (kE (f_sign x p (cV hx (by decide))))<|wE uM<|wE (oV (vb (decide ((signQ p)<((0:Nat):Int)))) (kZ (by kernel_rfl)))<|?_
    rcases hb3:(decide ((signQ p)<((0:Nat):Int))) with _ | _
    ·replace hb3:=uY hb3
     exact wR (kY vB)<|wE (kE (f_whole 1 (by decide) (by decide)))<|wE (kE (f_compare x (zB ((1:Int):Rat)) p ((1:Int):Rat) (cV hx (by decide)) (cV (qok_of (ql_int (z:=1) (lenZ_one (by decide)) (by decide))) (by decide))))<|wE cK<|wE cF<|wZ
    ·replace hb3:=uW hb3
     exact wK<|wK<|wK<|wK<|wE xC<|wZ
   refine jG rfl (fun h4=>?_) (fun h4=>?_)
   ·refine jA<|kx [(6,(vl 3 1 jO [])),(7,(jT 2))] [] (zE (oNl 3 1)<|zM<|zZ) ?_
    refine jI ⟨_,(.tmp (d:=(.sl 3 1 (List.map jO []))) rfl (.tmp (d:=(.val (.int .i64 (((2:Nat):Int))))) rfl .nil)),?_⟩
    obtain ⟨q1,q2⟩:=sld_2 (es:=es) (p:=p) (bn_f h2) h4
    rw[show slV z es x p=sldV es x p from eB hc0,show slC z es x p=sldC es x p from okC_0 hc0,q1,q2];rfl
   ·refine jE<|jA<|kx [(9,(.own 1 3 1 es.length))] [(1,some (bm jO (List.replicate es.length 0)))] (zM<|zE (xD mI)<|zN (oMk 1 jO (0:Int) es.length es.length vF ze3 zo3 by3 (hlN:=by first | omega | (simp only[List.length_set];omega)) (hcM:=by first | omega | (simp only[List.length_set];omega)) (hnm:=by first | omega | (simp only[List.length_set];omega)) (hb:=by first | omega | (simp only[List.length_set];omega)))<|zM<|zZ) ?_
    refine jA<|kx [(10,(vl 62 3 kT (List.map t3 (jU es)))),(11,(vl 62 3 kT (List.map (w3 es) (jU es))))] [] (zM<|zE (kE (l_tris es z.toNat heo (by omega) hl2))<|zM<|zE qQ<|zE qQ<|zM<|zM<|zZ) ?_
    refine jA<|jA<|kx [(50,(vl 62 3 kT (List.map t3 (jU es)))),(51,(jT ((jU es).length))),(52,(jT 0))] [] (zM<|zE (oLn el56 ((jU es).length))<|zM<|zZ) ?_
    refine jH<|kI (α:=Nat × List Int) (fun (m,v)=>⟨[(1,(vl 36 6 jP es)),(5,(.ref 0 0)),(9,(.own 1 3 1 es.length)),(11,(vl 62 3 kT (List.map (w3 es) (jU es)))),(50,(vl 62 3 kT (List.map t3 (jU es)))),(51,(jT ((jU es).length))),(52,(jT m))],[(0,some (bx (kN x))),(1,some (bm jO v))]⟩) (fun (m,v)=>m≤(jU es).length∧seUp es m∧v=vts p es ((jU es).take m)∧VB (3*((m:Nat):Int)) v) (fun (m,v)=>(jU es).length-m) (0,List.replicate es.length 0) wk ⟨Nat.zero_le _,seUp_0 _,rfl,VB_e (VB_0 _) rfl⟩ ?_
    rintro ⟨m,v⟩ ⟨hm,hs,hvv,hvb⟩
    have hvl:v.length=es.length:=by rw[hvv,vts_len]
    have hml:=tris_len hl2
    refine jA<|kx [(53,(vb (decide (((m:Nat):Int)<(((jU es).length:Nat):Int)))))] [] (zE uM<|zZ) ?_
    refine jA<|jG rfl (fun h5=>?_) (fun h5=>?_)
    ·replace h5:=uW h5
     have htr:=tris_at (es:=es) (m:=m) (by omega)
     obtain ⟨ht1,ht2,ht3,ht4⟩:=id htr
     refine jE<|jA<|jH<|jA<|kx [(12,(jT m)),(13,(.ref 2 0))] [(2,some (bx (kT (t3 ((jU es).getD m z3)))))] (zM<|zE (oXm el56 t3 m z3 (hj:=by first | omega | (simp only[List.length_set];omega)) (h1:=by first | omega | (simp only[List.length_set];omega)))<|zE (oCa sh62)<|zH (uQ 2 ze62 zo62)<|zM<|zT (qA sh62)<|zZ) ?_
     refine jA<|kx [(14,(.ref 3 0))] [(3,some (bx (kT (w3 es ((jU es).getD m z3)))))] (zM<|zM<|zE (oXm el56 (w3 es) m z3 (hj:=by first | omega | (simp only[List.length_set];omega)) (h1:=by first | omega | (simp only[List.length_set];omega)))<|zE (oCa sh62)<|zH (uQ 3 ze62 zo62)<|zT (qA sh62)<|zZ) ?_
     refine jA<|kx [(15,(.ref 4 0)),(16,(jT (mK es [((((jU es).getD m z3).1:Nat):Int),(cG es ((jU es).getD m z3).1 ((jU es).getD m z3).2.1 ((jU es).getD m z3).2.2).1,(cG es ((jU es).getD m z3).1 ((jU es).getD m z3).2.1 ((jU es).getD m z3).2.2).2])))] [(4,some (bx (jF (mZ es [((((jU es).getD m z3).1:Nat):Int),(cG es ((jU es).getD m z3).1 ((jU es).getD m z3).2.1 ((jU es).getD m z3).2.2).1,(cG es ((jU es).getD m z3).1 ((jU es).getD m z3).2.1 ((jU es).getD m z3).2.2).2]))))] (zM<|zE (e_slv (by exact rfl) ar62 (by exact rfl) (by kernel_rfl) (by kernel_rfl))<|zR ⟨(bx (kT (w3 es ((jU es).getD m z3)))),e_clv (es:=List.map jO [((((jU es).getD m z3).1:Nat):Int),(cG es ((jU es).getD m z3).1 ((jU es).getD m z3).2.1 ((jU es).getD m z3).2.2).1,(cG es ((jU es).getD m z3).1 ((jU es).getD m z3).2.1 ((jU es).getD m z3).2.2).2]) (l_aro es 1000000 [((((jU es).getD m z3).1:Nat):Int),(cG es ((jU es).getD m z3).1 ((jU es).getD m z3).2.1 ((jU es).getD m z3).2.2).1,(cG es ((jU es).getD m z3).1 ((jU es).getD m z3).2.1 ((jU es).getD m z3).2.2).2] hb (show 3≤1000000 by decide) heo.tok (wt_in htr)) (by exact rfl) (by kernel_rfl) (by exact rfl) (.d (.v .nil)) (mE _ _ (fun _=>rfl)) (by kernel_rfl) (by kernel_rfl) (.tup (fJ (avo_encQuat _) (fJ (.val _) avo_nil))),by kernel_rfl⟩<|zM<|zE qQ<|zE qQ<|zH (uQ 4 vK vL)<|zT (qA kL)<|zM<|zZ) ?_
     refine jA<|jA<|kx [(68,(vb ((((mK es [((((jU es).getD m z3).1:Nat):Int),(cG es ((jU es).getD m z3).1 ((jU es).getD m z3).2.1 ((jU es).getD m z3).2.2).1,(cG es ((jU es).getD m z3).1 ((jU es).getD m z3).2.1 ((jU es).getD m z3).2.2).2]):Nat):Int) != ((0:Nat):Int))))] [] (zM<|zE fO<|zZ) ?_
     refine jG rfl (fun h6=>?_) (fun h6=>?_)
     ·replace h6:=bne_iff_ne.1 h6
      refine jA<|kx [(6,(vl 3 1 jO [])),(7,(jT (mK es [((((jU es).getD m z3).1:Nat):Int),(cG es ((jU es).getD m z3).1 ((jU es).getD m z3).2.1 ((jU es).getD m z3).2.2).1,(cG es ((jU es).getD m z3).1 ((jU es).getD m z3).2.1 ((jU es).getD m z3).2.2).2])))] [] (zM<|zE (oNl 3 1)<|zM<|zZ) ?_
      refine jI ⟨_,(.tmp (d:=(.sl 3 1 (List.map jO []))) rfl (.tmp (d:=(.val (.int .i64 ((((mK es [((((jU es).getD m z3).1:Nat):Int),(cG es ((jU es).getD m z3).1 ((jU es).getD m z3).2.1 ((jU es).getD m z3).2.2).1,(cG es ((jU es).getD m z3).1 ((jU es).getD m z3).2.1 ((jU es).getD m z3).2.2).2]):Nat):Int))))) rfl .nil)),?_⟩
      obtain ⟨q3,q4⟩:=se_no (es:=es) (m:=m) (by omega) (eJ h6)
      obtain ⟨q1,q2⟩:=sld_3 (es:=es) (p:=p) (bn_f h2) h4 q3
      rw[show slV z es x p=sldV es x p from eB hc0,show slC z es x p=sldC es x p from okC_0 hc0,q1,q2,show mK es [((((jU es).getD m z3).1:Nat):Int),(cG es ((jU es).getD m z3).1 ((jU es).getD m z3).2.1 ((jU es).getD m z3).2.2).1,(cG es ((jU es).getD m z3).1 ((jU es).getD m z3).2.1 ((jU es).getD m z3).2.2).2]=3 from q4];rfl
     ·replace h6:=bne_eq_false_iff_eq.1 h6
      refine jE<|jA<|kd [(16,(vi 0)),(17,(.ref 5 0))] [(5,some (bx (kN (zB (chQ q1 (mZ es [((((jU es).getD m z3).1:Nat):Int),(cG es ((jU es).getD m z3).1 ((jU es).getD m z3).2.1 ((jU es).getD m z3).2.2).1,(cG es ((jU es).getD m z3).1 ((jU es).getD m z3).2.1 ((jU es).getD m z3).2.2).2]))))))] mo (wE (kE l_one)<|wR (kY kL)<|wE (kE (l_chord q1 (mZ es [((((jU es).getD m z3).1:Nat):Int),(cG es ((jU es).getD m z3).1 ((jU es).getD m z3).2.1 ((jU es).getD m z3).2.2).1,(cG es ((jU es).getD m z3).1 ((jU es).getD m z3).2.1 ((jU es).getD m z3).2.2).2]) q1_ok (aro_ok heo.tok (wt_in htr) (show mK es [((((jU es).getD m z3).1:Nat):Int),(cG es ((jU es).getD m z3).1 ((jU es).getD m z3).2.1 ((jU es).getD m z3).2.2).1,(cG es ((jU es).getD m z3).1 ((jU es).getD m z3).2.1 ((jU es).getD m z3).2.2).2]=0 by omega))))<|wM<|wE qQ<|wE qQ<|wH (hc:=by kernel_rfl) (uQ 5 mX mS)<|wT (qA vB)<|wM<|wZ) ?_
      refine jA<|jA<|kx [(77,(vb false))] [] (zM<|zE (xR false fO)<|zZ) ?_
      refine qZ ?_
      refine jE<|jA<|kx [(18,(jT 1))] [] (zM<|zZ) ?_
      refine pwp_meet (α:=Int) (fun g=>⟨[(1,(vl 36 6 jP es)),(5,(.ref 0 0)),(9,(.own 1 3 1 es.length)),(11,(vl 62 3 kT (List.map (w3 es) (jU es)))),(13,(.ref 2 0)),(18,(vi g)),(50,(vl 62 3 kT (List.map t3 (jU es)))),(51,(jT ((jU es).length))),(52,(jT m))],[(0,some (bx (kN x))),(1,some (bm jO v)),(2,some (bx (kT (t3 ((jU es).getD m z3)))))]⟩) (fun g=>g=gnT p es ((jU es).getD m z3)) ?_ ?_
      ·refine jA<|kx [(82,(vb (decide (((0:Nat):Int)<(cmpQ (chQ q1 (mZ es [((((jU es).getD m z3).1:Nat):Int),(cG es ((jU es).getD m z3).1 ((jU es).getD m z3).2.1 ((jU es).getD m z3).2.2).1,(cG es ((jU es).getD m z3).1 ((jU es).getD m z3).2.1 ((jU es).getD m z3).2.2).2])) p)))))] [] (zR (kY vB)<|zR (kY vB)<|zE (kE (f_compare (zB (chQ q1 (mZ es [((((jU es).getD m z3).1:Nat):Int),(cG es ((jU es).getD m z3).1 ((jU es).getD m z3).2.1 ((jU es).getD m z3).2.2).1,(cG es ((jU es).getD m z3).1 ((jU es).getD m z3).2.1 ((jU es).getD m z3).2.2).2]))) x (chQ q1 (mZ es [((((jU es).getD m z3).1:Nat):Int),(cG es ((jU es).getD m z3).1 ((jU es).getD m z3).2.1 ((jU es).getD m z3).2.2).1,(cG es ((jU es).getD m z3).1 ((jU es).getD m z3).2.1 ((jU es).getD m z3).2.2).2])) p (cV (qok_of (ql_chQ q1_ok (aro_ok heo.tok (wt_in htr) (show mK es [((((jU es).getD m z3).1:Nat):Int),(cG es ((jU es).getD m z3).1 ((jU es).getD m z3).2.1 ((jU es).getD m z3).2.2).1,(cG es ((jU es).getD m z3).1 ((jU es).getD m z3).2.1 ((jU es).getD m z3).2.2).2]=0 by omega)))) (by decide)) (cV hx (by decide))))<|zE cK<|zZ) ?_
       refine jG rfl (fun h7=>?_) (fun h7=>?_)
       ·replace h7:=uW h7
        refine kx [(18,(vi (-1)))] [] (zM<|zZ) ?_
        exact met (-1) wk ((if_pos h7).symm)
       ·replace h7:=uY h7
        refine jE ?_
        exact met 1 wk ((if_neg h7).symm)
      ·rintro g hg0
       have hg:g=1∨g=-1:=by rw[hg0];exact gnS_01 _ _
       have hb0:=hvb
       have hb1:=VB_s hb0 hg ((jU es).getD m z3).1
       have hb2:=VB_s hb1 hg ((jU es).getD m z3).2.1
       refine jA<|kx [(83,(.d (kT (t3 ((jU es).getD m z3))))),(84,(jT 0))] [] (zR (kY sh62)<|zM<|zZ) ?_
       refine jH<|yM 4 ?_
       refine gH<|jA<|kx [(85,(vb true))] [] (zE (xR true uM)<|zZ) ?_
       refine jA<|qI ?_
       refine jE<|jA<|jH<|jA<|kx [(20,(jT (((jU es).getD m z3).1)))] [] (zE (oXa ar62 qF (fun _=>rfl) 0)<|zM<|zZ) ?_
       refine kx [] [(1,some (bm jO (v.set (((jU es).getD m z3).1) ((v.getD (((jU es).getD m z3).1) 0)+g))))] (zM<|zM<|zE (eR vF (((jU es).getD m z3).1) (hj:=by first | omega | (simp only[List.length_set];omega)) (h1:=by first | omega | (simp only[List.length_set];omega)))<|zR (oLp qF (((jU es).getD m z3).1) (0:Int) (h1:=by first | omega | (simp only[List.length_set];omega)))<|zM<|zE (zAd ((v.getD (((jU es).getD m z3).1) 0)+g) (hr:=by exact (by first | exact vbw hb0 hg (by omega) _ | exact vbw hb1 hg (by omega) _ | exact vbw hb2 hg (by omega) _)))<|zE (eR vF (((jU es).getD m z3).1) (hj:=by first | omega | (simp only[List.length_set];omega)) (h1:=by first | omega | (simp only[List.length_set];omega)))<|zT (oSp qF (((jU es).getD m z3).1) ((v.getD (((jU es).getD m z3).1) 0)+g) (h1:=by first | omega | (simp only[List.length_set];omega)))<|zZ) ?_
       refine kx [(84,(jT 1))] [] (zE (qS 1 (hr:=by decide))<|zM<|zZ) ?_
       refine kH (kK.refl _) ?_
       refine jA<|kx [(85,(vb true))] [] (zE (xR true uM)<|zZ) ?_
       refine jA<|qI ?_
       refine jE<|jA<|jH<|jA<|kx [(20,(jT (((jU es).getD m z3).2.1)))] [] (zE (oXa ar62 qF (fun _=>rfl) 1)<|zM<|zZ) ?_
       refine kx [] [(1,some (bm jO ((v.set (((jU es).getD m z3).1) ((v.getD (((jU es).getD m z3).1) 0)+g)).set (((jU es).getD m z3).2.1) (((v.set (((jU es).getD m z3).1) ((v.getD (((jU es).getD m z3).1) 0)+g)).getD (((jU es).getD m z3).2.1) 0)+g))))] (zM<|zM<|zE (eR vF (((jU es).getD m z3).2.1) (hj:=by first | omega | (simp only[List.length_set];omega)) (h1:=by first | omega | (simp only[List.length_set];omega)))<|zR (oLp qF (((jU es).getD m z3).2.1) (0:Int) (h1:=by first | omega | (simp only[List.length_set];omega)))<|zM<|zE (zAd (((v.set (((jU es).getD m z3).1) ((v.getD (((jU es).getD m z3).1) 0)+g)).getD (((jU es).getD m z3).2.1) 0)+g) (hr:=by exact (by first | exact vbw hb0 hg (by omega) _ | exact vbw hb1 hg (by omega) _ | exact vbw hb2 hg (by omega) _)))<|zE (eR vF (((jU es).getD m z3).2.1) (hj:=by first | omega | (simp only[List.length_set];omega)) (h1:=by first | omega | (simp only[List.length_set];omega)))<|zT (oSp qF (((jU es).getD m z3).2.1) (((v.set (((jU es).getD m z3).1) ((v.getD (((jU es).getD m z3).1) 0)+g)).getD (((jU es).getD m z3).2.1) 0)+g) (h1:=by first | omega | (simp only[List.length_set];omega)))<|zZ) ?_
       refine kx [(84,(jT 2))] [] (zE (qS 2 (hr:=by decide))<|zM<|zZ) ?_
       refine kH (kK.refl _) ?_
       refine jA<|kx [(85,(vb true))] [] (zE (xR true uM)<|zZ) ?_
       refine jA<|qI ?_
       refine jE<|jA<|jH<|jA<|kx [(20,(jT (((jU es).getD m z3).2.2)))] [] (zE (oXa ar62 qF (fun _=>rfl) 2)<|zM<|zZ) ?_
       refine kx [] [(1,some (bm jO (((v.set (((jU es).getD m z3).1) ((v.getD (((jU es).getD m z3).1) 0)+g)).set (((jU es).getD m z3).2.1) (((v.set (((jU es).getD m z3).1) ((v.getD (((jU es).getD m z3).1) 0)+g)).getD (((jU es).getD m z3).2.1) 0)+g)).set (((jU es).getD m z3).2.2) ((((v.set (((jU es).getD m z3).1) ((v.getD (((jU es).getD m z3).1) 0)+g)).set (((jU es).getD m z3).2.1) (((v.set (((jU es).getD m z3).1) ((v.getD (((jU es).getD m z3).1) 0)+g)).getD (((jU es).getD m z3).2.1) 0)+g)).getD (((jU es).getD m z3).2.2) 0)+g))))] (zM<|zM<|zE (eR vF (((jU es).getD m z3).2.2) (hj:=by first | omega | (simp only[List.length_set];omega)) (h1:=by first | omega | (simp only[List.length_set];omega)))<|zR (oLp qF (((jU es).getD m z3).2.2) (0:Int) (h1:=by first | omega | (simp only[List.length_set];omega)))<|zM<|zE (zAd ((((v.set (((jU es).getD m z3).1) ((v.getD (((jU es).getD m z3).1) 0)+g)).set (((jU es).getD m z3).2.1) (((v.set (((jU es).getD m z3).1) ((v.getD (((jU es).getD m z3).1) 0)+g)).getD (((jU es).getD m z3).2.1) 0)+g)).getD (((jU es).getD m z3).2.2) 0)+g) (hr:=by exact (by first | exact vbw hb0 hg (by omega) _ | exact vbw hb1 hg (by omega) _ | exact vbw hb2 hg (by omega) _)))<|zE (eR vF (((jU es).getD m z3).2.2) (hj:=by first | omega | (simp only[List.length_set];omega)) (h1:=by first | omega | (simp only[List.length_set];omega)))<|zT (oSp qF (((jU es).getD m z3).2.2) ((((v.set (((jU es).getD m z3).1) ((v.getD (((jU es).getD m z3).1) 0)+g)).set (((jU es).getD m z3).2.1) (((v.set (((jU es).getD m z3).1) ((v.getD (((jU es).getD m z3).1) 0)+g)).getD (((jU es).getD m z3).2.1) 0)+g)).getD (((jU es).getD m z3).2.2) 0)+g) (h1:=by first | omega | (simp only[List.length_set];omega)))<|zZ) ?_
       refine kx [(84,(jT 3))] [] (zE (qS 3 (hr:=by decide))<|zM<|zZ) ?_
       refine kH (kK.refl _) ?_
       refine jA<|kx [(85,(vb false))] [] (zE (xR false uM)<|zZ) ?_
       refine jA<|qZ ?_
       refine jW<|kX (wk (l:=[(1,(vl 36 6 jP es)),(5,(.ref 0 0)),(9,(.own 1 3 1 es.length)),(11,(vl 62 3 kT (List.map (w3 es) (jU es)))),(18,(vi g)),(50,(vl 62 3 kT (List.map t3 (jU es)))),(51,(jT ((jU es).length))),(52,(jT m)),(83,(.d (kT (t3 ((jU es).getD m z3))))),(84,(jT 3)),(85,(vb false))]) (b:=[(0,some (bx (kN x))),(1,some (bm jO (((v.set (((jU es).getD m z3).1) ((v.getD (((jU es).getD m z3).1) 0)+g)).set (((jU es).getD m z3).2.1) (((v.set (((jU es).getD m z3).1) ((v.getD (((jU es).getD m z3).1) 0)+g)).getD (((jU es).getD m z3).2.1) 0)+g)).set (((jU es).getD m z3).2.2) ((((v.set (((jU es).getD m z3).1) ((v.getD (((jU es).getD m z3).1) 0)+g)).set (((jU es).getD m z3).2.1) (((v.set (((jU es).getD m z3).1) ((v.getD (((jU es).getD m z3).1) 0)+g)).getD (((jU es).getD m z3).2.1) 0)+g)).getD (((jU es).getD m z3).2.2) 0)+g))))])) ?_
       refine kx [(52,(jT (m+1)))] [] (zE (qS (m+1))<|zM<|zZ) ?_
       exact ⟨(m+1,(vT v ((jU es).getD m z3) g)),wk,⟨by omega,seUp_s hs (show mK es [((((jU es).getD m z3).1:Nat):Int),(cG es ((jU es).getD m z3).1 ((jU es).getD m z3).2.1 ((jU es).getD m z3).2.2).1,(cG es ((jU es).getD m z3).1 ((jU es).getD m z3).2.1 ((jU es).getD m z3).2.2).2]=0 by omega),by rw[vts_s (by omega),← hvv,show gnT p es ((jU es).getD m z3)=g from hg0.symm],VB_e (VB_s hb2 hg ((jU es).getD m z3).2.2) (by omega)⟩,(by first|omega|(dsimp only;omega))⟩
    ·replace h5:=uY h5
     refine jW<|jA<|kx [(21,(.own 6 3 1 0))] [(6,some (bm jO []))] (zOh 6 3 1<|zZ) ?_
     refine jA<|jA<|kx [(96,(.own 1 3 1 es.length)),(97,(jT es.length)),(98,(jT 0))] [] (zM<|zE (oLo vF)<|zM<|zZ) ?_
     refine jH<|kI (α:=Nat × List Int) (fun (i,o)=>⟨[(21,(.own 6 3 1 o.length)),(96,(.own 1 3 1 es.length)),(97,(jT es.length)),(98,(jT i))],[(1,some (bm jO v)),(6,some (bm jO o))]⟩) (fun (i,o)=>i≤es.length∧o=selU v i) (fun (i,o)=>es.length-i) (0,[]) wk ⟨Nat.zero_le _,rfl⟩ ?_
     rintro ⟨i,o⟩ ⟨hi,ho⟩
     have hol:o.length≤i:=by rw[ho];exact selU_len _ _
     refine jA<|kx [(99,(vb (decide (((i:Nat):Int)<((es.length:Nat):Int)))))] [] (zE uM<|zZ) ?_
     refine jA<|jG rfl (fun h8=>?_) (fun h8=>?_)
     ·replace h8:=uW h8
      refine jE<|jA<|jH<|jA<|kx [(22,(jT i)),(23,(vi (v.getD i 0)))] [] (zM<|zE (eR vF i (hj:=by first | omega | (simp only[List.length_set];omega)) (h1:=by first | omega | (simp only[List.length_set];omega)))<|zR (oLp qF i (0:Int) (h1:=by first | omega | (simp only[List.length_set];omega)))<|zM<|zM<|zZ) ?_
      refine jA<|kx [(104,(vb (decide (((0:Nat):Int)≤(v.getD i 0)))))] [] (zM<|zE oGe<|zZ) ?_
      refine jG rfl (fun h9=>?_) (fun h9=>?_)
      ·replace h9:=uW h9
       refine kf [(21,(.own 6 3 1 ((o++[((i:Nat):Int)]).length)))] [(6,some (bm jO (o++[((i:Nat):Int)])))] (zM<|zM<|zE (oBs vF ze3 zo3)<|zA jO o [((i:Nat):Int)] rfl vF ze3 by3<|zM<|zF) ?_
       refine kx [(98,(jT (i+1)))] [] (zE (qS (i+1))<|zM<|zZ) ?_
       exact ⟨(i+1,o++[((i:Nat):Int)]),wk,⟨by omega,by rw[selU_y h9,ho]⟩,(by first|omega|(dsimp only;omega))⟩
      ·replace h9:=uY h9
       refine jE<|kx [(98,(jT (i+1)))] [] (zE (qS (i+1))<|zM<|zZ) ?_
       exact ⟨(i+1,o),wk,⟨by omega,by rw[selU_n h9,ho]⟩,(by first|omega|(dsimp only;omega))⟩
     ·replace h8:=uY h8
      refine jW<|jA<|kX (vV (t:=21) (k:=6) (es:=List.map jO o) rfl rfl (uU _ _ (fun _=>rfl)) (vG _ _ rfl) (vS _ _ (fun _=>rfl) rfl)) ?_
      refine kx [(6,(vl 3 1 jO o)),(7,(jT 0))] [] (zM<|zM<|zM<|zZ) ?_
      refine jI ⟨_,(.tmp (d:=(.sl 3 1 (List.map jO o))) rfl (.tmp (d:=(.val (.int .i64 (((0:Nat):Int))))) rfl .nil)),?_⟩
      have hse:seC es=0:=se_yes (by omega) hs
      have hfin:selL (vts p es (jU es))=o:=by rw[ho,hvv,show m=(jU es).length by omega,List.take_length,show i=es.length by omega];unfold selL;rw[vts_len]
      obtain ⟨q1,q2⟩:=sld_0 (es:=es) (p:=p) (bn_f h2) h4 hse
      rw[show slV z es x p=sldV es x p from eB hc0,show slC z es x p=sldC es x p from okC_0 hc0,q1,q2,hfin];rfl
theorem cb4:callB Tryz.prog 4=true:=by kernel_rfl
theorem cb12:callB Tryz.prog 12=true:=by kernel_rfl
theorem pl36:fU Tryz.prog 36=some [(0,1),(1,1),(2,4)]:=by kernel_rfl
def dP:List jC:=[jC.mk 0 1 (jB.mk 1 0 0 1),jC.mk 1 2 (jB.mk 1 1 0 0),jC.mk 0 2 (jB.mk 1 1 0 0)]
theorem l_exa :kB Tryz.prog 12 [] (.sl 36 6 (List.map jP dP)):=by
 refine jK Tryz.func12 rfl cb12 rfl ?_
 show qU _ _ _ _ ⟨[],[]⟩
 refine jA<|kx [] [] (zE (oNl 36 6)<|zZ) ?_
 refine jA<|kx [(0,(vl 36 6 jP [(jC.mk 0 1 (jB.mk 1 0 0 1)),(jC.mk 1 2 (jB.mk 1 1 0 0)),(jC.mk 0 2 (jB.mk 1 1 0 0))]))] [] (zE (eQ cB vK vL)<|zE (eQ pl36 ze36 zo36)<|zE (eQ cB vK vL)<|zE (eQ pl36 ze36 zo36)<|zE (eQ cB vK vL)<|zE (eQ pl36 ze36 zo36)<|zE (oBs mI ze36 zo36)<|zM<|zZ) ?_
 refine jI ⟨_,(.tmp (d:=(.sl 36 6 (List.map jP [(jC.mk 0 1 (jB.mk 1 0 0 1)),(jC.mk 1 2 (jB.mk 1 1 0 0)),(jC.mk 0 2 (jB.mk 1 1 0 0))]))) rfl .nil),?_⟩
 rfl
theorem kn1:okL (uP ((3:Nat):Int) dP) (jN (Int.toNat ((3:Nat):Int)) dP)=[0,1]:=by decide +kernel
theorem nV:uP ((3:Nat):Int) dP=0:=by decide +kernel
theorem kn2:okL (uP ((3:Nat):Int) dP) (absL (Int.toNat ((3:Nat):Int)) dP)=[jB.mk 1 0 0 0,jB.mk 1 0 0 (-1),jB.mk 1 (-1) 1 (-1)]:=by decide +kernel
theorem kn3:okC (uP ((3:Nat):Int) dP) (absC (Int.toNat ((3:Nat):Int)) dP)=0:=by decide +kernel
theorem kn4:arnV ((3:Nat):Int) dP [((0:Nat):Int),((1:Nat):Int),-3]=jB.mk 1 0 0 1:=by decide +kernel
theorem kn5:arnC ((3:Nat):Int) dP [((0:Nat):Int),((1:Nat):Int),-3]=0:=by decide +kernel
theorem kn8:okL (uP ((3:Nat):Int) dP) (jU dP)=[(0,1,2)]:=by decide +kernel
theorem knS:seC dP=0:=by decide +kernel
theorem kn6s:slB (Rat.divInt 1 3)=false:=by decide +kernel
theorem kn6v:selL (vts (Rat.divInt 1 3) dP (jU dP))=[]:=by decide +kernel
theorem kn6b:slC ((3:Nat):Int) dP (zB (Rat.divInt 1 3)) (Rat.divInt 1 3)=0:=by
 obtain ⟨q1,q2⟩:=sld_0 (es:=dP) (x:=zB (Rat.divInt 1 3)) (p:=(Rat.divInt 1 3)) (gF _) kn6s knS
 unfold slC;rw[okC_0 nV,q1]
theorem kn6:slV ((3:Nat):Int) dP (zB (Rat.divInt 1 3)) (Rat.divInt 1 3)=[]:=by
 obtain ⟨q1,q2⟩:=sld_0 (es:=dP) (x:=zB (Rat.divInt 1 3)) (p:=(Rat.divInt 1 3)) (gF _) kn6s knS
 unfold slV;rw[eB nV,q2,kn6v]
theorem kn7s:slB (Rat.divInt 1 2)=false:=by decide +kernel
theorem kn7v:selL (vts (Rat.divInt 1 2) dP (jU dP))=[0,1,2]:=by decide +kernel
theorem kn7b:slC ((3:Nat):Int) dP (zB (Rat.divInt 1 2)) (Rat.divInt 1 2)=0:=by
 obtain ⟨q1,q2⟩:=sld_0 (es:=dP) (x:=zB (Rat.divInt 1 2)) (p:=(Rat.divInt 1 2)) (gF _) kn7s knS
 unfold slC;rw[okC_0 nV,q1]
theorem kn7:slV ((3:Nat):Int) dP (zB (Rat.divInt 1 2)) (Rat.divInt 1 2)=[0,1,2]:=by
 obtain ⟨q1,q2⟩:=sld_0 (es:=dP) (x:=zB (Rat.divInt 1 2)) (p:=(Rat.divInt 1 2)) (gF _) kn7s knS
 unfold slV;rw[eB nV,q2,kn7v]
theorem l_known :kB Tryz.prog 4 [] (.val (.bool (true))):=by
 refine jK Tryz.func4 rfl cb4 rfl ?_
 show qU _ _ _ _ ⟨[],[]⟩
 refine jA<|kx [] [] (zM<|zZ) ?_
 refine jA<|kx [(1,(vl 3 1 jO [0,1])),(2,(jT 0))] [] (zE (kE l_exa)<|zE (kE (l_Tree ((3:Nat):Int) dP (by decide +kernel)))<|zM<|zE (oQd (.sl 3 1 (List.map jO (okL (uP ((3:Nat):Int) dP) (jN (Int.toNat ((3:Nat):Int)) dP)))) (.sl 3 1 (List.map jO [0,1])) qQ (by exact (congrArg (fun l=>kF.sl 3 1 (List.map jO l)) kn1)))<|zE (oQd (.val (.int .i64 ((((uP ((3:Nat):Int) dP):Nat):Int)))) (.val (.int .i64 (((0:Nat):Int)))) qQ (by exact (congrArg (fun (c:Nat)=>kF.val (Value.int IntKind.i64 ((c:Nat):Int))) nV)))<|zM<|zM<|zZ) ?_
 refine jA<|kx [(3,(vl 24 4 jF [jB.mk 1 0 0 0,jB.mk 1 0 0 (-1),jB.mk 1 (-1) 1 (-1)])),(4,(jT 0))] [] (zE (kE l_exa)<|zE (kE (l_Abs ((3:Nat):Int) dP (by decide +kernel)))<|zM<|zE (oQd (.sl 24 4 (List.map jF (okL (uP ((3:Nat):Int) dP) (absL (Int.toNat ((3:Nat):Int)) dP)))) (.sl 24 4 (List.map jF [jB.mk 1 0 0 0,jB.mk 1 0 0 (-1),jB.mk 1 (-1) 1 (-1)])) qQ (by exact (congrArg (fun l=>kF.sl 24 4 (List.map jF l)) kn2)))<|zE (oQd (.val (.int .i64 ((((okC (uP ((3:Nat):Int) dP) (absC (Int.toNat ((3:Nat):Int)) dP)):Nat):Int)))) (.val (.int .i64 (((0:Nat):Int)))) qQ (by exact (congrArg (fun (c:Nat)=>kF.val (Value.int IntKind.i64 ((c:Nat):Int))) kn3)))<|zM<|zM<|zZ) ?_
 refine jA<|kx [(5,(.ref 0 0)),(6,(jT 0))] [(0,some (bx (jF (jB.mk 1 0 0 1))))] (zE (kE l_exa)<|zE (oBs vF ze3 zo3)<|zE (kE (l_arn ((3:Nat):Int) dP [((0:Nat):Int),((1:Nat):Int),-3] (by decide +kernel) (by decide +kernel)))<|zM<|zE (oQd (jF (arnV ((3:Nat):Int) dP [((0:Nat):Int),((1:Nat):Int),-3])) (jF (jB.mk 1 0 0 1)) qQ (by exact (congrArg jF kn4)))<|zE (oQd (.val (.int .i64 ((((arnC ((3:Nat):Int) dP [((0:Nat):Int),((1:Nat):Int),-3]):Nat):Int)))) (.val (.int .i64 (((0:Nat):Int)))) qQ (by exact (congrArg (fun (c:Nat)=>kF.val (Value.int IntKind.i64 ((c:Nat):Int))) kn5)))<|zN (uQ 0 vK vL)<|zT (qA kL)<|zM<|zZ) ?_
 refine jA ?_
 have bn1:QL (Rat.divInt 1 3) 3:=(mC (n:=3) (dL (by omega) (by omega)) (dL (by omega) (by omega)) (by decide))
 refine kx [(7,(.ref 1 0))] [(1,some (bx (kN (zB (Rat.divInt 1 3)))))] (zE (kE (qs_of ((1:Nat):Int) (by omega) (by omega) ((3:Nat):Int) (by omega) (by omega) (by decide +kernel)))<|zM<|zE qQ<|zE qQ<|zN (uQ 1 mX mS)<|zT (qA vB)<|zM<|zZ) ?_
 refine jA ?_
 have bn2:QL (Rat.divInt 1 2) 3:=(mC (n:=3) (dL (by omega) (by omega)) (dL (by omega) (by omega)) (by decide))
 refine kx [(9,(.ref 2 0))] [(2,some (bx (kN (zB (Rat.divInt 1 2)))))] (zE (kE (qs_of ((1:Nat):Int) (by omega) (by omega) ((2:Nat):Int) (by omega) (by omega) (by decide +kernel)))<|zM<|zE qQ<|zE qQ<|zN (uQ 2 mX mS)<|zT (qA vB)<|zM<|zZ) ?_
 refine jA<|kd [(11,(vl 3 1 jO [])),(12,(jT 0))] [] mo (wE (kE l_exa)<|wR (kY vB)<|wE (kE (l_Sel ((3:Nat):Int) dP (zB (Rat.divInt 1 3)) (Rat.divInt 1 3) (cV (qok_of bn1) (by decide)) (by decide +kernel)))<|wM<|wE (oQd (.sl 3 1 (List.map jO (slV ((3:Nat):Int) dP (zB (Rat.divInt 1 3)) (Rat.divInt 1 3)))) (.sl 3 1 (List.map jO [])) qQ (by exact (congrArg (fun l=>kF.sl 3 1 (List.map jO l)) kn6)))<|wE (oQd (.val (.int .i64 ((((slC ((3:Nat):Int) dP (zB (Rat.divInt 1 3)) (Rat.divInt 1 3)):Nat):Int)))) (.val (.int .i64 (((0:Nat):Int)))) qQ (by exact (congrArg (fun (c:Nat)=>kF.val (Value.int IntKind.i64 ((c:Nat):Int))) kn6b)))<|wM<|wM<|wZ) ?_
 refine jA<|kd [(13,(vl 3 1 jO [0,1,2])),(14,(jT 0))] [] mo (wE (kE l_exa)<|wR (kY vB)<|wE (kE (l_Sel ((3:Nat):Int) dP (zB (Rat.divInt 1 2)) (Rat.divInt 1 2) (cV (qok_of bn2) (by decide)) (by decide +kernel)))<|wM<|wE (oQd (.sl 3 1 (List.map jO (slV ((3:Nat):Int) dP (zB (Rat.divInt 1 2)) (Rat.divInt 1 2)))) (.sl 3 1 (List.map jO [0,1,2])) qQ (by exact (congrArg (fun l=>kF.sl 3 1 (List.map jO l)) kn7)))<|wE (oQd (.val (.int .i64 ((((slC ((3:Nat):Int) dP (zB (Rat.divInt 1 2)) (Rat.divInt 1 2)):Nat):Int)))) (.val (.int .i64 (((0:Nat):Int)))) qQ (by exact (congrArg (fun (c:Nat)=>kF.val (Value.int IntKind.i64 ((c:Nat):Int))) kn7b)))<|wM<|wM<|wZ) ?_
 refine jA<|kx [(15,(vl 62 3 kT [A3.mk 0 1 2])),(16,(jT 0))] [] (zE (kE l_exa)<|zE (kE (l_Tris ((3:Nat):Int) dP (by decide +kernel)))<|zM<|zE (oQd (.sl 62 3 (List.map kT (List.map t3 (okL (uP ((3:Nat):Int) dP) (jU dP))))) (.sl 62 3 (List.map kT [A3.mk 0 1 2])) qQ (by exact (congrArg (fun l=>kF.sl 62 3 (List.map kT (List.map t3 l))) kn8)))<|zE (oQd (.val (.int .i64 ((((uP ((3:Nat):Int) dP):Nat):Int)))) (.val (.int .i64 (((0:Nat):Int)))) qQ (by exact (congrArg (fun (c:Nat)=>kF.val (Value.int IntKind.i64 ((c:Nat):Int))) nV)))<|zM<|zM<|zZ) ?_
 refine jA<|kx [(0,(vb true))] [] (zM<|zM<|zE (qS 0 (hr:=by decide))<|zM<|zE (qS 0 (hr:=by decide))<|zM<|zE (qS 0 (hr:=by decide))<|zM<|zE (qS 0 (hr:=by decide))<|zM<|zE (qS 0 (hr:=by decide))<|zE (xR true gX)<|zM<|zM<|zE (oBs vF ze3 zo3)<|zE (xR true (kE (p_eq [0,1] [((0:Nat):Int),((1:Nat):Int)] (by decide +kernel))) (by exact beq_self_eq_true _))<|zE xC<|zM<|zM<|zE (eQ cB vK vL)<|zE (eQ cB vK vL)<|zE (eQ cB vK vL)<|zE (oBs cI vK vL)<|zE (kE (l_eqQ [jB.mk 1 0 0 0,jB.mk 1 0 0 (-1),jB.mk 1 (-1) 1 (-1)] [(jB.mk ((1:Nat):Int) 0 0 0),(jB.mk ((1:Nat):Int) 0 0 (-1)),(jB.mk ((1:Nat):Int) (-1) ((1:Nat):Int) (-1))] (by decide +kernel) rfl))<|zE xC<|zM<|zR (kY kL)<|zE (eQ cB vK vL)<|zE (xR true (oEs eqs24 .i64 [(jB.mk 1 0 0 1).a,(jB.mk 1 0 0 1).b,(jB.mk 1 0 0 1).c,(jB.mk 1 0 0 1).d] [((1:Nat):Int),0,0,((1:Nat):Int)]) (by exact decide_eq_true rfl))<|zE xC<|zM<|zM<|zE (oLn vF 0)<|zE (xR true gX)<|zE xC<|zM<|zM<|zE (oLn vF 3)<|zE (xR true gX)<|zE xC<|zM<|zM<|zE (oBf ar62 ze62 zo62)<|zE (oBs el56 ze62 zo62)<|zE (kE (l_eqT [A3.mk 0 1 2] [(A3.mk ((0:Nat):Int) ((1:Nat):Int) ((2:Nat):Int))] (by decide +kernel) rfl))<|zE xC<|zM<|zZ) ?_
 refine jI ⟨_,(.tmp (d:=(.val (.bool (true)))) rfl .nil),?_⟩
 rfl
end Go.Proofs.YteimogfidbkpnabGreat
namespace Go.Fid
def agE(W:Nat→jB)(x:jC):Prop:=xE (W x.fr.toNat) (jZ (W x.to_.toNat) x.turn)
def Sol(n:Nat)(es:List jC)(W:Nat→jB):Prop:=(∀ j,j<n→nF (W j))∧∀ x∈es,agE W x
theorem qdiv{p q t:jB}(hq:nF q)(ht:nF t):xE p (jZ q t)↔xE (jZ (uL q) p) t:=by
 constructor
 ·intro h
  refine ((xE.refl _).mul h).trans ?_
  rw[← vH,qcj_mul,hZ,q1_mul]
  exact xE.sc (yN.1 hq) _
 ·intro h
  have e:=(xE.refl q).mul h
  rw[← vH,qmul_cj,hZ,q1_mul] at e
  exact (xE.sc (yN.1 hq) _).symm.trans e
section
variable {n:Nat} {es:List jC}
theorem eok_lt{x:jC}(h:EOkE n x):x.fr.toNat<n∧x.to_.toNat<n:=by
 have:=h.f0;have:=h.f1;have:=h.t0;have:=h.t1;omega
end
theorem lop_of{z:Int}{es:List jC}(h1:1≤z)(h2:z≤64)(h3:es.length≤256)(h4:xI z.toNat es):uP z es=0:=by
 rw[lopC_eds (by omega) (by omega) (by omega)]
 have:=edsC_ok.2 h4
 rwa [Int.toNat_of_nonneg (by omega)] at this
def qBad(q:jB):Bool:=((((((((decide (3<q.a)||decide (q.a < -3))||decide (3<q.b))||decide (q.b < -3))||decide (3<q.c))||decide (q.c < -3))||decide (3<q.d))||decide (q.d < -3))||(((rqC q:Nat):Int) != 0))
def sm3(z:Int):Prop:=-3≤z∧z≤3
def Qsm(q:jB):Prop:=(sm3 q.a∧sm3 q.b∧sm3 q.c∧sm3 q.d)∧dU q
theorem qBad_f{q:jB}(h:qBad q=false):Qsm q:=by
 unfold qBad at h
 simp only[Bool.or_eq_false_iff,decide_eq_false_iff_not,bne_eq_false_iff_eq] at h
 obtain ⟨⟨⟨⟨⟨⟨⟨⟨h1,h2⟩,h3⟩,h4⟩,h5⟩,h6⟩,h7⟩,h8⟩,h9⟩:=h
 refine ⟨⟨⟨by omega,by omega⟩,⟨by omega,by omega⟩,⟨by omega,by omega⟩,⟨by omega,by omega⟩⟩,?_⟩
 exact nO.2 (show rqC q=0 by omega)
theorem mul9{a b:Int}(ha:sm3 a)(hb:sm3 b):-9≤a*b∧a*b≤9:=by
 obtain ⟨a1,a2⟩:=ha
 obtain ⟨b1,b2⟩:=hb
 rcases (by omega:a=-3∨a=-2∨a=-1∨a=0∨a=1∨a=2∨a=3) with rfl | rfl | rfl | rfl | rfl | rfl | rfl<;>omega
theorem sm3_fdiv{x d:Int}(hd:d≠0)(h:d∣x)(hx:sm3 x):sm3 (x.fdiv d):=by
 have:=fdiv_abs hd h
 unfold sm3 at *;omega
theorem sm_btw{p q:jB}(hp:Qsm p)(hq:Qsm q):qC (jZ (qV (uL p)) q)=0:=by
 have hc:=qC_cj hp.2
 have hn:=zD hp.2.1
 rw[qV_c0 hc]
 have hs:sm3 (zL (uL p)).a∧sm3 (zL (uL p)).b∧sm3 (zL (uL p)).c∧sm3 (zL (uL p)).d:=by
  have hd:=dvL_ne hn
  have hdv:∀ z∈qL (uL p),dvL (qL (uL p))∣z:=dvL_dvd
  obtain ⟨⟨a1,a2,a3,a4⟩,_⟩:=hp
  refine ⟨sm3_fdiv hd (hdv _ (by simp [qL])) a1,sm3_fdiv hd (hdv _ (by simp [qL])) ?_,sm3_fdiv hd (hdv _ (by simp [qL])) ?_,sm3_fdiv hd (hdv _ (by simp [qL])) ?_⟩ <;>
   (unfold sm3 at *;simp only[uL];omega)
 obtain ⟨b1,b2,b3,b4⟩:=hs
 obtain ⟨⟨c1,c2,c3,c4⟩,hqo⟩:=hq
 have m1:=mul9 b1 c1;have m2:=mul9 b2 c2;have m3:=mul9 b3 c3;have m4:=mul9 b4 c4
 have m5:=mul9 b1 c2;have m6:=mul9 b2 c1;have m7:=mul9 b3 c4;have m8:=mul9 b4 c3
 have m9:=mul9 b1 c3;have m10:=mul9 b2 c4;have m11:=mul9 b3 c1;have m12:=mul9 b4 c2
 have m13:=mul9 b1 c4;have m14:=mul9 b2 c3;have m15:=mul9 b3 c2;have m16:=mul9 b4 c1
 refine qC_ok ⟨vR (qcan_nz hn) hqo.1,?_⟩
 unfold cC inQ jZ
 simp only
 refine ⟨⟨?_,?_⟩,⟨?_,?_⟩,⟨?_,?_⟩,⟨?_,?_⟩⟩<;>omega
def mdE(ts:List jB)(x:Nat × Nat):jC:=⟨((x.1 % ts.length:Nat):Int),((x.2 % ts.length:Nat):Int),qV (jZ (qV (uL (uR ts (x.2 % ts.length)))) (uR ts (x.1 % ts.length)))⟩
def dT(ts:List jB)(l:List (Nat × Nat)):List jC:=(l.filter fun x=>decide (x.1 % ts.length≠x.2 % ts.length)).map (mdE ts)
theorem md_y{ts:List jB}{l:List (Nat × Nat)}{x:Nat × Nat}(h:x.1 % ts.length≠x.2 % ts.length):dT ts (l++[x])=dT ts l++[mdE ts x]:=by
 unfold dT;rw[List.filter_append,List.map_append];simp only[List.filter_cons,List.filter_nil,decide_eq_true h,if_true];rfl
theorem md_n{ts:List jB}{l:List (Nat × Nat)}{x:Nat × Nat}(h:x.1 % ts.length=x.2 % ts.length):dT ts (l++[x])=dT ts l:=by
 have hd:decide (x.1 % ts.length≠x.2 % ts.length)=false:=by simp [h]
 unfold dT;rw[List.filter_append,List.map_append];simp only[List.filter_cons,List.filter_nil,hd,Bool.false_eq_true,if_false,List.map_nil,List.append_nil]
theorem md_len{ts:List jB}{l:List (Nat × Nat)}:(dT ts l).length≤l.length:=by
 unfold dT;rw[List.length_map];exact List.length_filter_le _ _
def allSm(ts:List jB):Prop:=∀ q∈ts,Qsm q
theorem sm_at{ts:List jB}(h:allSm ts){j:Nat}(hj:j<ts.length):Qsm (uR ts j):=by
 unfold uR;rw[List.getD_eq_getElem?_getD,List.getElem?_eq_getElem hj];exact h _ (List.getElem_mem _)
theorem mdE_ok{ts:List jB}(h:allSm ts)(h1:1≤ts.length){x:Nat × Nat}(hx:x.1 % ts.length≠x.2 % ts.length):EOkE ts.length (mdE ts x):=by
 have m1:=Nat.mod_lt x.1 (show 0<ts.length by omega)
 have m2:=Nat.mod_lt x.2 (show 0<ts.length by omega)
 have s1:=sm_at h m1
 have s2:=sm_at h m2
 have hnz:=vR (qV_ok (zD s2.2.1) (qC_cj s2.2)).1 s1.2.1
 refine ⟨?_,?_,?_,?_,?_,qV_ok hnz (sm_btw s2 s1)⟩<;>simp only[mdE]<;>omega
theorem md_ok{ts:List jB}{l:List (Nat × Nat)}(h:allSm ts)(h1:1≤ts.length):xI ts.length (dT ts l):=fun y hy=>by
 unfold dT at hy
 obtain ⟨x,hx,rfl⟩:=List.mem_map.1 hy
 exact mdE_ok h h1 (by simpa using (List.mem_filter.1 hx).2)
theorem mdE_ag{ts:List jB}(h:allSm ts)(h1:1≤ts.length)(x:Nat × Nat):agE (uR ts) (mdE ts x):=by
 have m1:=Nat.mod_lt x.1 (show 0<ts.length by omega)
 have m2:=Nat.mod_lt x.2 (show 0<ts.length by omega)
 have s1:=sm_at h m1
 have s2:=sm_at h m2
 have hcz:=qV_ok (zD s2.2.1) (qC_cj s2.2)
 have hnz:=vR hcz.1 s1.2.1
 unfold agE mdE
 show xE (uR ts ((x.1 % ts.length:Nat):Int).toNat) (jZ (uR ts ((x.2 % ts.length:Nat):Int).toNat) (qV _))
 rw[Int.toNat_natCast,Int.toNat_natCast,qdiv s2.2.1 (qV_ok hnz (sm_btw s2 s1)).1]
 refine xE.trans ?_ (qV_eq hnz (sm_btw s2 s1)).symm
 exact (qV_eq (zD s2.2.1) (qC_cj s2.2)).symm.mul (xE.refl _)
theorem md_sol{ts:List jB}{l:List (Nat × Nat)}(h:allSm ts)(h1:1≤ts.length):Sol ts.length (dT ts l) (uR ts):=by
 refine ⟨fun j hj=>(sm_at h hj).2.1,fun y hy=>?_⟩
 unfold dT at hy
 obtain ⟨x,hx,rfl⟩:=List.mem_map.1 hy
 exact mdE_ag h h1 x
open Go.RowKit (Below)
def aggOf(s:Nat)(u:Nat→Value):Value:=.agg ((List.range s).map u).toArray
structure BacksS (P:Program) (fB fI:FuncId) (T:TypeId) (s:Nat):Prop where
 call:∀ (a:Option Addr) (len cap:Nat) (w:World),Calls P fB #[.slice a len cap] w fun e w'=>e=.returned (.func (.func fI) #[] #[.pointer (some ⟨w.heap.size,0,none⟩)])∧w'=w.alloc (.cells #[.slice a len cap] T)
 empty:∀ (N l b cap:Nat) (ao:Option Addr) (J:World→Prop) (W:World),W.cell? ⟨b,0,none⟩=some (.slice ao 0 cap)→J W →
  CallsIn Fence.wide (N+1) P fI #[.func (.yield l) #[] #[],.pointer (some ⟨b,0,none⟩)] W fun e W'=>(∃ v,e=.returned v)∧J W'
 rounds:∀ (N l c b off len cap:Nat) (u:Nat→Nat→Value),(len:Int)≤9223372036854775807→∀ (J:Nat→World→Prop) (Jx:World→Prop),
  (∀ j W,J j W→W.cell? ⟨c,0,none⟩=some (.slice (some ⟨b,off,none⟩) len cap)∧∀ i,i<len→∀ r,r<s→W.cell? ⟨b,off+(i*s+r),none⟩=some (u i r)) →
  (∀ j W,J j W→j<len→YieldAt Fence.wide N P l #[.int .i64 ((len:Int)-1-(j:Int)),aggOf s (u (len-1-j))] W fun e W'=>(e=.returned (.bool true)∧J (j+1) W')∨(e=.returned (.bool false)∧Jx W')) →
  ∀ W,J 0 W→CallsIn Fence.wide (N+1) P fI #[.func (.yield l) #[] #[],.pointer (some ⟨c,0,none⟩)] W fun e W'=>(∃ v,e=.returned v)∧(J len W'∨Jx W')
 enters:∀ args w,(callFunc fI args).run P w=.ok (.enter fI args) w
section
variable {C:dS} {a a':Act} {w w':World} {st:PS} {D:kU} {β:qE}
variable {P:Program} {n:Fr} {fB fI:FuncId} {T:TypeId} {S:SL} {B:BS} {Q:Exit→PS→Prop} {α:Type}
end
section
variable {P:Program} {o:Oper} {S:Nat→SV} {x:Operand} {k T s n:Nat} {d:kF}
theorem oE0(ho:o.op=.extract x 0:=by exact rfl)(hx:ev S x=.pr k T s n d:=by exact rfl):qW P o S [] (.own k T s n) :=
 qW.same fun a w D β hop _=>by
  have hp:=hop x (by simp [ho,Op.operands])
  rw[hx] at hp
  obtain ⟨v1,v2,e,h1,h2⟩:=hp
  exact ⟨v1,by simp [execOp,ho,e,Instr.extract],h1⟩
theorem oE1(ho:o.op=.extract x 1:=by exact rfl)(hx:ev S x=.pr k T s n d:=by exact rfl):qW P o S [] (.d d) :=
 qW.same fun a w D β hop _=>by
  have hp:=hop x (by simp [ho,Op.operands])
  rw[hx] at hp
  obtain ⟨v1,v2,e,h1,h2⟩:=hp
  exact ⟨v2,by simp [execOp,ho,e,Instr.extract],h2⟩
end
end Go.Fid
