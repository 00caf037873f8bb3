/- Part 34 of a proof: rules, plain facts, and functions walked. -/
import Derived.Test.YtnajallgoaiahaaGreatDoorM28
import Derived.Test.YtnajallgoaiahaaGreatDoorM33
import Derived.Test.YtnajallgoaiahaaGreatDoorM20
import Derived.Test.YtnajallgoaiahaaGreatDoorM11
set_option linter.all false
set_option maxRecDepth 4000
namespace Go.Proofs.YtnajallgoaiahaaGreatDoor
open Go.Fid
theorem m_vlist(l:List jR)(hl:xN 1048576 l):jO Tryz.prog 14 [(.sl 45 4 (List.map jJ l))] (.val (.bool ((aN l)))):=by
 have hb:=hl.2
 refine qY Tryz.func14 ?_
 refine jB<|kx [] [] (zM<|zZ) ?_
 refine jB<|jB<|kx [(3,(jS 0))] [] (zM<|zZ) ?_
 refine jH<|kF (α:=Nat) (fun i=>⟨[(0,(vl 45 4 jJ l)),(3,(jS i))],[]⟩) (fun i=>i<=l.length/\(l.take i).all kR=true) (fun i=>l.length-i) 0 wk ⟨Nat.zero_le _,by simp⟩ ?_
 rintro i ⟨hi,hal⟩
 refine jB<|jB<|kx [(7,(vb (decide (((i:Nat):Int)<((l.length:Nat):Int)))))] [] (zM<|zM<|zE (vP uQ)<|zE xK<|zZ) ?_
 refine jG rfl (fun h1=>?_) (fun h1=>?_)
 ·replace h1:=uV h1
  refine jC<|jB<|jH<|jB<|kx [(15,(vb (!(kR (l.getD i kH)))))] [] (zM<|zM<|zE (yE uQ i kH)<|zE (yJ jQ)<|zE (jV (bU (l.getD i kH) (qS (l.getD i kH)) (jM (xL hl.1 (show i<l.length by omega)))))<|zE gD<|zZ) ?_
  refine jG rfl (fun h2=>?_) (fun h2=>?_)
  ·refine jB<|kx [(2,(vb false))] [] (zM<|zZ) ?_
   refine jE ⟨_,(.tmp (d:=(.val (.bool (false)))) rfl .nil),?_⟩
   rw[show aN l=false from all_not (f:=kR) (l:=l) (i:=i) (d:=kH) (by omega) (by simpa using h2)];rfl
  ·refine jC<|kx [(3,(jS (i+1)))] [] (zM<|zE (vO (i+1))<|zM<|zZ) ?_
   exact ⟨(i+1),wk,⟨by omega,all_take (d:=kH) (by omega) hal (by simpa using h2)⟩,(by first|omega|(dsimp only;omega))⟩
 ·replace h1:=vB h1
  have hie:i=l.length:=by omega
  rw[hie,List.take_length] at hal
  refine kD<|jB<|kx [(2,(vb true))] [] (zM<|zZ) ?_
  refine jE ⟨_,(.tmp (d:=(.val (.bool (true)))) rfl .nil),?_⟩
  rw[show aN l=true from hal];rfl
theorem p_cov(x:jR)(p:Rat)(hx:hP x p 200)(a:jR)(q:Rat)(ha:hP a q 200)(b:jR)(r:Rat)(hb:hP b r 200)(y:jR)(s:Rat)(hy:hP y s 200)(gx:kR x=true)(ga:kR a=true)(gb:kR b=true)(gy:kR y=true)(hq:¬ (mJ q)<0)(hr:¬ (mJ r)<0):jO Tryz.prog 27 [(jJ x),(jJ a),(jJ b),(jJ y)] (.tup [(.val (.bool ((decide ((yB ((s-p)*(s-p)) (q*r))<=0))))),(.val (.int .i64 (((0:Nat):Int))))]):=by
 refine qY Tryz.func27 ?_
 refine jB<|kx [(4,(.ref 0 0)),(5,(.ref 1 0)),(6,(.ref 2 0)),(7,(.ref 3 0))] [(0,some (bx (jJ x))),(1,some (bx (jJ a))),(2,some (bx (jJ b))),(3,some (bx (jJ y)))] (zN (uU 0)<|zN (uU 1)<|zN (uU 2)<|zN (uU 3)<|zM<|zM<|zZ) ?_
 refine jB<|jB<|kx [(17,(vl 45 4 jJ [x,a,b,y])),(18,(jS 4)),(19,(jS 0))] [] (zR (kJ jQ)<|zR (kJ jQ)<|zR (kJ jQ)<|zR (kJ jQ)<|zE (eE uQ qZ uG)<|zE (fO uQ 4)<|zM<|zZ) ?_
 refine jH<|pwp_rounds 5 ?_
 refine pwp_round<|jB<|kx [(20,(vb true))] [] (zE (uP true xK)<|zZ) ?_
 refine jB<|uI ?_
 refine jC<|jB<|jH<|jB<|kx [(11,(.ref 4 0))] [(4,some (bx (jJ x)))] (zE (oXs uQ 0)<|zE (yJ jQ)<|zN (qR 4 qZ uG)<|zT (qA jQ)<|zZ) ?_
 refine jB<|kx [(25,(vb false))] [] (zR (kJ jQ)<|zE (uP true (jV (cQ x p (jM hx))) (by exact gx))<|zE gD<|zZ) ?_
 refine kM ?_
 refine jC<|kx [(19,(jS 1))] [] (zE (vO 1 (hr:=by decide))<|zM<|zZ) ?_
 refine aG (vG.refl _) ?_
 refine jB<|kx [(20,(vb true))] [] (zE (uP true xK)<|zZ) ?_
 refine jB<|uI ?_
 refine jC<|jB<|jH<|jB<|kx [(11,(.ref 5 0))] [(5,some (bx (jJ a)))] (zE (oXs uQ 1)<|zE (yJ jQ)<|zN (qR 5 qZ uG)<|zT (qA jQ)<|zZ) ?_
 refine jB<|kx [(25,(vb false))] [] (zR (kJ jQ)<|zE (uP true (jV (cQ a q (jM ha))) (by exact ga))<|zE gD<|zZ) ?_
 refine kM ?_
 refine jC<|kx [(19,(jS 2))] [] (zE (vO 2 (hr:=by decide))<|zM<|zZ) ?_
 refine aG (vG.refl _) ?_
 refine jB<|kx [(20,(vb true))] [] (zE (uP true xK)<|zZ) ?_
 refine jB<|uI ?_
 refine jC<|jB<|jH<|jB<|kx [(11,(.ref 6 0))] [(6,some (bx (jJ b)))] (zE (oXs uQ 2)<|zE (yJ jQ)<|zN (qR 6 qZ uG)<|zT (qA jQ)<|zZ) ?_
 refine jB<|kx [(25,(vb false))] [] (zR (kJ jQ)<|zE (uP true (jV (cQ b r (jM hb))) (by exact gb))<|zE gD<|zZ) ?_
 refine kM ?_
 refine jC<|kx [(19,(jS 3))] [] (zE (vO 3 (hr:=by decide))<|zM<|zZ) ?_
 refine aG (vG.refl _) ?_
 refine jB<|kU (wk (l:=[(4,(.ref 0 0)),(5,(.ref 1 0)),(6,(.ref 2 0)),(7,(.ref 3 0)),(17,(vl 45 4 jJ [x,a,b,y])),(18,(jS 4)),(19,(jS 3))]) (b:=[(0,some (bx (jJ x))),(1,some (bx (jJ a))),(2,some (bx (jJ b))),(3,some (bx (jJ y)))])) ?_
 refine kx [(20,(vb true))] [] (zE (uP true xK)<|zZ) ?_
 refine jB<|uI ?_
 refine jC<|jB<|jH<|jB<|kx [(11,(.ref 7 0))] [(7,some (bx (jJ y)))] (zE (oXs uQ 3)<|zE (yJ jQ)<|zN (qR 7 qZ uG)<|zT (qA jQ)<|zZ) ?_
 refine jB<|kx [(25,(vb false))] [] (zR (kJ jQ)<|zE (uP true (jV (cQ y s (jM hy))) (by exact gy))<|zE gD<|zZ) ?_
 refine kM ?_
 refine jC<|kx [(19,(jS 4))] [] (zE (vO 4 (hr:=by decide))<|zM<|zZ) ?_
 refine aG (vG.refl _) ?_
 refine jB<|kx [(20,(vb false))] [] (zE (uP false xK)<|zZ) ?_
 refine jB<|kM ?_
 refine kD<|jB<|jB<|kx [(34,(vb false))] [] (zR (kJ jQ)<|zE (jV (f_sign a q (jM ha)))<|zE (uP false xK (by exact decide_eq_false hq))<|zM<|zR (kJ jQ)<|zE (jV (f_sign b r (jM hb)))<|zE (uP false xK (by exact decide_eq_false hr))<|zE xQ<|zZ) ?_
 refine kM ?_
 refine jC<|jB<|kx [(12,(.ref 8 0))] [(8,some (bx (jJ (jN (s-p)))))] (zR (kJ jQ)<|zR (kJ jQ)<|zE (jV (f_sub y x s p (jM hy) (jM hx)))<|zN (qR 8 qZ uG)<|zT (qA jQ)<|zZ) ?_
 refine jB<|kd [(8,(vb (decide ((yB ((s-p)*(s-p)) (r*q))<=((0:Nat):Int))))),(9,(jS 0))] [] mo (wR (kJ jQ)<|wR (kJ jQ)<|wE (jV (fK (jN (s-p)) (jN (s-p)) (s-p) (s-p) (jM (jW (eL (k:=401) hy.ql hx.ql))) (jM (jW (eL (k:=401) hy.ql hx.ql)))))<|wR (kJ jQ)<|wR (kJ jQ)<|wE (jV (fK b a r q (jM hb) (jM ha)))<|wE (jV (dD (jN ((s-p)*(s-p))) (jN (r*q)) ((s-p)*(s-p)) (r*q) (jM (jW (qD (k:=802) (eL (k:=401) hy.ql hx.ql) (eL (k:=401) hy.ql hx.ql)))) (jM (jW (qD (k:=400) hb.ql ha.ql)))))<|wE oLe<|wM<|wM<|wZ) ?_
 refine jE ⟨_,(.tmp (d:=(.val (.bool (decide ((yB ((s-p)*(s-p)) (r*q))<=((0:Nat):Int)))))) rfl (.tmp (d:=(.val (.int .i64 (((0:Nat):Int))))) rfl .nil)),?_⟩
 rw[Rat.mul_comm q r];rfl
def zQ(zs:List Int):List Rat:=zs.map fun z:Int=>(z:Rat)
theorem zQ_ql{zs:List Int}(h:∀ z∈zs,-9223372036854775808<=z/\z<=9223372036854775807):∀ q∈zQ zs,QL q 3:=fun q hq=>by
 obtain ⟨z,hz,rfl⟩:=List.mem_map.1 hq
 exact vS (xS (h z hz).1 (h z hz).2) (by decide)
theorem zQ_row{zs:List Int}{n:Nat}(h:∀ z∈zs,-9223372036854775808<=z/\z<=9223372036854775807)(hn:3<=n)(hl:zs.length<=1000000):xN n (List.map jN (zQ zs)):=pts_row (fun q hq=>qG (zQ_ql h q hq) hn) (by unfold zQ;rw[List.length_map];exact hl)
def kT:List qB:=[⟨1,0,0,zr⟩,⟨1,1,0,zr⟩,⟨4,0,1,zr⟩]
def kX:List Rat:=zQ [2,3]
def kQ:List (List jR):=[List.map jN (zQ [1,0]),List.map jN (zQ [0,4])]
def kE:List (List jR):=[List.map jN (zQ [5,4]),List.map jN (zQ [4,5])]
theorem kX_ql:∀ q∈kX,QL q 1048576:=fun q hq=>qG (zQ_ql (by decide) q hq) (by decide)
theorem kT_ok:∀ x∈kT,hP x.n (qS x.n) 1048576:=fun x hx=>by
 have:x.n=zr:=by
  unfold kT at hx
  simp only[List.mem_cons,List.not_mem_nil,or_false] at hx
  rcases hx with rfl | rfl | rfl<;>rfl
 rw[this]
 exact ⟨rfl,by decide,by decide,by decide⟩
theorem kQ_ok:uY 1048576 kQ:=⟨fun r hr=>by
 unfold kQ at hr
 simp only[List.mem_cons,List.not_mem_nil,or_false] at hr
 rcases hr with rfl | rfl<;>exact zQ_row (by decide) (by decide) (by decide),by decide⟩
theorem kE_ok:uY 6 kE:=⟨fun r hr=>by
 unfold kE at hr
 simp only[List.mem_cons,List.not_mem_nil,or_false] at hr
 rcases hr with rfl | rfl<;>exact zQ_row (by decide) (by decide) (by decide),by decide⟩
theorem vrow_of(l:List Rat):aN (List.map jN l)=true:=by
 unfold aN
 rw[List.all_eq_true]
 intro a ha
 obtain ⟨r,h1,rfl⟩:=List.mem_map.1 ha
 exact mP _
theorem kQ_rect:yL kQ kQ.length kX.length:=⟨rfl,fun l hl=>by
 unfold kQ at hl
 simp only[List.mem_cons,List.not_mem_nil,or_false] at hl
 rcases hl with rfl | rfl<;>exact ⟨rfl,vrow_of _⟩,by decide,by decide,by decide,by decide⟩
theorem kE_rect:yL kE 2 2:=⟨rfl,fun l hl=>by
 unfold kE at hl
 simp only[List.mem_cons,List.not_mem_nil,or_false] at hl
 rcases hl with rfl | rfl<;>exact ⟨rfl,vrow_of _⟩,by decide,by decide,by decide,by decide⟩
theorem kE_chk:mZ kE=0:=aM kE_rect
theorem eqm2{a b c d:Rat}(h:b=c):symB [[jN a,jN b],[jN c,jN d]]=true:=by
 refine sym_yes fun i hi j hj=>?_
 match i,j,hi,hj with
 |1,0,_,_=>exact decide_eq_true (by subst h;rfl)
theorem kQ_fit:nP kQ kX.length=0:=fit_ok ⟨rfl,rfl⟩ (eqm2 rfl)
theorem kE_fit:nP kE kE.length=0:=fit_ok ⟨rfl,rfl⟩ (eqm2 rfl)
instance (n:Nat) (a:R2):Decidable (GL n a):=by unfold GL QL;infer_instance
theorem kT_run:JRun (List.map yX kX) kT:=by
 refine ⟨by decide +kernel,fun k hk=>?_,fun k hk=>?_⟩
 ·match k,hk with
  |0,_=>exact ⟨by decide +kernel,by decide +kernel,rfl⟩
  |1,_=>exact ⟨by decide +kernel,by decide +kernel,rfl⟩
  |2,_=>exact ⟨by decide +kernel,by decide +kernel,rfl⟩
 ·match k,hk with
  |0,_=>intro h;revert h;decide
  |1,_=>intro h;revert h;decide
  |2,_=>intro h;revert h;decide
theorem kGr:gP kX kT=[jN 3,jN 2]:=by
 unfold gP
 rw[show (kA (List.map yX kX) kT).g=[(3,3),(2,2)] by decide +kernel]
 rfl
theorem kVar:fG kQ (gP kX kT) (gP kX kT)=25:=by
 rw[kGr]
 show 0+qS (jN 3)*qS (jN (0+qS (jN 1)*qS (jN 3)+qS (jN 0)*qS (jN 2)))+qS (jN 2)*qS (jN (0+qS (jN 0)*qS (jN 3)+qS (jN 4)*qS (jN 2)))=25
 simp only[yY]
 decide +kernel
theorem kEa:qS ((kE.getD 0 []).getD 0 kH)=5:=by
 show qS (jN ((5:Int):Rat))=5
 rw[yY];rfl
theorem kEb:qS ((kE.getD 1 []).getD 1 kH)=5:=by
 show qS (jN ((5:Int):Rat))=5
 rw[yY];rfl
theorem kEc:qS ((kE.getD 0 []).getD 1 kH)=4:=by
 show qS (jN ((4:Int):Rat))=4
 rw[yY];rfl
theorem zs_at{zs:List Int}(h:∀ z∈zs,-9223372036854775808<=z/\z<=9223372036854775807){i:Nat}(hi:i<zs.length):-9223372036854775808<=zs.getD i 0/\zs.getD i 0<=9223372036854775807:=by
 rw[List.getD_eq_getElem?_getD,List.getElem?_eq_getElem hi];exact h _ (List.getElem_mem _)
theorem rng2{a b c d:Rat}(h1:a=c)(h2:b=d):jL.mk (jN a) (jN b)=jL.mk (jN c) (jN d):=by rw[h1,h2]
def trE(m:List (List jR))(i j a b:Nat):jR:=if a<i\/(a=i/\b<j) then (m.getD a []).getD b kH else jN ((0:Int):Rat)
def trT(m:List (List jR))(r c i j:Nat):List (List jR):=(List.range c).map fun b=>(List.range r).map fun a=>trE m i j a b
def trM(m:List (List jR))(r c:Nat):List (List jR):=(List.range c).map fun b=>(List.range r).map fun a=>(m.getD a []).getD b kH
theorem lR(m:List (List jR))(r c i j:Nat):(trT m r c i j).length=c:=by simp [trT]
theorem trT_at(m:List (List jR)){r c i j b:Nat}(h:b<c):(trT m r c i j).getD b []=(List.range r).map fun a=>trE m i j a b:=by
 unfold trT
 rw[List.getD_eq_getElem?_getD,List.getElem?_map,List.getElem?_range h];rfl
theorem trT_row(m:List (List jR)){r c i j b:Nat}(h:b<c):((trT m r c i j).getD b []).length=r:=by rw[trT_at m h];simp
theorem trT_set(m:List (List jR)){r c i j:Nat}(hi:i<r)(hj:j<c):(trT m r c i j).set j (((trT m r c i j).getD j []).set i ((m.getD i []).getD j kH))=trT m r c i (j+1):=by
 rw[trT_at m hj]
 refine List.ext_getElem (by rw[List.length_set,lR,lR]) fun b h1 h2=>?_
 rw[lR] at h2
 have g1:∀ q (h:b<(trT m r c i q).length),(trT m r c i q)[b]=(List.range r).map fun a=>trE m i q a b:=fun q h=>by simp [trT]
 rw[List.getElem_set,g1 (j+1)]
 split
 ·rename_i e;subst e
  refine List.ext_getElem (by simp) fun a h3 h4=>?_
  rw[List.getElem_set]
  simp only[List.getElem_map,List.getElem_range]
  split
  ·rename_i e;subst e
   unfold trE;rw[if_pos (by omega)]
  ·unfold trE
   by_cases h:a<i
   ·rw[if_pos (by omega),if_pos (by omega)]
   ·rw[if_neg (by omega),if_neg (by omega)]
 ·rw[g1 j]
  refine List.map_congr_left fun a _=>?_
  unfold trE
  by_cases h:a<i\/(a=i/\b<j)
  ·rw[if_pos h,if_pos (by omega)]
  ·rw[if_neg h,if_neg (by omega)]
theorem trT_next(m:List (List jR))(r c i:Nat):trT m r c i c=trT m r c (i+1) 0:=by
 unfold trT
 refine List.map_congr_left fun b hb=>List.map_congr_left fun a _=>?_
 have hb:=List.mem_range.1 hb
 unfold trE
 by_cases h:a<i+1
 ·rw[if_pos (by omega),if_pos (by omega)]
 ·rw[if_neg (by omega),if_neg (by omega)]
theorem trT_0(m:List (List jR))(r c:Nat):trT m r c 0 0=List.replicate c (List.replicate r (jN ((0:Int):Rat))):=by
 unfold trT
 rw[List.eq_replicate_iff]
 refine ⟨by simp,fun l hl=>?_⟩
 obtain ⟨b,_,rfl⟩:=List.mem_map.1 hl
 rw[List.eq_replicate_iff]
 refine ⟨by simp,fun x hx=>?_⟩
 obtain ⟨a,_,rfl⟩:=List.mem_map.1 hx
 unfold trE;rw[if_neg (by omega)]
theorem trT_end(m:List (List jR))(r c:Nat):trT m r c r 0=trM m r c:=by
 unfold trT trM
 refine List.map_congr_left fun b hb=>List.map_congr_left fun a ha=>?_
 have ha:=List.mem_range.1 ha
 unfold trE;rw[if_pos (by omega)]
abbrev tdD (L:List (List jR)):List (List jZ):=L.map (List.map jJ)
theorem tdD_at{L:List (List jR)}(j:Nat):(tdD L).getD j []=(L.getD j []).map jJ:=by
 rw[List.getD_eq_getElem?_getD,List.getD_eq_getElem?_getD,List.getElem?_map]
 cases L[j]?<;>rfl
theorem tdD_get{L:List (List jR)}{j:Nat}(h:j<L.length):(tdD L)[j]?=some ((L.getD j []).map jJ):=by
 rw[List.getElem?_map,List.getD_eq_getElem?_getD,List.getElem?_eq_getElem h];rfl
theorem tdD_set{L:List (List jR)}(j:Nat)(r:List jR):(tdD L).set j (r.map jJ)=tdD (L.set j r):=by
 show (L.map _).set j _=(L.set j r).map _
 rw[List.map_set]
theorem tdD_cells{L:List (List jR)}:∀ r∈tdD L,∀ e∈r,e.cells.length=4:=fun r hr e he=>by
 obtain ⟨l,_,rfl⟩:=List.mem_map.1 hr
 obtain ⟨x,_,rfl⟩:=List.mem_map.1 he
 rfl
theorem rng_all{f:Nat->Bool}{n:Nat}(h:∀ a,a<n->f a=true):(List.range n).all f=true:=List.all_eq_true.2 fun a ha=>h a (List.mem_range.1 ha)
theorem rng_no{f:Nat->Bool}{n i:Nat}(hi:i<n)(h:f i=false):(List.range n).all f=false:=by
 cases hb:(List.range n).all f with
 |false=>rfl
 |true=>rw[List.all_eq_true.1 hb i (List.mem_range.2 hi)] at h;cases h
theorem up_all{f:Nat->Bool}{i:Nat}(h:∀ a,a<i->f a=true)(hi:f i=true):∀ a,a<i+1->f a=true:=fun a ha=>by
 rcases Nat.lt_or_ge a i with h1 | h1
 ·exact h a h1
 ·obtain rfl:a=i:=by omega
  exact hi
def bI(l k:List jR):Bool:=decide (l.length=k.length)&&(List.range l.length).all fun i=>mG (l.getD i kH) (k.getD i kH)
def sameM(m q:List (List jR)):Bool:=decide (m.length=q.length)&&(List.range m.length).all fun i=>bI (m.getD i []) (q.getD i [])
theorem sameL_len{l k:List jR}(h:((l.length:Nat):Int)≠((k.length:Nat):Int)):bI l k=false:=by unfold bI;rw[decide_eq_false (by omega),Bool.false_and]
theorem sameL_no{l k:List jR}{i:Nat}(hi:i<l.length)(h:mG (l.getD i kH) (k.getD i kH)=false):bI l k=false:=by unfold bI;rw[rng_no hi h,Bool.and_false]
theorem sameL_yes{l k:List jR}(h0:((l.length:Nat):Int)=((k.length:Nat):Int))(h:∀ a,a<l.length->mG (l.getD a kH) (k.getD a kH)=true):bI l k=true:=by unfold bI;rw[decide_eq_true (by omega),rng_all h];rfl
theorem sameM_len{l k:List (List jR)}(h:((l.length:Nat):Int)≠((k.length:Nat):Int)):sameM l k=false:=by unfold sameM;rw[decide_eq_false (by omega),Bool.false_and]
theorem sameM_no{l k:List (List jR)}{i:Nat}(hi:i<l.length)(h:bI (l.getD i []) (k.getD i [])=false):sameM l k=false:=by unfold sameM;rw[rng_no hi h,Bool.and_false]
theorem sameM_yes{l k:List (List jR)}(h0:((l.length:Nat):Int)=((k.length:Nat):Int))(h:∀ a,a<l.length->bI (l.getD a []) (k.getD a [])=true):sameM l k=true:=by unfold sameM;rw[decide_eq_true (by omega),rng_all h];rfl
theorem trM_at(m:List (List jR)){r c b:Nat}(h:b<c):(trM m r c).getD b []=(List.range r).map fun a=>(m.getD a []).getD b kH:=by
 unfold trM
 rw[List.getD_eq_getElem?_getD,List.getElem?_map,List.getElem?_range h];rfl
theorem trM_ok{m:List (List jR)}{N c:Nat}(hm:uY N m)(hr:yL m m.length c):uY N (trM m m.length c):=by
 have h1:=hr.r64
 have h2:=hr.c64
 refine ⟨fun l hl=>?_,by simp [trM];omega⟩
 obtain ⟨b,hb,rfl⟩:=List.mem_map.1 hl
 have hb:=List.mem_range.1 hb
 refine ⟨fun x hx=>?_,by simp;omega⟩
 obtain ⟨a,ha,rfl⟩:=List.mem_map.1 hx
 have ha:=List.mem_range.1 ha
 exact xL (vT (d:=[]) hm ha).1 (by rw[(hr.at ha).1];exact hb)
theorem same_valid{x y:jR}(hx:kR x=true)(hy:kR y=true):mG x y=decide (qS x=qS y):=by
 rw[<- bK hx,<- bK hy,sameR_of,yY,yY]
theorem sym_tr{m:List (List jR)}(hr:yL m m.length m.length):sameM m (trM m m.length m.length)=symB m:=by
 have hv:∀ i j,i<m.length->j<m.length->kR ((m.getD i []).getD j zr)=true:=fun i j hi hj=>by
  obtain ⟨h1,h2⟩:=hr.at hi
  exact valid_get h2 (by rw[h1];exact hj)
 have hg:∀ i j,i<m.length->j<m.length->((trM m m.length m.length).getD i []).getD j zr=(m.getD j []).getD i zr:=fun i j hi hj=>by
  rw[trM_at m hi,List.getD_eq_getElem?_getD,List.getElem?_map,List.getElem?_range hj];rfl
 have he:∀ i j,i<m.length->j<m.length->mG ((m.getD i []).getD j zr) (((trM m m.length m.length).getD i []).getD j zr)=eqM m i j:=fun i j hi hj=>by
  rw[hg i j hi hj,same_valid (hv i j hi hj) (hv j i hj hi)];rfl
 cases hs:symB m with
 |true=>
  refine sameM_yes (by simp [trM]) fun i hi=>sameL_yes (by rw[(hr.at hi).1,trM_at m hi];simp) fun j hj=>?_
  have hj:j<m.length:=by rw[(hr.at hi).1] at hj;exact hj
  refine (he i j hi hj).trans (decide_eq_true ?_)
  rcases Nat.lt_trichotomy i j with h | h | h
  ·exact (sym_at hs hj h).symm
  ·rw[h]
  ·exact sym_at hs hi h
 |false=>
  cases hm:sameM m (trM m m.length m.length) with
  |false=>rfl
  |true=>
   rw[<- hs];symm
   unfold sameM at hm
   rw[Bool.and_eq_true] at hm
   refine sym_yes fun i hi j hj=>?_
   have h1:=List.all_eq_true.1 hm.2 i (List.mem_range.2 hi)
   unfold bI at h1
   rw[Bool.and_eq_true] at h1
   rw[<- he i j hi (by omega)]
   exact List.all_eq_true.1 h1.2 j (List.mem_range.2 (by rw[(hr.at hi).1];omega))
theorem bad_any{m:List (List jR)}{i:Nat}(hi:i<m.length)(h:yS m (m.getD i [])=true):m.any (yS m)=true:=by
 rw[List.any_eq_true]
 refine ⟨m.getD i [],?_,h⟩
 rw[List.getD_eq_getElem?_getD,List.getElem?_eq_getElem hi];exact List.getElem_mem _
theorem bad_none{m:List (List jR)}(h:∀ a,a<m.length->yS m (m.getD a [])=false):m.any (yS m)=false:=by
 rw[List.any_eq_false]
 intro l hl
 obtain ⟨i,hi,rfl⟩:=List.getElem_of_mem hl
 have:=h i hi
 rw[List.getD_eq_getElem?_getD,List.getElem?_eq_getElem hi] at this
 rw[show yS m m[i]=false from this];simp
theorem up_bad{f:Nat->Bool}{i:Nat}(h:∀ a,a<i->f a=false)(hi:f i=false):∀ a,a<i+1->f a=false:=fun a ha=>by
 rcases Nat.lt_or_ge a i with h1 | h1
 ·exact h a h1
 ·obtain rfl:a=i:=by omega
  exact hi
def brX(x:jR):Bool:=if (decide (1<((x.num.gs.length:Nat):Int))||decide (1<((x.den.gs.length:Nat):Int)))=true then false else
 ((((x.num.gs.length:Nat):Int) == 0)||decide (((x.num.gs.getD 0 0:Nat):Int)<100000))&&((((x.den.gs.length:Nat):Int) == 0)||decide (((x.den.gs.getD 0 0:Nat):Int)<=100))
def shX(n:Nat)(x:jR):Bool:=!(decide (((n:Nat):Int)<((xP x:Nat):Int))||(decide (((n:Nat):Int)<=6)&&!(brX x)))
theorem shX_t{n:Nat}{x:jR}(h:(decide (((n:Nat):Int)<((xP x:Nat):Int))||(decide (((n:Nat):Int)<=6)&&!(brX x)))=true):shX n x=false:=by unfold shX;rw[h];rfl
theorem shX_f{n:Nat}{x:jR}(h:(decide (((n:Nat):Int)<((xP x:Nat):Int))||(decide (((n:Nat):Int)<=6)&&!(brX x)))=false):shX n x=true:=by unfold shX;rw[h];rfl
theorem shX_le{n:Nat}{x:jR}(h:shX n x=true):xP x<=n:=by
 unfold shX at h
 rw[Bool.not_eq_true',Bool.or_eq_false_iff,decide_eq_false_iff_not] at h
 omega
def shR(c n:Nat)(l:List jR):Bool:=decide (l.length<=c)&&l.all (shX n)
def shM(c n:Nat)(m:List (List jR)):Bool:=decide (m.length<=c)&&m.all (shR c n)
theorem all_up{α:Type}{f:α->Bool}{l:List α}{i:Nat}{d:α}(h:i<l.length)(ha:(l.take i).all f=true)(hf:f (l.getD i d)=true):(l.take (i+1)).all f=true:=by
 rw[take_all (d:=d) h,ha,hf];rfl
theorem all_no{α:Type}{f:α->Bool}{l:List α}{i:Nat}{d:α}(h:i<l.length)(hf:f (l.getD i d)=false):l.all f=false:=by
 cases hb:l.all f with
 |false=>rfl
 |true=>
  rw[List.getD_eq_getElem?_getD,List.getElem?_eq_getElem h,Option.getD_some,List.all_eq_true.1 hb _ (List.getElem_mem h)] at hf;cases hf
theorem shR_long{c n:Nat}{l:List jR}(h:((c:Nat):Int)<((l.length:Nat):Int)):shR c n l=false:=by unfold shR;rw[decide_eq_false (by omega)];rfl
theorem shR_no{c n:Nat}{l:List jR}(h:(l.all (shX n))=false):shR c n l=false:=by unfold shR;rw[h,Bool.and_false]
theorem shR_yes{c n:Nat}{l:List jR}(h0:¬ ((c:Nat):Int)<((l.length:Nat):Int))(h:(l.all (shX n))=true):shR c n l=true:=by unfold shR;rw[decide_eq_true (by omega),h];rfl
theorem shM_long{c n:Nat}{l:List (List jR)}(h:((c:Nat):Int)<((l.length:Nat):Int)):shM c n l=false:=by unfold shM;rw[decide_eq_false (by omega)];rfl
theorem shM_no{c n:Nat}{l:List (List jR)}(h:l.all (shR c n)=false):shM c n l=false:=by unfold shM;rw[h,Bool.and_false]
theorem shM_yes{c n:Nat}{l:List (List jR)}(h0:¬ ((c:Nat):Int)<((l.length:Nat):Int))(h:l.all (shR c n)=true):shM c n l=true:=by unfold shM;rw[decide_eq_true (by omega),h];rfl
theorem shM_ok{m:List (List jR)}{c n:Nat}(h:shM c n m=true)(hn:1<=n)(hc:c<=1000):uY n m:=by
 unfold shM at h
 simp only[Bool.and_eq_true,decide_eq_true_eq,List.all_eq_true] at h
 refine ⟨fun r hr=>?_,by omega⟩
 have h2:=h.2 r hr
 unfold shR at h2
 simp only[Bool.and_eq_true,decide_eq_true_eq,List.all_eq_true] at h2
 refine ⟨fun a ha=>?_,by omega⟩
 have h3:=shX_le (h2.2 a ha)
 unfold xP at h3
 exact fC hn (by omega) (by omega)
section
variable {A B C r l:Rat}
end
theorem cb101:callB Tryz.prog 101=true:=by kernel_rfl
theorem z_whole5(x:Int)(hxl:-9223372036854775808<=x)(hxh:x<=9223372036854775807):jO Tryz.prog 102 [(.val (.int .i64 (x)))] (jJ (jN ((x:Int):Rat))):=by
 refine qY Tryz.func102 ?_
 refine jB<|kx [(2,(.ref 0 0))] [(0,some (bx (jJ kH)))] (zN (qR 0 qZ uG)<|zZ) ?_
 refine jB<|kx [] [(0,some (bx (jJ (jN ((x:Int):Rat)))))] (zM<|zE (jV (nR x (by omega) (by omega)))<|zT (qA jQ)<|zZ) ?_
 refine jE ⟨_,(kI (cs:=(bx (jJ (jN ((x:Int):Rat))))) (d:=(jJ (jN ((x:Int):Rat)))) rfl rfl jQ rfl rfl .nil),?_⟩
 rfl
theorem e_zeros(r c:Nat)(hr:r<=1000)(hc:c<=1000):xA Tryz.prog 101 [(.d (.val (.int .i64 ((r:Nat):Int)))),(.d (.val (.int .i64 ((c:Nat):Int))))] [] (.own 0 24 1 (List.replicate r (List.map jJ (List.replicate c (jN ((0:Int):Rat))))).length) (dI 45 4 (List.replicate r (List.map jJ (List.replicate c (jN ((0:Int):Rat)))))):=by
 refine nA Tryz.func101 rfl cb101 rfl ?_
 refine jB<|kx [] [] (zE (aZ 24 1)<|zZ) ?_
 refine jB<|kx [(5,(.own 0 24 1 0))] [(0,some [])] (zN (oBo 0 yH ze24 zo24)<|zM<|zZ) ?_
 refine jB<|jB<|kx [(6,(jS 0))] [] (zM<|zZ) ?_
 refine jH<|kF (α:=Nat × List (List jZ)) (fun (i,u)=>⟨[(0,(jS r)),(1,(jS c)),(5,(.own 0 24 1 u.length)),(6,(jS i))],dI 45 4 u⟩) (fun (i,u)=>i<=r/\u=List.replicate i (List.map jJ (List.replicate c (jN ((0:Int):Rat))))) (fun (i,u)=>r-i) (0,[]) wk ⟨Nat.zero_le _,rfl⟩ ?_
 rintro ⟨i,u⟩ ⟨hi,hu⟩
 have hul:u.length=i:=by rw[hu,List.length_replicate]
 refine jB<|jB<|kx [(12,(vb (decide (((i:Nat):Int)<((r:Nat):Int)))))] [] (zM<|zM<|zE xK<|zY) ?_
 refine jG rfl (fun h1=>?_) (fun h1=>?_)
 ·replace h1:=uV h1
  refine jC<|jB<|jH<|jB<|kr [(0,(jS r)),(1,(jS c)),(5,(.own 0 24 1 u.length)),(6,(jS i)),(7,(.own 1 45 4 0))] ((1,some (yU jJ []))::dI 45 4 u) (zH (oBo (ps:=[]) 1 uQ qZ uG) (h2:=tabA_frb)<|zM<|zI (nS (xU (by kernel_rfl)) (fun _ _ h=>h))) ?_
  refine jB<|jB<|kx [(8,(jS 0))] [] (zM<|zY) ?_
  refine jH<|kF (α:=Nat × List jR) (fun (j,v)=>⟨[(0,(jS r)),(1,(jS c)),(5,(.own 0 24 1 u.length)),(6,(jS i)),(7,(.own 1 45 4 v.length)),(8,(jS j))],(1,some (yU jJ v))::dI 45 4 u⟩) (fun (j,v)=>j<=c/\v=List.replicate j (jN ((0:Int):Rat))) (fun (j,v)=>c-j) (0,[]) (nS (xU (by kernel_rfl)) (fun _ _ h=>h)) ⟨Nat.zero_le _,rfl⟩ ?_
  rintro ⟨j,v⟩ ⟨hj,hv⟩
  have hvl:v.length=j:=by rw[hv,List.length_replicate]
  refine jB<|jB<|kx [(18,(vb (decide (((j:Nat):Int)<((c:Nat):Int)))))] [] (zM<|zM<|zE xK<|zY) ?_
  refine jG rfl (fun h2=>?_) (fun h2=>?_)
  ·replace h2:=uV h2
   refine jC<|jB<|jH<|kr [(0,(jS r)),(1,(jS c)),(5,(.own 0 24 1 u.length)),(6,(jS i)),(7,(.own 1 45 4 ((v++[(jN ((0:Int):Rat))]).length))),(8,(jS j))] ((1,some (yU jJ (v++[(jN ((0:Int):Rat))])))::dI 45 4 u) (zM<|zE (jV (z_whole5 0 (by omega) (by omega)))<|zE (eE uQ qZ uG)<|zAS jJ v [(jN ((0:Int):Rat))] rfl uQ qZ by45 (hB:=tabA_clr)<|zM<|zI (nS (xU (by kernel_rfl)) bget_dup)) ?_
   refine kx [(8,(jS (j+1)))] [] (zM<|zE (vO (j+1))<|zM<|zY) ?_
   exact ⟨(j+1,v++[jN ((0:Int):Rat)]),nS (xU (by kernel_rfl)) (fun _ _ h=>h),⟨by omega,by rw[hv,List.replicate_succ']⟩,(by first|omega|(dsimp only;omega))⟩
  ·replace h2:=vB h2
   obtain rfl:j=c:=by omega
   refine kD<|pwp_fixS 7 rfl (fun ao cap=>?_)
   refine kr [(0,(jS r)),(1,(jS j)),(5,(.own 0 24 1 ((u++[List.map jJ v]).length))),(6,(jS i))] (dI 45 4 (u++[List.map jJ v])) (zM<|zE (oMvx (k:=1) (T:=45) (s:=4) (n:=v.length) (u:=.slice ao v.length cap))<|zE (eE yH ze24 zo24)<|zX (tab_app (rows:=u) (d:=.val (.slice ao v.length cap)) (by exact rfl) (by kernel_rfl) yH ze24 (by kernel_rfl) by24 (by exact rfl) rfl (by exact rfl) tabA_clr0 (by exact rfl) rfl (by unfold maxLen;omega) (by omega) (show u.length+1=(u++[List.map jJ v]).length by simp)) (by kernel_rfl)<|zM<|zI (tab_push 7 (List.length_map _) (by kernel_rfl) rfl rfl tabA_rows (by kernel_rfl) (by kernel_rfl))) ?_
   refine kx [(6,(jS (i+1)))] [] (zM<|zE (vO (i+1))<|zM<|zY) ?_
   exact ⟨(i+1,u++[List.map jJ v]),nS (xU (by kernel_rfl)) (fun _ _ h=>h),⟨by omega,by rw[hu,hv,List.replicate_succ']⟩,(by first|omega|(dsimp only;omega))⟩
 ·replace h1:=vB h1
  obtain rfl:i=r:=by omega
  refine kD<|jB<|kx [(4,(.own 0 24 1 u.length))] [] (zM<|zM<|zY) ?_
  refine jE ⟨fun k c h=>?_,gJ (by kernel_rfl),.inr (.inl ⟨4,rfl,?_⟩)⟩
  ·rw[<- hu] at h;exact h
  ·rw[<- hu];rfl
theorem e_trans(m:List (List jR))(hm:uY 1048576 m)(hr:yL m m.length (m.getD 0 []).length):jO Tryz.prog 43 [(.sl 24 1 (List.map jT m))] (.sl 24 1 (List.map jT (trM m m.length (m.getD 0 []).length))):=by
 have hmb:=hr.r64
 have hm1:=hr.r1
 have hcb:=hr.c64
 have e0:List.replicate (m.getD 0 []).length (List.map jJ (List.replicate m.length (jN ((0:Int):Rat))))=tdD (trT m m.length (m.getD 0 []).length 0 0):=by rw[trT_0];simp
 have hz:=e_zeros (m.getD 0 []).length m.length (by omega) (by omega)
 rw[e0] at hz
 have hl:∀ i j,(tdD (trT m m.length (m.getD 0 []).length i j)).length=(m.getD 0 []).length:=fun i j=>by rw[List.length_map,lR]
 refine qY Tryz.func43 ?_
 refine jB<|kx [] [] (zE (aZ 24 1)<|zZ) ?_
 refine jB<|kr [(0,(vl 24 1 jT m)),(3,(.own 0 24 1 (m.getD 0 []).length))] (dI 45 4 (tdD (trT m m.length (m.getD 0 []).length 0 0))) (zM<|zE (yE yH 0 ([]:List (jR)) (L:=m))<|zE (yV cF)<|zE (vP uQ (L:=(m.getD 0 [])))<|zM<|zE (vP yH (L:=m))<|zTab (ds:=[.val (.int .i64 ((m.getD 0 []).length:Nat)),.val (.int .i64 (m.length:Nat))]) hz (hl 0 0)<|zM<|zI (nS (xU (by kernel_rfl)) (fun _ _ h=>h))) ?_
 refine jB<|jB<|kx [(4,(jS 0))] [] (zM<|zY) ?_
 refine jH<|kF (α:=Nat) (fun i=>⟨[(0,(vl 24 1 jT m)),(3,(.own 0 24 1 (m.getD 0 []).length)),(4,(jS i))],dI 45 4 (tdD (trT m m.length (m.getD 0 []).length i 0))⟩) (fun i=>i<=m.length) (fun i=>m.length-i) 0 (nS (xU (by kernel_rfl)) (fun _ _ h=>h)) (Nat.zero_le _) ?_
 rintro i hi
 refine jB<|jB<|kx [(16,(vb (decide (((i:Nat):Int)<((m.length:Nat):Int)))))] [] (zM<|zM<|zE (vP yH (L:=m))<|zE xK<|zY) ?_
 refine jG rfl (fun h1=>?_) (fun h1=>?_)
 ·replace h1:=uV h1
  have hir:i<m.length:=by omega
  have hri:=(hr.at hir).1
  refine jC<|jB<|jH<|jB<|kx [(5,(jS 0))] [] (zM<|zY) ?_
  refine jH<|kF (α:=Nat) (fun j=>⟨[(0,(vl 24 1 jT m)),(3,(.own 0 24 1 (m.getD 0 []).length)),(4,(jS i)),(5,(jS j))],dI 45 4 (tdD (trT m m.length (m.getD 0 []).length i j))⟩) (fun j=>j<=(m.getD 0 []).length) (fun j=>(m.getD 0 []).length-j) 0 (nS (xU (by kernel_rfl)) (fun _ _ h=>h)) (Nat.zero_le _) ?_
  rintro j hj
  refine jB<|jB<|kx [(25,(vb (decide (((j:Nat):Int)<(((m.getD i []).length:Nat):Int)))))] [] (zM<|zM<|zM<|zE (yE yH i ([]:List (jR)) (L:=m))<|zE (yV cF)<|zE (vP uQ (L:=(m.getD i [])))<|zE xK<|zY) ?_
  refine jG rfl (fun h2=>?_) (fun h2=>?_)
  ·replace h2:=uV h2
   have hjc:j<(m.getD 0 []).length:=by omega
   have hrl:((tdD (trT m m.length (m.getD 0 []).length i j)).getD j []).length=m.length:=by rw[tdD_at,List.length_map,trT_row m hjc]
   have hrl2:=trT_row m (r:=m.length) (i:=i) (j:=j) hjc
   have hlj:=hl i j
   have hjt:j<(tdD (trT m m.length (m.getD 0 []).length i j)).length:=by omega
   refine jC<|jB<|jH<|kdr [(0,(vl 24 1 jT m)),(3,(.own 0 24 1 (m.getD 0 []).length)),(4,(jS i)),(5,(jS j))] (dI 45 4 (tdD (trT m m.length (m.getD 0 []).length i (j+1)))) mo (wM<|wM<|wE (iE yH j)<|wR (tab_ld cF hjt hrl)<|wM<|wM<|wM<|wE (yE yH i ([]:List (jR)) (L:=m))<|wE (yV cF)<|wM<|wE (yE uQ j kH (L:=(m.getD i [])))<|wE (yJ jQ)<|wE (oXO uQ i)<|wT (oSA (F:=jJ) (L:=(trT m m.length (m.getD 0 []).length i j).getD j []) jQ i ((m.getD i []).getD j kH) (hb:=by exact tabA_row (r:=((trT m m.length (m.getD 0 []).length i j).getD j []).map jJ) (tdD_get (by rw[lR];exact hjc))))<|wI (by
    rw[<- trT_set m hir hjc,<- tdD_set]
    exact tab_set (by rw[hrl,List.length_map,List.length_set,hrl2]) hjt (by kernel_rfl))) ?_
   refine kx [(5,(jS (j+1)))] [] (zM<|zE (vO (j+1))<|zM<|zY) ?_
   exact ⟨j+1,nS (xU (by kernel_rfl)) (fun _ _ h=>h),by omega,by omega⟩
  ·replace h2:=vB h2
   obtain rfl:j=(m.getD 0 []).length:=by omega
   refine kD<|kx [(4,(jS (i+1)))] [] (zM<|zE (vO (i+1))<|zM<|zY) ?_
   refine ⟨i+1,?_,by omega,by omega⟩
   rw[<- trT_next]
   exact nS (xU (by kernel_rfl)) (fun _ _ h=>h)
 ·replace h1:=vB h1
  obtain rfl:i=m.length:=by omega
  refine kD<|jB<|kx [(2,(.own 0 24 1 (m.getD 0 []).length))] [] (zM<|zM<|zY) ?_
  have hp:=tab_pub (S:=up [(2,(.own 0 24 1 (m.getD 0 []).length))] (up [(16,(vb (decide (((m.length:Nat):Int)<((m.length:Nat):Int)))))] [(0,(vl 24 1 jT m)),(3,(.own 0 24 1 (m.getD 0 []).length)),(4,(jS m.length))])) (E:=45) (s:=4) (tdD (trT m m.length (m.getD 0 []).length m.length 0)) tdD_cells
  rw[List.map_map] at hp
  refine kU hp ?_
  refine kU (xC (t:=2) (k:=0) (es:=List.map jT (trT m m.length (m.getD 0 []).length m.length 0)) rfl rfl (vD _ _ (fun _=>rfl)) (uW _ _ (lR _ _ _ _ _)) (xE _ _ (fun _=>rfl) (lR _ _ _ _ _))) ?_
  refine jE ⟨_,(.tmp (d:=(.sl 24 1 (List.map jT (trT m m.length (m.getD 0 []).length m.length 0)))) rfl .nil),?_⟩
  rw[trT_end];rfl
theorem s_list(l:List jR)(hl:xN 1048576 l)(k:List jR)(hk:xN 1048576 k):jO Tryz.prog 16 [(.sl 45 4 (List.map jJ l)),(.sl 45 4 (List.map jJ k))] (.val (.bool ((bI l k)))):=by
 have hlb:=hl.2
 have hkb:=hk.2
 let y1:=kH
 refine qY Tryz.func16 ?_
 refine jB<|kx [] [] (zM<|zZ) ?_
 refine jB<|jB<|kx [(10,(vb (((l.length:Nat):Int) != ((k.length:Nat):Int))))] [] (zM<|zE (vP uQ)<|zM<|zE (vP uQ)<|zE mF<|zZ) ?_
 refine jG rfl (fun h1=>?_) (fun h1=>?_)
 ·replace h1:=bne_iff_ne.1 h1
  refine jB<|kx [(4,(vb false))] [] (zM<|zZ) ?_
  refine jE ⟨_,(.tmp (d:=(.val (.bool (false)))) rfl .nil),?_⟩
  rw[sameL_len h1];rfl
 ·replace h1:=bne_eq_false_iff_eq.1 h1
  have hlk:=h1
  refine jC<|jB<|jB<|kx [(5,(jS 0))] [] (zM<|zZ) ?_
  refine jH<|kF (α:=Nat) (fun i=>⟨[(0,(vl 45 4 jJ l)),(1,(vl 45 4 jJ k)),(5,(jS i))],[]⟩) (fun i=>i<=l.length/\∀ a,a<i->mG (l.getD a y1) (k.getD a y1)=true) (fun i=>l.length-i) 0 wk ⟨Nat.zero_le _,fun a h=>by omega⟩ ?_
  rintro i ⟨hi,he⟩
  refine jB<|jB<|kx [(14,(vb (decide (((i:Nat):Int)<((l.length:Nat):Int)))))] [] (zM<|zM<|zE (vP uQ)<|zE xK<|zZ) ?_
  refine jG rfl (fun h2=>?_) (fun h2=>?_)
  ·replace h2:=uV h2
   refine jC<|jB<|jH<|jB<|kd [(26,(vb (!(mG (l.getD i y1) (k.getD i y1)))))] [] mo (wM<|wM<|wE (yE uQ i y1)<|wE (yJ jQ)<|wM<|wM<|wE (yE uQ i y1)<|wE (yJ jQ)<|wE (jV (g_same (l.getD i y1) (k.getD i y1) (qS (l.getD i y1)) (qS (k.getD i y1)) (jM (xL hl.1 (show i<l.length by omega))) (jM (xL hk.1 (show i<k.length by omega)))))<|wE gD<|wZ) ?_
   refine jG rfl (fun h3=>?_) (fun h3=>?_)
   ·refine jB<|kx [(4,(vb false))] [] (zM<|zZ) ?_
    refine jE ⟨_,(.tmp (d:=(.val (.bool (false)))) rfl .nil),?_⟩
    rw[sameL_no (i:=i) (by omega) (by simpa using h3)];rfl
   ·refine jC<|kx [(5,(jS (i+1)))] [] (zM<|zE (vO (i+1))<|zM<|zZ) ?_
    exact ⟨i+1,wk,⟨by omega,up_all he (by simpa using h3)⟩,(by first|omega|(dsimp only;omega))⟩
  ·replace h2:=vB h2
   have hie:i=l.length:=by omega
   subst hie
   refine kD<|jB<|kx [(4,(vb true))] [] (zM<|zZ) ?_
   refine jE ⟨_,(.tmp (d:=(.val (.bool (true)))) rfl .nil),?_⟩
   rw[sameL_yes hlk he];rfl
theorem s_mat(m:List (List jR))(hm:uY 1048576 m)(q:List (List jR))(hq:uY 1048576 q):jO Tryz.prog 134 [(.sl 24 1 (List.map jT m)),(.sl 24 1 (List.map jT q))] (.val (.bool ((sameM m q)))):=by
 have hmb:=hm.2
 have hqb:=hq.2
 refine qY Tryz.func134 ?_
 refine jB<|kx [] [] (zM<|zZ) ?_
 refine jB<|jB<|kx [(10,(vb (((m.length:Nat):Int) != ((q.length:Nat):Int))))] [] (zM<|zE (vP yH)<|zM<|zE (vP yH)<|zE mF<|zZ) ?_
 refine jG rfl (fun h1=>?_) (fun h1=>?_)
 ·replace h1:=bne_iff_ne.1 h1
  refine jB<|kx [(4,(vb false))] [] (zM<|zZ) ?_
  refine jE ⟨_,(.tmp (d:=(.val (.bool (false)))) rfl .nil),?_⟩
  rw[sameM_len h1];rfl
 ·replace h1:=bne_eq_false_iff_eq.1 h1
  have hlk:=h1
  refine jC<|jB<|jB<|kx [(5,(jS 0))] [] (zM<|zZ) ?_
  refine jH<|kF (α:=Nat) (fun i=>⟨[(0,(vl 24 1 jT m)),(1,(vl 24 1 jT q)),(5,(jS i))],[]⟩) (fun i=>i<=m.length/\∀ a,a<i->bI (m.getD a []) (q.getD a [])=true) (fun i=>m.length-i) 0 wk ⟨Nat.zero_le _,fun a h=>by omega⟩ ?_
  rintro i ⟨hi,he⟩
  refine jB<|jB<|kx [(14,(vb (decide (((i:Nat):Int)<((m.length:Nat):Int)))))] [] (zM<|zM<|zE (vP yH)<|zE xK<|zZ) ?_
  refine jG rfl (fun h2=>?_) (fun h2=>?_)
  ·replace h2:=uV h2
   refine jC<|jB<|jH<|jB<|kd [(26,(vb (!(bI (m.getD i []) (q.getD i [])))))] [] mo (wM<|wM<|wE (yE yH i ([]:List (jR)))<|wE (yV cF)<|wM<|wM<|wE (yE yH i ([]:List (jR)))<|wE (yV cF)<|wE (jV (s_list (m.getD i []) (vT (d:=[]) hm (show i<m.length by omega)) (q.getD i []) (vT (d:=[]) hq (show i<q.length by omega))))<|wE gD<|wZ) ?_
   refine jG (b:=!(bI (m.getD i []) (q.getD i []))) rfl (fun h3=>?_) (fun h3=>?_)
   ·refine jB<|kx [(4,(vb false))] [] (zM<|zZ) ?_
    refine jE ⟨_,(.tmp (d:=(.val (.bool (false)))) rfl .nil),?_⟩
    rw[sameM_no (i:=i) (by omega) (by simpa using h3)];rfl
   ·refine jC<|kx [(5,(jS (i+1)))] [] (zM<|zE (vO (i+1))<|zM<|zZ) ?_
    exact ⟨i+1,wk,⟨by omega,up_all he (by simpa using h3)⟩,(by first|omega|(dsimp only;omega))⟩
  ·replace h2:=vB h2
   have hie:i=m.length:=by omega
   subst hie
   refine kD<|jB<|kx [(4,(vb true))] [] (zM<|zZ) ?_
   refine jE ⟨_,(.tmp (d:=(.val (.bool (true)))) rfl .nil),?_⟩
   rw[sameM_yes hlk he];rfl
theorem s_sym(m:List (List jR))(hm:uY 1048576 m)(hr:yL m m.length (m.getD 0 []).length)(hsq:m.length=(m.getD 0 []).length):jO Tryz.prog 77 [(.sl 24 1 (List.map jT m))] (.val (.bool ((symB m)))):=by
 refine qY Tryz.func77 ?_
 refine jB<|kx [] [] (zM<|zZ) ?_
 refine jB<|kx [(2,(vb (sameM m (trM m m.length (m.getD 0 []).length))))] [] (zM<|zM<|zE (jV (e_trans m hm hr))<|zE (jV (s_mat m hm (trM m m.length (m.getD 0 []).length) (trM_ok hm hr)))<|zM<|zZ) ?_
 refine jE ⟨_,(.tmp (d:=(.val (.bool ((sameM m (trM m m.length (m.getD 0 []).length)))))) rfl .nil),?_⟩
 have hr2:=hr
 rw[<- hsq] at hr2
 rw[<- hsq,sym_tr hr2];rfl
theorem s_fits(m:List (List jR))(hm:uY 1048576 m)(n:Nat)(hr:yL m m.length (m.getD 0 []).length):jO Tryz.prog 21 [(.sl 24 1 (List.map jT m)),(.val (.int .i64 (((n:Nat):Int))))] (.val (.int .i64 ((((nP m n):Nat):Int)))):=by
 have hmb:=hr.r64
 have hm1:=hr.r1
 have hm0:=hr.c64
 refine qY Tryz.func21 ?_
 refine jB<|kx [] [] (zM<|zZ) ?_
 refine jB<|jB<|kx [(16,(vb ((((m.length:Nat):Int) != ((n:Nat):Int))||((((m.getD 0 []).length:Nat):Int) != ((n:Nat):Int)))))] [] ?_ ?_
 ·refine zM<|zE (vP yH)<|zM<|zE mF<|zE (oV (vb (((m.length:Nat):Int) != ((n:Nat):Int))) (qC (by kernel_rfl)))<|?_
  rcases hb1:(((m.length:Nat):Int) != ((n:Nat):Int)) with _ | _
  ·replace hb1:=bne_eq_false_iff_eq.1 hb1
   exact zM<|zE (yE yH 0 ([]:List (jR)))<|zE (yV cF)<|zE (vP uQ (L:=(m.getD 0 [])))<|zM<|zE mF<|zE dG<|zZ
  ·replace hb1:=bne_iff_ne.1 hb1
   exact zK<|zK<|zK<|zK<|zK<|zK<|zE yR<|zZ
 refine jG rfl (fun h2=>?_) (fun h2=>?_)
 ·refine jB<|kx [(4,(jS 4))] [] (zM<|zZ) ?_
  refine jE ⟨_,(.tmp (d:=(.val (.int .i64 (4)))) rfl .nil),?_⟩
  rw[fit_1 h2];rfl
 ·have hs:=fit_0 h2
  have hsq:m.length=(m.getD 0 []).length:=by omega
  refine jC<|jB<|jB<|kx [(19,(vb (!(symB m))))] [] (zM<|zE (jV (s_sym m hm hr (by omega)))<|zE gD<|zZ) ?_
  refine jG (b:=!(symB m)) rfl (fun h3=>?_) (fun h3=>?_)
  ·refine jB<|kx [(4,(jS 11))] [] (zM<|zZ) ?_
   refine jE ⟨_,(.tmp (d:=(.val (.int .i64 (11)))) rfl .nil),?_⟩
   rw[fit_11 hs (by simpa using h3)];rfl
  ·refine jC<|jB<|kx [(4,(jS 0))] [] (zM<|zZ) ?_
   refine jE ⟨_,(.tmp (d:=(.val (.int .i64 (0)))) rfl .nil),?_⟩
   rw[fit_ok hs (by simpa using h3)];rfl
theorem s_chk(m:List (List jR))(hm:uY 1048576 m):jO Tryz.prog 19 [(.sl 24 1 (List.map jT m))] (.val (.int .i64 ((((mZ m):Nat):Int)))):=by
 have hmb:=hm.2
 refine qY Tryz.func19 ?_
 refine jB<|kx [] [] (zM<|zZ) ?_
 refine jB<|jB<|kx [(25,(vb (((decide (((m.length:Nat):Int)<1)||decide (64<((m.length:Nat):Int)))||decide ((((m.getD 0 []).length:Nat):Int)<1))||decide (64<(((m.getD 0 []).length:Nat):Int)))))] [] ?_ ?_
 ·refine zM<|zE (vP yH)<|zE xK<|zE (oV (vb (decide (((m.length:Nat):Int)<1))) (qC (by kernel_rfl)))<|?_
  rcases hb1:(decide (((m.length:Nat):Int)<1)) with _ | _
  ·replace hb1:=vB hb1
   refine zM<|zE (vP yH)<|zE hH<|zE dG<|zE (oV (vb (false||decide (64<((m.length:Nat):Int)))) (qC (by kernel_rfl)))<|?_
   rcases hb2:(false||decide (64<((m.length:Nat):Int))) with _ | _
   ·replace hb2:=vB (p:=(64<((m.length:Nat):Int))) hb2
    refine zM<|zE (yE yH 0 ([]:List (jR)))<|zE (yV cF)<|zE (vP uQ (L:=(m.getD 0 [])))<|zE xK<|zE dG<|zE (oV (vb (false||decide ((((m.getD 0 []).length:Nat):Int)<1))) (qC (by kernel_rfl)))<|?_
    rcases hb3:(false||decide ((((m.getD 0 []).length:Nat):Int)<1)) with _ | _
    ·replace hb3:=vB (p:=((((m.getD 0 []).length:Nat):Int)<1)) hb3
     exact zM<|zE (yE yH 0 ([]:List (jR)))<|zE (yV cF)<|zE (vP uQ (L:=(m.getD 0 [])))<|zE hH<|zE dG<|zZ
    ·replace hb3:=uV (p:=((((m.getD 0 []).length:Nat):Int)<1)) hb3
     exact zK<|zK<|zK<|zK<|zK<|zE yR<|zZ
   ·replace hb2:=uV (p:=(64<((m.length:Nat):Int))) hb2
    exact zK<|zK<|zK<|zK<|zK<|zE yR<|zM<|zK<|zK<|zK<|zK<|zK<|zE yR<|zZ
  ·replace hb1:=uV hb1
   exact zK<|zK<|zK<|zE yR<|zM<|zK<|zK<|zK<|zK<|zK<|zE yR<|zM<|zK<|zK<|zK<|zK<|zK<|zE yR<|zZ
 refine jG rfl (fun h4=>?_) (fun h4=>?_)
 ·refine jB<|kx [(2,(jS 1))] [] (zM<|zZ) ?_
  refine jE ⟨_,(.tmp (d:=(.val (.int .i64 (1)))) rfl .nil),?_⟩
  rw[mchk_1 h4];rfl
 ·have h0:=shp_0 h4
  have hsh:=h4
  refine jC<|jB<|jB<|kx [(3,(jS 0))] [] (zM<|zZ) ?_
  refine jH<|kF (α:=Nat) (fun i=>⟨[(0,(vl 24 1 jT m)),(3,(jS i))],[]⟩) (fun i=>i<=m.length/\∀ a,a<i->yS m (m.getD a [])=false) (fun i=>m.length-i) 0 wk ⟨Nat.zero_le _,fun a h=>by omega⟩ ?_
  rintro i ⟨hi,he⟩
  refine jB<|jB<|kx [(29,(vb (decide (((i:Nat):Int)<((m.length:Nat):Int)))))] [] (zM<|zM<|zE (vP yH)<|zE xK<|zZ) ?_
  refine jG rfl (fun h5=>?_) (fun h5=>?_)
  ·replace h5:=uV h5
   refine jC<|jB<|jH<|jB<|kd [(49,(vb (((((m.getD i []).length:Nat):Int) != (((m.getD 0 []).length:Nat):Int))||!(aN (m.getD i [])))))] [] mo ?_ ?_
   ·refine wM<|wM<|wE (yE yH i ([]:List (jR)))<|wE (yV cF)<|wE (vP uQ (L:=(m.getD i [])))<|wM<|wE (yE yH 0 ([]:List (jR)))<|wE (yV cF)<|wE (vP uQ (L:=(m.getD 0 [])))<|wE mF<|wE (oV (vb ((((m.getD i []).length:Nat):Int) != (((m.getD 0 []).length:Nat):Int))) (qC (by kernel_rfl)))<|?_
    rcases hb6:((((m.getD i []).length:Nat):Int) != (((m.getD 0 []).length:Nat):Int)) with _ | _
    ·replace hb6:=bne_eq_false_iff_eq.1 hb6
     exact wM<|wM<|wE (yE yH i ([]:List (jR)))<|wE (yV cF)<|wE (jV (m_vlist (m.getD i []) (vT (d:=[]) hm (show i<m.length by omega))))<|wE gD<|wE dG<|wZ
    ·replace hb6:=bne_iff_ne.1 hb6
     exact wK<|wK<|wK<|wK<|wK<|wK<|wE yR<|wZ
   refine jG rfl (fun h7=>?_) (fun h7=>?_)
   ·refine jB<|kx [(2,(jS 1))] [] (zM<|zZ) ?_
    refine jE ⟨_,(.tmp (d:=(.val (.int .i64 (1)))) rfl .nil),?_⟩
    rw[mchk_2 (bad_any (i:=i) (by omega) h7)];rfl
   ·refine jC<|kx [(3,(jS (i+1)))] [] (zM<|zE (vO (i+1))<|zM<|zZ) ?_
    exact ⟨i+1,wk,⟨by omega,up_bad he h7⟩,(by first|omega|(dsimp only;omega))⟩
  ·replace h5:=vB h5
   have hie:i=m.length:=by omega
   subst hie
   refine kD<|jB<|kx [(2,(jS 0))] [] (zM<|zZ) ?_
   refine jE ⟨_,(.tmp (d:=(.val (.int .i64 (0)))) rfl .nil),?_⟩
   rw[mchk_3 hsh (bad_none he)];rfl
end Go.Proofs.YtnajallgoaiahaaGreatDoor
