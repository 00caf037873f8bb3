/- Part 34 of a proof: rules, plain facts, and functions walked. -/
import Derived.Test.YtnajallgoaiahaaGreatDoorM33
import Derived.Test.YtnajallgoaiahaaGreatDoorM11
import Derived.Test.YtnajallgoaiahaaGreatDoorM27
import Derived.Test.YtnajallgoaiahaaGreatDoorM29
set_option linter.all false
set_option maxRecDepth 4000
namespace Go.Proofs.YtnajallgoaiahaaGreatDoor
open Go.Fid
def trE(m:List (List jQ))(i j a b:Nat):jQ:=if a<i∨(a=i∧b<j) then (m.getD a []).getD b kZ else jN ((0:Int):Rat)
def trT(m:List (List jQ))(r c i j:Nat):List (List jQ):=(List.range c).map fun b=>(List.range r).map fun a=>trE m i j a b
def trM(m:List (List jQ))(r c:Nat):List (List jQ):=(List.range c).map fun b=>(List.range r).map fun a=>(m.getD a []).getD b kZ
theorem iE(m:List (List jQ))(r c i j:Nat):(trT m r c i j).length=c:=by simp [trT]
theorem trT_at(m:List (List jQ)){r c i j b:Nat}(h:b<c):(trT m r c i j).getD b []=(List.range r).map fun a=>trE m i j a b:=by
 unfold trT
 rw[List.getD_eq_getElem?_getD,List.getElem?_map,List.getElem?_range h];rfl
theorem trT_row(m:List (List jQ)){r c i j b:Nat}(h:b<c):((trT m r c i j).getD b []).length=r:=by rw[trT_at m h];simp
theorem trT_set(m:List (List jQ)){r c i j:Nat}(hi:i<r)(hj:j<c):(trT m r c i j).set j (((trT m r c i j).getD j []).set i ((m.getD i []).getD j kZ))=trT m r c i (j+1):=by
 rw[trT_at m hj]
 refine List.ext_getElem (by rw[List.length_set,iE,iE]) fun b h1 h2=>?_
 rw[iE] at h2
 have g1:∀ q (h:b<(trT m r c i q).length),(trT m r c i q)[b]=(List.range r).map fun a=>trE m i q a b:=fun q h=>by simp [trT]
 rw[List.getElem_set,g1 (j+1)]
 split
 ·rename_i e;subst e
  refine List.ext_getElem (by simp) fun a h3 h4=>?_
  rw[List.getElem_set]
  simp only[List.getElem_map,List.getElem_range]
  split
  ·rename_i e;subst e
   unfold trE;rw[if_pos (by omega)]
  ·unfold trE
   by_cases h:a<i
   ·rw[if_pos (by omega),if_pos (by omega)]
   ·rw[if_neg (by omega),if_neg (by omega)]
 ·rw[g1 j]
  refine List.map_congr_left fun a _=>?_
  unfold trE
  by_cases h:a<i∨(a=i∧b<j)
  ·rw[if_pos h,if_pos (by omega)]
  ·rw[if_neg h,if_neg (by omega)]
theorem trT_next(m:List (List jQ))(r c i:Nat):trT m r c i c=trT m r c (i+1) 0:=by
 unfold trT
 refine List.map_congr_left fun b hb=>List.map_congr_left fun a _=>?_
 have hb:=List.mem_range.1 hb
 unfold trE
 by_cases h:a<i+1
 ·rw[if_pos (by omega),if_pos (by omega)]
 ·rw[if_neg (by omega),if_neg (by omega)]
theorem trT_0(m:List (List jQ))(r c:Nat):trT m r c 0 0=List.replicate c (List.replicate r (jN ((0:Int):Rat))):=by
 unfold trT
 rw[List.eq_replicate_iff]
 refine ⟨by simp,fun l hl=>?_⟩
 obtain ⟨b,_,rfl⟩:=List.mem_map.1 hl
 rw[List.eq_replicate_iff]
 refine ⟨by simp,fun x hx=>?_⟩
 obtain ⟨a,_,rfl⟩:=List.mem_map.1 hx
 unfold trE;rw[if_neg (by omega)]
theorem trT_end(m:List (List jQ))(r c:Nat):trT m r c r 0=trM m r c:=by
 unfold trT trM
 refine List.map_congr_left fun b hb=>List.map_congr_left fun a ha=>?_
 have ha:=List.mem_range.1 ha
 unfold trE;rw[if_pos (by omega)]
abbrev tdD (L:List (List jQ)):List (List jX):=L.map (List.map jK)
theorem tdD_at{L:List (List jQ)}(j:Nat):(tdD L).getD j []=(L.getD j []).map jK:=by
 rw[List.getD_eq_getElem?_getD,List.getD_eq_getElem?_getD,List.getElem?_map]
 cases L[j]?<;>rfl
theorem tdD_get{L:List (List jQ)}{j:Nat}(h:j<L.length):(tdD L)[j]?=some ((L.getD j []).map jK):=by
 rw[List.getElem?_map,List.getD_eq_getElem?_getD,List.getElem?_eq_getElem h];rfl
theorem tdD_set{L:List (List jQ)}(j:Nat)(r:List jQ):(tdD L).set j (r.map jK)=tdD (L.set j r):=by
 show (L.map _).set j _=(L.set j r).map _
 rw[List.map_set]
theorem tdD_cells{L:List (List jQ)}:∀ r∈tdD L,∀ e∈r,e.cells.length=4:=fun r hr e he=>by
 obtain ⟨l,_,rfl⟩:=List.mem_map.1 hr
 obtain ⟨x,_,rfl⟩:=List.mem_map.1 he
 rfl
theorem rng_all{f:Nat→Bool}{n:Nat}(h:∀ a,a<n→f a=true):(List.range n).all f=true:=List.all_eq_true.2 fun a ha=>h a (List.mem_range.1 ha)
theorem rng_no{f:Nat→Bool}{n i:Nat}(hi:i<n)(h:f i=false):(List.range n).all f=false:=by
 cases hb:(List.range n).all f with
 |false=>rfl
 |true=>rw[List.all_eq_true.1 hb i (List.mem_range.2 hi)] at h;cases h
theorem up_all{f:Nat→Bool}{i:Nat}(h:∀ a,a<i→f a=true)(hi:f i=true):∀ a,a<i+1→f a=true:=fun a ha=>by
 rcases Nat.lt_or_ge a i with h1 | h1
 ·exact h a h1
 ·obtain rfl:a=i:=by omega
  exact hi
def aR(l k:List jQ):Bool:=decide (l.length=k.length)&&(List.range l.length).all fun i=>mA (l.getD i kZ) (k.getD i kZ)
def sameM(m q:List (List jQ)):Bool:=decide (m.length=q.length)&&(List.range m.length).all fun i=>aR (m.getD i []) (q.getD i [])
theorem sameL_len{l k:List jQ}(h:((l.length:Nat):Int)≠((k.length:Nat):Int)):aR l k=false:=by unfold aR;rw[decide_eq_false (by omega),Bool.false_and]
theorem sameL_no{l k:List jQ}{i:Nat}(hi:i<l.length)(h:mA (l.getD i kZ) (k.getD i kZ)=false):aR l k=false:=by unfold aR;rw[rng_no hi h,Bool.and_false]
theorem sameL_yes{l k:List jQ}(h0:((l.length:Nat):Int)=((k.length:Nat):Int))(h:∀ a,a<l.length→mA (l.getD a kZ) (k.getD a kZ)=true):aR l k=true:=by unfold aR;rw[decide_eq_true (by omega),rng_all h];rfl
theorem sameM_len{l k:List (List jQ)}(h:((l.length:Nat):Int)≠((k.length:Nat):Int)):sameM l k=false:=by unfold sameM;rw[decide_eq_false (by omega),Bool.false_and]
theorem sameM_no{l k:List (List jQ)}{i:Nat}(hi:i<l.length)(h:aR (l.getD i []) (k.getD i [])=false):sameM l k=false:=by unfold sameM;rw[rng_no hi h,Bool.and_false]
theorem sameM_yes{l k:List (List jQ)}(h0:((l.length:Nat):Int)=((k.length:Nat):Int))(h:∀ a,a<l.length→aR (l.getD a []) (k.getD a [])=true):sameM l k=true:=by unfold sameM;rw[decide_eq_true (by omega),rng_all h];rfl
theorem trM_at(m:List (List jQ)){r c b:Nat}(h:b<c):(trM m r c).getD b []=(List.range r).map fun a=>(m.getD a []).getD b kZ:=by
 unfold trM
 rw[List.getD_eq_getElem?_getD,List.getElem?_map,List.getElem?_range h];rfl
theorem trM_ok{m:List (List jQ)}{N c:Nat}(hm:vN N m)(hr:gJ m m.length c):vN N (trM m m.length c):=by
 have h1:=hr.r64
 have h2:=hr.c64
 refine ⟨fun l hl=>?_,by simp [trM];omega⟩
 obtain ⟨b,hb,rfl⟩:=List.mem_map.1 hl
 have hb:=List.mem_range.1 hb
 refine ⟨fun x hx=>?_,by simp;omega⟩
 obtain ⟨a,ha,rfl⟩:=List.mem_map.1 hx
 have ha:=List.mem_range.1 ha
 exact vE (xA (d:=[]) hm ha).1 (by rw[(hr.at ha).1];exact hb)
theorem same_valid{x y:jQ}(hx:kR x=true)(hy:kR y=true):mA x y=decide (qP x=qP y):=by
 rw[← ofQ_toQ hx,← ofQ_toQ hy,sameR_of,gP,gP]
theorem sym_tr{m:List (List jQ)}(hr:gJ m m.length m.length):sameM m (trM m m.length m.length)=symB m:=by
 have hv:∀ i j,i<m.length→j<m.length→kR ((m.getD i []).getD j zr)=true:=fun i j hi hj=>by
  obtain ⟨h1,h2⟩:=hr.at hi
  exact valid_get h2 (by rw[h1];exact hj)
 have hg:∀ i j,i<m.length→j<m.length→((trM m m.length m.length).getD i []).getD j zr=(m.getD j []).getD i zr:=fun i j hi hj=>by
  rw[trM_at m hi,List.getD_eq_getElem?_getD,List.getElem?_map,List.getElem?_range hj];rfl
 have he:∀ i j,i<m.length→j<m.length→mA ((m.getD i []).getD j zr) (((trM m m.length m.length).getD i []).getD j zr)=eqM m i j:=fun i j hi hj=>by
  rw[hg i j hi hj,same_valid (hv i j hi hj) (hv j i hj hi)];rfl
 cases hs:symB m with
 |true=>
  refine sameM_yes (by simp [trM]) fun i hi=>sameL_yes (by rw[(hr.at hi).1,trM_at m hi];simp) fun j hj=>?_
  have hj:j<m.length:=by rw[(hr.at hi).1] at hj;exact hj
  refine (he i j hi hj).trans (decide_eq_true ?_)
  rcases Nat.lt_trichotomy i j with h | h | h
  ·exact (sym_at hs hj h).symm
  ·rw[h]
  ·exact sym_at hs hi h
 |false=>
  cases hm:sameM m (trM m m.length m.length) with
  |false=>rfl
  |true=>
   rw[← hs];symm
   unfold sameM at hm
   rw[Bool.and_eq_true] at hm
   refine sym_yes fun i hi j hj=>?_
   have h1:=List.all_eq_true.1 hm.2 i (List.mem_range.2 hi)
   unfold aR at h1
   rw[Bool.and_eq_true] at h1
   rw[← he i j hi (by omega)]
   exact List.all_eq_true.1 h1.2 j (List.mem_range.2 (by rw[(hr.at hi).1];omega))
theorem bad_any{m:List (List jQ)}{i:Nat}(hi:i<m.length)(h:yN m (m.getD i [])=true):m.any (yN m)=true:=by
 rw[List.any_eq_true]
 refine ⟨m.getD i [],?_,h⟩
 rw[List.getD_eq_getElem?_getD,List.getElem?_eq_getElem hi];exact List.getElem_mem _
theorem bad_none{m:List (List jQ)}(h:∀ a,a<m.length→yN m (m.getD a [])=false):m.any (yN m)=false:=by
 rw[List.any_eq_false]
 intro l hl
 obtain ⟨i,hi,rfl⟩:=List.getElem_of_mem hl
 have:=h i hi
 rw[List.getD_eq_getElem?_getD,List.getElem?_eq_getElem hi] at this
 rw[show yN m m[i]=false from this];simp
theorem up_bad{f:Nat→Bool}{i:Nat}(h:∀ a,a<i→f a=false)(hi:f i=false):∀ a,a<i+1→f a=false:=fun a ha=>by
 rcases Nat.lt_or_ge a i with h1 | h1
 ·exact h a h1
 ·obtain rfl:a=i:=by omega
  exact hi
def brX(x:jQ):Bool:=if (decide (1<((x.num.gs.length:Nat):Int))||decide (1<((x.den.gs.length:Nat):Int)))=true then false else
 ((((x.num.gs.length:Nat):Int) == 0)||decide (((x.num.gs.getD 0 0:Nat):Int)<100000))&&((((x.den.gs.length:Nat):Int) == 0)||decide (((x.den.gs.getD 0 0:Nat):Int)≤100))
def shX(n:Nat)(x:jQ):Bool:=!(decide (((n:Nat):Int)<((digR x:Nat):Int))||(decide (((n:Nat):Int)≤6)&&!(brX x)))
theorem shX_t{n:Nat}{x:jQ}(h:(decide (((n:Nat):Int)<((digR x:Nat):Int))||(decide (((n:Nat):Int)≤6)&&!(brX x)))=true):shX n x=false:=by unfold shX;rw[h];rfl
theorem shX_f{n:Nat}{x:jQ}(h:(decide (((n:Nat):Int)<((digR x:Nat):Int))||(decide (((n:Nat):Int)≤6)&&!(brX x)))=false):shX n x=true:=by unfold shX;rw[h];rfl
theorem shX_le{n:Nat}{x:jQ}(h:shX n x=true):digR x≤n:=by
 unfold shX at h
 rw[Bool.not_eq_true',Bool.or_eq_false_iff,decide_eq_false_iff_not] at h
 omega
def shR(c n:Nat)(l:List jQ):Bool:=decide (l.length≤c)&&l.all (shX n)
def shM(c n:Nat)(m:List (List jQ)):Bool:=decide (m.length≤c)&&m.all (shR c n)
theorem all_up{α:Type}{f:α→Bool}{l:List α}{i:Nat}{d:α}(h:i<l.length)(ha:(l.take i).all f=true)(hf:f (l.getD i d)=true):(l.take (i+1)).all f=true:=by
 rw[take_all (d:=d) h,ha,hf];rfl
theorem all_no{α:Type}{f:α→Bool}{l:List α}{i:Nat}{d:α}(h:i<l.length)(hf:f (l.getD i d)=false):l.all f=false:=by
 cases hb:l.all f with
 |false=>rfl
 |true=>
  rw[List.getD_eq_getElem?_getD,List.getElem?_eq_getElem h,Option.getD_some,List.all_eq_true.1 hb _ (List.getElem_mem h)] at hf;cases hf
theorem shR_long{c n:Nat}{l:List jQ}(h:((c:Nat):Int)<((l.length:Nat):Int)):shR c n l=false:=by unfold shR;rw[decide_eq_false (by omega)];rfl
theorem shR_no{c n:Nat}{l:List jQ}(h:(l.all (shX n))=false):shR c n l=false:=by unfold shR;rw[h,Bool.and_false]
theorem shR_yes{c n:Nat}{l:List jQ}(h0:¬ ((c:Nat):Int)<((l.length:Nat):Int))(h:(l.all (shX n))=true):shR c n l=true:=by unfold shR;rw[decide_eq_true (by omega),h];rfl
theorem shM_long{c n:Nat}{l:List (List jQ)}(h:((c:Nat):Int)<((l.length:Nat):Int)):shM c n l=false:=by unfold shM;rw[decide_eq_false (by omega)];rfl
theorem shM_no{c n:Nat}{l:List (List jQ)}(h:l.all (shR c n)=false):shM c n l=false:=by unfold shM;rw[h,Bool.and_false]
theorem shM_yes{c n:Nat}{l:List (List jQ)}(h0:¬ ((c:Nat):Int)<((l.length:Nat):Int))(h:l.all (shR c n)=true):shM c n l=true:=by unfold shM;rw[decide_eq_true (by omega),h];rfl
theorem shM_ok{m:List (List jQ)}{c n:Nat}(h:shM c n m=true)(hn:1≤n)(hc:c≤1000):vN n m:=by
 unfold shM at h
 simp only[Bool.and_eq_true,decide_eq_true_eq,List.all_eq_true] at h
 refine ⟨fun r hr=>?_,by omega⟩
 have h2:=h.2 r hr
 unfold shR at h2
 simp only[Bool.and_eq_true,decide_eq_true_eq,List.all_eq_true] at h2
 refine ⟨fun a ha=>?_,by omega⟩
 have h3:=shX_le (h2.2 a ha)
 unfold digR at h3
 exact qok_raw hn (by omega) (by omega)
section
variable {A B C r l:Rat}
end
theorem cb43:callB Tryz.prog 43=true:=by kernel_rfl
theorem cb101:callB Tryz.prog 101=true:=by kernel_rfl
theorem cb102:callB Tryz.prog 102=true:=by kernel_rfl
theorem z_whole5(x:Int)(hxl:-9223372036854775808≤x)(hxh:x≤9223372036854775807):jR Tryz.prog 102 [(.val (.int .i64 (x)))] (jK (jN ((x:Int):Rat))):=by
 refine jJ Tryz.func102 rfl cb102 rfl ?_
 show qG _ _ _ _ ⟨[(0,(vi x))],[]⟩
 refine jB<|kx [(2,(.ref 0 0))] [(0,some (bx (jK kZ)))] (zN (qV 0 qU qY)<|zZ) ?_
 refine jB<|kx [] [(0,some (bx (jK (jN ((x:Int):Rat)))))] (zM<|zE (jY (hH x (by omega) (by omega)))<|zT (qA jS)<|zZ) ?_
 refine jE ⟨_,(kH (cs:=(bx (jK (jN ((x:Int):Rat))))) (d:=(jK (jN ((x:Int):Rat)))) rfl rfl jS rfl rfl .nil),?_⟩
 rfl
theorem e_zeros(r c:Nat)(hr:r≤1000)(hc:c≤1000):xH Tryz.prog 101 [(.d (.val (.int .i64 ((r:Nat):Int)))),(.d (.val (.int .i64 ((c:Nat):Int))))] [] (.own 0 24 1 (List.replicate r (List.map jK (List.replicate c (jN ((0:Int):Rat))))).length) (dA 45 4 (List.replicate r (List.map jK (List.replicate c (jN ((0:Int):Rat)))))):=by
 refine nN Tryz.func101 rfl cb101 rfl ?_
 show qG _ _ _ _ ⟨[(0,(jP r)),(1,(jP c))],[]⟩
 refine jB<|kx [] [] (zE (dD 24 1)<|zZ) ?_
 refine jB<|kx [(5,(.own 0 24 1 0))] [(0,some [])] (zN (oBo 0 zW bX zo24)<|zM<|zZ) ?_
 refine jB<|jB<|kx [(6,(jP 0))] [] (zM<|zZ) ?_
 refine jH<|kA (α:=Nat × List (List jX)) (fun (i,u)=>⟨[(0,(jP r)),(1,(jP c)),(5,(.own 0 24 1 u.length)),(6,(jP i))],dA 45 4 u⟩) (fun (i,u)=>i≤r∧u=List.replicate i (List.map jK (List.replicate c (jN ((0:Int):Rat))))) (fun (i,u)=>r-i) (0,[]) wk ⟨Nat.zero_le _,rfl⟩ ?_
 rintro ⟨i,u⟩ ⟨hi,hu⟩
 have hul:u.length=i:=by rw[hu,List.length_replicate]
 refine jB<|jB<|kx [(12,(vb (decide (((i:Nat):Int)<((r:Nat):Int)))))] [] (zM<|zM<|zE xK<|zY) ?_
 refine jG rfl (fun h1=>?_) (fun h1=>?_)
 ·replace h1:=uP h1
  refine jD<|jB<|jH<|jB<|kr [(0,(jP r)),(1,(jP c)),(5,(.own 0 24 1 u.length)),(6,(jP i)),(7,(.own 1 45 4 0))] ((1,some (yG jK []))::dA 45 4 u) (zH (oBo (ps:=[]) 1 uE qU qY) (h2:=tabA_frb)<|zM<|zI (nI (xS (by kernel_rfl)) (fun _ _ h=>h))) ?_
  refine jB<|jB<|kx [(8,(jP 0))] [] (zM<|zY) ?_
  refine jH<|kA (α:=Nat × List jQ) (fun (j,v)=>⟨[(0,(jP r)),(1,(jP c)),(5,(.own 0 24 1 u.length)),(6,(jP i)),(7,(.own 1 45 4 v.length)),(8,(jP j))],(1,some (yG jK v))::dA 45 4 u⟩) (fun (j,v)=>j≤c∧v=List.replicate j (jN ((0:Int):Rat))) (fun (j,v)=>c-j) (0,[]) (nI (xS (by kernel_rfl)) (fun _ _ h=>h)) ⟨Nat.zero_le _,rfl⟩ ?_
  rintro ⟨j,v⟩ ⟨hj,hv⟩
  have hvl:v.length=j:=by rw[hv,List.length_replicate]
  refine jB<|jB<|kx [(18,(vb (decide (((j:Nat):Int)<((c:Nat):Int)))))] [] (zM<|zM<|zE xK<|zY) ?_
  refine jG rfl (fun h2=>?_) (fun h2=>?_)
  ·replace h2:=uP h2
   refine jD<|jB<|jH<|kr [(0,(jP r)),(1,(jP c)),(5,(.own 0 24 1 u.length)),(6,(jP i)),(7,(.own 1 45 4 ((v++[(jN ((0:Int):Rat))]).length))),(8,(jP j))] ((1,some (yG jK (v++[(jN ((0:Int):Rat))])))::dA 45 4 u) (zM<|zE (jY (z_whole5 0 (by omega) (by omega)))<|zE (cN uE qU qY)<|zAS jK v [(jN ((0:Int):Rat))] rfl uE qU by45 (hB:=tabA_clr)<|zM<|zI (nI (xS (by kernel_rfl)) bget_dup)) ?_
   refine kx [(8,(jP (j+1)))] [] (zM<|zE (vC (j+1))<|zM<|zY) ?_
   exact ⟨(j+1,v++[jN ((0:Int):Rat)]),nI (xS (by kernel_rfl)) (fun _ _ h=>h),⟨by omega,by rw[hv,List.replicate_succ']⟩,(by first|omega|(dsimp only;omega))⟩
  ·replace h2:=uR h2
   obtain rfl:j=c:=by omega
   refine kB<|pwp_fixS 7 rfl (fun ao cap=>?_)
   refine kr [(0,(jP r)),(1,(jP j)),(5,(.own 0 24 1 ((u++[List.map jK v]).length))),(6,(jP i))] (dA 45 4 (u++[List.map jK v])) (zM<|zE (oMvx (k:=1) (T:=45) (s:=4) (n:=v.length) (u:=.slice ao v.length cap))<|zE (cN zW bX zo24)<|zX (tab_app (rows:=u) (d:=.val (.slice ao v.length cap)) (by exact rfl) (by kernel_rfl) zW bX (by kernel_rfl) by24 (by exact rfl) rfl (by exact rfl) tabA_clr0 (by exact rfl) rfl (by unfold maxLen;omega) (by omega) (show u.length+1=(u++[List.map jK v]).length by simp)) (by kernel_rfl)<|zM<|zI (tab_push 7 (List.length_map _) (by kernel_rfl) rfl rfl tabA_rows (by kernel_rfl) (by kernel_rfl))) ?_
   refine kx [(6,(jP (i+1)))] [] (zM<|zE (vC (i+1))<|zM<|zY) ?_
   exact ⟨(i+1,u++[List.map jK v]),nI (xS (by kernel_rfl)) (fun _ _ h=>h),⟨by omega,by rw[hu,hv,List.replicate_succ']⟩,(by first|omega|(dsimp only;omega))⟩
 ·replace h1:=uR h1
  obtain rfl:i=r:=by omega
  refine kB<|jB<|kx [(4,(.own 0 24 1 u.length))] [] (zM<|zM<|zY) ?_
  refine jE ⟨fun k c h=>?_,gN (by kernel_rfl),.inr (.inl ⟨4,rfl,?_⟩)⟩
  ·rw[← hu] at h;exact h
  ·rw[← hu];rfl
theorem e_trans(m:List (List jQ))(hm:vN 1048576 m)(hr:gJ m m.length (m.getD 0 []).length):jR Tryz.prog 43 [(.sl 24 1 (List.map jI m))] (.sl 24 1 (List.map jI (trM m m.length (m.getD 0 []).length))):=by
 have hmb:=hr.r64
 have hm1:=hr.r1
 have hcb:=hr.c64
 have e0:List.replicate (m.getD 0 []).length (List.map jK (List.replicate m.length (jN ((0:Int):Rat))))=tdD (trT m m.length (m.getD 0 []).length 0 0):=by rw[trT_0];simp
 have hz:=e_zeros (m.getD 0 []).length m.length (by omega) (by omega)
 rw[e0] at hz
 have hl:∀ i j,(tdD (trT m m.length (m.getD 0 []).length i j)).length=(m.getD 0 []).length:=fun i j=>by rw[List.length_map,iE]
 refine jJ Tryz.func43 rfl cb43 rfl ?_
 show qG _ _ _ _ ⟨[(0,(vl 24 1 jI m))],[]⟩
 refine jB<|kx [] [] (zE (dD 24 1)<|zZ) ?_
 refine jB<|kr [(0,(vl 24 1 jI m)),(3,(.own 0 24 1 (m.getD 0 []).length))] (dA 45 4 (tdD (trT m m.length (m.getD 0 []).length 0 0))) (zM<|zE (xX zW 0 ([]:List (jQ)) (L:=m))<|zE (xZ mR)<|zE (uW uE (L:=(m.getD 0 [])))<|zM<|zE (uW zW (L:=m))<|zTab (ds:=[.val (.int .i64 ((m.getD 0 []).length:Nat)),.val (.int .i64 (m.length:Nat))]) hz (hl 0 0)<|zM<|zI (nI (xS (by kernel_rfl)) (fun _ _ h=>h))) ?_
 refine jB<|jB<|kx [(4,(jP 0))] [] (zM<|zY) ?_
 refine jH<|kA (α:=Nat) (fun i=>⟨[(0,(vl 24 1 jI m)),(3,(.own 0 24 1 (m.getD 0 []).length)),(4,(jP i))],dA 45 4 (tdD (trT m m.length (m.getD 0 []).length i 0))⟩) (fun i=>i≤m.length) (fun i=>m.length-i) 0 (nI (xS (by kernel_rfl)) (fun _ _ h=>h)) (Nat.zero_le _) ?_
 rintro i hi
 refine jB<|jB<|kx [(16,(vb (decide (((i:Nat):Int)<((m.length:Nat):Int)))))] [] (zM<|zM<|zE (uW zW (L:=m))<|zE xK<|zY) ?_
 refine jG rfl (fun h1=>?_) (fun h1=>?_)
 ·replace h1:=uP h1
  have hir:i<m.length:=by omega
  have hri:=(hr.at hir).1
  refine jD<|jB<|jH<|jB<|kx [(5,(jP 0))] [] (zM<|zY) ?_
  refine jH<|kA (α:=Nat) (fun j=>⟨[(0,(vl 24 1 jI m)),(3,(.own 0 24 1 (m.getD 0 []).length)),(4,(jP i)),(5,(jP j))],dA 45 4 (tdD (trT m m.length (m.getD 0 []).length i j))⟩) (fun j=>j≤(m.getD 0 []).length) (fun j=>(m.getD 0 []).length-j) 0 (nI (xS (by kernel_rfl)) (fun _ _ h=>h)) (Nat.zero_le _) ?_
  rintro j hj
  refine jB<|jB<|kx [(25,(vb (decide (((j:Nat):Int)<(((m.getD i []).length:Nat):Int)))))] [] (zM<|zM<|zM<|zE (xX zW i ([]:List (jQ)) (L:=m))<|zE (xZ mR)<|zE (uW uE (L:=(m.getD i [])))<|zE xK<|zY) ?_
  refine jG rfl (fun h2=>?_) (fun h2=>?_)
  ·replace h2:=uP h2
   have hjc:j<(m.getD 0 []).length:=by omega
   have hrl:((tdD (trT m m.length (m.getD 0 []).length i j)).getD j []).length=m.length:=by rw[tdD_at,List.length_map,trT_row m hjc]
   have hrl2:=trT_row m (r:=m.length) (i:=i) (j:=j) hjc
   have hlj:=hl i j
   have hjt:j<(tdD (trT m m.length (m.getD 0 []).length i j)).length:=by omega
   refine jD<|jB<|jH<|kdr [(0,(vl 24 1 jI m)),(3,(.own 0 24 1 (m.getD 0 []).length)),(4,(jP i)),(5,(jP j))] (dA 45 4 (tdD (trT m m.length (m.getD 0 []).length i (j+1)))) mo (wM<|wM<|wE (aY zW j)<|wR (tab_ld mR hjt hrl)<|wM<|wM<|wM<|wE (xX zW i ([]:List (jQ)) (L:=m))<|wE (xZ mR)<|wM<|wE (xX uE j kZ (L:=(m.getD i [])))<|wE (gE jS)<|wE (oXO uE i)<|wT (oSA (F:=jK) (L:=(trT m m.length (m.getD 0 []).length i j).getD j []) jS i ((m.getD i []).getD j kZ) (hb:=by exact tabA_row (r:=((trT m m.length (m.getD 0 []).length i j).getD j []).map jK) (tdD_get (by rw[iE];exact hjc))))<|wI (by
    rw[← trT_set m hir hjc,← tdD_set]
    exact tab_set (by rw[hrl,List.length_map,List.length_set,hrl2]) hjt (by kernel_rfl))) ?_
   refine kx [(5,(jP (j+1)))] [] (zM<|zE (vC (j+1))<|zM<|zY) ?_
   exact ⟨j+1,nI (xS (by kernel_rfl)) (fun _ _ h=>h),by omega,by omega⟩
  ·replace h2:=uR h2
   obtain rfl:j=(m.getD 0 []).length:=by omega
   refine kB<|kx [(4,(jP (i+1)))] [] (zM<|zE (vC (i+1))<|zM<|zY) ?_
   refine ⟨i+1,?_,by omega,by omega⟩
   rw[← trT_next]
   exact nI (xS (by kernel_rfl)) (fun _ _ h=>h)
 ·replace h1:=uR h1
  obtain rfl:i=m.length:=by omega
  refine kB<|jB<|kx [(2,(.own 0 24 1 (m.getD 0 []).length))] [] (zM<|zM<|zY) ?_
  have hp:=tab_pub (S:=up [(2,(.own 0 24 1 (m.getD 0 []).length))] (up [(16,(vb (decide (((m.length:Nat):Int)<((m.length:Nat):Int)))))] [(0,(vl 24 1 jI m)),(3,(.own 0 24 1 (m.getD 0 []).length)),(4,(jP m.length))])) (E:=45) (s:=4) (tdD (trT m m.length (m.getD 0 []).length m.length 0)) tdD_cells
  rw[List.map_map] at hp
  refine kS hp ?_
  refine kS (vD (t:=2) (k:=0) (es:=List.map jI (trT m m.length (m.getD 0 []).length m.length 0)) rfl rfl (uQ _ _ (fun _=>rfl)) (uJ _ _ (iE _ _ _ _ _)) (vQ _ _ (fun _=>rfl) (iE _ _ _ _ _))) ?_
  refine jE ⟨_,(.tmp (d:=(.sl 24 1 (List.map jI (trT m m.length (m.getD 0 []).length m.length 0)))) rfl .nil),?_⟩
  rw[trT_end];rfl
theorem cb16:callB Tryz.prog 16=true:=by kernel_rfl
theorem cb19:callB Tryz.prog 19=true:=by kernel_rfl
theorem cb21:callB Tryz.prog 21=true:=by kernel_rfl
theorem cb77:callB Tryz.prog 77=true:=by kernel_rfl
theorem cb134:callB Tryz.prog 134=true:=by kernel_rfl
theorem s_list(l:List jQ)(hl:vG 1048576 l)(k:List jQ)(hk:vG 1048576 k):jR Tryz.prog 16 [(.sl 45 4 (List.map jK l)),(.sl 45 4 (List.map jK k))] (.val (.bool ((aR l k)))):=by
 have hlb:=hl.2
 have hkb:=hk.2
 let y1:=kZ
 refine jJ Tryz.func16 rfl cb16 rfl ?_
 show qG _ _ _ _ ⟨[(0,(vl 45 4 jK l)),(1,(vl 45 4 jK k))],[]⟩
 refine jB<|kx [] [] (zM<|zZ) ?_
 refine jB<|jB<|kx [(10,(vb (((l.length:Nat):Int) != ((k.length:Nat):Int))))] [] (zM<|zE (uW uE)<|zM<|zE (uW uE)<|zE nW<|zZ) ?_
 refine jG rfl (fun h1=>?_) (fun h1=>?_)
 ·replace h1:=bne_iff_ne.1 h1
  refine jB<|kx [(4,(vb false))] [] (zM<|zZ) ?_
  refine jE ⟨_,(.tmp (d:=(.val (.bool (false)))) rfl .nil),?_⟩
  rw[sameL_len h1];rfl
 ·replace h1:=bne_eq_false_iff_eq.1 h1
  have hlk:=h1
  refine jD<|jB<|jB<|kx [(5,(jP 0))] [] (zM<|zZ) ?_
  refine jH<|kA (α:=Nat) (fun i=>⟨[(0,(vl 45 4 jK l)),(1,(vl 45 4 jK k)),(5,(jP i))],[]⟩) (fun i=>i≤l.length∧∀ a,a<i→mA (l.getD a y1) (k.getD a y1)=true) (fun i=>l.length-i) 0 wk ⟨Nat.zero_le _,fun a h=>by omega⟩ ?_
  rintro i ⟨hi,he⟩
  refine jB<|jB<|kx [(14,(vb (decide (((i:Nat):Int)<((l.length:Nat):Int)))))] [] (zM<|zM<|zE (uW uE)<|zE xK<|zZ) ?_
  refine jG rfl (fun h2=>?_) (fun h2=>?_)
  ·replace h2:=uP h2
   refine jD<|jB<|jH<|jB<|kd [(26,(vb (!(mA (l.getD i y1) (k.getD i y1)))))] [] mo (wM<|wM<|wE (xX uE i y1)<|wE (gE jS)<|wM<|wM<|wE (xX uE i y1)<|wE (gE jS)<|wE (jY (g_same (l.getD i y1) (k.getD i y1) (qP (l.getD i y1)) (qP (k.getD i y1)) (jO (vE hl.1 (show i<l.length by omega)) (by decide)) (jO (vE hk.1 (show i<k.length by omega)) (by decide))))<|wE mD<|wZ) ?_
   refine jG rfl (fun h3=>?_) (fun h3=>?_)
   ·refine jB<|kx [(4,(vb false))] [] (zM<|zZ) ?_
    refine jE ⟨_,(.tmp (d:=(.val (.bool (false)))) rfl .nil),?_⟩
    rw[sameL_no (i:=i) (by omega) (by simpa using h3)];rfl
   ·refine jD<|kx [(5,(jP (i+1)))] [] (zM<|zE (vC (i+1))<|zM<|zZ) ?_
    exact ⟨i+1,wk,⟨by omega,up_all he (by simpa using h3)⟩,(by first|omega|(dsimp only;omega))⟩
  ·replace h2:=uR h2
   have hie:i=l.length:=by omega
   subst hie
   refine kB<|jB<|kx [(4,(vb true))] [] (zM<|zZ) ?_
   refine jE ⟨_,(.tmp (d:=(.val (.bool (true)))) rfl .nil),?_⟩
   rw[sameL_yes hlk he];rfl
theorem s_mat(m:List (List jQ))(hm:vN 1048576 m)(q:List (List jQ))(hq:vN 1048576 q):jR Tryz.prog 134 [(.sl 24 1 (List.map jI m)),(.sl 24 1 (List.map jI q))] (.val (.bool ((sameM m q)))):=by
 have hmb:=hm.2
 have hqb:=hq.2
 refine jJ Tryz.func134 rfl cb134 rfl ?_
 show qG _ _ _ _ ⟨[(0,(vl 24 1 jI m)),(1,(vl 24 1 jI q))],[]⟩
 refine jB<|kx [] [] (zM<|zZ) ?_
 refine jB<|jB<|kx [(10,(vb (((m.length:Nat):Int) != ((q.length:Nat):Int))))] [] (zM<|zE (uW zW)<|zM<|zE (uW zW)<|zE nW<|zZ) ?_
 refine jG rfl (fun h1=>?_) (fun h1=>?_)
 ·replace h1:=bne_iff_ne.1 h1
  refine jB<|kx [(4,(vb false))] [] (zM<|zZ) ?_
  refine jE ⟨_,(.tmp (d:=(.val (.bool (false)))) rfl .nil),?_⟩
  rw[sameM_len h1];rfl
 ·replace h1:=bne_eq_false_iff_eq.1 h1
  have hlk:=h1
  refine jD<|jB<|jB<|kx [(5,(jP 0))] [] (zM<|zZ) ?_
  refine jH<|kA (α:=Nat) (fun i=>⟨[(0,(vl 24 1 jI m)),(1,(vl 24 1 jI q)),(5,(jP i))],[]⟩) (fun i=>i≤m.length∧∀ a,a<i→aR (m.getD a []) (q.getD a [])=true) (fun i=>m.length-i) 0 wk ⟨Nat.zero_le _,fun a h=>by omega⟩ ?_
  rintro i ⟨hi,he⟩
  refine jB<|jB<|kx [(14,(vb (decide (((i:Nat):Int)<((m.length:Nat):Int)))))] [] (zM<|zM<|zE (uW zW)<|zE xK<|zZ) ?_
  refine jG rfl (fun h2=>?_) (fun h2=>?_)
  ·replace h2:=uP h2
   refine jD<|jB<|jH<|jB<|kd [(26,(vb (!(aR (m.getD i []) (q.getD i [])))))] [] mo (wM<|wM<|wE (xX zW i ([]:List (jQ)))<|wE (xZ mR)<|wM<|wM<|wE (xX zW i ([]:List (jQ)))<|wE (xZ mR)<|wE (jY (s_list (m.getD i []) (xA (d:=[]) hm (show i<m.length by omega)) (q.getD i []) (xA (d:=[]) hq (show i<q.length by omega))))<|wE mD<|wZ) ?_
   refine jG (b:=!(aR (m.getD i []) (q.getD i []))) rfl (fun h3=>?_) (fun h3=>?_)
   ·refine jB<|kx [(4,(vb false))] [] (zM<|zZ) ?_
    refine jE ⟨_,(.tmp (d:=(.val (.bool (false)))) rfl .nil),?_⟩
    rw[sameM_no (i:=i) (by omega) (by simpa using h3)];rfl
   ·refine jD<|kx [(5,(jP (i+1)))] [] (zM<|zE (vC (i+1))<|zM<|zZ) ?_
    exact ⟨i+1,wk,⟨by omega,up_all he (by simpa using h3)⟩,(by first|omega|(dsimp only;omega))⟩
  ·replace h2:=uR h2
   have hie:i=m.length:=by omega
   subst hie
   refine kB<|jB<|kx [(4,(vb true))] [] (zM<|zZ) ?_
   refine jE ⟨_,(.tmp (d:=(.val (.bool (true)))) rfl .nil),?_⟩
   rw[sameM_yes hlk he];rfl
theorem s_sym(m:List (List jQ))(hm:vN 1048576 m)(hr:gJ m m.length (m.getD 0 []).length)(hsq:m.length=(m.getD 0 []).length):jR Tryz.prog 77 [(.sl 24 1 (List.map jI m))] (.val (.bool ((symB m)))):=by
 refine jJ Tryz.func77 rfl cb77 rfl ?_
 show qG _ _ _ _ ⟨[(0,(vl 24 1 jI m))],[]⟩
 refine jB<|kx [] [] (zM<|zZ) ?_
 refine jB<|kx [(2,(vb (sameM m (trM m m.length (m.getD 0 []).length))))] [] (zM<|zM<|zE (jY (e_trans m hm hr))<|zE (jY (s_mat m hm (trM m m.length (m.getD 0 []).length) (trM_ok hm hr)))<|zM<|zZ) ?_
 refine jE ⟨_,(.tmp (d:=(.val (.bool ((sameM m (trM m m.length (m.getD 0 []).length)))))) rfl .nil),?_⟩
 have hr2:=hr
 rw[← hsq] at hr2
 rw[← hsq,sym_tr hr2];rfl
theorem s_fits(m:List (List jQ))(hm:vN 1048576 m)(n:Nat)(hr:gJ m m.length (m.getD 0 []).length):jR Tryz.prog 21 [(.sl 24 1 (List.map jI m)),(.val (.int .i64 (((n:Nat):Int))))] (.val (.int .i64 ((((mV m n):Nat):Int)))):=by
 have hmb:=hr.r64
 have hm1:=hr.r1
 have hm0:=hr.c64
 refine jJ Tryz.func21 rfl cb21 rfl ?_
 show qG _ _ _ _ ⟨[(0,(vl 24 1 jI m)),(1,(jP n))],[]⟩
 refine jB<|kx [] [] (zM<|zZ) ?_
 refine jB<|jB<|kx [(16,(vb ((((m.length:Nat):Int) != ((n:Nat):Int))||((((m.getD 0 []).length:Nat):Int) != ((n:Nat):Int)))))] [] ?_ ?_
 ·refine zM<|zE (uW zW)<|zM<|zE nW<|zE (oV (vb (((m.length:Nat):Int) != ((n:Nat):Int))) (qC (by kernel_rfl)))<|?_
  rcases hb1:(((m.length:Nat):Int) != ((n:Nat):Int)) with _ | _
  ·replace hb1:=bne_eq_false_iff_eq.1 hb1
   exact zM<|zE (xX zW 0 ([]:List (jQ)))<|zE (xZ mR)<|zE (uW uE (L:=(m.getD 0 [])))<|zM<|zE nW<|zE eP<|zZ
  ·replace hb1:=bne_iff_ne.1 hb1
   exact zK<|zK<|zK<|zK<|zK<|zK<|zE gR<|zZ
 refine jG rfl (fun h2=>?_) (fun h2=>?_)
 ·refine jB<|kx [(4,(jP 4))] [] (zM<|zZ) ?_
  refine jE ⟨_,(.tmp (d:=(.val (.int .i64 (4)))) rfl .nil),?_⟩
  rw[fit_1 h2];rfl
 ·have hs:=fit_0 h2
  have hsq:m.length=(m.getD 0 []).length:=by omega
  refine jD<|jB<|jB<|kx [(19,(vb (!(symB m))))] [] (zM<|zE (jY (s_sym m hm hr (by omega)))<|zE mD<|zZ) ?_
  refine jG (b:=!(symB m)) rfl (fun h3=>?_) (fun h3=>?_)
  ·refine jB<|kx [(4,(jP 11))] [] (zM<|zZ) ?_
   refine jE ⟨_,(.tmp (d:=(.val (.int .i64 (11)))) rfl .nil),?_⟩
   rw[fit_11 hs (by simpa using h3)];rfl
  ·refine jD<|jB<|kx [(4,(jP 0))] [] (zM<|zZ) ?_
   refine jE ⟨_,(.tmp (d:=(.val (.int .i64 (0)))) rfl .nil),?_⟩
   rw[fit_ok hs (by simpa using h3)];rfl
theorem s_chk(m:List (List jQ))(hm:vN 1048576 m):jR Tryz.prog 19 [(.sl 24 1 (List.map jI m))] (.val (.int .i64 ((((gS m):Nat):Int)))):=by
 have hmb:=hm.2
 refine jJ Tryz.func19 rfl cb19 rfl ?_
 show qG _ _ _ _ ⟨[(0,(vl 24 1 jI m))],[]⟩
 refine jB<|kx [] [] (zM<|zZ) ?_
 refine jB<|jB<|kx [(25,(vb (((decide (((m.length:Nat):Int)<1)||decide (64<((m.length:Nat):Int)))||decide ((((m.getD 0 []).length:Nat):Int)<1))||decide (64<(((m.getD 0 []).length:Nat):Int)))))] [] ?_ ?_
 ·refine zM<|zE (uW zW)<|zE xK<|zE (oV (vb (decide (((m.length:Nat):Int)<1))) (qC (by kernel_rfl)))<|?_
  rcases hb1:(decide (((m.length:Nat):Int)<1)) with _ | _
  ·replace hb1:=uR hb1
   refine zM<|zE (uW zW)<|zE mL<|zE eP<|zE (oV (vb (false||decide (64<((m.length:Nat):Int)))) (qC (by kernel_rfl)))<|?_
   rcases hb2:(false||decide (64<((m.length:Nat):Int))) with _ | _
   ·replace hb2:=uR (p:=(64<((m.length:Nat):Int))) hb2
    refine zM<|zE (xX zW 0 ([]:List (jQ)))<|zE (xZ mR)<|zE (uW uE (L:=(m.getD 0 [])))<|zE xK<|zE eP<|zE (oV (vb (false||decide ((((m.getD 0 []).length:Nat):Int)<1))) (qC (by kernel_rfl)))<|?_
    rcases hb3:(false||decide ((((m.getD 0 []).length:Nat):Int)<1)) with _ | _
    ·replace hb3:=uR (p:=((((m.getD 0 []).length:Nat):Int)<1)) hb3
     exact zM<|zE (xX zW 0 ([]:List (jQ)))<|zE (xZ mR)<|zE (uW uE (L:=(m.getD 0 [])))<|zE mL<|zE eP<|zZ
    ·replace hb3:=uP (p:=((((m.getD 0 []).length:Nat):Int)<1)) hb3
     exact zK<|zK<|zK<|zK<|zK<|zE gR<|zZ
   ·replace hb2:=uP (p:=(64<((m.length:Nat):Int))) hb2
    exact zK<|zK<|zK<|zK<|zK<|zE gR<|zM<|zK<|zK<|zK<|zK<|zK<|zE gR<|zZ
  ·replace hb1:=uP hb1
   exact zK<|zK<|zK<|zE gR<|zM<|zK<|zK<|zK<|zK<|zK<|zE gR<|zM<|zK<|zK<|zK<|zK<|zK<|zE gR<|zZ
 refine jG rfl (fun h4=>?_) (fun h4=>?_)
 ·refine jB<|kx [(2,(jP 1))] [] (zM<|zZ) ?_
  refine jE ⟨_,(.tmp (d:=(.val (.int .i64 (1)))) rfl .nil),?_⟩
  rw[mchk_1 h4];rfl
 ·have h0:=shp_0 h4
  have hsh:=h4
  refine jD<|jB<|jB<|kx [(3,(jP 0))] [] (zM<|zZ) ?_
  refine jH<|kA (α:=Nat) (fun i=>⟨[(0,(vl 24 1 jI m)),(3,(jP i))],[]⟩) (fun i=>i≤m.length∧∀ a,a<i→yN m (m.getD a [])=false) (fun i=>m.length-i) 0 wk ⟨Nat.zero_le _,fun a h=>by omega⟩ ?_
  rintro i ⟨hi,he⟩
  refine jB<|jB<|kx [(29,(vb (decide (((i:Nat):Int)<((m.length:Nat):Int)))))] [] (zM<|zM<|zE (uW zW)<|zE xK<|zZ) ?_
  refine jG rfl (fun h5=>?_) (fun h5=>?_)
  ·replace h5:=uP h5
   refine jD<|jB<|jH<|jB<|kd [(49,(vb (((((m.getD i []).length:Nat):Int) != (((m.getD 0 []).length:Nat):Int))||!(gC (m.getD i [])))))] [] mo ?_ ?_
   ·refine wM<|wM<|wE (xX zW i ([]:List (jQ)))<|wE (xZ mR)<|wE (uW uE (L:=(m.getD i [])))<|wM<|wE (xX zW 0 ([]:List (jQ)))<|wE (xZ mR)<|wE (uW uE (L:=(m.getD 0 [])))<|wE nW<|wE (oV (vb ((((m.getD i []).length:Nat):Int) != (((m.getD 0 []).length:Nat):Int))) (qC (by kernel_rfl)))<|?_
    rcases hb6:((((m.getD i []).length:Nat):Int) != (((m.getD 0 []).length:Nat):Int)) with _ | _
    ·replace hb6:=bne_eq_false_iff_eq.1 hb6
     exact wM<|wM<|wE (xX zW i ([]:List (jQ)))<|wE (xZ mR)<|wE (jY (m_vlist (m.getD i []) (xA (d:=[]) hm (show i<m.length by omega))))<|wE mD<|wE eP<|wZ
    ·replace hb6:=bne_iff_ne.1 hb6
     exact wK<|wK<|wK<|wK<|wK<|wK<|wE gR<|wZ
   refine jG rfl (fun h7=>?_) (fun h7=>?_)
   ·refine jB<|kx [(2,(jP 1))] [] (zM<|zZ) ?_
    refine jE ⟨_,(.tmp (d:=(.val (.int .i64 (1)))) rfl .nil),?_⟩
    rw[mchk_2 (bad_any (i:=i) (by omega) h7)];rfl
   ·refine jD<|kx [(3,(jP (i+1)))] [] (zM<|zE (vC (i+1))<|zM<|zZ) ?_
    exact ⟨i+1,wk,⟨by omega,up_bad he h7⟩,(by first|omega|(dsimp only;omega))⟩
  ·replace h5:=uR h5
   have hie:i=m.length:=by omega
   subst hie
   refine kB<|jB<|kx [(2,(jP 0))] [] (zM<|zZ) ?_
   refine jE ⟨_,(.tmp (d:=(.val (.int .i64 (0)))) rfl .nil),?_⟩
   rw[mchk_3 hsh (bad_none he)];rfl
theorem cb17:callB Tryz.prog 17=true:=by kernel_rfl
theorem cb46:callB Tryz.prog 46=true:=by kernel_rfl
theorem cb70:callB Tryz.prog 70=true:=by kernel_rfl
theorem cb104:callB Tryz.prog 104=true:=by kernel_rfl
theorem u_brief(x:jQ)(p:Rat)(hx:gW x p 140737488355328):jR Tryz.prog 104 [(jK x)] (.val (.bool ((brX x)))):=by
 refine jJ Tryz.func104 rfl cb104 rfl ?_
 show qG _ _ _ _ ⟨[(0,(.d (jK x)))],[]⟩
 refine jB<|kx [(1,(.ref 0 0))] [(0,some (bx (jK x)))] (zN (vA 0)<|zM<|zZ) ?_
 refine jB<|kd [(3,(vl 140 1 jC x.num.gs)),(4,(vl 140 1 jC x.den.gs))] [] mo (wE (kY xU)<|wE (kY vS)<|wR (uM yB)<|wE (kY xJ)<|wE (kY vS)<|wR (uM yB)<|wM<|wM<|wZ) ?_
 refine jB<|jB<|kx [(18,(vb (decide (1<((x.num.gs.length:Nat):Int))||decide (1<((x.den.gs.length:Nat):Int)))))] [] ?_ ?_
 ·refine zM<|zE (uW kO)<|zE mL<|zE (oV (vb (decide (1<((x.num.gs.length:Nat):Int)))) (qC (by kernel_rfl)))<|?_
  rcases hb1:(decide (1<((x.num.gs.length:Nat):Int))) with _ | _
  ·replace hb1:=uR hb1
   exact zM<|zE (uW kO)<|zE mL<|zE eP<|zZ
  ·replace hb1:=uP hb1
   exact zK<|zK<|zK<|zE gR<|zZ
 refine jG rfl (fun h2=>?_) (fun h2=>?_)
 ·refine jB<|kx [(2,(vb false))] [] (zM<|zZ) ?_
  refine jE ⟨_,(.tmp (d:=(.val (.bool (false)))) rfl .nil),?_⟩
  unfold brX;rw[if_pos h2];rfl
 ·refine jD<|jB<|kx [(2,(vb (((((x.num.gs.length:Nat):Int) == 0)||decide ((((x.num.gs.getD 0 0):Nat):Int)<100000))&&((((x.den.gs.length:Nat):Int) == 0)||decide ((((x.den.gs.getD 0 0):Nat):Int)≤100)))))] [] ?_ ?_
  ·refine zM<|zE (uW kO)<|zE xR<|zE (oV (vb (((x.num.gs.length:Nat):Int) == 0)) (qC (by kernel_rfl)))<|?_
   rcases hb3:(((x.num.gs.length:Nat):Int) == 0) with _ | _
   ·replace hb3:=ne_of_beq_false hb3
    refine zM<|zE (xX kO 0 (0:Nat))<|zE (xZ qX)<|zE xK<|zE eP<|zE (oV (vb (false||decide ((((x.num.gs.getD 0 0):Nat):Int)<100000))) (qC (by kernel_rfl)))<|?_
    rcases hb4:(false||decide ((((x.num.gs.getD 0 0):Nat):Int)<100000)) with _ | _
    ·exact zK<|zK<|zK<|zK<|zK<|zK<|zK<|zK<|zK<|zE yP<|zM<|zZ
    ·refine zM<|zE (uW kO)<|zE xR<|zE (oV (vb (((x.den.gs.length:Nat):Int) == 0)) (qC (by kernel_rfl)))<|?_
     rcases hb5:(((x.den.gs.length:Nat):Int) == 0) with _ | _
     ·replace hb5:=ne_of_beq_false hb5
      exact zM<|zE (xX kO 0 (0:Nat))<|zE (xZ qX)<|zE oLe<|zE eP<|zE fA<|zM<|zZ
     ·replace hb5:=eq_of_beq hb5
      exact zK<|zK<|zK<|zK<|zE gR<|zE gR<|zM<|zZ
   ·replace hb3:=eq_of_beq hb3
    refine zK<|zK<|zK<|zK<|zE gR<|zM<|zM<|zE (uW kO)<|zE xR<|zE (oV (vb (((x.den.gs.length:Nat):Int) == 0)) (qC (by kernel_rfl)))<|?_
    rcases hb6:(((x.den.gs.length:Nat):Int) == 0) with _ | _
    ·replace hb6:=ne_of_beq_false hb6
     exact zM<|zE (xX kO 0 (0:Nat))<|zE (xZ qX)<|zE oLe<|zE eP<|zE fA<|zM<|zZ
    ·replace hb6:=eq_of_beq hb6
     exact zK<|zK<|zK<|zK<|zE gR<|zE gR<|zM<|zZ
  refine jE ⟨_,(.tmp (d:=(.val (.bool ((((((x.num.gs.length:Nat):Int) == 0)||decide ((((x.num.gs.getD 0 0):Nat):Int)<100000))&&((((x.den.gs.length:Nat):Int) == 0)||decide ((((x.den.gs.getD 0 0):Nat):Int)≤100))))))) rfl .nil),?_⟩
  unfold brX;rw[if_neg (by rw[h2];decide)];rfl
theorem u_short(l:List jQ)(hl:vG 140737488355328 l)(c:Nat)(hc:c≤1000)(n:Nat)(hn:n≤1000):jR Tryz.prog 46 [(.sl 45 4 (List.map jK l)),(.val (.int .i64 (((c:Nat):Int)))),(.val (.int .i64 (((n:Nat):Int))))] (.val (.bool ((shR c n l)))):=by
 have hb:=hl.2
 let y1:=kZ
 refine jJ Tryz.func46 rfl cb46 rfl ?_
 show qG _ _ _ _ ⟨[(0,(vl 45 4 jK l)),(1,(jP c)),(2,(jP n))],[]⟩
 refine jB<|kx [] [] (zM<|zZ) ?_
 refine jB<|jB<|kx [(11,(vb (decide (((c:Nat):Int)<((l.length:Nat):Int)))))] [] (zM<|zE (uW uE)<|zM<|zE mL<|zZ) ?_
 refine jG rfl (fun h1=>?_) (fun h1=>?_)
 ·replace h1:=uP h1
  refine jB<|kx [(6,(vb false))] [] (zM<|zZ) ?_
  refine jE ⟨_,(.tmp (d:=(.val (.bool (false)))) rfl .nil),?_⟩
  rw[shR_long (by omega)];rfl
 ·replace h1:=uR h1
  have hlk:=h1
  refine jD<|jB<|jB<|kx [(7,(jP 0))] [] (zM<|zZ) ?_
  refine jH<|kA (α:=Nat) (fun i=>⟨[(0,(vl 45 4 jK l)),(2,(jP n)),(7,(jP i))],[]⟩) (fun i=>i≤l.length∧(l.take i).all (shX n)=true) (fun i=>l.length-i) 0 wk ⟨Nat.zero_le _,by simp⟩ ?_
  rintro i ⟨hi,hal⟩
  refine jB<|jB<|kx [(15,(vb (decide (((i:Nat):Int)<((l.length:Nat):Int)))))] [] (zM<|zM<|zE (uW uE)<|zE xK<|zZ) ?_
  refine jG rfl (fun h2=>?_) (fun h2=>?_)
  ·replace h2:=uP h2
   refine jD<|jB<|jH<|jB<|kx [(36,(vb (decide (((n:Nat):Int)<(((digR (l.getD i y1)):Nat):Int))||(decide (((n:Nat):Int)≤6)&&!(brX (l.getD i y1))))))] [] ?_ ?_
   ·refine zM<|zM<|zE (xX uE i y1)<|zE (gE jS)<|zE (jY (g_digits (l.getD i y1) (qP (l.getD i y1)) (vE hl.1 (show i<l.length by omega))))<|zM<|zE mL<|zE (oV (vb (decide (((n:Nat):Int)<(((digR (l.getD i y1)):Nat):Int)))) (qC (by kernel_rfl)))<|?_
    rcases hb3:(decide (((n:Nat):Int)<(((digR (l.getD i kZ)):Nat):Int))) with _ | _
    ·replace hb3:=uR hb3
     refine zM<|zE oLe<|zE (oV (vb (decide (((n:Nat):Int)≤6))) (qC (by kernel_rfl)))<|?_
     rcases hb4:(decide (((n:Nat):Int)≤6)) with _ | _
     ·replace hb4:=uR hb4
      exact zK<|zK<|zK<|zK<|zK<|zK<|zE yP<|zE yP<|zZ
     ·replace hb4:=uP hb4
      exact zM<|zM<|zE (xX uE i y1)<|zE (gE jS)<|zE (jY (u_brief (l.getD i y1) (qP (l.getD i y1)) (vE hl.1 (show i<l.length by omega))))<|zE mD<|zE fA<|zE eP<|zZ
    ·replace hb3:=uP hb3
     exact zK<|zK<|zK<|zK<|zK<|zK<|zK<|zK<|zK<|zK<|zE gR<|zZ
   refine jG rfl (fun h5=>?_) (fun h5=>?_)
   ·refine jB<|kx [(6,(vb false))] [] (zM<|zZ) ?_
    refine jE ⟨_,(.tmp (d:=(.val (.bool (false)))) rfl .nil),?_⟩
    rw[shR_no (all_no (i:=i) (d:=kZ) (by omega) (shX_t h5))];rfl
   ·have hfi:shX n (l.getD i kZ)=true:=shX_f h5
    refine jD<|kx [(7,(jP (i+1)))] [] (zM<|zE (vC (i+1))<|zM<|zZ) ?_
    exact ⟨(i+1),wk,⟨by omega,all_up (d:=kZ) (by omega) hal hfi⟩,(by omega)⟩
  ·replace h2:=uR h2
   have hie:i=l.length:=by omega
   rw[hie,List.take_length] at hal
   refine kB<|jB<|kx [(6,(vb true))] [] (zM<|zZ) ?_
   refine jE ⟨_,(.tmp (d:=(.val (.bool (true)))) rfl .nil),?_⟩
   rw[shR_yes hlk hal];rfl
theorem u_shortM(m:List (List jQ))(hm:vN 140737488355328 m)(c:Nat)(hc:c≤1000)(n:Nat)(hn:n≤1000):jR Tryz.prog 70 [(.sl 24 1 (List.map jI m)),(.val (.int .i64 (((c:Nat):Int)))),(.val (.int .i64 (((n:Nat):Int))))] (.val (.bool ((shM c n m)))):=by
 have hb:=hm.2
 refine jJ Tryz.func70 rfl cb70 rfl ?_
 show qG _ _ _ _ ⟨[(0,(vl 24 1 jI m)),(1,(jP c)),(2,(jP n))],[]⟩
 refine jB<|kx [] [] (zM<|zZ) ?_
 refine jB<|jB<|kx [(11,(vb (decide (((c:Nat):Int)<((m.length:Nat):Int)))))] [] (zM<|zE (uW zW)<|zM<|zE mL<|zZ) ?_
 refine jG rfl (fun h1=>?_) (fun h1=>?_)
 ·replace h1:=uP h1
  refine jB<|kx [(6,(vb false))] [] (zM<|zZ) ?_
  refine jE ⟨_,(.tmp (d:=(.val (.bool (false)))) rfl .nil),?_⟩
  rw[shM_long (by omega)];rfl
 ·replace h1:=uR h1
  have hlk:=h1
  refine jD<|jB<|jB<|kx [(7,(jP 0))] [] (zM<|zZ) ?_
  refine jH<|kA (α:=Nat) (fun i=>⟨[(0,(vl 24 1 jI m)),(1,(jP c)),(2,(jP n)),(7,(jP i))],[]⟩) (fun i=>i≤m.length∧(m.take i).all (shR c n)=true) (fun i=>m.length-i) 0 wk ⟨Nat.zero_le _,by simp⟩ ?_
  rintro i ⟨hi,hal⟩
  refine jB<|jB<|kx [(15,(vb (decide (((i:Nat):Int)<((m.length:Nat):Int)))))] [] (zM<|zM<|zE (uW zW)<|zE xK<|zZ) ?_
  refine jG rfl (fun h2=>?_) (fun h2=>?_)
  ·replace h2:=uP h2
   refine jD<|jB<|jH<|jB<|kx [(25,(vb (!(shR c n (m.getD i [])))))] [] (zM<|zM<|zE (xX zW i ([]:List (jQ)))<|zE (xZ mR)<|zM<|zM<|zE (jY (u_short (m.getD i []) (xA (d:=[]) hm (show i<m.length by omega)) c (by omega) n (by omega)))<|zE mD<|zZ) ?_
   refine jG (b:=!(shR c n (m.getD i []))) rfl (fun h3=>?_) (fun h3=>?_)
   ·refine jB<|kx [(6,(vb false))] [] (zM<|zZ) ?_
    refine jE ⟨_,(.tmp (d:=(.val (.bool (false)))) rfl .nil),?_⟩
    rw[shM_no (all_no (i:=i) (d:=[]) (by omega) (by simpa using h3))];rfl
   ·have hfi:shR c n (m.getD i [])=true:=by simpa using h3
    refine jD<|kx [(7,(jP (i+1)))] [] (zM<|zE (vC (i+1))<|zM<|zZ) ?_
    exact ⟨(i+1),wk,⟨by omega,all_up (d:=[]) (by omega) hal hfi⟩,(by omega)⟩
  ·replace h2:=uR h2
   have hie:i=m.length:=by omega
   rw[hie,List.take_length] at hal
   refine kB<|jB<|kx [(6,(vb true))] [] (zM<|zZ) ?_
   refine jE ⟨_,(.tmp (d:=(.val (.bool (true)))) rfl .nil),?_⟩
   rw[shM_yes hlk hal];rfl
theorem u_table(m:List (List jQ))(hm:vN 140737488355328 m):jR Tryz.prog 17 [(.sl 24 1 (List.map jI m))] (.val (.bool ((shM 5 6 m)))):=by
 refine jJ Tryz.func17 rfl cb17 rfl ?_
 show qG _ _ _ _ ⟨[(0,(vl 24 1 jI m))],[]⟩
 refine jB<|kx [] [] (zM<|zZ) ?_
 refine jB<|kx [(2,(vb (shM 5 6 m)))] [] (zM<|zE (jY (u_shortM m hm 5 (by omega) 6 (by omega)))<|zM<|zZ) ?_
 refine jE ⟨_,(.tmp (d:=(.val (.bool ((shM 5 6 m))))) rfl .nil),?_⟩
 rfl
def dgB(x:kV):Bool:=decide (digR x.n≤8)
def szB(m:Nat)(s:Int):Bool:=decide (s≤(m:Int))
def dE(n m:Nat)(t:List kV):Bool:=decide (t.length≤n)&&(t.all dgB&&(decide (nY 8 t≠0)||(tmL 8 t).all (szB m)))
theorem fewT_long{n m:Nat}{t:List kV}(h:((n:Nat):Int)<((t.length:Nat):Int)):dE n m t=false:=by unfold dE;rw[decide_eq_false (by omega)];rfl
theorem fewT_dig{n m:Nat}{t:List kV}(h:t.all dgB=false):dE n m t=false:=by unfold dE;rw[h,Bool.false_and,Bool.and_false]
theorem fewT_code{n m:Nat}{t:List kV}(h0:¬ ((n:Nat):Int)<((t.length:Nat):Int))(h:t.all dgB=true)(hc:((nY 8 t:Nat):Int)≠0):dE n m t=true:=by
 unfold dE;rw[decide_eq_true (by omega),h,decide_eq_true (by omega)];rfl
theorem tmL_len{z:Int}{t:List kV}(h:((nY z t:Nat):Int)=0):(tmL z t).length=t.length:=by
 unfold tmL;rw[if_pos (by omega),nF]
theorem fewT_big{n m:Nat}{t:List kV}(hc:((nY 8 t:Nat):Int)=0)(h:(tmL 8 t).all (szB m)=false):dE n m t=false:=by
 unfold dE;rw[h,Bool.or_false,show decide (nY 8 t≠0)=false from decide_eq_false (by omega),Bool.and_false,Bool.and_false]
theorem fewT_yes{n m:Nat}{t:List kV}(h0:¬ ((n:Nat):Int)<((t.length:Nat):Int))(h:t.all dgB=true)(hs:(tmL 8 t).all (szB m)=true):dE n m t=true:=by
 unfold dE;rw[decide_eq_true (by omega),h,hs,Bool.or_true];rfl
theorem dgB_y{x:kV}(h:¬ ((8:Nat):Int)<((digR x.n:Nat):Int)):dgB x=true:=decide_eq_true (by omega)
theorem dgB_n{x:kV}(h:((8:Nat):Int)<((digR x.n:Nat):Int)):dgB x=false:=decide_eq_false (by omega)
theorem dg_ok{t:List kV}(h:t.all dgB=true):∀ x∈t,gW x.n (qP x.n) 8:=fun x hx=>by
 have h1:=List.all_eq_true.1 h x hx
 unfold dgB digR at h1
 rw[decide_eq_true_eq] at h1
 exact qok_raw (by decide) (by omega) (by omega)
theorem few_of{n m:Nat}{t:List kV}(h:dE n m t=true):t.length≤n∧(∀ x∈t,gW x.n (qP x.n) 8)∧(nY 8 t=0→∀ s∈tmL 8 t,s≤(m:Int)):=by
 unfold dE at h
 rw[Bool.and_eq_true,Bool.and_eq_true,Bool.or_eq_true,decide_eq_true_eq,decide_eq_true_eq] at h
 refine ⟨h.1,dg_ok h.2.1,fun hc s hs=>?_⟩
 rcases h.2.2 with h1 | h1
 ·exact absurd hc h1
 ·have:=List.all_eq_true.1 h1 s hs
  unfold szB at this
  rwa [decide_eq_true_eq] at this
theorem tame_of{n m:Nat}{bx:List R2}{t:List kV}(h:dE n m t=true)(hm:m≤200)(h8:bx.length≤8)(hb:∀ y∈bx,GL 8 y)(hc:nY ((bx.length:Nat):Int) t=0):mW bx t:=by
 obtain ⟨_,h2,h3⟩:=few_of h
 have hc8:nY 8 t=0:=tm_mono (by omega) (by decide) hc
 refine ⟨hc,h2,hb,fun k hk=>?_⟩
 have h4:=h3 hc8 (szN (cR t k) (t.getD k tz)) (by unfold tmL;rw[if_pos hc8];exact szU_mem hk)
 omega
theorem gpt_8{xs:List Rat}(h:∀ q∈xs,QL q 8):∀ y∈List.map yF xs,GL 8 y:=fun y hy=>by
 obtain ⟨q,hq,rfl⟩:=List.mem_map.1 hy
 exact gl_pt (h q hq)
theorem shR_len{c n:Nat}{l:List jQ}(h:shR c n l=true):l.length≤c:=by
 unfold shR at h;rw[Bool.and_eq_true,decide_eq_true_eq] at h;exact h.1
theorem shR_ok{c n:Nat}{l:List jQ}(h:shR c n l=true)(h1:1≤n):∀ x∈l,gW x (qP x) n:=fun x hx=>by
 unfold shR at h;rw[Bool.and_eq_true] at h
 have h3:=shX_le (List.all_eq_true.1 h.2 x hx)
 unfold digR at h3
 exact qok_raw h1 (by omega) (by omega)
theorem vrow_map:∀ {l:List jQ},gC l=true→List.map jN (List.map qP l)=l
 |[],_=>rfl
 |x::l,h=>by
  unfold gC at h
  rw[List.all_cons,Bool.and_eq_true] at h
  rw[List.map_cons,List.map_cons,vrow_map (l:=l) h.2,ofQ_toQ h.1]
theorem row_form{c n:Nat}{l:List jQ}(h:shR c n l=true)(h1:1≤n)(hv:gC l=true):∃ xs:List Rat,l=List.map jN xs∧(∀ q∈xs,QL q n)∧xs.length≤c:=by
 refine ⟨l.map qP,?_,fun q hq=>?_,by rw[List.length_map];exact shR_len h⟩
 ·exact (vrow_map hv).symm
 ·obtain ⟨x,hx,rfl⟩:=List.mem_map.1 hq
  exact (shR_ok h h1 x hx).ql
end Go.Proofs.YtnajallgoaiahaaGreatDoor
