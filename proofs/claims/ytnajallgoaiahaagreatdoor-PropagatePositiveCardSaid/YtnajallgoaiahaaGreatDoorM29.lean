/- Part 29 of a proof: rules, plain facts, and functions walked. -/
import Derived.Test.YtnajallgoaiahaaGreatDoorM28
import Derived.Test.YtnajallgoaiahaaGreatDoorM11
import Derived.Test.YtnajallgoaiahaaGreatDoorM19
import Derived.Test.YtnajallgoaiahaaGreatDoorM18
set_option linter.all false
set_option maxRecDepth 4000
namespace Go.Proofs.YtnajallgoaiahaaGreatDoor
open Go.Fid
def trE(m:List (List jN))(i j a b:Nat):jN:=if a<i∨(a=i∧b<j) then (m.getD a []).getD b qH else jQ ((0:Int):Rat)
def trT(m:List (List jN))(r c i j:Nat):List (List jN):=(List.range c).map fun b=>(List.range r).map fun a=>trE m i j a b
def iN(m:List (List jN))(r c:Nat):List (List jN):=(List.range c).map fun b=>(List.range r).map fun a=>(m.getD a []).getD b qH
theorem iL(m:List (List jN))(r c i j:Nat):(trT m r c i j).length=c:=by simp [trT]
theorem trT_at(m:List (List jN)){r c i j b:Nat}(h:b<c):(trT m r c i j).getD b []=(List.range r).map fun a=>trE m i j a b:=by
 unfold trT
 rw[List.getD_eq_getElem?_getD,List.getElem?_map,List.getElem?_range h];rfl
theorem trT_row(m:List (List jN)){r c i j b:Nat}(h:b<c):((trT m r c i j).getD b []).length=r:=by rw[trT_at m h];simp
theorem trT_set(m:List (List jN)){r c i j:Nat}(hi:i<r)(hj:j<c):(trT m r c i j).set j (((trT m r c i j).getD j []).set i ((m.getD i []).getD j qH))=trT m r c i (j+1):=by
 rw[trT_at m hj]
 refine List.ext_getElem (by rw[List.length_set,iL,iL]) fun b h1 h2=>?_
 rw[iL] at h2
 have g1:∀ q (h:b<(trT m r c i q).length),(trT m r c i q)[b]=(List.range r).map fun a=>trE m i q a b:=fun q h=>by simp [trT]
 rw[List.getElem_set,g1 (j+1)]
 split
 ·rename_i e;subst e
  refine List.ext_getElem (by simp) fun a h3 h4=>?_
  rw[List.getElem_set]
  simp only[List.getElem_map,List.getElem_range]
  split
  ·rename_i e;subst e
   unfold trE;rw[if_pos (by omega)]
  ·unfold trE
   by_cases h:a<i
   ·rw[if_pos (by omega),if_pos (by omega)]
   ·rw[if_neg (by omega),if_neg (by omega)]
 ·rw[g1 j]
  refine List.map_congr_left fun a _=>?_
  unfold trE
  by_cases h:a<i∨(a=i∧b<j)
  ·rw[if_pos h,if_pos (by omega)]
  ·rw[if_neg h,if_neg (by omega)]
theorem trT_next(m:List (List jN))(r c i:Nat):trT m r c i c=trT m r c (i+1) 0:=by
 unfold trT
 refine List.map_congr_left fun b hb=>List.map_congr_left fun a _=>?_
 have hb:=List.mem_range.1 hb
 unfold trE
 by_cases h:a<i+1
 ·rw[if_pos (by omega),if_pos (by omega)]
 ·rw[if_neg (by omega),if_neg (by omega)]
theorem trT_0(m:List (List jN))(r c:Nat):trT m r c 0 0=List.replicate c (List.replicate r (jQ ((0:Int):Rat))):=by
 unfold trT
 rw[List.eq_replicate_iff]
 refine ⟨by simp,fun l hl=>?_⟩
 obtain ⟨b,_,rfl⟩:=List.mem_map.1 hl
 rw[List.eq_replicate_iff]
 refine ⟨by simp,fun x hx=>?_⟩
 obtain ⟨a,_,rfl⟩:=List.mem_map.1 hx
 unfold trE;rw[if_neg (by omega)]
theorem trT_end(m:List (List jN))(r c:Nat):trT m r c r 0=iN m r c:=by
 unfold trT iN
 refine List.map_congr_left fun b hb=>List.map_congr_left fun a ha=>?_
 have ha:=List.mem_range.1 ha
 unfold trE;rw[if_pos (by omega)]
abbrev tdD (L:List (List jN)):List (List jS):=L.map (List.map jK)
theorem tdD_at{L:List (List jN)}(j:Nat):(tdD L).getD j []=(L.getD j []).map jK:=by
 rw[List.getD_eq_getElem?_getD,List.getD_eq_getElem?_getD,List.getElem?_map]
 cases L[j]?<;>rfl
theorem tdD_get{L:List (List jN)}{j:Nat}(h:j<L.length):(tdD L)[j]?=some ((L.getD j []).map jK):=by
 rw[List.getElem?_map,List.getD_eq_getElem?_getD,List.getElem?_eq_getElem h];rfl
theorem tdD_set{L:List (List jN)}(j:Nat)(r:List jN):(tdD L).set j (r.map jK)=tdD (L.set j r):=by
 show (L.map _).set j _=(L.set j r).map _
 rw[List.map_set]
theorem tdD_cells{L:List (List jN)}:∀ r∈tdD L,∀ e∈r,e.cells.length=4:=fun r hr e he=>by
 obtain ⟨l,_,rfl⟩:=List.mem_map.1 hr
 obtain ⟨x,_,rfl⟩:=List.mem_map.1 he
 rfl
theorem trM_at(m:List (List jN)){r c b:Nat}(h:b<c):(iN m r c).getD b []=(List.range r).map fun a=>(m.getD a []).getD b qH:=by
 unfold iN
 rw[List.getD_eq_getElem?_getD,List.getElem?_map,List.getElem?_range h];rfl
theorem trM_ok{m:List (List jN)}{N c:Nat}(hm:qS N m)(hr:yI m m.length c):qS N (iN m m.length c):=by
 have h1:=hr.r64
 have h2:=hr.c64
 refine ⟨fun l hl=>?_,by simp [iN];omega⟩
 obtain ⟨b,hb,rfl⟩:=List.mem_map.1 hl
 have hb:=List.mem_range.1 hb
 refine ⟨fun x hx=>?_,by simp;omega⟩
 obtain ⟨a,ha,rfl⟩:=List.mem_map.1 hx
 have ha:=List.mem_range.1 ha
 exact vM (uL (d:=[]) hm ha).1 (by rw[(hr.at ha).1];exact hb)
theorem bad_any{m:List (List jN)}{i:Nat}(hi:i<m.length)(h:zJ m (m.getD i [])=true):m.any (zJ m)=true:=by
 rw[List.any_eq_true]
 refine ⟨m.getD i [],?_,h⟩
 rw[List.getD_eq_getElem?_getD,List.getElem?_eq_getElem hi];exact List.getElem_mem _
theorem bad_none{m:List (List jN)}(h:∀ a,a<m.length→zJ m (m.getD a [])=false):m.any (zJ m)=false:=by
 rw[List.any_eq_false]
 intro l hl
 obtain ⟨i,hi,rfl⟩:=List.getElem_of_mem hl
 have:=h i hi
 rw[List.getD_eq_getElem?_getD,List.getElem?_eq_getElem hi] at this
 rw[show zJ m m[i]=false from this];simp
theorem up_bad{f:Nat→Bool}{i:Nat}(h:∀ a,a<i→f a=false)(hi:f i=false):∀ a,a<i+1→f a=false:=fun a ha=>by
 rcases Nat.lt_or_ge a i with h1 | h1
 ·exact h a h1
 ·obtain rfl:a=i:=by omega
  exact hi
def brX(x:jN):Bool:=if (decide (1<((x.num.gs.length:Nat):Int))||decide (1<((x.den.gs.length:Nat):Int)))=true then false else
 ((((x.num.gs.length:Nat):Int) == 0)||decide (((x.num.gs.getD 0 0:Nat):Int)<100000))&&((((x.den.gs.length:Nat):Int) == 0)||decide (((x.den.gs.getD 0 0:Nat):Int)≤100))
def shX(n:Nat)(x:jN):Bool:=!(decide (((n:Nat):Int)<((digR x:Nat):Int))||(decide (((n:Nat):Int)≤6)&&!(brX x)))
theorem shX_t{n:Nat}{x:jN}(h:(decide (((n:Nat):Int)<((digR x:Nat):Int))||(decide (((n:Nat):Int)≤6)&&!(brX x)))=true):shX n x=false:=by unfold shX;rw[h];rfl
theorem shX_f{n:Nat}{x:jN}(h:(decide (((n:Nat):Int)<((digR x:Nat):Int))||(decide (((n:Nat):Int)≤6)&&!(brX x)))=false):shX n x=true:=by unfold shX;rw[h];rfl
theorem shX_le{n:Nat}{x:jN}(h:shX n x=true):digR x≤n:=by
 unfold shX at h
 rw[Bool.not_eq_true',Bool.or_eq_false_iff,decide_eq_false_iff_not] at h
 omega
def shR(c n:Nat)(l:List jN):Bool:=decide (l.length≤c)&&l.all (shX n)
def shM(c n:Nat)(m:List (List jN)):Bool:=decide (m.length≤c)&&m.all (shR c n)
theorem all_up{α:Type}{f:α→Bool}{l:List α}{i:Nat}{d:α}(h:i<l.length)(ha:(l.take i).all f=true)(hf:f (l.getD i d)=true):(l.take (i+1)).all f=true:=by
 rw[take_all (d:=d) h,ha,hf];rfl
theorem all_no{α:Type}{f:α→Bool}{l:List α}{i:Nat}{d:α}(h:i<l.length)(hf:f (l.getD i d)=false):l.all f=false:=by
 cases hb:l.all f with
 |false=>rfl
 |true=>
  rw[List.getD_eq_getElem?_getD,List.getElem?_eq_getElem h,Option.getD_some,List.all_eq_true.1 hb _ (List.getElem_mem h)] at hf;cases hf
theorem shR_long{c n:Nat}{l:List jN}(h:((c:Nat):Int)<((l.length:Nat):Int)):shR c n l=false:=by unfold shR;rw[decide_eq_false (by omega)];rfl
theorem shR_no{c n:Nat}{l:List jN}(h:(l.all (shX n))=false):shR c n l=false:=by unfold shR;rw[h,Bool.and_false]
theorem shR_yes{c n:Nat}{l:List jN}(h0:¬ ((c:Nat):Int)<((l.length:Nat):Int))(h:(l.all (shX n))=true):shR c n l=true:=by unfold shR;rw[decide_eq_true (by omega),h];rfl
theorem shM_long{c n:Nat}{l:List (List jN)}(h:((c:Nat):Int)<((l.length:Nat):Int)):shM c n l=false:=by unfold shM;rw[decide_eq_false (by omega)];rfl
theorem shM_no{c n:Nat}{l:List (List jN)}(h:l.all (shR c n)=false):shM c n l=false:=by unfold shM;rw[h,Bool.and_false]
theorem shM_yes{c n:Nat}{l:List (List jN)}(h0:¬ ((c:Nat):Int)<((l.length:Nat):Int))(h:l.all (shR c n)=true):shM c n l=true:=by unfold shM;rw[decide_eq_true (by omega),h];rfl
theorem shM_ok{m:List (List jN)}{c n:Nat}(h:shM c n m=true)(hn:1≤n)(hc:c≤1000):qS n m:=by
 unfold shM at h
 simp only[Bool.and_eq_true,decide_eq_true_eq,List.all_eq_true] at h
 refine ⟨fun r hr=>?_,by omega⟩
 have h2:=h.2 r hr
 unfold shR at h2
 simp only[Bool.and_eq_true,decide_eq_true_eq,List.all_eq_true] at h2
 refine ⟨fun a ha=>?_,by omega⟩
 have h3:=shX_le (h2.2 a ha)
 unfold digR at h3
 exact qok_raw hn (by omega) (by omega)
section
variable {A B C r l:Rat}
end
theorem cb43:callB Tryz.prog 43=true:=by kernel_rfl
theorem cb101:callB Tryz.prog 101=true:=by kernel_rfl
theorem cb102:callB Tryz.prog 102=true:=by kernel_rfl
theorem z_whole5(x:Int)(hxl:-9223372036854775808≤x)(hxh:x≤9223372036854775807):jP Tryz.prog 102 [(.val (.int .i64 (x)))] (jK (jQ ((x:Int):Rat))):=by
 refine jI Tryz.func102 rfl cb102 rfl ?_
 show qJ _ _ _ _ ⟨[(0,(vi x))],[]⟩
 refine jB<|kx [(2,(.ref 0 0))] [(0,some (bx (jK qH)))] (zN (uF 0 uG uQ)<|zZ) ?_
 refine jB<|kx [] [(0,some (bx (jK (jQ ((x:Int):Rat)))))] (zM<|zE (jX (eD x (by omega) (by omega)))<|zT (qK jT)<|zZ) ?_
 refine jE ⟨_,(kN (cs:=(bx (jK (jQ ((x:Int):Rat))))) (d:=(jK (jQ ((x:Int):Rat)))) rfl rfl jT rfl rfl .nil),?_⟩
 rfl
theorem e_zeros(r c:Nat)(hr:r≤1000)(hc:c≤1000):vR Tryz.prog 101 [(.d (.val (.int .i64 ((r:Nat):Int)))),(.d (.val (.int .i64 ((c:Nat):Int))))] [] (.own 0 24 1 (List.replicate r (List.map jK (List.replicate c (jQ ((0:Int):Rat))))).length) (gN 45 4 (List.replicate r (List.map jK (List.replicate c (jQ ((0:Int):Rat)))))):=by
 refine hH Tryz.func101 rfl cb101 rfl ?_
 show qJ _ _ _ _ ⟨[(0,(jR r)),(1,(jR c))],[]⟩
 refine jB<|kx [] [] (zE (cT 24 1)<|zZ) ?_
 refine jB<|kx [(5,(.own 0 24 1 0))] [(0,some [])] (zN (oBo 0 uV ze24 zo24)<|zM<|zZ) ?_
 refine jB<|jB<|kx [(6,(jR 0))] [] (zM<|zZ) ?_
 refine jH<|kB (α:=Nat × List (List jS)) (fun (i,u)=>⟨[(0,(jR r)),(1,(jR c)),(5,(.own 0 24 1 u.length)),(6,(jR i))],gN 45 4 u⟩) (fun (i,u)=>i≤r∧u=List.replicate i (List.map jK (List.replicate c (jQ ((0:Int):Rat))))) (fun (i,u)=>r-i) (0,[]) wk ⟨Nat.zero_le _,rfl⟩ ?_
 rintro ⟨i,u⟩ ⟨hi,hu⟩
 have hul:u.length=i:=by rw[hu,List.length_replicate]
 refine jB<|jB<|kx [(12,(vb (decide (((i:Nat):Int)<((r:Nat):Int)))))] [] (zM<|zM<|zE xG<|zY) ?_
 refine jF rfl (fun h1=>?_) (fun h1=>?_)
 ·replace h1:=uW h1
  refine jD<|jB<|jH<|jB<|kr [(0,(jR r)),(1,(jR c)),(5,(.own 0 24 1 u.length)),(6,(jR i)),(7,(.own 1 45 4 0))] ((1,some (nD jK []))::gN 45 4 u) (zH (oBo (ps:=[]) 1 qY uG uQ) (h2:=tabA_frb)<|zM<|zI (xC (uB (by kernel_rfl)) (fun _ _ h=>h))) ?_
  refine jB<|jB<|kx [(8,(jR 0))] [] (zM<|zY) ?_
  refine jH<|kB (α:=Nat × List jN) (fun (j,v)=>⟨[(0,(jR r)),(1,(jR c)),(5,(.own 0 24 1 u.length)),(6,(jR i)),(7,(.own 1 45 4 v.length)),(8,(jR j))],(1,some (nD jK v))::gN 45 4 u⟩) (fun (j,v)=>j≤c∧v=List.replicate j (jQ ((0:Int):Rat))) (fun (j,v)=>c-j) (0,[]) (xC (uB (by kernel_rfl)) (fun _ _ h=>h)) ⟨Nat.zero_le _,rfl⟩ ?_
  rintro ⟨j,v⟩ ⟨hj,hv⟩
  have hvl:v.length=j:=by rw[hv,List.length_replicate]
  refine jB<|jB<|kx [(18,(vb (decide (((j:Nat):Int)<((c:Nat):Int)))))] [] (zM<|zM<|zE xG<|zY) ?_
  refine jF rfl (fun h2=>?_) (fun h2=>?_)
  ·replace h2:=uW h2
   refine jD<|jB<|jH<|kr [(0,(jR r)),(1,(jR c)),(5,(.own 0 24 1 u.length)),(6,(jR i)),(7,(.own 1 45 4 ((v++[(jQ ((0:Int):Rat))]).length))),(8,(jR j))] ((1,some (nD jK (v++[(jQ ((0:Int):Rat))])))::gN 45 4 u) (zM<|zE (jX (z_whole5 0 (by omega) (by omega)))<|zE (eC qY uG uQ)<|zAS jK v [(jQ ((0:Int):Rat))] rfl qY uG by45 (hB:=tabA_clr)<|zM<|zI (xC (uB (by kernel_rfl)) bget_dup)) ?_
   refine kx [(8,(jR (j+1)))] [] (zM<|zE (vT (j+1))<|zM<|zY) ?_
   exact ⟨(j+1,v++[jQ ((0:Int):Rat)]),xC (uB (by kernel_rfl)) (fun _ _ h=>h),⟨by omega,by rw[hv,List.replicate_succ']⟩,(by first|omega|(dsimp only;omega))⟩
  ·replace h2:=uX h2
   obtain rfl:j=c:=by omega
   refine kC<|pwp_fixS 7 rfl (fun ao cap=>?_)
   refine kr [(0,(jR r)),(1,(jR j)),(5,(.own 0 24 1 ((u++[List.map jK v]).length))),(6,(jR i))] (gN 45 4 (u++[List.map jK v])) (zM<|zE (oMvx (k:=1) (T:=45) (s:=4) (n:=v.length) (u:=.slice ao v.length cap))<|zE (eC uV ze24 zo24)<|zX (tab_app (rows:=u) (d:=.val (.slice ao v.length cap)) (by exact rfl) (by kernel_rfl) uV ze24 (by kernel_rfl) by24 (by exact rfl) rfl (by exact rfl) tabA_clr0 (by exact rfl) rfl (by unfold maxLen;omega) (by omega) (show u.length+1=(u++[List.map jK v]).length by simp)) (by kernel_rfl)<|zM<|zI (tab_push 7 (List.length_map _) (by kernel_rfl) rfl rfl tabA_rows (by kernel_rfl) (by kernel_rfl))) ?_
   refine kx [(6,(jR (i+1)))] [] (zM<|zE (vT (i+1))<|zM<|zY) ?_
   exact ⟨(i+1,u++[List.map jK v]),xC (uB (by kernel_rfl)) (fun _ _ h=>h),⟨by omega,by rw[hu,hv,List.replicate_succ']⟩,(by first|omega|(dsimp only;omega))⟩
 ·replace h1:=uX h1
  obtain rfl:i=r:=by omega
  refine kC<|jB<|kx [(4,(.own 0 24 1 u.length))] [] (zM<|zM<|zY) ?_
  refine jE ⟨fun k c h=>?_,yZ (by kernel_rfl),.inr (.inl ⟨4,rfl,?_⟩)⟩
  ·rw[← hu] at h;exact h
  ·rw[← hu];rfl
theorem e_trans(m:List (List jN))(hm:qS 1048576 m)(hr:yI m m.length (m.getD 0 []).length):jP Tryz.prog 43 [(.sl 24 1 (List.map jG m))] (.sl 24 1 (List.map jG (iN m m.length (m.getD 0 []).length))):=by
 have hmb:=hr.r64
 have hm1:=hr.r1
 have hcb:=hr.c64
 have e0:List.replicate (m.getD 0 []).length (List.map jK (List.replicate m.length (jQ ((0:Int):Rat))))=tdD (trT m m.length (m.getD 0 []).length 0 0):=by rw[trT_0];simp
 have hz:=e_zeros (m.getD 0 []).length m.length (by omega) (by omega)
 rw[e0] at hz
 have hl:∀ i j,(tdD (trT m m.length (m.getD 0 []).length i j)).length=(m.getD 0 []).length:=fun i j=>by rw[List.length_map,iL]
 refine jI Tryz.func43 rfl cb43 rfl ?_
 show qJ _ _ _ _ ⟨[(0,(vl 24 1 jG m))],[]⟩
 refine jB<|kx [] [] (zE (cT 24 1)<|zZ) ?_
 refine jB<|kr [(0,(vl 24 1 jG m)),(3,(.own 0 24 1 (m.getD 0 []).length))] (gN 45 4 (tdD (trT m m.length (m.getD 0 []).length 0 0))) (zM<|zE (xJ uV 0 ([]:List (jN)) (L:=m))<|zE (xO gB)<|zE (uE qY (L:=(m.getD 0 [])))<|zM<|zE (uE uV (L:=m))<|zTab (ds:=[.val (.int .i64 ((m.getD 0 []).length:Nat)),.val (.int .i64 (m.length:Nat))]) hz (hl 0 0)<|zM<|zI (xC (uB (by kernel_rfl)) (fun _ _ h=>h))) ?_
 refine jB<|jB<|kx [(4,(jR 0))] [] (zM<|zY) ?_
 refine jH<|kB (α:=Nat) (fun i=>⟨[(0,(vl 24 1 jG m)),(3,(.own 0 24 1 (m.getD 0 []).length)),(4,(jR i))],gN 45 4 (tdD (trT m m.length (m.getD 0 []).length i 0))⟩) (fun i=>i≤m.length) (fun i=>m.length-i) 0 (xC (uB (by kernel_rfl)) (fun _ _ h=>h)) (Nat.zero_le _) ?_
 rintro i hi
 refine jB<|jB<|kx [(16,(vb (decide (((i:Nat):Int)<((m.length:Nat):Int)))))] [] (zM<|zM<|zE (uE uV (L:=m))<|zE xG<|zY) ?_
 refine jF rfl (fun h1=>?_) (fun h1=>?_)
 ·replace h1:=uW h1
  have hir:i<m.length:=by omega
  have hri:=(hr.at hir).1
  refine jD<|jB<|jH<|jB<|kx [(5,(jR 0))] [] (zM<|zY) ?_
  refine jH<|kB (α:=Nat) (fun j=>⟨[(0,(vl 24 1 jG m)),(3,(.own 0 24 1 (m.getD 0 []).length)),(4,(jR i)),(5,(jR j))],gN 45 4 (tdD (trT m m.length (m.getD 0 []).length i j))⟩) (fun j=>j≤(m.getD 0 []).length) (fun j=>(m.getD 0 []).length-j) 0 (xC (uB (by kernel_rfl)) (fun _ _ h=>h)) (Nat.zero_le _) ?_
  rintro j hj
  refine jB<|jB<|kx [(25,(vb (decide (((j:Nat):Int)<(((m.getD i []).length:Nat):Int)))))] [] (zM<|zM<|zM<|zE (xJ uV i ([]:List (jN)) (L:=m))<|zE (xO gB)<|zE (uE qY (L:=(m.getD i [])))<|zE xG<|zY) ?_
  refine jF rfl (fun h2=>?_) (fun h2=>?_)
  ·replace h2:=uW h2
   have hjc:j<(m.getD 0 []).length:=by omega
   have hrl:((tdD (trT m m.length (m.getD 0 []).length i j)).getD j []).length=m.length:=by rw[tdD_at,List.length_map,trT_row m hjc]
   have hrl2:=trT_row m (r:=m.length) (i:=i) (j:=j) hjc
   have hlj:=hl i j
   have hjt:j<(tdD (trT m m.length (m.getD 0 []).length i j)).length:=by omega
   refine jD<|jB<|jH<|kdr [(0,(vl 24 1 jG m)),(3,(.own 0 24 1 (m.getD 0 []).length)),(4,(jR i)),(5,(jR j))] (gN 45 4 (tdD (trT m m.length (m.getD 0 []).length i (j+1)))) mo (wM<|wM<|wE (fV uV j)<|wR (tab_ld gB hjt hrl)<|wM<|wM<|wM<|wE (xJ uV i ([]:List (jN)) (L:=m))<|wE (xO gB)<|wM<|wE (xJ qY j qH (L:=(m.getD i [])))<|wE (nR jT)<|wE (oXO qY i)<|wT (oSA (F:=jK) (L:=(trT m m.length (m.getD 0 []).length i j).getD j []) jT i ((m.getD i []).getD j qH) (hb:=by exact tabA_row (r:=((trT m m.length (m.getD 0 []).length i j).getD j []).map jK) (tdD_get (by rw[iL];exact hjc))))<|wI (by
    rw[← trT_set m hir hjc,← tdD_set]
    exact tab_set (by rw[hrl,List.length_map,List.length_set,hrl2]) hjt (by kernel_rfl))) ?_
   refine kx [(5,(jR (j+1)))] [] (zM<|zE (vT (j+1))<|zM<|zY) ?_
   exact ⟨j+1,xC (uB (by kernel_rfl)) (fun _ _ h=>h),by omega,by omega⟩
  ·replace h2:=uX h2
   obtain rfl:j=(m.getD 0 []).length:=by omega
   refine kC<|kx [(4,(jR (i+1)))] [] (zM<|zE (vT (i+1))<|zM<|zY) ?_
   refine ⟨i+1,?_,by omega,by omega⟩
   rw[← trT_next]
   exact xC (uB (by kernel_rfl)) (fun _ _ h=>h)
 ·replace h1:=uX h1
  obtain rfl:i=m.length:=by omega
  refine kC<|jB<|kx [(2,(.own 0 24 1 (m.getD 0 []).length))] [] (zM<|zM<|zY) ?_
  have hp:=tab_pub (S:=up [(2,(.own 0 24 1 (m.getD 0 []).length))] (up [(16,(vb (decide (((m.length:Nat):Int)<((m.length:Nat):Int)))))] [(0,(vl 24 1 jG m)),(3,(.own 0 24 1 (m.getD 0 []).length)),(4,(jR m.length))])) (E:=45) (s:=4) (tdD (trT m m.length (m.getD 0 []).length m.length 0)) tdD_cells
  rw[List.map_map] at hp
  refine kV hp ?_
  refine kV (vN (t:=2) (k:=0) (es:=List.map jG (trT m m.length (m.getD 0 []).length m.length 0)) rfl rfl (uI _ _ (fun _=>rfl)) (uT _ _ (iL _ _ _ _ _)) (vH _ _ (fun _=>rfl) (iL _ _ _ _ _))) ?_
  refine jE ⟨_,(.tmp (d:=(.sl 24 1 (List.map jG (trT m m.length (m.getD 0 []).length m.length 0)))) rfl .nil),?_⟩
  rw[trT_end];rfl
end Go.Proofs.YtnajallgoaiahaaGreatDoor
namespace Go.Fid
theorem gs0(a:R2):vA (gw 0) a=gneg a:=by
 unfold vA gw gneg
 rw[show ((0:Int):Rat)=0 from rfl,Rat.sub_eq_add_neg,Rat.sub_eq_add_neg,Rat.zero_add,Rat.zero_add]
def bV(s:Nat):Nat:=9*s-1
def bG(s:Nat):Nat:=19*(s*s)
def dC(v:R2)(g:Nat→R2)(s:Nat):Prop:=GL (bV s) v∧∀ i,GL (bG s) (g i)
def BdOk(ss:List Int)(L:List JV):Prop:=∀ j,j<L.length→∃ s:Nat,ss.getD j 0=(s:Int)∧1≤s∧dC (L.getD j jz).v (fun i=>(L.getD j jz).g.getD i z2) s
theorem gl_0:GL 3 (gw 0):=gl_w (z:=0) (by omega) (by omega)
theorem gl_1:GL 3 (gw 1):=gl_w (z:=1) (by omega) (by omega)
theorem gl_2:GL 3 (gw 2):=gl_w (z:=2) (by omega) (by omega)
theorem sq_sum(s r:Nat):(s+r)*(s+r)=s*s+r*r+2*(s*r):=by
 rw[Nat.add_mul,Nat.mul_add,Nat.mul_add,Nat.mul_comm r s];omega
theorem sr_le{s r:Nat}(hs:1≤s)(hr:1≤r):s+r≤2*(s*r):=by
 have h1:s*1≤s*r:=Nat.mul_le_mul (Nat.le_refl _) hr
 have h2:1*r≤s*r:=Nat.mul_le_mul hs (Nat.le_refl _)
 omega
theorem dC.pt{v:R2}{g:Nat→R2}(hv:GL 8 v)(hg:∀ i,GL 3 (g i)):dC v g 1:=⟨hv,fun i=>uA (hg i) (by decide)⟩
theorem dC.add{v w:R2}{g h:Nat→R2}{s r:Nat}(hs:1≤s)(hr:1≤r)(a:dC v g s)(b:dC w h r):dC (hZ v w) (fun i=>hZ (g i) (h i)) (s+r):=by
 have e:=sq_sum s r
 have e2:=sr_le hs hr
 exact ⟨gl_add a.1 b.1 (by unfold bV;omega),fun i=>gl_add (a.2 i) (b.2 i) (by unfold bG;omega)⟩
theorem dC.sub{v w:R2}{g h:Nat→R2}{s r:Nat}(hs:1≤s)(hr:1≤r)(a:dC v g s)(b:dC w h r):dC (vA v w) (fun i=>vA (g i) (h i)) (s+r):=by
 have e:=sq_sum s r
 have e2:=sr_le hs hr
 exact ⟨aJ a.1 b.1 (by unfold bV;omega),fun i=>aJ (a.2 i) (b.2 i) (by unfold bG;omega)⟩
theorem dC.mul{v w:R2}{g h:Nat→R2}{s r:Nat}(hs:1≤s)(hr:1≤r)(a:dC v g s)(b:dC w h r):dC (xI v w) (fun i=>hZ (xI v (h i)) (xI w (g i))) (s+r):=by
 have e:=sq_sum s r
 have e2:=sr_le hs hr
 exact ⟨nK a.1 b.1 (by unfold bV;omega),fun i=>gl_add (nK a.1 (b.2 i) (Nat.le_refl _)) (nK b.1 (a.2 i) (Nat.le_refl _)) (by unfold bV bG;omega)⟩
theorem dC.div{v w:R2}{g h:Nat→R2}{s r:Nat}(hs:1≤s)(hr:1≤r)(a:dC v g s)(b:dC w h r):dC (eI v w) (fun i=>eI (vA (g i) (xI (eI v w) (h i))) w) (s+r):=by
 have e:=sq_sum s r
 have e2:=sr_le hs hr
 have hq:GL (bV (s+r)) (eI v w):=gl_div a.1 b.1 (by unfold bV;omega)
 exact ⟨hq,fun i=>gl_div (aJ (a.2 i) (nK hq (b.2 i) (Nat.le_refl _)) (Nat.le_refl _)) b.1 (by unfold bV bG;omega)⟩
theorem dC.neg{v:R2}{g:Nat→R2}{s:Nat}(a:dC v g s):dC (vA (gw 0) v) (fun i=>vA (gw 0) (g i)) s :=
 ⟨by rw[gs0];exact gl_neg a.1,fun i=>by show GL _ (vA (gw 0) (g i));rw[gs0];exact gl_neg (a.2 i)⟩
theorem dC.sq{v:R2}{g:Nat→R2}{s:Nat}(hs:1≤s)(a:dC v g s):dC (gsq v) (fun i=>xI (gw 2) (xI v (g i))) (2*s):=by
 have e:=sq_sum s s
 have e2:=sr_le hs hs
 rw[show 2*s=s+s by omega]
 exact ⟨gl_sq a.1 (by unfold bV;omega),fun i=>nK gl_2 (nK a.1 (a.2 i) (Nat.le_refl _)) (by unfold bV bG;omega)⟩
theorem nJ_get{bx:List R2}{L:List JV}{x:kW}{s:Nat}(h1:1≤s)(h:dC (nV bx L x) (nG bx L x) s):dC (nJ bx L x).v (fun i=>(nJ bx L x).g.getD i z2) s:=by
 refine ⟨h.1,fun i=>?_⟩
 have h2:s*1≤s*s:=Nat.mul_le_mul (Nat.le_refl _) h1
 show GL _ ((nJ bx L x).g.getD i z2)
 unfold nJ jk
 dsimp only
 rw[List.getD_eq_getElem?_getD,List.getElem?_map]
 rcases Nat.lt_or_ge i bx.length with h3 | h3
 ·rw[List.getElem?_range h3];exact h.2 i
 ·rw[List.getElem?_eq_none (by simpa using h3)]
  exact ⟨vC nI (by unfold bG;omega),vC nI (by unfold bG;omega),Rat.le_refl⟩
theorem bd_at{ss:List Int}{L:List JV}(h:BdOk ss L){a:Int}(h0:0≤a)(h1:a<L.length):∃ s:Nat,ss.getD a.toNat 0=(s:Int)∧1≤s∧dC (jA L a).v (fun i=>(jA L a).g.getD i z2) s:=h a.toNat (by omega)
theorem bd_node{z:Int}{ss:List Int}{L:List JV}{bx:List R2}{x:kW}(hk:ndC z ss x=0)(hl:ss.length=L.length)(hq:mI x.n (qM x.n) 8)(hb:∀ y∈bx,GL 8 y)(h:BdOk ss L) :
  ∃ s:Nat,szN ss x=(s:Int)∧1≤s∧dC (nV bx L x) (nG bx L x) s:=by
 obtain ⟨h1,h2,h3,_⟩:=nd_0 hk
 unfold fQ at h1
 unfold bW at h2
 rcases fD x.op with ⟨e,f⟩ | ⟨e,f⟩ | ⟨e,f⟩ | ⟨e,f⟩
 ·refine ⟨1,by unfold szN;rw[if_pos e];rfl,Nat.le_refl _,?_⟩
  rcases f with f | f
  ·refine .pt ?_ fun i=>?_
   ·unfold nV;rw[if_pos f];exact gl_pt hq.ql
   ·unfold nG;rw[if_pos f];exact gl_0
  ·refine .pt ?_ fun i=>?_
   ·unfold nV;rw[if_neg (by omega),if_pos f];exact xB hb (by decide) _
   ·unfold nG;rw[if_neg (by omega),if_pos f];split
    ·exact gl_1
    ·exact gl_0
 ·obtain ⟨s,e1,e2,e3⟩:=bd_at h (a:=x.a) (by omega) (by omega)
  rcases f with f | f
  ·refine ⟨s,by unfold szN;rw[if_neg (by omega),if_pos f];exact e1,e2,?_⟩
   have e4:=e3.neg
   unfold nV nG;simp only[f];exact e4
  ·refine ⟨2*s,by unfold szN;rw[if_neg (by omega),if_neg (by omega),if_pos f,e1];omega,by omega,?_⟩
   have e4:=e3.sq e2
   unfold nV nG;simp only[f];exact e4
 ·obtain ⟨s,e1,e2,e3⟩:=bd_at h (a:=x.a) (by omega) (by omega)
  obtain ⟨r,g1,g2,g3⟩:=bd_at h (a:=x.b) (by omega) (by omega)
  refine ⟨s+r,by unfold szN;rw[if_neg (by omega),if_neg (by omega),if_neg (by omega),e1,g1];omega,by omega,?_⟩
  rcases f with f | f | f | f
  ·have e4:=e3.add e2 g2 g3
   unfold nV nG;simp only[f];exact e4
  ·have e4:=e3.sub e2 g2 g3
   unfold nV nG;simp only[f];exact e4
  ·have e4:=e3.mul e2 g2 g3
   unfold nV nG;simp only[f];exact e4
  ·have e4:=e3.div e2 g2 g3
   unfold nG;unfold nV;simp only[f];exact e4
 ·omega
theorem getD_snoc{α:Type}{l:List α}{x d:α}{j:Nat}:(l++[x]).getD j d=if j<l.length then l.getD j d else if j=l.length then x else d:=by
 rw[List.getD_eq_getElem?_getD,List.getD_eq_getElem?_getD]
 split
 ·rename_i h;rw[List.getElem?_append_left h]
 ·rename_i h
  rw[List.getElem?_append_right (by omega)]
  split
  ·rename_i e;subst e;rw[Nat.sub_self];rfl
  ·rename_i e;rw[List.getElem?_eq_none (by simp;omega)];rfl
structure fR (bx:List R2) (t:List kW):Prop where
 c0:cB ((bx.length:Nat):Int) t=0
 q:∀ x∈t,mI x.n (qM x.n) 8
 b:∀ y∈bx,GL 8 y
 s:∀ k,k<t.length→szN (cL t k) (t.getD k tz)≤200
theorem mem_getD{α:Type}{l:List α}{d:α}{k:Nat}(h:k<l.length):l.getD k d∈l:=by
 rw[List.getD_eq_getElem?_getD,List.getElem?_eq_getElem h];exact List.getElem_mem _
theorem fR.bd{bx:List R2}{t:List kW}(h:fR bx t):∀ {k:Nat},k≤t.length→BdOk (cL t k) (jU bx t k)
 |0,_=>fun j hj=>by simp [jU] at hj
 |k+1,hk=>fun j hj=>by
  have ih:=h.bd (k:=k) (by omega)
  have l1:=gV t k
  have l2:=dQ bx t k
  rw[dQ] at hj
  have g1:(cL t (k+1)).getD j 0=_:=getD_snoc
  have g2:(jU bx t (k+1)).getD j jz=_:=getD_snoc
  rcases Nat.lt_or_ge j k with hjk | hjk
  ·rw[if_pos (by omega)] at g1 g2
   rw[g1,g2];exact ih j (by omega)
  ·rw[if_neg (by omega),if_pos (by omega)] at g1 g2
   rw[g1,g2]
   obtain ⟨s,e1,e2,e3⟩:=bd_node ((tm_0 h.c0).2.2.2.2 k (by omega)) (l1.trans l2.symm) (h.q _ (mem_getD (by omega))) h.b ih
   exact ⟨s,e1,e2,nJ_get e2 e3⟩
theorem bd_200{s:Nat}(h:s≤200):bV s≤1048576∧bG s≤1048576:=by
 have h2:s*s≤200*200:=Nat.mul_le_mul h h
 unfold bV bG;omega
theorem fR.jok{bx:List R2}{t:List kW}(h:fR bx t){k:Nat}(hk:k<t.length):mD 1048576 bx.length (nJ bx (jU bx t k) (t.getD k tz)):=by
 obtain ⟨s,e1,e2,e3⟩:=bd_node ((tm_0 h.c0).2.2.2.2 k hk) ((gV t k).trans (dQ bx t k).symm) (h.q _ (mem_getD hk)) h.b (h.bd (Nat.le_of_lt hk))
 have e4:=h.s k hk
 obtain ⟨e5,e6⟩:=bd_200 (s:=s) (by omega)
 exact jk_ok (uA e3.1 e5) fun i _=>uA (e3.2 i) e6
theorem fR.upto{bx:List R2}{t:List kW}(h:fR bx t):∀ {k},k≤t.length→∀ y∈jU bx t k,mD 1048576 bx.length y
 |0,_,y,hy=>by simp [jU] at hy
 |k+1,hk,y,hy=>by
  rw[jU,List.mem_append] at hy
  rcases hy with hy | hy
  ·exact h.upto (by omega) y hy
  ·rw[List.mem_singleton] at hy;subst hy
   exact h.jok (by omega)
def dzB(bx:List R2)(t:List kW)(k:Nat):Bool:=decide ((t.getD k tz).op=5)&&gS (jA (jU bx t k) (t.getD k tz).b).v.1 (jA (jU bx t k) (t.getD k tz).b).v.2
def dzT(bx:List R2)(t:List kW):Bool:=(List.range t.length).any (dzB bx t)
structure FstDz (bx:List R2) (t:List kW) (k:Nat):Prop where
 lt:k<t.length
 no:∀ j,j<k→dzB bx t j=false
 yes:dzB bx t k=true
theorem fst_any{p:Nat→Bool}:∀ {n:Nat},(List.range n).any p=true→∃ k,k<n∧(∀ j,j<k→p j=false)∧p k=true
 |0,h=>by simp at h
 |n+1,h=>by
  cases hn:(List.range n).any p with
  |true=>
   obtain ⟨k,h1,h2,h3⟩:=fst_any hn
   exact ⟨k,by omega,h2,h3⟩
  |false=>
   rw[List.range_succ,List.any_append,hn] at h
   refine ⟨n,by omega,fun j hj=>?_,by simpa using h⟩
   cases hp:p j with
   |false=>rfl
   |true=>rw[List.any_eq_true.2 ⟨j,List.mem_range.2 hj,hp⟩] at hn;cases hn
theorem dz_fst{bx:List R2}{t:List kW}(h:dzT bx t=true):∃ k,FstDz bx t k:=by
 obtain ⟨k,h1,h2,h3⟩:=fst_any h
 exact ⟨k,h1,h2,h3⟩
theorem dz_no{bx:List R2}{t:List kW}(h:dzT bx t=false){k:Nat}(hk:k<t.length):dzB bx t k=false:=by
 cases hp:dzB bx t k with
 |false=>rfl
 |true=>unfold dzT at h;rw[List.any_eq_true.2 ⟨k,List.mem_range.2 hk,hp⟩] at h;cases h
theorem dz_at{bx:List R2}{t:List kW}{k:Nat}(h:dzB bx t k=false)(ho:(t.getD k tz).op=5):gS (jA (jU bx t k) (t.getD k tz).b).v.1 (jA (jU bx t k) (t.getD k tz).b).v.2=false:=by
 unfold dzB at h;rw[decide_eq_true ho,Bool.true_and] at h;exact h
theorem fR.run{bx:List R2}{t:List kW}(h:fR bx t)(hd:dzT bx t=false):bI bx t:=⟨h.c0,fun k hk=>h.jok hk,fun k hk ho=>dz_at (dz_no hd hk) ho⟩
theorem fR.up{bx:List R2}{t:List kW}(h:fR bx t):∀ x∈t,mI x.n (qM x.n) 1048576:=fun x hx=>jV (h.q x hx) (by decide)
theorem fR.nd{bx:List R2}{t:List kW}(h:fR bx t){k:Nat}(hk:k<t.length)(hd:dzB bx t k=false):NdOk bx.length (jU bx t k) (t.getD k tz) :=
 nd_ok ((tm_0 h.c0).2.2.2.2 k hk) (gV t k) (h.up _ (mem_getD hk)) (dz_at hd)
def DzOk(L:List JV)(x:kW):Prop:=∃ a b:Nat,x=⟨5,(a:Int),(b:Int),zr⟩∧a<L.length∧b<L.length∧gS (L.getD b jz).v.1 (L.getD b jz).v.2=true
theorem fR.dz{bx:List R2}{t:List kW}(h:fR bx t){k:Nat}(hk:k<t.length)(hd:dzB bx t k=true):DzOk (jU bx t k) (t.getD k tz):=by
 have hc:=(tm_0 h.c0).2.2.2.2 k hk
 obtain ⟨h1,h2,h3,_⟩:=nd_0 hc
 rw[gV] at h2
 have hl:=dQ bx t k
 unfold dzB at hd
 rw[Bool.and_eq_true,decide_eq_true_eq] at hd
 generalize t.getD k tz=x at *
 generalize jU bx t k=L at *
 obtain ⟨op,a,b,n⟩:=x
 unfold fQ at h1
 unfold bW at h2
 dsimp only at *
 obtain ⟨e,hz⟩:=hd
 subst e
 have e5:xS 5=2:=rfl
 rw[e5] at h2
 have hu:n=zr:=uns_eq (by
  cases hh:unsB n with
  |true=>rfl
  |false=>exact absurd (Or.inr (Or.inr (Or.inr ⟨by decide,hh⟩))) h1)
 obtain ⟨m,hm⟩:=nat_of (a:=a) (by omega)
 subst hm
 obtain ⟨l,hl'⟩:=nat_of (a:=b) (by omega)
 subst hl'
 subst hu
 refine ⟨m,l,rfl,by omega,by omega,?_⟩
 unfold jA at hz
 rwa [Int.toNat_natCast] at hz
theorem nd_mono{z w:Int}(hw:z≤w){ss:List Int}{x:kW}(h:ndC z ss x=0):ndC w ss x=0:=by
 obtain ⟨h1,h2,h3,h4⟩:=nd_0 h
 exact nd_y h1 h2 (fun h=>h3 (by unfold rngN at *;omega)) (by omega)
theorem tm_mono{z w:Int}(hw:z≤w)(h6:w≤64){t:List kW}(h:cB z t=0):cB w t=0:=by
 obtain ⟨h1,h2,h3,h4,h5⟩:=tm_0 h
 exact (tm_yes (by omega) h3 (by omega) fun i hi=>nd_mono hw (h5 i hi)).1
theorem szU_mem{t:List kW}:∀ {n k:Nat},k<n→szN (cL t k) (t.getD k tz)∈cL t n
 |0,k,h=>by omega
 |n+1,k,h=>by
  rw[cL,List.mem_append]
  rcases Nat.lt_or_ge k n with h1 | h1
  ·exact .inl (szU_mem h1)
  ·obtain rfl:k=n:=by omega
   exact .inr (List.mem_singleton.2 rfl)
def StOk(n:Nat)(L:List JV)(x:kW):Prop:=NdOk n L x∨DzOk L x
theorem StOk.kd{n:Nat}{L:List JV}{x:kW}(h:StOk n L x):xS x.op=0∨xS x.op=1∨xS x.op=2:=by
 rcases h with h | ⟨a,b,rfl,_⟩
 ·cases h<;>first | exact .inl rfl | exact .inr (.inl rfl) | exact .inr (.inr rfl)
 ·exact .inr (.inr rfl)
theorem StOk.a{n:Nat}{L:List JV}{x:kW}(h:StOk n L x)(h1:1≤xS x.op):0≤x.a∧x.a.toNat<L.length:=by
 rcases h with h | ⟨a,b,rfl,ha,_⟩
 ·cases h with
  |c hp=>exact absurd h1 (by show ¬ (1:Int)≤xS 0;decide)
  |v ha=>exact absurd h1 (by show ¬ (1:Int)≤xS 1;decide)
  |add ha hb=>exact ⟨by show 0≤((_:Nat):Int);omega,by show (((_:Nat):Int)).toNat<_;rwa [Int.toNat_natCast]⟩
  |sub ha hb=>exact ⟨by show 0≤((_:Nat):Int);omega,by show (((_:Nat):Int)).toNat<_;rwa [Int.toNat_natCast]⟩
  |mul ha hb=>exact ⟨by show 0≤((_:Nat):Int);omega,by show (((_:Nat):Int)).toNat<_;rwa [Int.toNat_natCast]⟩
  |div ha hb hz=>exact ⟨by show 0≤((_:Nat):Int);omega,by show (((_:Nat):Int)).toNat<_;rwa [Int.toNat_natCast]⟩
  |neg ha=>exact ⟨by show 0≤((_:Nat):Int);omega,by show (((_:Nat):Int)).toNat<_;rwa [Int.toNat_natCast]⟩
  |sq ha=>exact ⟨by show 0≤((_:Nat):Int);omega,by show (((_:Nat):Int)).toNat<_;rwa [Int.toNat_natCast]⟩
 ·exact ⟨by show 0≤((_:Nat):Int);omega,by show (((_:Nat):Int)).toNat<_;rwa [Int.toNat_natCast]⟩
theorem StOk.b{n:Nat}{L:List JV}{x:kW}(h:StOk n L x)(h2:xS x.op=2):0≤x.b∧x.b.toNat<L.length:=by
 rcases h with h | ⟨a,b,rfl,_,hb,_⟩
 ·cases h with
  |c hp=>exact absurd h2 (by show ¬ xS 0=2;decide)
  |v ha=>exact absurd h2 (by show ¬ xS 1=2;decide)
  |add ha hb=>exact ⟨by show 0≤((_:Nat):Int);omega,by show (((_:Nat):Int)).toNat<_;rwa [Int.toNat_natCast]⟩
  |sub ha hb=>exact ⟨by show 0≤((_:Nat):Int);omega,by show (((_:Nat):Int)).toNat<_;rwa [Int.toNat_natCast]⟩
  |mul ha hb=>exact ⟨by show 0≤((_:Nat):Int);omega,by show (((_:Nat):Int)).toNat<_;rwa [Int.toNat_natCast]⟩
  |div ha hb hz=>exact ⟨by show 0≤((_:Nat):Int);omega,by show (((_:Nat):Int)).toNat<_;rwa [Int.toNat_natCast]⟩
  |neg ha=>exact absurd h2 (by show ¬ xS 6=2;decide)
  |sq ha=>exact absurd h2 (by show ¬ xS 7=2;decide)
 ·exact ⟨by show 0≤((_:Nat):Int);omega,by show (((_:Nat):Int)).toNat<_;rwa [Int.toNat_natCast]⟩
theorem NdOk.op{n:Nat}{L:List JV}{x:kW}(h:NdOk n L x):x.op=0∨x.op=1∨x.op=2∨x.op=3∨x.op=4∨x.op=5∨x.op=6∨x.op=7:=by
 cases h<;>simp
theorem DzOk.kd{L:List JV}{x:kW}(h:DzOk L x):xS x.op=2:=by
 obtain ⟨a,b,rfl,_⟩:=h
 rfl
structure DEnd (bx:List R2) (t:List kW) (k0:Nat):Prop where
 c0:cB ((bx.length:Nat):Int) t=0
 le:k0≤t.length
 nd:∀ j,j<k0→NdOk bx.length (jU bx t j) (t.getD j tz)
 ok:∀ j,j≤k0→∀ y∈jU bx t j,mD 1048576 bx.length y
 nv:∀ j,j<k0→mD 1048576 bx.length (nJ bx (jU bx t j) (t.getD j tz))
 dz:k0<t.length→DzOk (jU bx t k0) (t.getD k0 tz)
theorem DEnd.st{bx:List R2}{t:List kW}{k0 k:Nat}(h:DEnd bx t k0)(hk:k≤k0)(hl:k<t.length):StOk bx.length (jU bx t k) (t.getD k tz):=by
 rcases Nat.lt_or_ge k k0 with h1 | h1
 ·exact .inl (h.nd k h1)
 ·obtain rfl:k=k0:=by omega
  exact .inr (h.dz hl)
theorem DEnd.last{bx:List R2}{t:List kW}(h:DEnd bx t t.length):mD 1048576 bx.length (hP bx t):=by
 have h0:=tm_0 h.c0
 have hl:=dQ bx t t.length
 refine h.ok t.length (Nat.le_refl _) _ ?_
 unfold hP
 exact mem_getD (by omega)
end Go.Fid
namespace Go.Proofs.YtnajallgoaiahaaGreatDoor
open Go.Fid
theorem ptr_ok{l:List jN}{n:Nat}(h:uJ n l):∀ a∈List.map (fun x=>jZ.mk x x) l,GOk n a:=fun a ha=>by
 obtain ⟨x,hx,rfl⟩:=List.mem_map.1 ha
 exact ⟨h.1 x hx,h.1 x hx⟩
theorem validG_pp(x:jN):uO ⟨x,x⟩=kL x:=by
 unfold uO
 rw[decide_eq_true Rat.le_refl,Bool.and_true,Bool.and_self]
theorem ptr_all(l:List jN):(List.map (fun x=>jZ.mk x x) l).all uO=yA l:=by
 unfold yA
 induction l with
 |nil=>rfl
 |cons x l ih=>rw[List.map_cons,List.all_cons,List.all_cons,ih,validG_pp]
end Go.Proofs.YtnajallgoaiahaaGreatDoor
namespace Go.Proofs.YtnajallgoaiahaaGreatDoor
open Go.Fid
def dgB(x:kW):Bool:=decide (digR x.n≤8)
def szB(m:Nat)(s:Int):Bool:=decide (s≤(m:Int))
def cR(n m:Nat)(t:List kW):Bool:=decide (t.length≤n)&&(t.all dgB&&(decide (cB 8 t≠0)||(tmL 8 t).all (szB m)))
theorem fewT_long{n m:Nat}{t:List kW}(h:((n:Nat):Int)<((t.length:Nat):Int)):cR n m t=false:=by unfold cR;rw[decide_eq_false (by omega)];rfl
theorem fewT_dig{n m:Nat}{t:List kW}(h:t.all dgB=false):cR n m t=false:=by unfold cR;rw[h,Bool.false_and,Bool.and_false]
theorem fewT_code{n m:Nat}{t:List kW}(h0:¬ ((n:Nat):Int)<((t.length:Nat):Int))(h:t.all dgB=true)(hc:((cB 8 t:Nat):Int)≠0):cR n m t=true:=by
 unfold cR;rw[decide_eq_true (by omega),h,decide_eq_true (by omega)];rfl
theorem tmL_len{z:Int}{t:List kW}(h:((cB z t:Nat):Int)=0):(tmL z t).length=t.length:=by
 unfold tmL;rw[if_pos (by omega),gV]
theorem fewT_big{n m:Nat}{t:List kW}(hc:((cB 8 t:Nat):Int)=0)(h:(tmL 8 t).all (szB m)=false):cR n m t=false:=by
 unfold cR;rw[h,Bool.or_false,show decide (cB 8 t≠0)=false from decide_eq_false (by omega),Bool.and_false,Bool.and_false]
theorem fewT_yes{n m:Nat}{t:List kW}(h0:¬ ((n:Nat):Int)<((t.length:Nat):Int))(h:t.all dgB=true)(hs:(tmL 8 t).all (szB m)=true):cR n m t=true:=by
 unfold cR;rw[decide_eq_true (by omega),h,hs,Bool.or_true];rfl
theorem dgB_y{x:kW}(h:¬ ((8:Nat):Int)<((digR x.n:Nat):Int)):dgB x=true:=decide_eq_true (by omega)
theorem dgB_n{x:kW}(h:((8:Nat):Int)<((digR x.n:Nat):Int)):dgB x=false:=decide_eq_false (by omega)
theorem dg_ok{t:List kW}(h:t.all dgB=true):∀ x∈t,mI x.n (qM x.n) 8:=fun x hx=>by
 have h1:=List.all_eq_true.1 h x hx
 unfold dgB digR at h1
 rw[decide_eq_true_eq] at h1
 exact qok_raw (by decide) (by omega) (by omega)
theorem few_of{n m:Nat}{t:List kW}(h:cR n m t=true):t.length≤n∧(∀ x∈t,mI x.n (qM x.n) 8)∧(cB 8 t=0→∀ s∈tmL 8 t,s≤(m:Int)):=by
 unfold cR at h
 rw[Bool.and_eq_true,Bool.and_eq_true,Bool.or_eq_true,decide_eq_true_eq,decide_eq_true_eq] at h
 refine ⟨h.1,dg_ok h.2.1,fun hc s hs=>?_⟩
 rcases h.2.2 with h1 | h1
 ·exact absurd hc h1
 ·have:=List.all_eq_true.1 h1 s hs
  unfold szB at this
  rwa [decide_eq_true_eq] at this
theorem tame_of{n m:Nat}{bx:List R2}{t:List kW}(h:cR n m t=true)(hm:m≤200)(h8:bx.length≤8)(hb:∀ y∈bx,GL 8 y)(hc:cB ((bx.length:Nat):Int) t=0):fR bx t:=by
 obtain ⟨_,h2,h3⟩:=few_of h
 have hc8:cB 8 t=0:=tm_mono (by omega) (by decide) hc
 refine ⟨hc,h2,hb,fun k hk=>?_⟩
 have h4:=h3 hc8 (szN (cL t k) (t.getD k tz)) (by unfold tmL;rw[if_pos hc8];exact szU_mem hk)
 omega
theorem gpt_8{xs:List Rat}(h:∀ q∈xs,QL q 8):∀ y∈List.map mH xs,GL 8 y:=fun y hy=>by
 obtain ⟨q,hq,rfl⟩:=List.mem_map.1 hy
 exact gl_pt (h q hq)
theorem shR_len{c n:Nat}{l:List jN}(h:shR c n l=true):l.length≤c:=by
 unfold shR at h;rw[Bool.and_eq_true,decide_eq_true_eq] at h;exact h.1
theorem shR_ok{c n:Nat}{l:List jN}(h:shR c n l=true)(h1:1≤n):∀ x∈l,mI x (qM x) n:=fun x hx=>by
 unfold shR at h;rw[Bool.and_eq_true] at h
 have h3:=shX_le (List.all_eq_true.1 h.2 x hx)
 unfold digR at h3
 exact qok_raw h1 (by omega) (by omega)
theorem vrow_map:∀ {l:List jN},yA l=true→List.map jQ (List.map qM l)=l
 |[],_=>rfl
 |x::l,h=>by
  unfold yA at h
  rw[List.all_cons,Bool.and_eq_true] at h
  rw[List.map_cons,List.map_cons,vrow_map (l:=l) h.2,ofQ_toQ h.1]
theorem row_form{c n:Nat}{l:List jN}(h:shR c n l=true)(h1:1≤n)(hv:yA l=true):∃ xs:List Rat,l=List.map jQ xs∧(∀ q∈xs,QL q n)∧xs.length≤c:=by
 refine ⟨l.map qM,?_,fun q hq=>?_,by rw[List.length_map];exact shR_len h⟩
 ·exact (vrow_map hv).symm
 ·obtain ⟨x,hx,rfl⟩:=List.mem_map.1 hq
  exact (shR_ok h h1 x hx).ql
def nU(f:List kW→Nat):List (List kW)→Nat
 |[]=>0
 |t::ts=>if f t=0 then nU f ts else f t
theorem fstC_app(f:List kW→Nat):∀ ts us,nU f (ts++us)=if nU f ts=0 then nU f us else nU f ts
 |[],us=>rfl
 |t::ts,us=>by
  rw[List.cons_append,nU,nU,fstC_app f ts us]
  by_cases h:f t=0
  ·rw[if_pos h,if_pos h]
  ·rw[if_neg h,if_neg h,if_neg h]
theorem fstC_up(f:List kW→Nat){ts:List (List kW)}{i:Nat}(hi:i<ts.length):nU f (ts.take (i+1))=if nU f (ts.take i)=0 then f (ts.getD i []) else nU f (ts.take i):=by
 rw[List.take_succ_eq_append_getElem hi,fstC_app,List.getD_eq_getElem?_getD,List.getElem?_eq_getElem hi]
 show (if _ then (if f ts[i]=0 then 0 else f ts[i]) else _)=_
 by_cases h:f ts[i]=0
 ·rw[if_pos h,Option.getD_some,h]
 ·rw[if_neg h,Option.getD_some]
theorem fstC_split(f:List kW→Nat)(ts:List (List kW))(i:Nat):nU f ts=if nU f (ts.take i)=0 then nU f (ts.drop i) else nU f (ts.take i):=by
 rw[← fstC_app,List.take_append_drop]
theorem fstC_all{f:List kW→Nat}{ts:List (List kW)}(h:nU f ts=0):∀ t∈ts,f t=0:=by
 induction ts with
 |nil=>intro t ht;simp at ht
 |cons u ts ih=>
  rw[nU] at h
  by_cases hu:f u=0
  ·rw[if_pos hu] at h
   intro t ht
   rcases List.mem_cons.1 ht with rfl | ht
   ·exact hu
   ·exact ih h t ht
  ·rw[if_neg hu] at h;exact absurd h hu
theorem fstC_at{f:List kW→Nat}{ts:List (List kW)}{i:Nat}(hi:i<ts.length)(h0:nU f (ts.take i)=0)(h:f (ts.getD i [])≠0):nU f ts=f (ts.getD i []):=by
 rw[fstC_split f ts (i+1),fstC_up f hi,if_pos h0,if_neg h]
def tmN(xs:List Rat)(t:List kW):Nat:=cB ((xs.length:Nat):Int) t
def dzC(xs:List Rat)(t:List kW):Nat:=bif dzT (List.map mH xs) t then 14 else 0
def cdQ(xs:List Rat)(q:List (List jN))(ts:List (List kW)):Nat:=if nU (tmN xs) ts=0 then dJ q xs.length else nU (tmN xs) ts
def tbC(xs:List Rat)(q:List (List jN))(ts:List (List kW)):Nat:=if cdQ xs q ts=0 then nU (dzC xs) ts else cdQ xs q ts
section
variable {xs:List Rat} {q:List (List jN)} {ts:List (List kW)} {i:Nat}
theorem tbE1(hi:i<ts.length)(h0:nU (tmN xs) (ts.take i)=0)(h:((cB ((xs.length:Nat):Int) (ts.getD i []):Nat):Int)≠0):cB ((xs.length:Nat):Int) (ts.getD i [])=tbC xs q ts:=by
 have h1:tmN xs (ts.getD i [])≠0:=fun e=>h (by unfold tmN at e;rw[e];rfl)
 have h2:nU (tmN xs) ts=tmN xs (ts.getD i []):=fstC_at hi h0 h1
 unfold tbC cdQ
 rw[h2,if_neg h1,if_neg h1];rfl
theorem tbE2(h0:nU (tmN xs) ts=0)(h:((dJ q xs.length:Nat):Int)≠0):dJ q xs.length=tbC xs q ts:=by
 unfold tbC cdQ
 rw[if_pos h0,if_neg (by omega)]
theorem tbE3(h0:nU (tmN xs) ts=0)(hf:((dJ q xs.length:Nat):Int)=0)(hi:i<ts.length)(hd:nU (dzC xs) (ts.take i)=0)(h:dzT (List.map mH xs) (ts.getD i [])=true):14=tbC xs q ts:=by
 have h2:dzC xs (ts.getD i [])=14:=by unfold dzC;rw[h];rfl
 have h1:=fstC_at hi hd (by rw[h2];decide)
 unfold tbC cdQ
 rw[if_pos h0,if_pos (by omega),h1,h2]
theorem tbE4(h0:nU (tmN xs) ts=0)(hf:((dJ q xs.length:Nat):Int)=0)(hd:nU (dzC xs) ts=0):tbC xs q ts=0:=by
 unfold tbC cdQ
 rw[if_pos h0,if_pos (by omega),hd]
theorem dzC_n(h:dzT (List.map mH xs) (ts.getD i [])=false):dzC xs (ts.getD i [])=0:=by unfold dzC;rw[h];rfl
theorem fst_up0{f:List kW→Nat}(hi:i<ts.length)(h0:nU f (ts.take i)=0)(h:f (ts.getD i [])=0):nU f (ts.take (i+1))=0:=by rw[fstC_up f hi,if_pos h0,h]
theorem tm_of(h0:nU (tmN xs) ts=0)(hi:i<ts.length):tmN xs (ts.getD i [])=0:=nP (fstC_all h0) hi
theorem tb_0(h:tbC xs q ts=0):nU (tmN xs) ts=0∧dJ q xs.length=0∧nU (dzC xs) ts=0:=by
 unfold tbC at h
 by_cases h1:cdQ xs q ts=0
 ·rw[if_pos h1] at h
  unfold cdQ at h1
  by_cases h2:nU (tmN xs) ts=0
  ·rw[if_pos h2] at h1;exact ⟨h2,h1,h⟩
  ·rw[if_neg h2] at h1;exact absurd h1 h2
 ·rw[if_neg h1] at h;exact absurd h h1
theorem dz_of(hd:nU (dzC xs) ts=0):∀ t∈ts,dzT (List.map mH xs) t=false:=fun t ht=>by
 have h:=fstC_all hd t ht
 unfold dzC at h
 cases hz:dzT (List.map mH xs) t with
 |false=>rfl
 |true=>rw[hz] at h;exact absurd h (by decide)
end
def covJ(q:List (List jN))(a b:List jN)(i:Nat):Nat→Rat
 |0=>0
 |j+1=>covJ q a b i j+qM ((q.getD i []).getD j zr)*(qM (a.getD i zr)*qM (b.getD j zr))
def covA(q:List (List jN))(a b:List jN):Nat→Rat
 |0=>0
 |i+1=>covA q a b i+covJ q a b i b.length
theorem covJ_eq(q:List (List jN))(a b:List jN)(i:Nat):∀ j,covJ q a b i j=qM (a.getD i zr)*eQ (q.getD i []) b j
 |0=>by rw[covJ,eQ];grind
 |j+1=>by rw[covJ,eQ,covJ_eq q a b i j];grind
theorem covA_eq{q:List (List jN)}{a b:List jN}(h:∀ i,i<a.length→(q.getD i []).length=b.length)(hq:a.length=q.length):∀ i,i≤a.length→covA q a b i=eQ a (mE q b) i
 |0,_=>rfl
 |i+1,hi=>by
  rw[covA,eQ,covA_eq h hq i (by omega),covJ_eq]
  have e:qM ((mE q b).getD i zr)=eQ (q.getD i []) b b.length:=by
   unfold mE
   rw[List.getD_eq_getElem?_getD,List.getElem?_map,List.getElem?_eq_getElem (show i<q.length by omega),Option.map_some,Option.getD_some,zP,bF,← h i (by omega),List.getD_eq_getElem?_getD,List.getElem?_eq_getElem (show i<q.length by omega),Option.getD_some]
  rw[e]
theorem cov_all{q:List (List jN)}{a b:List jN}(hr:yI q q.length b.length)(hq:a.length=q.length):covA q a b a.length=dT q a b :=
 covA_eq (fun i hi=>(hr.at (show i<q.length by omega)).1) hq _ (Nat.le_refl _)
theorem covJ_ql{q:List (List jN)}{a b:List jN}(hq:qS 1048576 q)(ha:uJ 1048576 a)(hb:uJ 1048576 b)(i:Nat)(hi:i<q.length):∀ j,QL (covJ q a b i j) (j*3145730+1)
 |0=>vC nI (by omega)
 |j+1=>by
  rw[covJ]
  have h1:QL (qM ((q.getD i []).getD j zr)) 1048576:=row_ql (uL (d:=[]) hq hi) (by decide)
  exact mK (covJ_ql hq ha hb i hi j) (qP h1 (qP (row_ql (j:=i) ha (by decide)) (row_ql (j:=j) hb (by decide)) (Nat.le_refl _)) (Nat.le_refl _)) (by rw[Nat.add_mul];omega)
theorem covA_ql{q:List (List jN)}{a b:List jN}(hq:qS 1048576 q)(ha:uJ 1048576 a)(hb:uJ 1048576 b)(hb8:b.length≤8):∀ i,i≤q.length→QL (covA q a b i) (i*25165850+1)
 |0,_=>vC nI (by omega)
 |i+1,hi=>by
  rw[covA]
  exact mK (covA_ql hq ha hb hb8 i (by omega)) (vC (covJ_ql hq ha hb i (by omega) b.length) (show _≤25165848 by omega)) (by rw[Nat.add_mul];omega)
theorem cov_sumA{q:List (List jN)}{a b:List jN}(hq:qS 1048576 q)(ha:uJ 1048576 a)(hb:uJ 1048576 b)(hb8:b.length≤8)(hq8:q.length≤8){i:Nat}(hi:i≤q.length):QL (covA q a b i) 268435456 :=
 vC (covA_ql hq ha hb hb8 i hi) (by omega)
theorem cov_8{q:List (List jN)}{a b:List jN}(hq:qS 1048576 q)(ha:uJ 1048576 a)(hb:uJ 1048576 b)(hr:yI q q.length b.length)(hq8:q.length≤8)(hb8:b.length≤8)(hal:a.length=q.length):QL (dT q a b) 268435456:=by
 rw[← cov_all hr hal];exact cov_sumA hq ha hb hb8 hq8 (by omega)
theorem grs_get{xs:List Rat}{ts:List (List kW)}{i:Nat}(hi:i<ts.length):(List.map (xY xs) ts).getD i []=xY xs (ts.getD i []):=by
 simp only[List.getD_eq_getElem?_getD,List.getElem?_map,List.getElem?_eq_getElem hi,Option.map_some,Option.getD_some]
theorem tab_len{q:List (List jN)}{gs:List (List jN)}{i:Nat}(hi:i<gs.length):((gO q gs).getD i []).length=gs.length:=by
 unfold gO
 rw[List.getD_eq_getElem?_getD,List.getElem?_map,List.getElem?_eq_getElem hi,Option.map_some,Option.getD_some,List.length_map]
def rawA(l:List jN)(q:List (List jN)):Nat:=bif yA l&&decide (yF q=0) then 0 else 1
def rawC(l:List jN)(q:List (List jN)):Nat:=bif yA l&&decide (yF q=0) then 6 else 1
theorem rawC_0{l:List jN}{q:List (List jN)}:rawC l q≠0:=by unfold rawC;cases (yA l&&decide (yF q=0))<;>decide
theorem raw_t{l:List jN}{q:List (List jN)}(h:(!(yA l)||((yF q:Nat):Int) != ((0:Nat):Int))=true):(yA l&&decide (yF q=0))=false:=by
 rcases hv:yA l with _ | _
 ·rfl
 ·rw[hv,Bool.not_true,Bool.false_or,bne_iff_ne] at h
  rw[Bool.true_and,decide_eq_false_iff_not];omega
theorem raw_f{l:List jN}{q:List (List jN)}(h:(!(yA l)||((yF q:Nat):Int) != ((0:Nat):Int))=false):(yA l&&decide (yF q=0))=true:=by
 rw[Bool.or_eq_false_iff,Bool.not_eq_false',bne_eq_false_iff_eq] at h
 rw[h.1,Bool.true_and,decide_eq_true_eq];omega
theorem rawA_1{l:List jN}{q:List (List jN)}(h:(yA l&&decide (yF q=0))=false):1=rawA l q∧1=rawC l q:=by unfold rawA rawC;rw[h];exact ⟨rfl,rfl⟩
theorem rawA_0{l:List jN}{q:List (List jN)}(h:(yA l&&decide (yF q=0))=true):0=rawA l q∧6=rawC l q:=by unfold rawA rawC;rw[h];exact ⟨rfl,rfl⟩
end Go.Proofs.YtnajallgoaiahaaGreatDoor
