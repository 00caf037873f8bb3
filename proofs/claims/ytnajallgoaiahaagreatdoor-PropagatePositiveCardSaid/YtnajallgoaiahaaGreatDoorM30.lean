/- Part 30 of a proof: rules, plain facts, and functions walked. -/
import Derived.Test.YtnajallgoaiahaaGreatDoorM29
import Derived.Test.YtnajallgoaiahaaGreatDoorM28
set_option linter.all false
set_option maxRecDepth 4000
namespace Go.Fid
theorem tab_set1{S S':SL}{E s:Nat}{rows:List (List jS)}{j:Nat}{r:List jS}{c:Option (List SV)}(hr:r.length=(rows.getD j []).length)(hj:j<rows.length)(hs:S'.map (fun p=>kF S p.1)=S'.map (·.2)) :
  uZ ⟨S,(j+2,some ((kY r).map .d))::(1,c)::gN E s rows⟩ ⟨S',gN E s (rows.set j r)⟩:=fun C a w h=>
 tab_set hr hj hs C a w (xC (S':=S) (B':=(j+2,some ((kY r).map .d))::gN E s rows) (fun t=>.inr rfl) (fun k d hk=>by
  rw[jM] at hk ⊢
  split
  ·rename_i e;rw[if_pos e] at hk;exact hk
  ·rename_i e
   rw[if_neg e] at hk
   rw[jM]
   split
   ·rename_i e1;subst e1;rw[tabA_fr1] at hk;cases hk
   ·exact hk) C a w h)
theorem tabA_row1{E s:Nat}{rows:List (List jS)}{j:Nat}{r:List jS}{c:Option (List SV)}(h:rows[j]?=some r):jW ((1,c)::gN E s rows) (j+2)=some ((kY r).map .d):=by
 rw[jM,if_neg (by omega)];exact tabA_row h
theorem tab_ld1{P:Program}{o:Oper}{S:SL}{T E s:TypeId}{x:Operand}{rows:List (List jS)}{j:Nat}{m:Nat}{c:Option (List SV)}(hs:qO P T=some (false,1))(hj:j<rows.length)(hm:(rows.getD j []).length=m)(ho:o.op=.load T x:=by exact rfl)(hx:ev (kF S) x=.ref 0 j:=by exact rfl):ROk P o S ((1,c)::gN E s rows) 0 (.own (j+2) E s m):=by
 obtain ⟨cs,h1,h2⟩:=tab_ld (P:=P) (S:=S) (E:=E) (s:=s) (rows:=rows) hs hj hm ho hx
 exact ⟨cs,h1,by rw[jM,if_neg (by decide)];exact h2⟩
end Go.Fid
namespace Go.Proofs.YtnajallgoaiahaaGreatDoor
open Go.Fid
def mulK(a b:List (List jN))(i j:Nat):Nat→Rat
 |0=>0
 |k+1=>mulK a b i j k+qM ((a.getD i []).getD k zr)*qM ((b.getD k []).getD j zr)
def mQ(a b:List (List jN))(i j:Nat):jN:=jQ (mulK a b i j b.length)
def muE(F:Nat→Nat→jN)(i j p q:Nat):jN:=if p<i∨(p=i∧q<j) then F p q else jQ ((0:Int):Rat)
def muT(F:Nat→Nat→jN)(r c i j:Nat):List (List jN):=(List.range r).map fun p=>(List.range c).map fun q=>muE F i j p q
def muM(F:Nat→Nat→jN)(r c:Nat):List (List jN):=(List.range r).map fun p=>(List.range c).map fun q=>F p q
section
variable (F:Nat→Nat→jN) {r c i j p q:Nat}
theorem iB(r c i j:Nat):(muT F r c i j).length=r:=by simp [muT]
theorem muT_at(h:p<r):(muT F r c i j).getD p []=(List.range c).map fun q=>muE F i j p q:=by
 unfold muT
 rw[List.getD_eq_getElem?_getD,List.getElem?_map,List.getElem?_range h];rfl
theorem muT_row(h:p<r):((muT F r c i j).getD p []).length=c:=by rw[muT_at F h];simp
theorem muT_set(hi:i<r)(hj:j<c):(muT F r c i j).set i (((muT F r c i j).getD i []).set j (F i j))=muT F r c i (j+1):=by
 rw[muT_at F hi]
 refine List.ext_getElem (by rw[List.length_set,iB,iB]) fun b h1 h2=>?_
 rw[iB] at h2
 have g1:∀ q (h:b<(muT F r c i q).length),(muT F r c i q)[b]=(List.range c).map fun a=>muE F i q b a:=fun q h=>by simp [muT]
 rw[List.getElem_set,g1 (j+1)]
 split
 ·rename_i e;subst e
  refine List.ext_getElem (by simp) fun a h3 h4=>?_
  rw[List.getElem_set]
  simp only[List.getElem_map,List.getElem_range]
  split
  ·rename_i e;subst e
   unfold muE;rw[if_pos (by omega)]
  ·unfold muE
   by_cases h:a<j
   ·rw[if_pos (by omega),if_pos (by omega)]
   ·rw[if_neg (by omega),if_neg (by omega)]
 ·rw[g1 j]
  refine List.map_congr_left fun a _=>?_
  unfold muE
  by_cases h:b<i
  ·rw[if_pos (by omega),if_pos (by omega)]
  ·rw[if_neg (by omega),if_neg (by omega)]
theorem muT_next(r c i:Nat):muT F r c i c=muT F r c (i+1) 0:=by
 unfold muT
 refine List.map_congr_left fun b hb=>List.map_congr_left fun a ha=>?_
 have ha:=List.mem_range.1 ha
 unfold muE
 by_cases h:b<i+1
 ·rw[if_pos (by omega),if_pos (by omega)]
 ·rw[if_neg (by omega),if_neg (by omega)]
theorem muT_0(r c:Nat):muT F r c 0 0=List.replicate r (List.replicate c (jQ ((0:Int):Rat))):=by
 unfold muT
 rw[List.eq_replicate_iff]
 refine ⟨by simp,fun l hl=>?_⟩
 obtain ⟨b,_,rfl⟩:=List.mem_map.1 hl
 rw[List.eq_replicate_iff]
 refine ⟨by simp,fun x hx=>?_⟩
 obtain ⟨a,_,rfl⟩:=List.mem_map.1 hx
 unfold muE;rw[if_neg (by omega)]
theorem muT_end(r c:Nat):muT F r c r 0=muM F r c:=by
 unfold muT muM
 refine List.map_congr_left fun b hb=>List.map_congr_left fun a ha=>?_
 have hb:=List.mem_range.1 hb
 unfold muE;rw[if_pos (by omega)]
end
theorem mulK_ql{a b:List (List jN)}{N M:Nat}(ha:qS N a)(hb:qS M b)(h1:1≤N)(h2:1≤M)(i j:Nat):∀ k,QL (mulK a b i j k) (k*(N+M+1)+1)
 |0=>vC nI (by omega)
 |k+1=>by
  rw[mulK]
  have e:∀ {n:Nat} {m:List (List jN)} (hm:qS n m) (hn:1≤n) (p q:Nat),QL (qM ((m.getD p []).getD q zr)) n:=fun {n m} hm hn p q=>by
   rcases Nat.lt_or_ge p m.length with hp | hp
   ·exact row_ql (uL (d:=[]) hm hp) hn
   ·rw[show m.getD p []=[] from by rw[List.getD_eq_getElem?_getD,List.getElem?_eq_none hp];rfl]
    show QL (qM zr) n
    rw[toQ_zr];exact vC nI hn
  exact mK (mulK_ql ha hb h1 h2 i j k) (qP (e ha h1 i k) (e hb h2 k j) (Nat.le_refl _)) (by rw[Nat.add_mul];omega)
def sm(f:Nat→Rat):Nat→Rat
 |0=>0
 |n+1=>sm f n+f n
theorem vY{f g:Nat→Rat}:∀ {n},(∀ i,i<n→f i=g i)→sm f n=sm g n
 |0,_=>rfl
 |n+1,h=>by rw[sm,sm,vY (n:=n) (fun i hi=>h i (by omega)),h n (by omega)]
theorem sm_0:∀ n,sm (fun _=>0) n=0
 |0=>rfl
 |n+1=>by rw[sm,sm_0 n];grind
theorem sm_add(f g:Nat→Rat):∀ n,sm (fun i=>f i+g i) n=sm f n+sm g n
 |0=>by rw[sm,sm,sm];grind
 |n+1=>by rw[sm,sm,sm,sm_add f g n];grind
theorem sm_mul(c:Rat)(f:Nat→Rat):∀ n,sm (fun i=>c*f i) n=c*sm f n
 |0=>by rw[sm,sm];grind
 |n+1=>by rw[sm,sm,sm_mul c f n];grind
theorem sm_mulr(c:Rat)(f:Nat→Rat)(n:Nat):sm (fun i=>f i*c) n=sm f n*c:=by
 rw[Rat.mul_comm,← sm_mul];exact vY fun i _=>Rat.mul_comm _ _
theorem sm_swap(f:Nat→Nat→Rat)(m:Nat):∀ n,sm (fun i=>sm (fun j=>f i j) m) n=sm (fun j=>sm (fun i=>f i j) n) m
 |0=>(sm_0 m).symm
 |n+1=>by
  rw[sm,sm_swap f m n,← sm_add];rfl
theorem sm_nn{f:Nat→Rat}:∀ {n},(∀ i,i<n→0≤f i)→0≤sm f n
 |0,_=>Rat.le_refl
 |n+1,h=>by
  rw[sm]
  have h1:=sm_nn (n:=n) (fun i hi=>h i (by omega))
  have h2:=h n (by omega)
  grind
theorem sq_nn(x:Rat):0≤x*x:=by
 rcases Rat.le_total (a:=0) (b:=x) with h | h
 ·exact Rat.mul_nonneg h h
 ·have h1:0≤-x:=by grind
  have h2:=Rat.mul_nonneg h1 h1
  grind
theorem aat_nn(A:Nat→Nat→Rat)(u:Nat→Rat)(n k:Nat):0≤sm (fun p=>u p*sm (fun s=>sm (fun t=>A p t*A s t) k*u s) n) n:=by
 have e:sm (fun p=>u p*sm (fun s=>sm (fun t=>A p t*A s t) k*u s) n) n=sm (fun t=>sm (fun p=>u p*A p t) n*sm (fun p=>u p*A p t) n) k:=by
  have e1:∀ p,u p*sm (fun s=>sm (fun t=>A p t*A s t) k*u s) n=sm (fun t=>(u p*A p t)*sm (fun s=>u s*A s t) n) k:=fun p=>by
   have e2:sm (fun s=>sm (fun t=>A p t*A s t) k*u s) n=sm (fun t=>A p t*sm (fun s=>u s*A s t) n) k:=by
    rw[vY (g:=fun s=>sm (fun t=>A p t*(u s*A s t)) k) (fun s _=>by rw[← sm_mulr];exact vY fun t _=>by grind),sm_swap]
    exact vY fun t _=>sm_mul _ _ _
   rw[e2,← sm_mul]
   exact vY fun t _=>by grind
  rw[vY (fun p _=>e1 p),sm_swap]
  exact vY fun t _=>sm_mulr _ _ _
 rw[e]
 exact sm_nn fun t _=>sq_nn _
theorem comb_nn(A:Nat→Nat→Rat)(G:Nat→Nat→Rat)(v:Nat→Rat)(m n k:Nat) :
  0≤sm (fun i=>v i*sm (fun j=>sm (fun p=>G i p*sm (fun s=>sm (fun t=>A p t*A s t) k*G j s) n) n*v j) m) m:=by
 have e:sm (fun i=>v i*sm (fun j=>sm (fun p=>G i p*sm (fun s=>sm (fun t=>A p t*A s t) k*G j s) n) n*v j) m) m =
   sm (fun p=>sm (fun i=>v i*G i p) m*sm (fun s=>sm (fun t=>A p t*A s t) k*sm (fun i=>v i*G i s) m) n) n:=by
  have e1:∀ i,sm (fun j=>sm (fun p=>G i p*sm (fun s=>sm (fun t=>A p t*A s t) k*G j s) n) n*v j) m=sm (fun p=>G i p*sm (fun s=>sm (fun t=>A p t*A s t) k*sm (fun j=>v j*G j s) m) n) n:=fun i=>by
   rw[vY (g:=fun j=>sm (fun p=>G i p*(sm (fun s=>sm (fun t=>A p t*A s t) k*G j s) n*v j)) n) (fun j _=>by rw[← sm_mulr];exact vY fun p _=>by grind),sm_swap]
   refine vY fun p _=>?_
   rw[sm_mul]
   congr 1
   rw[vY (g:=fun j=>sm (fun s=>sm (fun t=>A p t*A s t) k*(v j*G j s)) n) (fun j _=>by rw[← sm_mulr];exact vY fun s _=>by grind),sm_swap]
   exact vY fun s _=>sm_mul _ _ _
  rw[vY (g:=fun i=>sm (fun p=>(v i*G i p)*sm (fun s=>sm (fun t=>A p t*A s t) k*sm (fun j=>v j*G j s) m) n) n) (fun i _=>by rw[e1 i,← sm_mul];exact vY fun p _=>by grind),sm_swap]
  exact vY fun p _=>sm_mulr _ _ _
 rw[e]
 exact aat_nn A (fun p=>sm (fun i=>v i*G i p) m) n k
theorem dotT_sm(l m:List jN):∀ n,eQ l m n=sm (fun i=>qM (l.getD i zr)*qM (m.getD i zr)) n
 |0=>rfl
 |n+1=>by rw[eQ,sm,dotT_sm l m n]
theorem mulK_sm(a b:List (List jN))(i j:Nat):∀ n,mulK a b i j n=sm (fun k=>qM ((a.getD i []).getD k zr)*qM ((b.getD k []).getD j zr)) n
 |0=>rfl
 |n+1=>by rw[mulK,sm,mulK_sm a b i j n]
def aL(l:List jN):List (List jN):=l.map fun x=>[x]
def fstM(m:List (List jN)):List jN:=m.map fun r=>r.getD 0 zr
theorem colM_len(l:List jN):(aL l).length=l.length:=List.length_map _
theorem colM_at{l:List jN}{k:Nat}(h:k<l.length):(aL l).getD k []=[l.getD k zr]:=by
 unfold aL
 simp only[List.getD_eq_getElem?_getD,List.getElem?_map,List.getElem?_eq_getElem h,Option.map_some,Option.getD_some]
theorem colM_ok{n:Nat}{l:List jN}(h:uJ n l):qS n (aL l):=by
 refine ⟨fun r hr=>?_,by rw[colM_len];exact h.2⟩
 obtain ⟨x,hx,rfl⟩:=List.mem_map.1 hr
 exact ⟨fun y hy=>by rw[List.mem_singleton.1 hy];exact h.1 _ hx,by simp⟩
theorem colM_0{l:List jN}(h:1≤l.length):((aL l).getD 0 []).length=1:=by rw[colM_at (by omega)];rfl
theorem muM_len(F:Nat→Nat→jN)(r c:Nat):(muM F r c).length=r:=by simp [muM]
theorem muM_at(F:Nat→Nat→jN){r c p:Nat}(h:p<r):(muM F r c).getD p []=(List.range c).map (F p):=by
 unfold muM
 rw[List.getD_eq_getElem?_getD,List.getElem?_map,List.getElem?_range h];rfl
theorem muM_el(F:Nat→Nat→jN){r c p q:Nat}(h:p<r)(hq:q<c):((muM F r c).getD p []).getD q zr=F p q:=by
 rw[muM_at F h,List.getD_eq_getElem?_getD,List.getElem?_map,List.getElem?_range hq];rfl
theorem muM_ok{a b:List (List jN)}{N r c:Nat}(hr:r≤64)(hc:c≤64)(h:∀ i j k,k≤b.length→QL (mulK a b i j k) N):qS N (muM (mQ a b) r c):=by
 refine ⟨fun l hl=>?_,by rw[muM_len];omega⟩
 obtain ⟨p,_,rfl⟩:=List.mem_map.1 hl
 refine ⟨fun x hx=>?_,by simp;omega⟩
 obtain ⟨q,_,rfl⟩:=List.mem_map.1 hx
 unfold mQ
 rw[zP];exact kG (h p q _ (Nat.le_refl _))
theorem fst_app{a:List (List jN)}{v:List jN}(hv:1≤v.length)(h:∀ i,i<a.length→(a.getD i []).length=v.length):fstM (muM (mQ a (aL v)) a.length ((aL v).getD 0 []).length)=mE a v:=by
 rw[colM_0 hv]
 have key:∀ i,i<a.length→∀ k,k≤v.length→mulK a (aL v) i 0 k=eQ (a.getD i []) v k:=fun i hi k=>by
  induction k with
  |zero=>intro _;rfl
  |succ k ih=>
   intro hk
   rw[mulK,eQ,ih (by omega),colM_at (by omega)];rfl
 unfold fstM mE muM
 rw[List.map_map]
 refine List.ext_getElem (by simp) fun i h1 h2=>?_
 have hi:i<a.length:=by simpa using h2
 simp only[List.getElem_map,List.getElem_range,Function.comp_apply]
 show (mQ a (aL v) i 0)=_
 unfold mQ bF
 rw[colM_len,key i hi _ (Nat.le_refl _)]
 have e:a.getD i []=a[i]:=by rw[List.getD_eq_getElem?_getD,List.getElem?_eq_getElem hi];rfl
 rw[← e,← h i hi]
theorem appR_at{m:List (List jN)}{v:List jN}{i:Nat}(h:i<m.length):qM ((mE m v).getD i zr)=eQ (m.getD i []) v (m.getD i []).length:=by
 unfold mE
 simp only[List.getD_eq_getElem?_getD,List.getElem?_map,List.getElem?_eq_getElem h,Option.map_some,Option.getD_some]
 rw[zP];rfl
def xU(a:List (List jN)):List (List jN):=muM (mQ a (iN a a.length (a.getD 0 []).length)) a.length ((iN a a.length (a.getD 0 []).length).getD 0 []).length
theorem aat_at{a:List (List jN)}(hr:yI a a.length (a.getD 0 []).length){p s:Nat}(hp:p<a.length)(hs:s<a.length) :
  qM (((xU a).getD p []).getD s zr)=sm (fun k=>qM ((a.getD p []).getD k zr)*qM ((a.getD s []).getD k zr)) (a.getD 0 []).length:=by
 have hc:=hr.c1
 have e0:((iN a a.length (a.getD 0 []).length).getD 0 []).length=a.length:=by rw[trM_at a (by omega)];simp
 unfold xU
 rw[muM_el _ hp (by rw[e0];exact hs)]
 unfold mQ
 have el:(iN a a.length (a.getD 0 []).length).length=(a.getD 0 []).length:=by simp [iN]
 rw[zP,mulK_sm,el]
 refine vY fun k hk=>?_
 congr 2
 rw[trM_at a hk,List.getD_eq_getElem?_getD,List.getElem?_map,List.getElem?_range hs];rfl
theorem aat_len(a:List (List jN)):(xU a).length=a.length:=muM_len _ _ _
theorem aat_row{a:List (List jN)}(hr:yI a a.length (a.getD 0 []).length){p:Nat}(hp:p<a.length):((xU a).getD p []).length=a.length:=by
 have hc:=hr.c1
 unfold xU
 rw[muM_at _ hp]
 rw[List.length_map,List.length_range,trM_at a (by omega)];simp
theorem form_nn{a gs:List (List jN)}{v:List jN}(hr:yI a a.length (a.getD 0 []).length)(hg:∀ i,i<gs.length→(gs.getD i []).length=a.length)(hv:v.length=gs.length):0≤dT (gO (xU a) gs) v v:=by
 have e:dT (gO (xU a) gs) v v=sm (fun i=>qM (v.getD i zr)*sm (fun j=>sm (fun p=>qM ((gs.getD i []).getD p zr)*sm (fun s=>sm (fun t=>qM ((a.getD p []).getD t zr)*qM ((a.getD s []).getD t zr)) (a.getD 0 []).length*qM ((gs.getD j []).getD s zr)) a.length) a.length*qM (v.getD j zr)) v.length) v.length:=by
  unfold dT
  rw[bF,dotT_sm]
  refine vY fun i hi=>?_
  have hi2:i<gs.length:=by omega
  have hti:i<(gO (xU a) gs).length:=by unfold gO;rw[List.length_map];exact hi2
  rw[appR_at hti,tab_len hi2,← hv,dotT_sm]
  congr 1
  refine vY fun j hj=>?_
  have hj2:j<gs.length:=by omega
  congr 1
  have e1:((gO (xU a) gs).getD i []).getD j zr=jQ (dT (xU a) (gs.getD i []) (gs.getD j [])):=by
   unfold gO
   simp only[List.getD_eq_getElem?_getD,List.getElem?_map,List.getElem?_eq_getElem hi2,List.getElem?_eq_getElem hj2,Option.map_some,Option.getD_some]
  rw[e1,zP]
  unfold dT
  rw[bF,dotT_sm,hg i hi2]
  refine vY fun p hp=>?_
  rw[appR_at (by rw[aat_len];exact hp),aat_row hr hp,dotT_sm]
  congr 1
  refine vY fun s hs=>?_
  rw[aat_at hr hp hs]
 rw[e]
 exact comb_nn (fun p t=>qM ((a.getD p []).getD t zr)) (fun i p=>qM ((gs.getD i []).getD p zr)) (fun i=>qM (v.getD i zr)) v.length a.length (a.getD 0 []).length
theorem signQ_nn{x:Rat}(h:0≤x):0≤gI x:=by
 unfold gI qZ
 have:=Rat.num_nonneg.2 h
 split<;>first | omega | (split<;>omega)
theorem app_okN{m:List (List jN)}{v:List jN}(hm:qS 268435456 m)(hv:uJ 6 v)(hr:∀ i,i<m.length→(m.getD i []).length=v.length)(h8:v.length≤4):uJ 1073741864 (mE m v):=by
 refine ⟨fun a ha=>?_,by rw[appR_len];exact hm.2⟩
 obtain ⟨r,h1,rfl⟩:=List.mem_map.1 ha
 obtain ⟨i,hi,rfl⟩:=List.mem_iff_getElem.1 h1
 have h2:=hr i hi
 rw[List.getD_eq_getElem?_getD,List.getElem?_eq_getElem hi] at h2
 have h2:m[i].length=v.length:=h2
 rw[zP]
 exact kG (vC (dotT_ql (hm.1 _ h1) hv (by decide) (by decide) m[i].length) (by rw[h2];omega))
theorem app_ok{m:List (List jN)}{v:List jN}(hm:qS 268435456 m)(hv:uJ 6 v)(hr:∀ i,i<m.length→(m.getD i []).length=v.length)(h8:v.length≤4):uJ 2147483648 (mE m v):=fE (app_okN hm hv hr h8) (by decide)
theorem form_s{m:List (List jN)}{v:List jN}(hm:qS 268435456 m)(hv:uJ 6 v)(hr:∀ i,i<m.length→(m.getD i []).length=v.length)(h8:v.length≤4)(hvm:v.length=m.length){i:Nat}(hi:i≤v.length):QL (eQ v (mE m v) i) 8589934592 :=
 vC (dotT_ql hv (app_okN hm hv hr h8) (by decide) (by decide) i) (Nat.le_trans (Nat.add_le_add_right (Nat.mul_le_mul_right _ (Nat.le_trans hi h8)) 1) (by decide))
theorem form_ql{m:List (List jN)}{v:List jN}(hm:qS 268435456 m)(hv:uJ 6 v)(hr:∀ i,i<m.length→(m.getD i []).length=v.length)(h8:v.length≤4)(hvm:v.length=m.length):QL (dT m v v) 17179869184 :=
 vC (form_s hm hv hr h8 hvm (Nat.le_refl _)) (by decide)
theorem aat_rect{a:List (List jN)}{n:Nat}(hr:yI a a.length (a.getD 0 []).length)(hn:a.length=n):yI (xU a) (xU a).length n:=by
 have h1:=hr.r1;have h2:=hr.r64
 have e:=aat_len a
 refine ⟨rfl,fun r h=>?_,by omega,by omega,by omega,by omega⟩
 obtain ⟨i,hi,rfl⟩:=List.mem_iff_getElem.1 h
 have h3:=aat_row hr (show i<a.length by omega)
 rw[List.getD_eq_getElem?_getD,List.getElem?_eq_getElem hi] at h3
 refine ⟨by rw[← hn];exact h3,?_⟩
 unfold yA
 rw[List.all_eq_true]
 intro x hx
 have hm:(xU a)[i]∈xU a:=List.getElem_mem _
 unfold xU muM at hm
 obtain ⟨p,_,hp⟩:=List.mem_map.1 hm
 rw[show (xU a)[i]=_ from hp.symm] at hx
 obtain ⟨q,_,rfl⟩:=List.mem_map.1 hx
 exact nO _
theorem tab_rect{q gs:List (List jN)}(h1:1≤gs.length)(h64:gs.length≤64):yI (gO q gs) (gO q gs).length gs.length:=by
 have e:(gO q gs).length=gs.length:=by unfold gO;rw[List.length_map]
 refine ⟨rfl,fun r h=>?_,by omega,by omega,by omega,by omega⟩
 unfold gO at h
 obtain ⟨g,_,rfl⟩:=List.mem_map.1 h
 refine ⟨List.length_map _,?_⟩
 unfold yA
 rw[List.all_eq_true]
 intro x hx
 obtain ⟨y,_,rfl⟩:=List.mem_map.1 hx
 exact nO _
end Go.Proofs.YtnajallgoaiahaaGreatDoor
namespace Go.Proofs.YtnajallgoaiahaaGreatDoor
open Go.Fid
theorem cb42:callB Tryz.prog 42=true:=by kernel_rfl
theorem e_mul(a:List (List jN))(ha:qS 4294967296 a)(b:List (List jN))(hb:qS 4294967296 b)(hal:a.length≤64)(hb1:1≤b.length)(hb6:b.length≤64)(hc:(b.getD 0 []).length≤64)(hra:∀ i,i<a.length→b.length≤(a.getD i []).length)(hrb:∀ k,k<b.length→(b.getD k []).length=(b.getD 0 []).length)(hs:∀ i j k,k≤b.length→QL (mulK a b i j k) 17179869184):jP Tryz.prog 42 [(.sl 24 1 (List.map jG a)),(.sl 24 1 (List.map jG b))] (.sl 24 1 (List.map jG (muM (mQ a b) a.length (b.getD 0 []).length))):=by
 have e0:List.replicate a.length (List.map jK (List.replicate (b.getD 0 []).length (jQ ((0:Int):Rat))))=tdD (muT (mQ a b) a.length (b.getD 0 []).length 0 0):=by rw[muT_0];simp
 have hz:=e_zeros a.length (b.getD 0 []).length (by omega) (by omega)
 rw[e0] at hz
 have hl:∀ i j,(tdD (muT (mQ a b) a.length (b.getD 0 []).length i j)).length=a.length:=fun i j=>by rw[List.length_map,iB]
 refine jI Tryz.func42 rfl cb42 rfl ?_
 show qJ _ _ _ _ ⟨[(0,(vl 24 1 jG a)),(1,(vl 24 1 jG b))],[]⟩
 refine jB<|kx [] [] (zE (cT 24 1)<|zZ) ?_
 refine jB<|kr [(0,(vl 24 1 jG a)),(1,(vl 24 1 jG b)),(5,(.own 0 24 1 a.length))] (gN 45 4 (tdD (muT (mQ a b) a.length (b.getD 0 []).length 0 0))) (zM<|zE (uE uV (L:=a))<|zM<|zE (xJ uV 0 ([]:List (jN)) (L:=b))<|zE (xO gB)<|zE (uE qY (L:=(b.getD 0 [])))<|zTab (ds:=[.val (.int .i64 (a.length:Nat)),.val (.int .i64 ((b.getD 0 []).length:Nat))]) hz (hl 0 0)<|zM<|zI (xC (uB (by kernel_rfl)) (fun _ _ h=>h))) ?_
 refine jB<|jB<|kx [(6,(jR 0))] [] (zM<|zY) ?_
 refine jH<|kB (α:=Nat) (fun i=>⟨[(0,(vl 24 1 jG a)),(1,(vl 24 1 jG b)),(5,(.own 0 24 1 a.length)),(6,(jR i))],gN 45 4 (tdD (muT (mQ a b) a.length (b.getD 0 []).length i 0))⟩) (fun i=>i≤a.length) (fun i=>a.length-i) 0 (xC (uB (by kernel_rfl)) (fun _ _ h=>h)) (Nat.zero_le _) ?_
 rintro i hi
 refine jB<|jB<|kx [(20,(vb (decide (((i:Nat):Int)<((a.length:Nat):Int)))))] [] (zM<|zM<|zE (uE uV (L:=a))<|zE xG<|zY) ?_
 refine jF rfl (fun h1=>?_) (fun h1=>?_)
 ·replace h1:=uW h1
  have hir:i<a.length:=by omega
  have hri:=hra i hir
  refine jD<|jB<|jH<|jB<|kx [(7,(jR 0))] [] (zM<|zY) ?_
  refine jH<|kB (α:=Nat) (fun j=>⟨[(0,(vl 24 1 jG a)),(1,(vl 24 1 jG b)),(5,(.own 0 24 1 a.length)),(6,(jR i)),(7,(jR j))],gN 45 4 (tdD (muT (mQ a b) a.length (b.getD 0 []).length i j))⟩) (fun j=>j≤(b.getD 0 []).length) (fun j=>(b.getD 0 []).length-j) 0 (xC (uB (by kernel_rfl)) (fun _ _ h=>h)) (Nat.zero_le _) ?_
  rintro j hj
  refine jB<|jB<|kx [(28,(vb (decide (((j:Nat):Int)<(((b.getD 0 []).length:Nat):Int)))))] [] (zM<|zM<|zE (xJ uV 0 ([]:List (jN)) (L:=b))<|zE (xO gB)<|zE (uE qY (L:=(b.getD 0 [])))<|zE xG<|zY) ?_
  refine jF rfl (fun h2=>?_) (fun h2=>?_)
  ·replace h2:=uW h2
   have hjc:j<(b.getD 0 []).length:=by omega
   refine jD<|jB<|jH<|jB<|kr [(0,(vl 24 1 jG a)),(1,(vl 24 1 jG b)),(5,(.own 0 24 1 a.length)),(6,(jR i)),(7,(jR j)),(8,(.ref 1 0))] ((1,some (bx (jK (jQ ((0:Int):Rat)))))::gN 45 4 (tdD (muT (mQ a b) a.length (b.getD 0 []).length i j))) (zE (jX (z_whole5 0 (by omega) (by omega)))<|zH (uF 1 uG uQ) (h2:=tabA_frb)<|zT (qK jT)<|zI (xC (uB (by kernel_rfl)) bget_dup)) ?_
   refine jB<|jB<|kx [(9,(jR 0))] [] (zM<|zY) ?_
   refine jH<|kB (α:=Nat × Rat) (fun (k,s)=>⟨[(0,(vl 24 1 jG a)),(1,(vl 24 1 jG b)),(5,(.own 0 24 1 a.length)),(6,(jR i)),(7,(jR j)),(8,(.ref 1 0)),(9,(jR k))],(1,some (bx (jK (jQ s))))::gN 45 4 (tdD (muT (mQ a b) a.length (b.getD 0 []).length i j))⟩) (fun (k,s)=>k≤b.length∧s=mulK a b i j k) (fun (k,s)=>b.length-k) (0,((0:Int):Rat)) (xC (uB (by kernel_rfl)) (fun _ _ h=>h)) ⟨Nat.zero_le _,rfl⟩ ?_
   rintro ⟨k,s⟩ ⟨hk,hsk⟩
   refine jB<|jB<|kx [(35,(vb (decide (((k:Nat):Int)<((b.length:Nat):Int)))))] [] (zM<|zM<|zE (uE uV (L:=b))<|zE xG<|zY) ?_
   refine jF rfl (fun h3=>?_) (fun h3=>?_)
   ·replace h3:=uW h3
    have hkb:k<b.length:=by omega
    have hrk:=hrb k hkb
    have g1:mI ((a.getD i []).getD k qH) (qM ((a.getD i []).getD k qH)) 4294967296:=vM (uL (d:=[]) ha hir).1 (show k<(a.getD i []).length by omega)
    have g2:mI ((b.getD k []).getD j qH) (qM ((b.getD k []).getD j qH)) 4294967296:=vM (uL (d:=[]) hb hkb).1 (show j<(b.getD k []).length by omega)
    have gs:QL s 17179869184:=by rw[hsk];exact hs i j k (by omega)
    refine jD<|jB<|jH<|kdr [(0,(vl 24 1 jG a)),(1,(vl 24 1 jG b)),(5,(.own 0 24 1 a.length)),(6,(jR i)),(7,(jR j)),(8,(.ref 1 0)),(9,(jR k))] ((1,some (bx (jK (jQ (s+qM ((a.getD i []).getD k qH)*qM ((b.getD k []).getD j qH))))))::gN 45 4 (tdD (muT (mQ a b) a.length (b.getD 0 []).length i j))) mo (wR (kM jT)<|wM<|wM<|wE (xJ uV i ([]:List (jN)) (L:=a))<|wE (xO gB)<|wM<|wE (xJ qY k qH (L:=(a.getD i [])))<|wE (nR jT)<|wM<|wM<|wE (xJ uV k ([]:List (jN)) (L:=b))<|wE (xO gB)<|wM<|wE (xJ qY j qH (L:=(b.getD k [])))<|wE (nR jT)<|wE (jX (g_mul ((a.getD i []).getD k qH) ((b.getD k []).getD j qH) _ _ (jV g1 (by decide)) (jV g2 (by decide))))<|wE (jX (g_add (jQ s) (jQ (qM ((a.getD i []).getD k qH)*qM ((b.getD k []).getD j qH))) s _ (kG gs) (jV (kG (qP (k:=8589934592) g1.ql g2.ql (by decide))) (by decide))))<|wT (qK jT)<|wI (xC (uB (by kernel_rfl)) bget_dup)) ?_
    refine kx [(9,(jR (k+1)))] [] (zM<|zE (vT (k+1))<|zM<|zY) ?_
    exact ⟨(k+1,s+qM ((a.getD i []).getD k qH)*qM ((b.getD k []).getD j qH)),(xC (uB (by kernel_rfl)) (fun _ _ h=>h)),⟨by omega,by rw[hsk];rfl⟩,(by first|omega|(dsimp only;omega))⟩
   ·replace h3:=uX h3
    obtain rfl:k=b.length:=by omega
    have hrl:((tdD (muT (mQ a b) a.length (b.getD 0 []).length i j)).getD i []).length=(b.getD 0 []).length:=by rw[tdD_at,List.length_map,muT_row _ hir]
    have hrl2:=muT_row (mQ a b) (r:=a.length) (c:=(b.getD 0 []).length) (i:=i) (j:=j) hir
    have hlj:=hl i j
    have hit:i<(tdD (muT (mQ a b) a.length (b.getD 0 []).length i j)).length:=by omega
    refine kC<|kdr [(0,(vl 24 1 jG a)),(1,(vl 24 1 jG b)),(5,(.own 0 24 1 a.length)),(6,(jR i)),(7,(jR j))] (gN 45 4 (tdD (muT (mQ a b) a.length (b.getD 0 []).length i (j+1)))) mo (wM<|wM<|wE (fV uV i)<|wR (tab_ld1 gB hit hrl)<|wM<|wR (kM jT)<|wE (oXO qY j)<|wT (oSA (F:=jK) (L:=(muT (mQ a b) a.length (b.getD 0 []).length i j).getD i []) jT j (jQ s) (hb:=by exact tabA_row1 (r:=((muT (mQ a b) a.length (b.getD 0 []).length i j).getD i []).map jK) (tdD_get (by rw[iB];exact hir))))<|wI (by
     rw[← muT_set _ hir hjc,← tdD_set,show mQ a b i j=jQ s from by rw[hsk];rfl]
     exact tab_set1 (by rw[hrl,List.length_map,List.length_set,hrl2]) hit (by kernel_rfl))) ?_
    refine kx [(7,(jR (j+1)))] [] (zM<|zE (vT (j+1))<|zM<|zY) ?_
    exact ⟨j+1,(xC (uB (by kernel_rfl)) (fun _ _ h=>h)),by omega,by omega⟩
  ·replace h2:=uX h2
   obtain rfl:j=(b.getD 0 []).length:=by omega
   refine kC<|kx [(6,(jR (i+1)))] [] (zM<|zE (vT (i+1))<|zM<|zY) ?_
   refine ⟨i+1,?_,by omega,by omega⟩
   rw[← muT_next]
   exact (xC (uB (by kernel_rfl)) (fun _ _ h=>h))
 ·replace h1:=uX h1
  obtain rfl:i=a.length:=by omega
  refine kC<|jB<|kx [(4,(.own 0 24 1 a.length))] [] (zM<|zM<|zY) ?_
  have hp:=tab_pub (S:=up [(4,(.own 0 24 1 a.length))] (up [(20,(vb (decide (((a.length:Nat):Int)<((a.length:Nat):Int)))))] [(0,(vl 24 1 jG a)),(1,(vl 24 1 jG b)),(5,(.own 0 24 1 a.length)),(6,(jR a.length))])) (E:=45) (s:=4) (tdD (muT (mQ a b) a.length (b.getD 0 []).length a.length 0)) tdD_cells
  rw[List.map_map] at hp
  refine kV hp ?_
  refine kV (vN (t:=4) (k:=0) (es:=List.map jG (muT (mQ a b) a.length (b.getD 0 []).length a.length 0)) rfl rfl (uI _ _ (fun _=>rfl)) (uT _ _ (iB _ _ _ _ _)) (vH _ _ (fun _=>rfl) (iB _ _ _ _ _))) ?_
  refine jE ⟨_,(.tmp (d:=(.sl 24 1 (List.map jG (muT (mQ a b) a.length (b.getD 0 []).length a.length 0)))) rfl .nil),?_⟩
  rw[muT_end];rfl
end Go.Proofs.YtnajallgoaiahaaGreatDoor
namespace Go.Fid
open Go.RowKit (Below)
def rn(ks:List Nat):SV→Option SV
 |.ref k o=>(ks[k]?).map fun j=>.ref j o
 |.own k t s n=>(ks[k]?).map fun j=>.own j t s n
 |.clo f l=>(l.mapM fun k=>ks[k]?).map fun l'=>.clo f l'
 |.view k o n=>(ks[k]?).map fun j=>.view j o n
 |.pr k t s n x=>(ks[k]?).map fun j=>.pr j t s n x
 |.refx k o b=>(ks[k]?).map fun j=>.refx j o b
 |.bnd f k o=>(ks[k]?).map fun j=>.bnd f j o
 |.ownx k t s n u=>(ks[k]?).map fun j=>.ownx j t s n u
 |x=>some x
def rnL(ks:List Nat):List SV→Option (List SV)
 |[]=>some []
 |x::l=>match rn ks x,rnL ks l with
  |some y,some l'=>some (y::l')
  |_,_=>none
theorem rnL_get{ks:List Nat}:∀ {c c2:List SV},rnL ks c=some c2→c2.length=c.length∧∀ i:Nat,(∀ x,c[i]?=some x→∃ y,c2[i]?=some y∧rn ks x=some y)∧∀ y,c2[i]?=some y→∃ x,c[i]?=some x∧rn ks x=some y
 |[],c2,h=>by
  injection h with h;subst h
  exact ⟨rfl,fun i=>⟨fun x hx=>by simp at hx,fun y hy=>by simp at hy⟩⟩
 |x::l,c2,h=>by
  unfold rnL at h
  split at h
  ·rename_i y l' hy hl
   injection h with h;subst h
   obtain ⟨h1,h2⟩:=rnL_get hl
   refine ⟨by simp [h1],fun i=>?_⟩
   cases i with
   |zero=>exact ⟨fun z hz=>by simp at hz;subst hz;exact ⟨y,rfl,hy⟩,fun z hz=>by simp at hz;subst hz;exact ⟨x,rfl,hy⟩⟩
   |succ i=>exact ⟨fun z hz=>(h2 i).1 z (by simpa using hz),fun z hz=>(h2 i).2 z (by simpa using hz)⟩
  ·cases h
theorem mapM_get{ks:List Nat}:∀ {l l':List Nat},(l.mapM fun k=>ks[k]?)=some l'→l'.length=l.length∧∀ (i k:Nat),l[i]?=some k→∃ j,l'[i]?=some j∧ks[k]?=some j
 |[],l',h=>by
  simp at h;subst h
  exact ⟨rfl,fun i k hk=>by simp at hk⟩
 |k::l,l',h=>by
  rw[List.mapM_cons] at h
  cases h1:ks[k]? with
  |none=>rw[h1] at h;cases h
  |some j=>
   cases h2:l.mapM (fun k=>ks[k]?) with
   |none=>rw[h1,h2] at h;cases h
   |some m=>
    rw[h1,h2] at h
    injection h with h;subst h
    obtain ⟨g1,g2⟩:=mapM_get h2
    refine ⟨by simp [g1],fun i q hq=>?_⟩
    cases i with
    |zero=>simp at hq;subst hq;exact ⟨j,rfl,h1⟩
    |succ i=>exact g2 i q (by simpa using hq)
theorem rep_rn{w:World}{D:qL}{β γ:qC}{ks:List Nat}{v:Value}{x y:SV}(h:rn ks x=some y)(hg:∀ k j,ks[k]?=some j→γ k=β j):kZ w D γ v x↔kZ w D β v y:=by
 cases x with
 |d x=>injection h with h;subst h;exact Iff.rfl
 |emp=>injection h with h;subst h;exact Iff.rfl
 |junk=>injection h with h;subst h;exact Iff.rfl
 |hob u b ob=>injection h with h;subst h;exact Iff.rfl
 |clo f l=>
  unfold rn at h
  rw[Option.map_eq_some_iff] at h
  obtain ⟨l',hl,rfl⟩:=h
  obtain ⟨g1,g2⟩:=mapM_get hl
  constructor
  ·rintro ⟨vs,h1,h2,h3⟩
   refine ⟨vs,h1,h2.trans g1.symm,fun i j hj=>?_⟩
   have hlt:i<l.length:=by rw[← g1];exact (List.getElem?_eq_some_iff.1 hj).1
   obtain ⟨q,e1,e2⟩:=g2 i _ (List.getElem?_eq_getElem hlt)
   rw[hj] at e1
   injection e1 with e1;subst e1
   rw[← hg _ _ e2]
   exact h3 i _ (List.getElem?_eq_getElem hlt)
  ·rintro ⟨vs,h1,h2,h3⟩
   refine ⟨vs,h1,h2.trans g1,fun i k hk=>?_⟩
   obtain ⟨q,e1,e2⟩:=g2 i k hk
   rw[hg _ _ e2]
   exact h3 i q e1
 |ref k o | own k t s n | view k o n | pr k t s n x | refx k o b | bnd f k o | ownx k t s n u=>
  unfold rn at h
  rw[Option.map_eq_some_iff] at h
  obtain ⟨j,hj,rfl⟩:=h
  simp only[kZ,hg k j hj]
theorem blk_rn{w:World}{D:qL}{β γ:qC}{ks:List Nat}{k j:Nat}{c c2:List SV}(h:rnL ks c=some c2)(hk:ks[k]?=some j)(hg:∀ k j,ks[k]?=some j→γ k=β j):uU w D γ k c↔uU w D β j c2:=by
 obtain ⟨h1,h2⟩:=rnL_get h
 have e:=hg k j hk
 constructor
 ·rintro (⟨g1,g2⟩ | ⟨b,vs,T,g1,g2,g3,g4,g5⟩)
  ·subst g2
   exact .inl ⟨e.symm.trans g1,List.eq_nil_of_length_eq_zero (by simpa using h1)⟩
  ·refine .inr ⟨b,vs,T,e.symm.trans g1,g2,by omega,fun i y hy=>?_,g5⟩
   obtain ⟨x,e1,e2⟩:=(h2 i).2 y hy
   obtain ⟨u,f1,f2,f3⟩:=g4 i x e1
   exact ⟨u,f1,f2,(rep_rn e2 hg).1 f3⟩
 ·rintro (⟨g1,g2⟩ | ⟨b,vs,T,g1,g2,g3,g4,g5⟩)
  ·subst g2
   exact .inl ⟨e.trans g1,List.eq_nil_of_length_eq_zero (by simpa using h1.symm)⟩
  ·refine .inr ⟨b,vs,T,e.trans g1,g2,by omega,fun i x hx=>?_,g5⟩
   obtain ⟨y,e1,e2⟩:=(h2 i).1 x hx
   obtain ⟨u,f1,f2,f3⟩:=g4 i y e1
   exact ⟨u,f1,f2,(rep_rn e2 hg).2 f3⟩
inductive RBi (ks:List Nat):BS→BS→Prop
 |nil:RBi ks [] []
 |cons {k j:Nat} {c c2:List SV} {B B2:BS} (hk:ks[k]?=some j) (hc:rnL ks c=some c2) (h:RBi ks B B2):RBi ks ((k,some c)::B) ((j,some c2)::B2)
def ndI:List Nat→Bool
 |[]=>true
 |k::ks=>!(eW ks k)&&ndI ks
theorem bP:∀ {ks:List Nat},ndI ks=true→∀ {k q j:Nat},ks[k]?=some j→ks[q]?=some j→k=q
 |[],_,k,q,j,h1,_=>by simp at h1
 |p::ks,h,k,q,j,h1,h2=>by
  simp only[ndI,Bool.and_eq_true,Bool.not_eq_true'] at h
  have hno:∀ i:Nat,ks[i]?≠some p:=fun i e=>by
   have:=zU.2 (List.mem_of_getElem? e);rw[h.1] at this;cases this
  cases k with
  |zero=>
   cases q with
   |zero=>rfl
   |succ q=>simp at h1 h2;subst h1;exact absurd h2 (hno q)
  |succ k=>
   cases q with
   |zero=>simp at h1 h2;subst h2;exact absurd h1 (hno k)
   |succ q=>simp at h1 h2;rw[bP h.2 h1 h2]
theorem RBi.to{ks:List Nat}(hn:ndI ks=true){B B2:BS}(h:RBi ks B B2):∀ {k:Nat} {c:List SV},jW B k=some c→∃ j c2,ks[k]?=some j∧jW B2 j=some c2∧rnL ks c=some c2:=by
 induction h with
 |nil=>intro k c hk;simp [jW] at hk
 |@cons q j c1 c2 B B2 hk hc h ih=>
  intro k c hg
  rw[jM] at hg
  split at hg
  ·rename_i e;subst e
   injection hg with hg;subst hg
   exact ⟨j,c2,hk,by rw[jM,if_pos rfl],hc⟩
  ·rename_i hne
   obtain ⟨j',d,h1,h2,h3⟩:=ih hg
   exact ⟨j',d,h1,by rw[jM,if_neg (fun e=>by subst e;exact hne (bP hn hk h1)),h2],h3⟩
theorem RBi.back{ks:List Nat}(hn:ndI ks=true){B B2:BS}(h:RBi ks B B2):∀ {j:Nat} {c2:List SV},jW B2 j=some c2→∃ k c,ks[k]?=some j∧jW B k=some c∧rnL ks c=some c2:=by
 induction h with
 |nil=>intro k c hk;simp [jW] at hk
 |@cons q j c1 c2 B B2 hk hc h ih=>
  intro i d hg
  rw[jM] at hg
  split at hg
  ·rename_i e;subst e
   injection hg with hg;subst hg
   exact ⟨q,c1,hk,by rw[jM,if_pos rfl],hc⟩
  ·rename_i hne
   obtain ⟨k,c,h1,h2,h3⟩:=ih hg
   exact ⟨k,c,h1,by rw[jM,if_neg (fun e=>by subst e;rw[hk] at h1;injection h1 with h1;exact hne h1),h2],h3⟩
theorem RBi.some{ks:List Nat}{B B2:BS}(h:RBi ks B B2):∀ p∈B2,∃ c,p.2=.some c:=by
 induction h with
 |nil=>intro p hp;cases hp
 |cons hk hc h ih=>
  intro p hp
  rcases List.mem_cons.1 hp with e | e
  ·subst e;exact ⟨_,rfl⟩
  ·exact ih p e
def pinI(ks:List Nat)(j:Nat):SV→Bool
 |.ref k _=>decide (ks[k]?=some j)
 |.clo _ l=>l.any fun k=>decide (ks[k]?=some j)&&!Nat.beq k 9
 |_=>false
inductive FixI (ks:List Nat) (B B':BS):List Nat→Prop
 |nil:FixI ks B B' []
 |cons {k q o b j:Nat} {G:List Nat} (hj:ks[k]?=some j) (h1:jW B q=some [.refx k o b]) (h2:jW B' q=some [.refx k o b]) (h:FixI ks B B' G):FixI ks B B' (j::G)
theorem FixI.at{ks:List Nat}{B B':BS}{G:List Nat}(h:FixI ks B B' G){j:Nat}(hj:j∈G):∃ k q o b,ks[k]?=some j∧jW B q=some [.refx k o b]∧jW B' q=some [.refx k o b]:=by
 induction h with
 |nil=>cases hj
 |cons e h1 h2 h ih=>
  rcases List.mem_cons.1 hj with rfl | hj
  ·exact ⟨_,_,_,_,e,h1,h2⟩
  ·exact ih hj
section
variable {P:Program}
theorem effI{xs:List SV}{B B2:BS}{r x:SV}{B' B2':BS}{ks mv G:List Nat}{w w':World}{D D':qL}{β β':qC}{v:Value}(hn:ndI ks=true)(hB:RBi ks B B2)(hB':RBi ks B' B2')(hr:rn ks r=some x)
  (hG:FixI ks B B' G) (hmv:(ks.all fun j=>eW mv j||(xs.any (pinI ks j))||eW G j)=true) (γ:qC) (hγ:∀ k j,ks[k]?=some j→γ k=β j) (hp:SPost w D γ xs B r B' v w' D' β') (hmem:Mem w D γ B):∃ βn,SEff w D β B2 B2' mv v x w' D' βn:=by
 obtain ⟨βn,hβ1,hβ2⟩:∃ βn:qC,(∀ k j,ks[k]?=some j→β' k=βn j)∧∀ j,j∉ks→βn j=β j:=by
  classical
  refine ⟨fun j=>if h:∃ k,ks[k]?=some j then β' h.choose else β j,fun k j hk=>?_,fun j h1=>?_⟩
  ·have hx:∃ q,ks[q]?=some j:=⟨k,hk⟩
   show β' k=(if h:∃ q,ks[q]?=some j then β' h.choose else β j)
   rw[dif_pos hx,bP hn hx.choose_spec hk]
  ·show (if h:∃ q,ks[q]?=some j then β' h.choose else β j)=β j
   rw[dif_neg]
   rintro ⟨k,hk⟩
   exact h1 (List.mem_of_getElem? hk)
 have hmine:∀ b,yY γ B b→yY β B2 b:=fun b ⟨k,c,h1,h2⟩=>by
  obtain ⟨j,c2,e1,e2,_⟩:=hB.to hn h1
  exact ⟨j,c2,e2,(hγ _ _ e1).symm.trans h2⟩
 refine ⟨βn,⟨⟨hp.below.os,hp.below.tape,hp.below.output,hp.below.size,fun k hk hm=>hp.below.block k hk fun h=>hm (hmine k h),hp.below.shape⟩,hp.keep,hp.oth,hp.up,fun t g o hd=>?_,hp.dok,⟨fun j c hj=>?_,fun j1 j2 c1 c2 q1 q2 b e1 e2=>?_⟩,fun j c hj b hb=>?_,fun j hj=>?_,(rep_rn hr hβ1).1 hp.res⟩⟩
 ·rcases hp.new t g o hd with h | h | h
  ·exact .inl h
  ·exact .inr (.inl h)
  ·exact .inr (.inr (hmine g h))
 ·obtain ⟨k,c0,e1,e2,e3⟩:=hB'.back hn hj
  exact (blk_rn e3 e1 hβ1).1 (hp.mem.ok k c0 e2)
 ·obtain ⟨k1,d1,f1,f2,_⟩:=hB'.back hn q1
  obtain ⟨k2,d2,g1,g2,_⟩:=hB'.back hn q2
  rw[← hβ1 _ _ f1] at e1
  rw[← hβ1 _ _ g1] at e2
  have:=hp.mem.inj k1 k2 d1 d2 f2 g2 b e1 e2
  subst this
  rw[f1] at g1
  injection g1
 ·obtain ⟨k,d,f1,f2,_⟩:=hB'.back hn hj
  rw[← hβ1 _ _ f1] at hb
  rcases hp.high k d f2 b hb with h | h
  ·exact .inl h
  ·exact .inr (hmine b h)
 ·by_cases hjk:j∈ks
  ·have h1:=List.all_eq_true.1 hmv j hjk
   rw[Bool.or_eq_true,Bool.or_eq_true] at h1
   rcases h1 with (h1 | h1) | h1
   ·exact absurd (zU.1 h1) hj
   ·obtain ⟨y,hy,e⟩:=List.any_eq_true.1 h1
    obtain ⟨i,hi⟩:=List.getElem?_of_mem hy
    cases y with
    |ref q o=>
     have e:=of_decide_eq_true e
     rw[← hβ1 _ _ e,← hγ _ _ e]
     exact hp.same i _ hi q (by simp [SV.pins])
    |clo g js=>
     obtain ⟨q,hq,e⟩:=List.any_eq_true.1 e
     rw[Bool.and_eq_true] at e
     have e1:=of_decide_eq_true e.1
     rw[← hβ1 _ _ e1,← hγ _ _ e1]
     exact hp.same i _ hi q (List.any_eq_true.2 ⟨q,hq,by rw[e.2];simp⟩)
    |_=>cases e
   ·obtain ⟨k,q,o,b,e,g1,g2⟩:=hG.at (zU.1 h1)
    have e1:=refx_at hmem g1
    have e2:=refx_at hp.mem g2
    rw[← hβ1 _ _ e,← hγ _ _ e,e2]
    exact e1.symm
  ·exact hβ2 j hjk
def CallV(P:Program)(o:Oper)(S:Nat→SV)(f:FuncId)(ys:List SV):Prop :=
 callB P f=true→∀ (a:Act) (w:World) (D:qL) (β:qC),(∀ q∈o.op.operands,kZ w D β (a.eval q) (ev S q)) →
  ∃ us:List Value,(execOp a.eval o).run P w=.ok (.enter f us.toArray) w∧us.length=ys.length∧∀ (i:Nat) v x,us[i]?=some v→ys[i]?=some x→kZ w D β v x
theorem callV_fn{o:Oper}{S:Nat→SV}{y:Operand}{args:List Operand}{ats:Array TypeId}{ex:List SV}{f:FuncId}{ys:List SV}(ho:o.op=.call { callee:=.value y,args:=args.toArray,argTypes:=ats })(hy:FnV S y f ex)(hx:args.map (ev S)++ex=ys):CallV P o S f ys:=fun hm a w D β hop=>by
 obtain ⟨us,hrun,hul,hur⟩:=fnv_run hop ho hm hy
 refine ⟨args.map a.eval++us,hrun,by rw[← hx];simp [hul],fun i v z hv e1=>?_⟩
 rw[← hx] at e1
 by_cases hlt:i<args.length
 ·rw[List.getElem?_append_left (by simpa using hlt)] at hv e1
  rw[List.getElem?_map,Option.map_eq_some_iff] at hv
  obtain ⟨p,hqi,rfl⟩:=hv
  have hm:=hop p (by simp [ho,Op.operands,Call.operands,List.mem_of_getElem? hqi])
  rw[List.getElem?_map,hqi,Option.map_some,Option.some.injEq] at e1
  rw[← e1];exact hm
 ·rw[List.getElem?_append_right (by simpa using hlt)] at hv e1
  simp only[List.length_map] at hv e1
  exact hur _ v _ hv e1
theorem sok_of{o:Oper}{S:Nat→SV}{f:FuncId}{xs ys:List SV}{B B2:BS}{r x:SV}{B' B2':BS}{ks mv G:List Nat}
  (hf:vR P f xs B r B') (hc:CallV P o S f ys) (hxs:rnL ks xs=some ys) (hn:ndI ks=true)
  (hB:RBi ks B B2) (hB':RBi ks B' B2') (hr:rn ks r=some x) (hG:FixI ks B B' G) (hmv:(ks.all fun j=>eW mv j||(xs.any (pinI ks j))||eW G j)=true):SOk P o S B2 B2' mv x:=fun a w D β Q hop hmem2 hD=>by
 obtain ⟨us,hrun,hul,hur⟩:=hc hf.may a w D β hop
 obtain ⟨γ,hγ⟩:∃ γ:qC,∀ k j,ks[k]?=some j→γ k=β j:=⟨fun k=>(ks[k]?).bind β,fun k j hk=>by show (ks[k]?).bind β=β j;rw[hk];rfl⟩
 have hmem:Mem w D γ B:=⟨fun k c hk=>by
  obtain ⟨j,c2,e1,e2,e3⟩:=hB.to hn hk
  exact (blk_rn e3 e1 hγ).2 (hmem2.ok j c2 e2),fun k1 k2 c1 c2 q1 q2 b e1 e2=>by
  obtain ⟨j1,d1,f1,f2,_⟩:=hB.to hn q1
  obtain ⟨j2,d2,g1,g2,_⟩:=hB.to hn q2
  rw[hγ _ _ f1] at e1
  rw[hγ _ _ g1] at e2
  have:=hmem2.inj j1 j2 d1 d2 f2 g2 b e1 e2
  subst this
  exact bP hn f1 g1⟩
 obtain ⟨hl1,hl2⟩:=rnL_get hxs
 have qV:us.length=xs.length:=hul.trans hl1
 have hrep:∀ (i:Nat) v z,us[i]?=some v→xs[i]?=some z→kZ w D γ v z:=fun i v z hv hz=>by
  obtain ⟨y',e1,e2⟩:=(hl2 i).1 z hz
  exact (rep_rn e2 hγ).2 (hur i v y' hv e1)
 refine nQ hrun ((hf.run w D γ _ hD hmem qV hrep).mono fun e w' h=>?_)
 obtain ⟨v,D',β',he,hp⟩:=h
 obtain ⟨βn,hE⟩:=effI hn hB hB' hr hG hmv γ hγ hp hmem
 exact ⟨v,he,v,D',βn,rfl,hE⟩
end
theorem sok_sim{P:Program}{o:Oper}{C:bH}{a:Act}{w:World}{S0:SL}{B0 old new:BS}{mv:List Nat}{x:SV}{Q:Exit→Act→World→Prop}(h:SOk P o (kF S0) old new mv x)(hd:gL C.n o.dst=true)(hb:∀ p∈old,∃ c,p.2=some c∧jW B0 p.1=some c)(hks:new.map (·.1)=old.map (·.1))
  (hm:∀ k∈mv,k∈old.map (·.1)∧clrM (old.map (·.1)) k ⟨S0,B0⟩) (hs:cO C a w ⟨S0,B0⟩):o.wp P a w (fun a' w'=>cO C a' w' ⟨eU o.dst x S0,new++B0⟩) Q:=by
 obtain ⟨D,β,hs⟩:=hs
 have hop:∀ q,kZ w D β (a.eval q) (ev (kF S0) q):=fun q=>by
  cases q with
  |tmp t=>exact hs.slots t
  |const v=>exact vE.val v
  |func f=>exact vE.val _
  |global g=>trivial
 have hcur:∀ k c,jW old k=some c→jW B0 k=some c:=fun k c hk=>by
  obtain ⟨c',e1,e2⟩:=hb _ (cZ hk)
  injection e1 with e1;subst e1;exact e2
 have hmem:Mem w D β old:=⟨fun k c hk=>hs.mem.ok k c (hcur k c hk),fun k1 k2 c1 c2 q1 q2=>hs.mem.inj k1 k2 c1 c2 (hcur _ _ q1) (hcur _ _ q2)⟩
 refine Oper.wp_mono (fun a' wd' hp=>?_) (h a w D β Q (fun q _=>hop q) hmem hs.base.dok)
 obtain ⟨v,D',β',rfl,hE⟩:=hp
 have hmine:∀ b,yY β old b→C.own b:=fun b ⟨k,c,h1,h2⟩=>hs.high k c (hcur k c h1) b h2
 have hbase:fS C a wd' D':=⟨hs.base.defers.keep fun q hq _=>hE.oth q _ hq rfl,hs.base.size,fun t g o hd=>(hE.keep t g o (hs.base.dmono _ _ _ hd)).trans (hs.base.keep t g o hd),fun k o hk ho=>hE.oth k o (hs.base.oth k o hk ho) ho,hs.base.pin,
  ⟨hE.below.os.trans hs.base.below.os,hE.below.tape.trans hs.base.below.tape,hE.below.output.trans hs.base.below.output,Nat.le_trans hs.base.below.size hE.below.size,fun k hk hn=>(hE.below.block k (Nat.lt_of_lt_of_le hk hs.base.below.size) (fun hq=>by rcases hmine k hq with h1 | h1;omega;exact hn h1)).trans (hs.base.below.block k hk hn),fun k hk vs T f h1=>by
   obtain ⟨us,e1,e2⟩:=hs.base.below.shape k hk vs T f h1
   obtain ⟨us',g1,g2⟩:=hE.below.shape k (Nat.lt_of_lt_of_le hk hs.base.below.size) us T f e1
   exact ⟨us',g1,g2.trans e2⟩⟩,
  fun t g o hd=>hE.up _ _ _ (hs.base.dmono _ _ _ hd),fun t g o hd=>by
   rcases hE.dnew t g o hd with h1 | h1 | h1
   ·exact hs.base.dnew t g o h1
   ·exact .inr (hs.base.fresh h1)
   ·exact .inr (hmine g h1),hE.dok⟩
 have hkmv:∀ {k},k∉old.map (·.1)→k∉mv:=fun h1 h2=>h1 (hm _ h2).1
 have hnot:∀ {j c b},j∉old.map (·.1)→jW B0 j=some c→β j=some b→¬ yY β old b:=fun {j c b} hj hc hb ⟨k,c',h1,h2⟩=>by
  have:=hs.mem.inj j k _ _ hc (hcur k c' h1) b hb h2
  subst this
  exact hj (bget_in h1).1
 have hcase:∀ {j c},jW (new++B0) j=some c→(j∈old.map (·.1)∧jW new j=some c)∨(j∉old.map (·.1)∧jW B0 j=some c):=fun {j c} hc=>by
  by_cases hj:j∈old.map (·.1)
  ·rw[iE (by rw[hks];exact hj)] at hc
   exact .inl ⟨hj,hc⟩
  ·rw[bget_other (by rw[hks];exact hj)] at hc
   exact .inr ⟨hj,hc⟩
 have hlt:∀ {j c b},jW B0 j=some c→β j=some b→b<w.heap.size:=fun {j c b} hj hb'=>by
  rcases hs.mem.ok j c hj with ⟨q1,_⟩ | ⟨b2,vs,T,q1,q2,_⟩
  ·rw[q1] at hb';cases hb'
  ·rw[q1] at hb';injection hb' with e;subst e;exact uM q2
 refine ⟨D',β',hbase.put hd _,⟨fun j c hc'=>?_,fun k1 k2 c1 c2 q1 q2 b e1 e2=>?_⟩,fun j c hc' b hb'=>?_,fun t=>?_⟩
 ·rcases hcase hc' with ⟨h1,h2⟩ | ⟨h1,h2⟩
  ·exact hE.mem.ok j c h2
  ·refine hE.blk (hkmv h1) (fun b hb=>hnot h1 h2 hb) (fun q hq=>?_) (hs.mem.ok j c h2)
   rcases (hm q hq).2.2 _ (cZ h2) with h | h
   ·exact absurd h h1
   ·exact h c rfl
 ·rcases hcase q1 with ⟨h1,h2⟩ | ⟨h1,h2⟩
  ·rcases hcase q2 with ⟨g1,g2⟩ | ⟨g1,g2⟩
   ·exact hE.mem.inj k1 k2 _ _ h2 g2 b e1 e2
   ·rw[hE.stay k2 (hkmv g1)] at e2
    rcases hE.high k1 _ h2 b e1 with h | h
    ·have:=hlt g2 e2;omega
    ·exact absurd h (hnot g1 g2 e2)
  ·rw[hE.stay k1 (hkmv h1)] at e1
   rcases hcase q2 with ⟨g1,g2⟩ | ⟨g1,g2⟩
   ·rcases hE.high k2 _ g2 b e2 with h | h
    ·have:=hlt h2 e1;omega
    ·exact absurd h (hnot h1 h2 e1)
   ·rw[hE.stay k2 (hkmv g1)] at e2
    exact hs.mem.inj k1 k2 _ _ h2 g2 b e1 e2
 ·rcases hcase hc' with ⟨h1,h2⟩ | ⟨h1,h2⟩
  ·rcases hE.high j _ h2 b hb' with h | h
   ·exact hs.base.fresh h
   ·exact hmine b h
  ·rw[hE.stay j (hkmv h1)] at hb'
   exact hs.high j c h2 b hb'
 ·rw[vO hs.base.size hd,vD]
  split
  ·exact hE.res
  ·exact hE.repS (fun k hk=>sl_clr (l:=[]) (r:=S0) (hm k hk).2 rfl t) (hs.slots t)
inductive FrM (ks mv:List Nat):BS→Prop
 |nil:FrM ks mv []
 |hid {k:Nat} {x:Option (List SV)} {B:BS} (hk:eW ks k=true) (h:FrM ks mv B):FrM ks mv ((k,x)::B)
 |none {k:Nat} {B:BS} (h:FrM ks mv B):FrM ks mv ((k,.none)::B)
 |dat {k:Nat} {ds:List jS} {B:BS} (h:FrM ks mv B):FrM ks mv ((k,some (ds.map SV.d))::B)
 |map {α:Type} {k:Nat} {G:α→jS} {L:List α} {B:BS} (h:FrM ks mv B):FrM ks mv ((k,some (L.map fun g=>SV.d (G g)))::B)
 |cells {k:Nat} {c:List SV} {B:BS} (hc:(mv.all fun q=>!(qG q c))=true) (h:FrM ks mv B):FrM ks mv ((k,some c)::B)
theorem namesAny_dat(k:Nat)(ds:List jS):qG k (ds.map SV.d)=false:=by
 unfold qG
 rw[List.any_eq_false]
 intro x hx
 obtain ⟨d,_,rfl⟩:=List.mem_map.1 hx
 simp [SV.names]
theorem namesAny_mapd{α:Type}(k:Nat)(G:α→jS)(L:List α):qG k (L.map fun g=>SV.d (G g))=false:=by
 unfold qG
 rw[List.any_eq_false]
 intro x hx
 obtain ⟨d,_,rfl⟩:=List.mem_map.1 hx
 simp [SV.names]
theorem FrM.ok{ks mv:List Nat}{B:BS}(h:FrM ks mv B){k:Nat}(hk:k∈mv):∀ p∈B,p.1∈ks∨∀ c,p.2=some c→qG k c=false:=by
 induction h with
 |nil=>intro p hp;cases hp
 |hid hk' h ih=>
  intro p hp;rcases List.mem_cons.1 hp with e | e
  ·subst e;exact .inl (zU.1 hk')
  ·exact ih p e
 |none h ih=>
  intro p hp;rcases List.mem_cons.1 hp with e | e
  ·subst e;exact .inr fun c hc=>by cases hc
  ·exact ih p e
 |dat h ih=>
  intro p hp;rcases List.mem_cons.1 hp with e | e
  ·subst e;exact .inr fun c hc=>by injection hc with hc;subst hc;exact namesAny_dat _ _
  ·exact ih p e
 |map h ih=>
  intro p hp;rcases List.mem_cons.1 hp with e | e
  ·subst e;exact .inr fun c hc=>by injection hc with hc;subst hc;exact namesAny_mapd _ _ _
  ·exact ih p e
 |cells hc h ih=>
  intro p hp;rcases List.mem_cons.1 hp with e | e
  ·subst e;exact .inr fun c hc'=>by injection hc' with hc';subst hc';simpa using List.all_eq_true.1 hc k hk
  ·exact ih p e
inductive NmM (news mv:List Nat):BS→Prop
 |nil:NmM news mv []
 |dat {k:Nat} {ds:List jS} {B:BS} (h:NmM news mv B):NmM news mv ((k,some (ds.map SV.d))::B)
 |map {α:Type} {k:Nat} {G:α→jS} {L:List α} {B:BS} (h:NmM news mv B):NmM news mv ((k,some (L.map fun g=>SV.d (G g)))::B)
 |cells {k:Nat} {c:List SV} {B:BS} (hc:(news.all fun q=>!(qG q c)||eW mv q)=true) (h:NmM news mv B):NmM news mv ((k,some c)::B)
theorem NmM.ok{news mv:List Nat}{B:BS}(h:NmM news mv B):∀ p∈B,∀ c,p.2=some c→∀ k∈news,qG k c=true→k∈mv:=by
 induction h with
 |nil=>intro p hp;cases hp
 |dat h ih=>
  intro p hp;rcases List.mem_cons.1 hp with e | e
  ·subst e;exact fun c hc k _ hn=>by injection hc with hc;subst hc;rw[namesAny_dat] at hn;cases hn
  ·exact ih p e
 |map h ih=>
  intro p hp;rcases List.mem_cons.1 hp with e | e
  ·subst e;exact fun c hc k _ hn=>by injection hc with hc;subst hc;rw[namesAny_mapd] at hn;cases hn
  ·exact ih p e
 |cells hc h ih=>
  intro p hp;rcases List.mem_cons.1 hp with e | e
  ·subst e;exact fun c hc' k hk hn=>by
                                      injection hc' with hc';subst hc'
                                      have:=List.all_eq_true.1 hc k hk
                                      rw[hn] at this
                                      exact zU.1 this
  ·exact ih p e
section
variable {P:Program} {n:Fr} {ops:Array Oper} {K:SL→BS→Prop} {S:SL} {B:BS} {l:List Oper} {o:Oper} {news:List Nat} {acc0:List (List Nat × List Nat)}
theorem wS{f:FuncId}{xs:List SV}{B1:BS}{r:SV}{B1':BS}(ks mv:List Nat)(x:SV)(ys:List SV)(B2 B2':BS)(hf:vR P f xs B1 r B1')(hB:RBi ks B1 B2)(hB':RBi ks B1' B2')(hM:FrM (B2.map (·.1)) mv B)(hN:NmM news mv B2')
  (rr:DK P n ops K (mv++news) (acc0++[(B2.map (·.1),B2.map (·.1))]) ((dO o,x)::S) (B2'++B) l) (hc:CallV P o (kF S) f ys:=by exact callV_fn (ex:=[]) (by exact rfl) (.fn (by kernel_rfl)) (by kernel_rfl)) (g:goK n ops S o=true:=by kernel_rfl)
  (hxs:rnL ks xs=some ys:=by kernel_rfl) (hr:rn ks r=some x:=by kernel_rfl) (hn:ndI ks=true:=by kernel_rfl) (hb:B2.map (fun p=>jW B p.1)=B2.map (·.2):=by kernel_rfl) (hks:B2'.map (·.1)=B2.map (·.1):=by kernel_rfl)
  (hsl:(S.all fun p=>mv.all fun k=>!p.2.names k)=true:=by kernel_rfl) (hin:(mv.all fun k=>eW (B2.map (·.1)) k)=true:=by kernel_rfl) (hcl:((mv++news).all fun k=>!x.names k)=true:=by kernel_rfl)
  (G:List Nat:=[]) (hG:FixI ks B1 B1' G:=by exact .nil) (hmv:(ks.all fun j=>eW mv j||(xs.any (pinI ks j))||eW G j)=true:=by kernel_rfl):DK P n ops K news acc0 S B (o::l):=by
 obtain ⟨st1,acc,r1,r0,r2⟩:=rr
 obtain ⟨hd,hg,hdB⟩:=yD g
 have hb':∀ p∈B2,∃ c,p.2=some c∧jW B p.1=some c:=fun p hp=>by
  obtain ⟨c,e⟩:=hB.some p hp
  exact ⟨c,e,(List.map_inj_left.1 hb p hp).trans e⟩
 have hs:=mL.s (P:=P) (n:=n) (ops:=ops) (news:=news) (st:=⟨S,B⟩) (o:=o) (sok_of hf hc hxs hn hB hB' hr hG hmv) hg (by rw[hd];exact hdB) hb' hks (wk:=B2.map (·.1)) (fun _ h=>h) (fun _ h hn=>absurd h hn)
  (fun k hk=>⟨zU.1 (List.all_eq_true.1 hin k hk),fun p hp=>by simpa using List.all_eq_true.1 (List.all_eq_true.1 hsl p hp) k hk,hM.ok hk⟩)
  (fun k hk=>by simpa using List.all_eq_true.1 hcl k (List.mem_append.2 hk)) hN.ok
 rw[hd] at hs
 exact ⟨st1,(B2.map (·.1),B2.map (·.1))::acc,.cons hs r1,by simpa using r0,r2⟩
end
section
variable {P:Program} {n:Fr} {ops:Array Oper} {K:SL→BS→Prop} {S:SL} {B:BS} {l:List Oper} {o:Oper}
end
section
variable {P:Program}
end
end Go.Fid
