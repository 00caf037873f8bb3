/- Part 20 of a proof: rules, plain facts, and functions walked. -/
import Derived.Test.YtnajallgoaiahaaGreatDoorM19
import Derived.Test.YtnajallgoaiahaaGreatDoorM12
set_option linter.all false
namespace Go.Proofs.YtnajallgoaiahaaGreatDoor
open Go.Fid
def iC{α:Type}(f:α→Bool):List α→Nat→Int
 |[],_=>-1
 |x::r,i=>bif f x then ((i:Nat):Int) else iC f r (i+1)
theorem fst0_step{α:Type}(f:α→Bool)(d:α)(l:List α)(k:Nat)(h:k<l.length)(hf:f (l.getD k d)=false):iC f (l.drop k) k=iC f (l.drop (k+1)) (k+1):=by
 rw[List.drop_eq_getElem_cons h,iC,show f l[k]=false by rw[← hf,List.getD_eq_getElem?_getD,List.getElem?_eq_getElem h];rfl];rfl
theorem fst0_at{α:Type}(f:α→Bool)(d:α)(l:List α)(k:Nat)(h:k<l.length)(hf:f (l.getD k d)=true):iC f (l.drop k) k=((k:Nat):Int):=by
 rw[List.drop_eq_getElem_cons h,iC,show f l[k]=true by rw[← hf,List.getD_eq_getElem?_getD,List.getElem?_eq_getElem h];rfl];rfl
theorem fst0_end{α:Type}(f:α→Bool)(l:List α)(k:Nat)(h:l.length≤k):iC f (l.drop k) k=-1:=by rw[List.drop_eq_nil_of_le h];rfl
theorem fst0_any{α:Type}(f:α→Bool):∀ (l:List α) (i:Nat),decide (0≤iC f l i)=l.any f
 |[],i=>by simp [iC]
 |x::r,i=>by
  rw[iC,List.any_cons]
  cases f x
  ·rw[Bool.false_or,cond_false];exact fst0_any f r (i+1)
  ·rw[Bool.true_or,cond_true,decide_eq_true_eq];omega
theorem vRow_any(l:List jQ):(!(l.any (fun x=>!(kR x))))=gC l:=by
 unfold gC
 rw[List.all_eq_not_any_not]
def yN(m:List (List jQ))(l:List jQ):Bool:=(((l.length:Nat):Int) != (((m.getD 0 []).length:Nat):Int))||!(gC l)
def shpB(m:List (List jQ)):Bool:=(((decide (((m.length:Nat):Int)<1)||decide (64<((m.length:Nat):Int)))||decide ((((m.getD 0 []).length:Nat):Int)<1))||decide (64<(((m.getD 0 []).length:Nat):Int)))
def gS(m:List (List jQ)):Nat:=bif shpB m||m.any (yN m) then 1 else 0
theorem shp_0{m:List (List jQ)}(h:shpB m=false):0<m.length:=by
 unfold shpB at h
 simp only[Bool.or_eq_false_iff,decide_eq_false_iff_not] at h
 omega
theorem mchk_1{m:List (List jQ)}(h:shpB m=true):gS m=1:=by unfold gS;rw[h];rfl
theorem mchk_2{m:List (List jQ)}(h:m.any (yN m)=true):gS m=1:=by unfold gS;rw[h,Bool.or_true];rfl
theorem mchk_3{m:List (List jQ)}(h1:shpB m=false)(h:m.any (yN m)=false):gS m=0:=by unfold gS;rw[h,h1];rfl
structure gJ (m:List (List jQ)) (r c:Nat):Prop where
 hr:m.length=r
 hc:∀ l∈m,l.length=c∧gC l=true
 r1:1≤r
 r64:r≤64
 c1:1≤c
 c64:c≤64
theorem mchk_rect{m:List (List jQ)}(h:gS m=0):gJ m m.length (m.getD 0 []).length:=by
 unfold gS at h
 cases hb:shpB m||m.any (yN m) with
 |true=>rw[hb] at h;cases h
 |false=>
  rw[Bool.or_eq_false_iff] at hb
  obtain ⟨h1,h2⟩:=hb
  unfold shpB at h1
  simp only[Bool.or_eq_false_iff,decide_eq_false_iff_not] at h1
  refine ⟨rfl,fun l hl=>?_,by omega,by omega,by omega,by omega⟩
  have h3:=List.any_eq_false.1 h2 l hl
  unfold yN at h3
  rw[Bool.not_eq_true,Bool.or_eq_false_iff,Bool.not_eq_false',bne_eq_false_iff_eq] at h3
  exact ⟨by omega,h3.2⟩
theorem gJ.at{m:List (List jQ)}{r c:Nat}(h:gJ m r c){i:Nat}(hi:i<r):(m.getD i []).length=c∧gC (m.getD i [])=true:=by
 have:=h.hr
 rw[List.getD_eq_getElem?_getD,List.getElem?_eq_getElem (by omega)];exact h.hc _ (List.getElem_mem _)
theorem toQ_zr:qP zr=0:=by unfold qP;rw[if_neg (by decide)]
def dotT(l m:List jQ):Nat→Rat
 |0=>0
 |i+1=>dotT l m i+qP (l.getD i zr)*qP (m.getD i zr)
def dotR(l m:List jQ):Rat:=dotT l m l.length
theorem dotT_skip{l m:List jQ}{i:Nat}(h:qP (l.getD i zr)=0∨qP (m.getD i zr)=0):dotT l m i=dotT l m (i+1):=by
 rw[dotT]
 rcases h with h | h<;>rw[h]<;>grind
theorem row_ql{l:List jQ}{n j:Nat}(h:vG n l)(hn:1≤n):QL (qP (l.getD j zr)) n:=by
 rcases Nat.lt_or_ge j l.length with hj | hj
 ·exact (vE h.1 hj).ql
 ·rw[List.getD_eq_getElem?_getD,List.getElem?_eq_none (by omega)]
  show QL (qP zr) n
  rw[toQ_zr]
  exact xE mZ hn
theorem dotT_ql{l m:List jQ}{a b:Nat}(hl:vG a l)(hm:vG b m)(ha:1≤a)(hb:1≤b):∀ i,QL (dotT l m i) (i*(a+b+1)+1)
 |0=>xE mZ (by omega)
 |i+1=>by
  rw[dotT]
  exact mI (dotT_ql hl hm ha hb i) (qM (row_ql hl ha) (row_ql hm hb) (Nat.le_refl _)) (by rw[Nat.add_mul];omega)
theorem dot_ql1{l m:List jQ}{i:Nat}(hl:vG 1048576 l)(hm:vG 1048576 m)(hi:i≤64):QL (dotT l m i) 134217800 :=
 xE (dotT_ql hl hm (by decide) (by decide) i) (Nat.le_trans (Nat.add_le_add_right (Nat.mul_le_mul_right _ hi) 1) (by decide))
theorem dot_ql2{l m:List jQ}{i:Nat}(hl:vG 1048576 l)(hm:vG 134217800 m)(hi:i≤64):QL (dotT l m i) 8800000000 :=
 xE (dotT_ql hl hm (by decide) (by decide) i) (Nat.le_trans (Nat.add_le_add_right (Nat.mul_le_mul_right _ hi) 1) (by decide))
def appR(m:List (List jQ))(v:List jQ):List jQ:=m.map fun r=>jN (dotR r v)
theorem appR_len(m:List (List jQ))(v:List jQ):(appR m v).length=m.length:=List.length_map _
theorem appR_step{m:List (List jQ)}{v:List jQ}{i:Nat}(h:i<m.length):(m.take i).map (fun r=>jN (dotR r v))++[jN (dotR (m.getD i []) v)]=(m.take (i+1)).map (fun r=>jN (dotR r v)):=by
 rw[List.take_succ_eq_append_getElem h,List.map_append,List.getD_eq_getElem?_getD,List.getElem?_eq_getElem h];rfl
theorem appR_ok{m:List (List jQ)}{v:List jQ}(hm:vN 1048576 m)(hv:vG 1048576 v)(hr:∀ l∈m,l.length≤64):vG 134217800 (appR m v):=by
 refine ⟨fun a ha=>?_,by rw[appR_len];exact hm.2⟩
 obtain ⟨r,h1,rfl⟩:=List.mem_map.1 ha
 rw[gP]
 exact jZ (dot_ql1 (hm.1 r h1) hv (hr r h1))
theorem gJ.le{m:List (List jQ)}{r c:Nat}(h:gJ m r c):∀ l∈m,l.length≤64:=fun l hl=>by
 have h1:=(h.hc l hl).1
 have h2:=h.c64
 omega
def dW(q:List (List jQ))(a b:List jQ):Rat:=dotR a (appR q b)
def eqM(m:List (List jQ))(i j:Nat):Bool:=decide (qP ((m.getD i []).getD j zr)=qP ((m.getD j []).getD i zr))
def symB(m:List (List jQ)):Bool:=(List.range m.length).all fun i=>(List.range i).all fun j=>eqM m i j
def symI(m:List (List jQ))(k:Nat):Prop:=∀ i,i<k→∀ j,j<i→eqM m i j=true
theorem symI_0(m:List (List jQ)):symI m 0:=fun i h=>by omega
theorem symI_s{m:List (List jQ)}{k:Nat}(h:symI m k)(h2:∀ j,j<k→eqM m k j=true):symI m (k+1):=fun i hi j hj=>by
 rcases Nat.lt_or_ge i k with h3 | h3
 ·exact h i h3 j hj
 ·obtain rfl:i=k:=by omega
  exact h2 j hj
theorem sym_no{m:List (List jQ)}{i j:Nat}(hi:i<m.length)(hj:j<i)(h:eqM m i j=false):symB m=false:=by
 cases hb:symB m with
 |false=>rfl
 |true=>
  have:=List.all_eq_true.1 (List.all_eq_true.1 hb i (List.mem_range.2 hi)) j (List.mem_range.2 hj)
  rw[h] at this;cases this
theorem sym_yes{m:List (List jQ)}(h:symI m m.length):symB m=true:=by
 unfold symB
 rw[List.all_eq_true];intro i hi
 rw[List.all_eq_true];intro j hj
 exact h i (List.mem_range.1 hi) j (List.mem_range.1 hj)
theorem sym_at{m:List (List jQ)}(h:symB m=true){i j:Nat}(hi:i<m.length)(hj:j<i):qP ((m.getD i []).getD j zr)=qP ((m.getD j []).getD i zr) :=
 of_decide_eq_true (List.all_eq_true.1 (List.all_eq_true.1 h i (List.mem_range.2 hi)) j (List.mem_range.2 hj))
def mV(m:List (List jQ))(n:Nat):Nat:=if m.length≠n∨(m.getD 0 []).length≠n then 4 else bif symB m then 0 else 11
theorem fit_1{m:List (List jQ)}{n:Nat}(h:(((((m.length:Nat):Int) != ((n:Nat):Int))||((((m.getD 0 []).length:Nat):Int) != ((n:Nat):Int))))=true):mV m n=4:=by
 rw[Bool.or_eq_true,bne_iff_ne,bne_iff_ne] at h
 exact if_pos (by omega)
theorem fit_0{m:List (List jQ)}{n:Nat}(h:(((((m.length:Nat):Int) != ((n:Nat):Int))||((((m.getD 0 []).length:Nat):Int) != ((n:Nat):Int))))=false):m.length=n∧(m.getD 0 []).length=n:=by
 rw[Bool.or_eq_false_iff,bne_eq_false_iff_eq,bne_eq_false_iff_eq] at h
 omega
theorem fit_11{m:List (List jQ)}{n:Nat}(h:m.length=n∧(m.getD 0 []).length=n)(hs:symB m=false):mV m n=11:=by
 unfold mV;rw[if_neg (by omega),hs];rfl
theorem fit_ok{m:List (List jQ)}{n:Nat}(h:m.length=n∧(m.getD 0 []).length=n)(hs:symB m=true):mV m n=0:=by
 unfold mV;rw[if_neg (by omega),hs];rfl
theorem fit_of{m:List (List jQ)}{n:Nat}(h:mV m n=0):m.length=n∧(m.getD 0 []).length=n∧symB m=true:=by
 unfold mV at h
 split at h
 ·cases h
 ·rename_i h1
  cases hs:symB m with
  |false=>rw[hs] at h;cases h
  |true=>exact ⟨by omega,by omega,rfl⟩
def vT(xs:List Rat)(t:List kV):List jQ:=(vZ (xs.map yF) t).g.map fun y=>jN y.1
def eA(q:List (List jQ))(gs:List (List jQ)):List (List jQ):=gs.map fun a=>gs.map fun b=>jN (dW q a b)
theorem gr_step{G:List R2}{i:Nat}(h:i<G.length):(G.take i).map (fun y=>jN y.1)++[jN (G.getD i z2).1]=(G.take (i+1)).map (fun y=>jN y.1):=by
 rw[List.take_succ_eq_append_getElem h,List.map_append,List.getD_eq_getElem?_getD,List.getElem?_eq_getElem h];rfl
theorem mT{xs:List Rat}{t:List kV}(h:JRun (xs.map yF) t):(vT xs t).length=xs.length:=by
 unfold vT
 rw[List.length_map,h.last.2.2,List.length_map]
theorem aA{xs:List Rat}{t:List kV}(h:JRun (xs.map yF) t):vG 1048576 (vT xs t):=by
 have hl:=h.last
 refine ⟨fun a ha=>?_,?_⟩
 ·unfold vT at ha
  obtain ⟨y,hy,rfl⟩:=List.mem_map.1 ha
  rw[gP]
  exact jZ (hl.2.1 y hy).1
 ·rw[mT h]
  have:=(tm_0 h.c0).2.1
  rw[List.length_map] at this;omega
theorem grQ_v{xs:List Rat}{t:List kV}:gC (vT xs t)=true:=by
 unfold gC vT
 rw[List.all_eq_true]
 intro a ha
 obtain ⟨r,h1,rfl⟩:=List.mem_map.1 ha
 exact cS _
theorem dot_sk{a b:Rat}(h:((nX a != 0)&&(nX b != 0))=false):a=0∨b=0:=by
 rw[Bool.and_eq_false_iff,bne_eq_false_iff_eq,bne_eq_false_iff_eq] at h
 rcases h with h | h
 ·exact .inl (aB.1 h)
 ·exact .inr (aB.1 h)
theorem mcol_le{m:List (List jQ)}{v:List jQ}(h:∀ r∈m,r.length=v.length)(hv:v.length≤64):∀ r∈m,r.length≤64:=fun r hr=>by have:=h r hr;omega
theorem mcol_at{m:List (List jQ)}{v:List jQ}(h:∀ r∈m,r.length=v.length){i:Nat}(hi:i<m.length):(m.getD i []).length=v.length:=by
 rw[List.getD_eq_getElem?_getD,List.getElem?_eq_getElem hi];exact h _ (List.getElem_mem _)
theorem rect_chk{m:List (List jQ)}{r c:Nat}(h:gJ m r c):gS m=0:=by
 have h1:=h.hr;have h2:=h.r1;have h3:=h.r64;have h4:=h.c1;have h5:=h.c64
 have h0:=(h.at (i:=0) h2).1
 refine mchk_3 ?_ ?_
 ·unfold shpB
  simp only[Bool.or_eq_false_iff,decide_eq_false_iff_not]
  omega
 ·rw[List.any_eq_false]
  intro l hl
  obtain ⟨q1,q2⟩:=h.hc l hl
  unfold yN
  rw[Bool.not_eq_true,Bool.or_eq_false_iff,Bool.not_eq_false',bne_eq_false_iff_eq]
  exact ⟨by omega,q2⟩
theorem dT{xs:List Rat}{n:Nat}(h:∀ q∈xs,QL q n)(h1:1≤n)(j:Nat):QL (xs.getD j 0) n:=by
 rcases Nat.lt_or_ge j xs.length with hj | hj
 ·rw[List.getD_eq_getElem?_getD,List.getElem?_eq_getElem hj];exact h _ (List.getElem_mem _)
 ·rw[List.getD_eq_getElem?_getD,List.getElem?_eq_none (by omega)];exact xE mZ h1
theorem pts_row{xs:List Rat}{n:Nat}(h:∀ q∈xs,QL q n)(hl:xs.length≤1000000):vG n (List.map jN xs):=by
 refine ⟨fun a ha=>?_,by rw[List.length_map];omega⟩
 obtain ⟨q,hq,rfl⟩:=List.mem_map.1 ha
 rw[gP];exact jZ (h q hq)
theorem pts_gl{xs:List Rat}{n:Nat}(h:∀ q∈xs,QL q n):∀ y∈List.map yF xs,GL n y:=fun y hy=>by
 obtain ⟨q,hq,rfl⟩:=List.mem_map.1 hy
 exact gl_pt (h q hq)
theorem mS{α β:Type}{f:α→β}{l:List α}{d:α}{i:Nat}(h:i<l.length):(l.take i).map f++[f (l.getD i d)]=(l.take (i+1)).map f:=by
 rw[List.take_succ_eq_append_getElem h,List.map_append,List.getD_eq_getElem?_getD,List.getElem?_eq_getElem h];rfl
theorem cmpQ_zero{a b:Rat}:yC a b=0↔a=b:=by
 rw[← signQ_sub]
 show uG (a-b).num=0↔_
 rw[aB]
 constructor
 ·intro h;grind
 ·intro h;grind
theorem eqm_s{m:List (List jQ)}{i j:Nat}(h:∀ b,b<j→eqM m i b=true)(hc:yC (qP ((m.getD i []).getD j zr)) (qP ((m.getD j []).getD i zr))=0):∀ b,b<j+1→eqM m i b=true:=fun b hb=>by
 rcases Nat.lt_or_ge b j with h1 | h1
 ·exact h b h1
 ·obtain rfl:b=j:=by omega
  exact decide_eq_true (cmpQ_zero.1 hc)
theorem eqm_f{m:List (List jQ)}{i j:Nat}(hc:yC (qP ((m.getD i []).getD j zr)) (qP ((m.getD j []).getD i zr))≠0):eqM m i j=false:=decide_eq_false fun h=>hc (cmpQ_zero.2 h)
theorem tms_at{N:Nat}{ts:List (List kV)}(h:∀ t∈ts,∀ x∈t,gW x.n (qP x.n) N)(i:Nat):∀ x∈ts.getD i [],gW x.n (qP x.n) N:=by
 rcases Nat.lt_or_ge i ts.length with hj | hj
 ·rw[List.getD_eq_getElem?_getD,List.getElem?_eq_getElem hj];exact h _ (List.getElem_mem _)
 ·rw[List.getD_eq_getElem?_getD,List.getElem?_eq_none (by omega)];intro x hx;simp at hx
theorem tms_one{N:Nat}{t:List kV}(h:∀ x∈t,gW x.n (qP x.n) N):∀ u∈[t],∀ x∈u,gW x.n (qP x.n) N:=fun u hu=>by
 rw[List.mem_singleton] at hu;subst hu;exact h
theorem tms_jr{bx:List R2}{ts:List (List kV)}(h:∀ t∈ts,JRun bx t){i:Nat}(hi:i<ts.length):JRun bx (ts.getD i []):=by
 rw[List.getD_eq_getElem?_getD,List.getElem?_eq_getElem hi];exact h _ (List.getElem_mem _)
theorem tms_c0{xs:List Rat}{ts:List (List kV)}(h:∀ t∈ts,JRun (List.map yF xs) t){i:Nat}(hi:i<ts.length):nY ((xs.length:Nat):Int) (ts.getD i [])=0:=by
 have:=(tms_jr h hi).c0
 rwa [List.length_map] at this
theorem grs_ok{xs:List Rat}{ts:List (List kV)}(h:∀ t∈ts,JRun (List.map yF xs) t)(hl:ts.length≤64):vN 1048576 (List.map (vT xs) ts):=by
 refine ⟨fun r hr=>?_,by rw[List.length_map];omega⟩
 obtain ⟨t,ht,rfl⟩:=List.mem_map.1 hr
 exact aA (h t ht)
theorem rect_0{m:List (List jQ)}{r c:Nat}(h:gJ m r c):gJ m m.length (m.getD 0 []).length:=by
 have h1:=h.hr
 have h0:=(h.at (i:=0) h.r1).1
 rw[h0]
 exact ⟨rfl,h.hc,by have:=h.r1;omega,by have:=h.r64;omega,h.c1,h.c64⟩
theorem grs_at{xs:List Rat}{ts:List (List kV)}(h:∀ t∈ts,JRun (List.map yF xs) t){i:Nat}(hi:i<(List.map (vT xs) ts).length):((List.map (vT xs) ts).getD i []).length=xs.length∧gC ((List.map (vT xs) ts).getD i [])=true:=by
 rw[List.length_map] at hi
 rw[List.getD_eq_getElem?_getD,List.getElem?_map,List.getElem?_eq_getElem hi]
 exact ⟨mT (h _ (List.getElem_mem _)),grQ_v⟩
theorem one_of{α:Type}{P:α→Prop}{x:α}(h:P x):∀ u∈[x],P u:=fun u hu=>by rw[List.mem_singleton] at hu;subst hu;exact h
theorem sq2_nn(a b:Rat):0≤a*a+b*b:=Rat.add_nonneg (rat_sq a) (rat_sq b)
theorem uC{α:Type}{P:List α→Prop}{ts:List (List α)}(h:∀ t∈ts,P t){i:Nat}(hi:i<ts.length):P (ts.getD i []):=by
 rw[List.getD_eq_getElem?_getD,List.getElem?_eq_getElem hi];exact h _ (List.getElem_mem _)
end Go.Proofs.YtnajallgoaiahaaGreatDoor
namespace Go.Fid
open Go.RowKit (Below)
section
variable {P:Program} {o:Oper} {S:Nat→SV}
theorem e_mkf{f:FuncId}{ks:List Nat}{caps:List Operand}(ho:o.op=.makeFunc (.func f) #[] caps.toArray)(hx:caps.map (ev S)=ks.map (fun k=>.ref k 0)):vJ P o S [] (.clo f ks) :=
 vJ.same fun a w D β hop _=>by
  refine ⟨.func (.func f) #[] (caps.map a.eval).toArray,?_,caps.map a.eval,rfl,?_,fun i k hk=>?_⟩
  ·simp only[execOp,ho,Instr.makeFunc,Array.map_empty,List.map_toArray,Sem.run_bind,Sem.run_pure,Result.andThen_ok]
   rfl
  ·simpa using congrArg List.length hx
  ·have hi:=congrArg (fun l:List SV=>l[i]?) hx
   simp only[List.getElem?_map,hk,Option.map_some,Option.map_eq_some_iff] at hi
   obtain ⟨c,hc,e⟩:=hi
   have hm:=hop c (by simp [ho,Op.operands,List.mem_of_getElem? hc])
   rw[e] at hm
   obtain ⟨b,h1,h2⟩:=hm
   exact ⟨b,h1,by rw[List.getElem?_map,hc,Option.map_some,h2]⟩
theorem e_clc{y:Operand}{xs:List Operand}{ats:Array TypeId}{f:FuncId}{ds:List jX}{r:jX}{ks:List Nat}{css:List (List jX)}{E:TypeId}{rd:List (Nat × List SV)}
  (hf:jR P f (ds++css.map (fun cs=>.cptr E cs 0)) r) (ho:o.op=.call { callee:=.value y,args:=xs.toArray,argTypes:=ats }) (hy:ev S y=.clo f ks) (hx:xs.map (ev S)=ds.map .d)
  (hrk:rd=ks.zip (css.map (fun cs=>cs.map SV.d))) (uA:css.length=ks.length) (ha:yX E r):vJ P o S rd (.d r) :=
 fun a w D β Q hop hrd hD=>by
  have hyv:=hop y (by simp [ho,Op.operands,Call.operands])
  rw[hy] at hyv
  obtain ⟨vs,hv1,hv2,hv3⟩:=hyv
  have hl:xs.length=ds.length:=by simpa using congrArg List.length hx
  have hargs0:Args w D (xs.map a.eval) ds:=by
   refine ⟨by simpa using hl,fun i v d hv hd=>?_⟩
   rw[List.getElem?_map,Option.map_eq_some_iff] at hv
   obtain ⟨x,hxi,rfl⟩:=hv
   have hm:=hop x (by simp [ho,Op.operands,Call.operands,List.mem_of_getElem? hxi])
   have hi:=congrArg (fun l:List SV=>l[i]?) hx
   simp only[List.getElem?_map,hxi,hd,Option.map_some,Option.some.injEq] at hi
   rw[hi] at hm
   exact hm
  have hrun:(execOp a.eval o).run P w=.ok (.enter f (xs.map a.eval++vs).toArray) w:=by
   simp only[execOp,ho,resolve,Deferred.ofValue,hv1,Sem.run_bind,Sem.run_pure,Result.andThen_ok,invoke,Array.empty_append]
   rw[xF hf.may]
   simp
  -- the private variables are published for the time of the call
  let X:TypeId→Nat→Nat→Prop:=fun t g _=>t=E∧∃ k∈ks,β k=some g
  have hblk:∀ (i:Nat) k cs,ks[i]?=some k→css[i]?=some cs→uZ w D β k (cs.map SV.d):=fun i k cs hk hc=>by
   refine hrd (k,cs.map SV.d) ?_
   rw[hrk]
   refine List.mem_of_getElem? (i:=i) ?_
   rw[List.getElem?_zip_eq_some]
   exact ⟨hk,by rw[List.getElem?_map,hc];rfl⟩
  have hcap:∀ (i:Nat) k cs,ks[i]?=some k→css[i]?=some cs→∃ b us T',β k=some b∧vs[i]?=some (.pointer (some ⟨b,0,none⟩))∧w.heap[b]?=some (.cells us T' (0,0)) ∧
    (∀ (j:Nat) x,(cs.map SV.d)[j]?=some x→∃ u,us[j]?=some u∧u.oneCell'=true∧qF w D β u x)∧∀ t o,¬ D t b o:=fun i k cs hk hc=>by
   obtain ⟨b,h1,h2⟩:=hv3 i k hk
   rcases hblk i k cs hk hc with ⟨g1,_⟩ | ⟨b',us,T',g1,g2,g3,g4,g5⟩
   ·rw[h1] at g1;cases g1
   ·obtain rfl:b=b':=by rw[h1] at g1;injection g1
    exact ⟨b,us,T',h1,h2,g2,g4,g5⟩
  have hXb:∀ t g i,X t g i→(∀ t' i',¬ D t' g i')∧g<w.heap.size:=fun t g i ⟨_,k,hk,hb⟩=>by
   obtain ⟨i,hi⟩:=List.getElem?_of_mem hk
   have hlt:i<css.length:=by rw[uA];exact (List.getElem?_eq_some_iff.1 hi).1
   obtain ⟨b,us,T',h1,_,h3,_,h5⟩:=hcap i k _ hi (List.getElem?_eq_getElem hlt)
   obtain rfl:g=b:=by rw[hb] at h1;injection h1
   exact ⟨fun t' i'=>h5 t' i',uS h3⟩
  have hD':DOk (fun t g i=>D t g i∨X t g i) w:=fun t g i hd=>by
   rcases hd with hd | hd
   ·exact hD _ _ _ hd
   ·exact (hXb t g i hd).2
  have hmono:∀ t' g i,D t' g i→(D t' g i∨X t' g i)∧w.cell? ⟨g,i,none⟩=w.cell? ⟨g,i,none⟩:=fun t' g i hd=>⟨.inl hd,rfl⟩
  have hargs:Args w (fun t g i=>D t g i∨X t g i) (xs.map a.eval++vs) (ds++css.map (fun cs=>.cptr E cs 0)):=by
   refine ⟨by simp [hl,hv2,uA],fun i v d hv hd=>?_⟩
   by_cases hi:i<xs.length
   ·rw[List.getElem?_append_left (by simpa using hi)] at hv
    rw[List.getElem?_append_left (by omega)] at hd
    exact vI.mono hmono (hargs0.2 i v d hv hd)
   ·rw[List.getElem?_append_right (by simpa using hi),List.length_map] at hv
    rw[List.getElem?_append_right (by omega),← hl] at hd
    rw[List.getElem?_map,Option.map_eq_some_iff] at hd
    obtain ⟨cs,hcs,rfl⟩:=hd
    have hlt:i-xs.length<ks.length:=by rw[← uA];exact (List.getElem?_eq_some_iff.1 hcs).1
    obtain ⟨b,us,T',h1,h2,h3,h4,h5⟩:=hcap _ _ cs (List.getElem?_eq_getElem hlt) hcs
    rw[h2] at hv
    injection hv with hv
    subst hv
    have hcell:∀ j,w.cell? ⟨b,j,none⟩=us[j]?:=fun j=>cell_of_row w b j us T' (0,0) h3
    have hj:∀ j,j<cs.length→∃ u,us[j]?=some u∧u.oneCell'=true∧vI w D u (cs[j]?.getD (.tup [])):=fun j hj=>by
     obtain ⟨u,q1,q2,q3⟩:=h4 j (.d cs[j]) (by rw[List.getElem?_map,List.getElem?_eq_getElem hj];rfl)
     exact ⟨u,q1,q2,by rw[List.getElem?_eq_getElem hj];exact q3⟩
    refine vI.cptr (off:=0) b 0 (fun j=>us.getD j undef) (fun j _=>.inr ⟨rfl,_,List.getElem_mem hlt,h1⟩) (fun j hj'=>?_) (fun j hj'=>?_) (fun j d hd=>?_)
    ·obtain ⟨u,q1,_,_⟩:=hj j hj'
     rw[Nat.zero_add,hcell,Array.getD_eq_getD_getElem?,q1];rfl
    ·obtain ⟨u,q1,q2,_⟩:=hj j hj'
     rw[Array.getD_eq_getD_getElem?,q1];exact q2
    ·obtain ⟨u,q1,q2,q3⟩:=hj j (List.getElem?_eq_some_iff.1 hd).1
     rw[Array.getD_eq_getD_getElem?,q1]
     rw[hd] at q3
     exact vI.mono hmono q3
  refine nZ hrun ((hf.run w _ _ hD' hargs).mono fun e w' h=>?_)
  obtain ⟨v,D2,he,h1,h2,h3⟩:=h
  refine ⟨v,he,v,fun t g i=>D2 t g i∧¬ X t g i,rfl,h1,⟨fun t g i hd=>⟨h2.up _ _ _ (.inl hd),fun hx'=>(hXb t g i hx').1 t i hd⟩,fun t g i hd=>?_⟩,?_⟩
  ·rcases h2.new t g i hd.1 with h | h
   ·rcases h with h | h
    ·exact .inl h
    ·exact absurd h hd.2
   ·exact .inr h
  ·exact ha.rep (fun t g i hne hd=>⟨hd,fun hx'=>hne hx'.1⟩) h3
theorem oMf{f:FuncId}{caps:List Operand}(ks:List Nat)(ho:o.op=.makeFunc (.func f) #[] caps.toArray:=by exact rfl)(hx:caps.map (ev S)=ks.map (fun k=>.ref k 0):=by kernel_rfl):vJ P o S [] (.clo f ks):=e_mkf ho hx
end
def RKs(P:Program)(o:Oper)(S:SL)(B:BS)(ks:List Nat)(x:SV):Prop:=∃ rd:List (Nat × List SV),rd.map (·.1)=ks∧vJ P o (kJ S) rd x∧∀ p∈rd,kD B p.1=some p.2
theorem oCc{P:Program}{o:Oper}{S:SL}{B:BS}{y:Operand}{xs:List Operand}{ats:Array TypeId}{f:FuncId}{ds:List jX}{r:jX}(ks:List Nat)(css:List (List jX))
  (hf:jR P f (ds++css.map (fun cs=>.cptr 1000000 cs 0)) r) (ha:yX 1000000 r) (ho:o.op=.call { callee:=.value y,args:=xs.toArray,argTypes:=ats }:=by exact rfl) (hy:ev (kJ S) y=.clo f ks:=by kernel_rfl) (hx:xs.map (ev (kJ S))=ds.map .d:=by kernel_rfl)
  (uA:Nat.beq css.length ks.length=true:=by kernel_rfl) (hb:ks.map (fun k=>kD B k)=css.map (fun cs=>some (cs.map SV.d)):=by kernel_rfl):RKs P o S B ks (.d r):=by
 have uA:=Nat.eq_of_beq_eq_true uA
 refine ⟨ks.zip (css.map (fun cs=>cs.map SV.d)),?_,e_clc hf ho hy hx rfl uA ha,fun p hp=>?_⟩
 ·rw[List.map_fst_zip];simp [uA]
 ·obtain ⟨i,hi⟩:=List.getElem?_of_mem hp
  rw[List.getElem?_zip_eq_some] at hi
  have h1:=congrArg (fun l:List (Option (List SV))=>l[i]?) hb
  simp only[List.getElem?_map,hi.1,Option.map_some] at h1
  have h2:=hi.2
  rw[List.getElem?_map,Option.map_eq_some_iff] at h2
  obtain ⟨cs,hc,e⟩:=h2
  rw[hc] at h1
  simp only[Option.map_some,Option.some.injEq] at h1
  rw[h1,e]
section
variable {P:Program} {n:Fr} {ops:Array Oper} {K:SL→BS→Prop} {S:SL} {B:BS} {l:List Oper} {o:Oper} {news:List Nat} {acc0:List (List Nat × List Nat)}
theorem zC{ks:List Nat}{x:SV}(h:RKs P o S B ks x)(r:SK P n ops K ((dO o,x)::S) B l)(g:goK n ops S o=true:=by kernel_rfl):SK P n ops K S B (o::l):=by
 obtain ⟨st1,r1,r2⟩:=r
 obtain ⟨rd,_,h,hbk⟩:=h
 obtain ⟨hd,hg,hb⟩:=yK g
 have hs:=Step.e (P:=P) (n:=n) (ops:=ops) (st:=⟨S,B⟩) (o:=o) h hg (by rw[hd];exact hb) hbk
 rw[hd] at hs
 exact ⟨st1,.cons hs r1,r2⟩
theorem wC{ks:List Nat}{x:SV}(h:RKs P o S B ks x)(r:DK P n ops K news (acc0++[(ks,[])]) ((dO o,x)::S) B l)(g:goK n ops S o=true:=by kernel_rfl)(hn:clearR ops S o news x=true:=by kernel_rfl):DK P n ops K news acc0 S B (o::l):=by
 obtain ⟨st1,acc,r1,r0,r2⟩:=r
 obtain ⟨rd,hk,h,hbk⟩:=h
 obtain ⟨hd,hg,hb⟩:=yK g
 have hs:=mJ.e (P:=P) (n:=n) (ops:=ops) (news:=news) (st:=⟨S,B⟩) (o:=o) h hg (by rw[hd];exact hb) hbk hn
 rw[hd,hk] at hs
 exact ⟨st1,(ks,[])::acc,.cons hs r1,by simpa using r0,r2⟩
end
inductive CArgs (bl:List (Nat × List jX)):List Nat→List (List jX)→Prop
 |nil:CArgs bl [] []
 |cons {k:Nat} {cs:List jX} {ks:List Nat} {css:List (List jX)} (hk:(k,cs)∈bl) (h:CArgs bl ks css):CArgs bl (k::ks) (cs::css)
theorem CArgs.len{bl:List (Nat × List jX)}{ks:List Nat}{css:List (List jX)}(h:CArgs bl ks css):ks.length=css.length:=by
 induction h with
 |nil=>rfl
 |cons hk h ih=>simp [ih]
theorem CArgs.get{bl:List (Nat × List jX)}{ks:List Nat}{css:List (List jX)}(h:CArgs bl ks css):∀ (i:Nat) k cs,ks[i]?=some k→css[i]?=some cs→(k,cs)∈bl:=by
 induction h with
 |nil=>intro i k cs h;simp at h
 |cons hk h ih=>
  intro i k cs h1 h2
  rcases i with _ | i
  ·simp at h1 h2;subst h1;subst h2;exact hk
  ·exact ih i k cs (by simpa using h1) (by simpa using h2)
inductive aC (bl:List (Nat × List jX)) (E:TypeId):List SV→List jX→Prop
 |nil:aC bl E [] []
 |d {x:jX} {zs:List SV} {ds:List jX} (h:aC bl E zs ds):aC bl E (.d x::zs) (x::ds)
 |v {k q n s:Nat} {cs es:List jX} {zs:List SV} {ds:List jX} (hk:(k,cs)∈bl) (hes:∀ e∈es,e.cells.length=s) (hl:es.length=n) (hc:(cs.drop q).take (n*s)=qE es) (h:aC bl E zs ds):aC bl E (.view k q n::zs) (.sl E s es::ds)
 |p {k o:Nat} {cs:List jX} {zs:List SV} {ds:List jX} (hk:(k,cs)∈bl) (h:aC bl E zs ds):aC bl E (.ref k o::zs) (.cptr E cs o::ds)
 |c {f:FuncId} {ks:List Nat} {css:List (List jX)} {zs:List SV} {ds:List jX} (hk:CArgs bl ks css) (h:aC bl E zs ds):aC bl E (.clo f ks::zs) (.clo f (css.map fun cs=>.cptr E cs 0)::ds)
theorem aC.len{bl:List (Nat × List jX)}{E:TypeId}{zs:List SV}{ds:List jX}(h:aC bl E zs ds):zs.length=ds.length:=by
 induction h with
 |nil=>rfl
 |d h ih=>simp [ih]
 |v hk hes hl hc h ih=>simp [ih]
 |p hk h ih=>simp [ih]
 |c hk h ih=>simp [ih]
theorem aC.rep{bl:List (Nat × List jX)}{E:TypeId}{zs:List SV}{ds:List jX}(h:aC bl E zs ds){w:World}{D D':qN}{β:qH}(h1:∀ v x,vI w D v x→vI w D' v x)
  (h2:∀ (k q n s:Nat) (cs es:List jX) (v:Value),(k,cs)∈bl→(∀ e∈es,e.cells.length=s)→es.length=n→(cs.drop q).take (n*s)=qE es→qF w D β v (.view k q n)→vI w D' v (.sl E s es))
  (h3:∀ (k o:Nat) (cs:List jX) (v:Value),(k,cs)∈bl→qF w D β v (.ref k o)→vI w D' v (.cptr E cs o)) :
  ∀ (vs:List Value),vs.length=zs.length→(∀ (i:Nat) v x,vs[i]?=some v→zs[i]?=some x→qF w D β v x)→∀ (i:Nat) v d,vs[i]?=some v→ds[i]?=some d→vI w D' v d:=by
 induction h with
 |nil=>intro vs _ _ i v d _ hd;simp at hd
 |d h ih=>
  intro vs hl hr i v d' hv hd
  rcases vs with _ | ⟨v0,vs⟩
  ·simp at hl
  ·rcases i with _ | i
   ·simp at hv hd;subst hv;subst hd;exact h1 _ _ (hr 0 _ _ rfl rfl)
   ·exact ih vs (by simpa using hl) (fun i v x h3 h4=>hr (i+1) v x (by simpa using h3) (by simpa using h4)) i v d' (by simpa using hv) (by simpa using hd)
 |v hk hes hl' hc h ih=>
  intro vs hl hr i v d' hv hd
  rcases vs with _ | ⟨v0,vs⟩
  ·simp at hl
  ·rcases i with _ | i
   ·simp at hv hd;subst hv;subst hd;exact h2 _ _ _ _ _ _ _ hk hes hl' hc (hr 0 _ _ rfl rfl)
   ·exact ih vs (by simpa using hl) (fun i v x h3 h4=>hr (i+1) v x (by simpa using h3) (by simpa using h4)) i v d' (by simpa using hv) (by simpa using hd)
 |p hk h ih=>
  intro vs hl hr i v d' hv hd
  rcases vs with _ | ⟨v0,vs⟩
  ·simp at hl
  ·rcases i with _ | i
   ·simp at hv hd;subst hv;subst hd;exact h3 _ _ _ _ hk (hr 0 _ _ rfl rfl)
   ·exact ih vs (by simpa using hl) (fun i v x h3 h4=>hr (i+1) v x (by simpa using h3) (by simpa using h4)) i v d' (by simpa using hv) (by simpa using hd)
 |c hk h ih=>
  intro vs hl hr i v d' hv hd
  rcases vs with _ | ⟨v0,vs⟩
  ·simp at hl
  ·rcases i with _ | i
   ·simp at hv hd;subst hv;subst hd
    obtain ⟨us,e1,e2,e3⟩:=hr 0 _ _ rfl rfl
    rw[e1]
    refine .clo us (by rw[e2,hk.len,List.length_map]) fun j u d hu hd=>?_
    rw[List.getElem?_map,Option.map_eq_some_iff] at hd
    obtain ⟨cs,hcs,rfl⟩:=hd
    have hlt:j<_:=(List.getElem?_eq_some_iff.1 hcs).1
    rw[← hk.len] at hlt
    obtain ⟨b,g1,g2⟩:=e3 j _ (List.getElem?_eq_getElem hlt)
    rw[hu] at g2
    injection g2 with g2
    exact h3 _ 0 cs u (hk.get j _ cs (List.getElem?_eq_getElem hlt) hcs) ⟨b,g1,g2⟩
   ·exact ih vs (by simpa using hl) (fun i v x h3 h4=>hr (i+1) v x (by simpa using h3) (by simpa using h4)) i v d' (by simpa using hv) (by simpa using hd)
theorem blk_pub{w:World}{D:qN}{β:qH}{bl:List (Nat × List jX)}{E:TypeId}(hD:DOk D w)(hbl:∀ p∈bl,uZ w D β p.1 (p.2.map SV.d)) :
  ∃ X:TypeId→Nat→Nat→Prop,DOk (fun t g i=>D t g i∨X t g i) w∧(∀ t g i,X t g i→t=E∧∀ t' i',¬ D t' g i') ∧
   (∀ (k q n s:Nat) (cs es:List jX) (v:Value),(k,cs)∈bl→(∀ e∈es,e.cells.length=s)→es.length=n→(cs.drop q).take (n*s)=qE es→qF w D β v (.view k q n)→vI w (fun t g i=>D t g i∨X t g i) v (.sl E s es)) ∧
   (∀ (k o:Nat) (cs:List jX) (v:Value),(k,cs)∈bl→qF w D β v (.ref k o)→vI w (fun t g i=>D t g i∨X t g i) v (.cptr E cs o)):=by
 let X:TypeId→Nat→Nat→Prop:=fun t g _=>t=E∧∃ p∈bl,β p.1=some g
 have hcap:∀ p∈bl,∀ b,β p.1=some b→∃ us T',w.heap[b]?=some (.cells us T' (0,0))∧(∀ (j:Nat) x,(p.2.map SV.d)[j]?=some x→∃ u,us[j]?=some u∧u.oneCell'=true∧qF w D β u x)∧∀ t o,¬ D t b o:=fun p hp b hb=>by
  rcases hbl p hp with ⟨g1,_⟩ | ⟨b',us,T',g1,g2,g3,g4,g5⟩
  ·rw[hb] at g1;cases g1
  ·obtain rfl:b=b':=by rw[hb] at g1;injection g1
   exact ⟨us,T',g2,g4,g5⟩
 have hmono:∀ t' g i,D t' g i→(D t' g i∨X t' g i)∧w.cell? ⟨g,i,none⟩=w.cell? ⟨g,i,none⟩:=fun t' g i hd=>⟨.inl hd,rfl⟩
 refine ⟨X,fun t g i hd=>?_,fun t g i ⟨h1,p,hp,hb⟩=>?_,?_,?_⟩
 ·rcases hd with hd | ⟨_,p,hp,hb⟩
  ·exact hD _ _ _ hd
  ·obtain ⟨us,T',g2,_,_⟩:=hcap p hp g hb;exact uS g2
 ·obtain ⟨us,T',_,_,g5⟩:=hcap p hp g hb
  exact ⟨h1,fun t' i'=>g5 t' i'⟩
 ·intro k q n s cs es v hk hes hl hc hv
  obtain ⟨b,cap,h1,h2,h5,h6⟩:=hv
  obtain ⟨us,T',g2,g4,g5⟩:=hcap (k,cs) hk b h1
  rw[h2]
  have hfl:=vX hes
  have hcell:∀ i,w.cell? ⟨b,i,none⟩=us[i]?:=fun i=>cell_of_row w b i us T' (0,0) g2
  have key:∀ (i:Nat) d,(qE es)[i]?=some d→∃ u,us[q+i]?=some u∧u.oneCell'=true∧vI w D u d:=fun i d hd=>by
   have hi:i<n*s:=by
    have:=(List.getElem?_eq_some_iff.1 hd).1
    rw[hfl,hl] at this;exact this
   have e1:cs[q+i]?=some d:=by
    rw[← hc,List.getElem?_take_of_lt hi,List.getElem?_drop] at hd
    exact hd
   exact g4 _ (.d d) (by rw[List.getElem?_map,e1];rfl)
  refine vI.sl b q (fun i=>us.getD (q+i) undef) hl.symm h5 h6 hes (fun _=>rfl) (fun i hi=>.inr ⟨rfl,_,hk,h1⟩) (fun i hi=>?_) (fun i hi=>?_) (fun i d hd=>?_)
  ·obtain ⟨x,q1,q2,q3⟩:=key i _ (List.getElem?_eq_getElem hi)
   rw[hcell,Array.getD_eq_getD_getElem?,q1];rfl
  ·obtain ⟨x,q1,q2,q3⟩:=key i _ (List.getElem?_eq_getElem hi)
   rw[Array.getD_eq_getD_getElem?,q1];exact q2
  ·obtain ⟨x,q1,q2,q3⟩:=key i d hd
   rw[Array.getD_eq_getD_getElem?,q1]
   exact vI.mono hmono q3
 ·intro k o cs v hk hv
  obtain ⟨b,h1,h2⟩:=hv
  obtain ⟨us,T',g2,g4,g5⟩:=hcap (k,cs) hk b h1
  rw[h2]
  have hcell:∀ i,w.cell? ⟨b,i,none⟩=us[i]?:=fun i=>cell_of_row w b i us T' (0,0) g2
  have key:∀ (i:Nat) d,cs[i]?=some d→∃ u,us[i]?=some u∧u.oneCell'=true∧vI w D u d:=fun i d hd=>g4 _ (.d d) (by rw[List.getElem?_map,hd];rfl)
  have hp:=vI.cptr (w:=w) (D:=fun t g i=>D t g i∨X t g i) (t:=E) (cs:=cs) (off:=o) b 0 (fun i=>us.getD i undef) (fun i hi=>.inr ⟨rfl,_,hk,h1⟩) (fun i hi=>by
   obtain ⟨x,q1,q2,q3⟩:=key i _ (List.getElem?_eq_getElem hi)
   rw[Nat.zero_add,hcell,Array.getD_eq_getD_getElem?,q1];rfl) (fun i hi=>by
   obtain ⟨x,q1,q2,q3⟩:=key i _ (List.getElem?_eq_getElem hi)
   rw[Array.getD_eq_getD_getElem?,q1];exact q2) (fun i d hd=>by
   obtain ⟨x,q1,q2,q3⟩:=key i d hd
   rw[Array.getD_eq_getD_getElem?,q1]
   exact vI.mono hmono q3)
  rw[Nat.zero_add] at hp
  exact hp
theorem e_clg{P:Program}{o:Oper}{S:Nat→SV}{y:Operand}{xs:List Operand}{ats:Array TypeId}{f:FuncId}{ds:List jX}{r:jX}{zs:List SV}{E:TypeId}{bl:List (Nat × List jX)}(hf:jR P f ds r)(ho:o.op=.call { callee:=.value y,args:=xs.toArray,argTypes:=ats })(hy:ev S y=.d (.val (.func (.func f) #[] #[])))
  (hx:xs.map (ev S)=zs) (hz:aC bl E zs ds) (ha:yX E r):vJ P o S (bl.map fun p=>(p.1,p.2.map SV.d)) (.d r) :=
 fun a w D β Q hop hrd hD=>by
  have hyv:=hop y (by simp [ho,Op.operands,Call.operands])
  rw[hy] at hyv
  have hyv':=xD hyv
  have hrep:∀ (i:Nat) v x,(xs.map a.eval)[i]?=some v→zs[i]?=some x→qF w D β v x:=fun i v x hv hz'=>by
   rw[List.getElem?_map,Option.map_eq_some_iff] at hv
   obtain ⟨p,hqi,rfl⟩:=hv
   have hm:=hop p (by simp [ho,Op.operands,Call.operands,List.mem_of_getElem? hqi])
   have hi:=congrArg (fun l:List SV=>l[i]?) hx
   simp only[List.getElem?_map,hqi,hz',Option.map_some,Option.some.injEq] at hi
   rw[hi] at hm
   exact hm
  have uA:(xs.map a.eval).length=zs.length:=by rw[← hx];simp
  have hrun:(execOp a.eval o).run P w=.ok (.enter f (xs.map a.eval).toArray) w:=by
   simp only[execOp,ho,resolve,Deferred.ofValue,hyv',Sem.run_bind,Sem.run_pure,Result.andThen_ok,invoke,Array.empty_append,Array.append_empty]
   rw[xF hf.may]
   simp
  obtain ⟨X,hD',hXp,hv,hp⟩:=blk_pub (E:=E) (bl:=bl) hD (fun p hp=>hrd (p.1,p.2.map SV.d) (List.mem_map_of_mem (f:=fun p:Nat × List jX=>(p.1,p.2.map SV.d)) hp))
  have hmono:∀ t' g i,D t' g i→(D t' g i∨X t' g i)∧w.cell? ⟨g,i,none⟩=w.cell? ⟨g,i,none⟩:=fun t' g i hd=>⟨.inl hd,rfl⟩
  have hargs:Args w (fun t g i=>D t g i∨X t g i) (xs.map a.eval) ds:=⟨uA.trans hz.len,hz.rep (fun v x h=>vI.mono hmono h) hv hp _ uA hrep⟩
  refine nZ hrun ((hf.run w _ _ hD' hargs).mono fun e w' h=>?_)
  obtain ⟨v,D2,he,h1,h2,h3⟩:=h
  refine ⟨v,he,v,fun t g i=>D2 t g i∧¬ X t g i,rfl,h1,⟨fun t g i hd=>⟨h2.up _ _ _ (.inl hd),fun hx'=>(hXp t g i hx').2 t i hd⟩,fun t g i hd=>?_⟩,?_⟩
  ·rcases h2.new t g i hd.1 with h | h
   ·rcases h with h | h
    ·exact .inl h
    ·exact absurd h hd.2
   ·exact .inr h
  ·exact ha.rep (fun t g i hne hd=>⟨hd,fun hx'=>hne (hXp t g i hx').1⟩) h3
theorem oCg{P:Program}{o:Oper}{S:SL}{B:BS}{y:Operand}{xs:List Operand}{ats:Array TypeId}{f:FuncId}{ds:List jX}{r:jX}(bl:List (Nat × List jX))(zs:List SV)(hf:jR P f ds r)(hz:aC bl 1000000 zs ds)(ha:yX 1000000 r)
  (ho:o.op=.call { callee:=.value y,args:=xs.toArray,argTypes:=ats }:=by exact rfl) (hy:ev (kJ S) y=.d (.val (.func (.func f) #[] #[])):=by kernel_rfl) (hx:xs.map (ev (kJ S))=zs:=by kernel_rfl)
  (hb:bl.map (fun p=>kD B p.1)=bl.map (fun p=>some (p.2.map SV.d)):=by kernel_rfl) {ks:List Nat} (hks:bl.map (·.1)=ks:=by exact rfl):RKs P o S B ks (.d r):=by
 refine ⟨bl.map fun p=>(p.1,p.2.map SV.d),by rw[List.map_map];exact hks,e_clg hf ho hy hx hz ha,fun p hp=>?_⟩
 obtain ⟨q,hq,rfl⟩:=List.mem_map.1 hp
 exact List.map_inj_left.1 hb q hq
variable {P:Program}
end Go.Fid
namespace Go.Fid
variable {P:Program} {o:Oper} {S:Nat→SV}
theorem e_nckd{x:Operand}{t:TypeId}{q:Nat}{cs:List jX}(ho:o.op=.nilCheck x)(hx:ev S x=.d (.cptr t cs q)):vJ P o S [] (.d (.cptr t cs q)) :=
 vJ.same fun a' w D β hop _=>by
  have hp:=hop x (by simp [ho,Op.operands])
  rw[hx] at hp
  generalize hvv:a'.eval x=v at hp
  cases hp with
  |cptr g p u hD hu h1 hr=>
   exact ⟨.pointer (some ⟨g,p+q,none⟩),by simp [execOp,ho,hvv],vI.cptr g p u hD hu h1 hr⟩
theorem oNd{x:Operand}{t:TypeId}{q:Nat}{cs:List jX}(ho:o.op=.nilCheck x:=by exact rfl)(hx:ev S x=.d (.cptr t cs q):=by exact rfl):vJ P o S [] (.d (.cptr t cs q)):=e_nckd ho hx
end Go.Fid
namespace Go.Fid
variable {P:Program} {o:Oper} {S:Nat→SV}
theorem e_cld{y:Operand}{xs:List Operand}{ats:Array TypeId}{f:FuncId}{ds caps:List jX}{r:jX}(hf:jR P f (ds++caps) r)(ho:o.op=.call { callee:=.value y,args:=xs.toArray,argTypes:=ats })(hy:ev S y=.d (.clo f caps))(hx:xs.map (ev S)=ds.map .d):vJ P o S [] (.d r) :=
 fun a w D β Q hop hrd hD=>by
  have hyv:=hop y (by simp [ho,Op.operands,Call.operands])
  rw[hy] at hyv
  generalize hvv:a.eval y=v at hyv
  cases hyv with
  |clo vs hl hr=>
   have hlx:xs.length=ds.length:=by simpa using congrArg List.length hx
   have hargs:Args w D (xs.map a.eval++vs) (ds++caps):=by
    refine ⟨by simp [hlx,hl],fun i v d hv hd=>?_⟩
    by_cases hi:i<xs.length
    ·rw[List.getElem?_append_left (by simpa using hi),List.getElem?_map,Option.map_eq_some_iff] at hv
     rw[List.getElem?_append_left (by omega)] at hd
     obtain ⟨x,hxi,rfl⟩:=hv
     have hm:=hop x (by simp [ho,Op.operands,Call.operands,List.mem_of_getElem? hxi])
     have hi:=congrArg (fun l:List SV=>l[i]?) hx
     simp only[List.getElem?_map,hxi,hd,Option.map_some,Option.some.injEq] at hi
     rw[hi] at hm
     exact hm
    ·rw[List.getElem?_append_right (by simpa using hi),List.length_map] at hv
     rw[List.getElem?_append_right (by omega),← hlx] at hd
     exact hr _ _ _ hv hd
   have hrun:(execOp a.eval o).run P w=.ok (.enter f (xs.map a.eval++vs).toArray) w:=by
    simp only[execOp,ho,resolve,Deferred.ofValue,hvv,Sem.run_bind,Sem.run_pure,Result.andThen_ok,invoke,Array.empty_append]
    rw[xF hf.may]
    simp
   refine nZ hrun ((hf.run w _ _ hD hargs).mono fun e w' h=>?_)
   obtain ⟨v,D2,he,h1,h2,h3⟩:=h
   exact ⟨v,he,v,D2,rfl,h1,h2,h3⟩
theorem oCd{S:SL}{y:Operand}{xs:List Operand}{ats:Array TypeId}{f:FuncId}{ds caps:List jX}{r:jX}(hf:jR P f (ds++caps) r)(ho:o.op=.call { callee:=.value y,args:=xs.toArray,argTypes:=ats }:=by exact rfl)
  (hy:ev (kJ S) y=.d (.clo f caps):=by exact rfl) (hx:xs.map (ev (kJ S))=ds.map .d:=by kernel_rfl):vJ P o (kJ S) [] (.d r):=e_cld hf ho hy hx
theorem e_shr{T T':TypeId}{x y:Operand}{k k':IntKind}{m:Int}{n:Nat}(r:Int)(ho:o.op=.binOp .shr T x y T':=by exact rfl)(hx:ev S x=.d (.val (.int k m)):=by exact rfl)(hy:ev S y=.d (.val (.int k' ((n:Nat):Int))):=by exact rfl)
  (hr:m.fdiv (2 ^ (min n k.bits))=r:=by kernel_rfl):vJ P o S [] (.d (.val (.int k r))) :=
 fW ho hx hy (by simp [eqGuard]) fun w=>by
  have h0:¬ ((n:Nat):Int)<0:=by omega
  simp only[binOp,Op.shift,h0,if_false,Int.toNat_natCast,hr,Sem.run_pure]
end Go.Fid
