/- Part 4 of a proof: rules, plain facts, and functions walked. -/
import Derived.Test.YtciingpdmjepgabGreatDoorM3
set_option linter.all false
namespace Go.Fid
open Go.RowKit (Below)
def clear1(news:List Nat)(x:SV):Bool:=news.all fun k=>!(x.names k)
def clearL(news:List Nat)(cs:List SV):Bool:=news.all fun k=>!(kZ k cs)
def tmpOf:Operand->List Tmp
 |.tmp t=>[t]
 |_=>[]
def nF(ops:Array Oper)(o:Oper):List Tmp :=
 (o.op.operands.toList.flatMap tmpOf)++match o.guard with
  |some (j,_)=>((ops[j]?).bind (·.dst)).toList
  |none=>[]
def clearR(ops:Array Oper)(S:SL)(o:Oper)(news:List Nat)(x:SV):Bool:=news.all fun k=>!(x.names k)||(nF ops o).any fun d=>(kA S d).names k
def clearLR(ops:Array Oper)(S:SL)(o:Oper)(news:List Nat)(cs:List SV):Bool:=news.all fun k=>!(kZ k cs)||(nF ops o).any fun d=>(kA S d).names k
def yE(β:kY)(B:BS)(b:Nat):Prop:=∃ k c,jY B k=some c/\β k=some b
structure SEff (w:World) (D:kV) (β:kY) (old new:BS) (mv:List Nat) (v:Value) (x:SV) (w':World) (D':kV) (β':kY):Prop where
 below:cF (yE β old) w.heap.size w w'
 keep:∀ t g o,D t g o->w'.cell? ⟨g,o,none⟩=w.cell? ⟨g,o,none⟩
 oth:∀ (k:Nat) (o:Obj),w.heap[k]?=some o->o.isCells=false->(Obj.isMp o=true->¬ yE β old k)->w'.heap[k]?=some o
 up:∀ t g o,D t g o->D' t g o
 dnew:∀ t g o,D' t g o->D t g o\/w.heap.size<=g\/yE β old g
 dok:DOk D' w'
 mem:Mem w' D' β' new
 high:∀ k c,jY new k=some c->∀ b,β' k=some b->w.heap.size<=b\/yE β old b
 stay:∀ k,k∉mv->β' k=β k
 res:qC w' D' β' v x
def SOk(P:Program)(o:Oper)(S:Nat->SV)(old new:BS)(mv:List Nat)(x:SV):Prop :=
 ∀ (a:Act) (w:World) (D:kV) (β:kY) (Q:Exit->Act->World->Prop),Opnds w D β a o S->Mem w D β old->DOk D w->o.wp P a w (fun a' w'=>∃ v D' β',a'=a.put o.dst v/\SEff w D β old new mv v x w' D' β') Q
def clrM(ks:List Nat)(k:Nat)(st:PS):Prop:=(∀ p∈st.sl,p.2.names k=false)/\∀ p∈st.bs,p.1∈ks\/∀ c,p.2=some c->kZ k c=false
theorem SEff.repS{w w':World}{D D':kV}{β β':kY}{old new:BS}{mv:List Nat}{v:Value}{x:SV}(h:SEff w D β old new mv v x w' D' β'){u:Value}{y:SV}(hn:∀ k∈mv,y.names k=false)(hu:qC w D β u y):qC w' D' β' u y:=by
 have hnm:∀ k,y.names k=true->β' k=β k:=fun k hk=>h.stay k fun hm=>by rw[hn k hm] at hk;cases hk
 have hmono:∀ {v:Value} {d:jT},uN w D v d->uN w' D' v d:=fun hr=>uN.mono (fun t g o hd=>⟨h.up _ _ _ hd,h.keep t g o hd⟩) hr
 have hown:∀ {k t s n:Nat} {v:Value},β' k=β k->((β k=none/\n=0/\v=.slice none 0 0)\/∃ b cap vs,β k=some b/\v=.slice (some ⟨b,0,none⟩) n cap/\w.heap[b]?=some (.cells vs t (0,0))/\vs.size=cap*s/\n<=cap/\cap<=maxLen) ->
   (β' k=none/\n=0/\v=.slice none 0 0)\/∃ b cap vs,β' k=some b/\v=.slice (some ⟨b,0,none⟩) n cap/\w'.heap[b]?=some (.cells vs t (0,0))/\vs.size=cap*s/\n<=cap/\cap<=maxLen:=fun e hu=>by
  rcases hu with ⟨h1,h2⟩ | ⟨b,cap,us,h1,h2,h3,h4,h5⟩
  ·exact .inl ⟨e.trans h1,h2⟩
  ·obtain ⟨us',g1,g2⟩:=h.below.shape b (qV h3) us _ _ h3
   exact .inr ⟨b,cap,us',e.trans h1,h2,g1,g2.trans h4,h5⟩
 cases y with
 |d x=>exact hmono hu
 |ref k o=>obtain ⟨b,h1,h2⟩:=hu;exact ⟨b,(hnm k (by simp [SV.names])).trans h1,h2⟩
 |view k o n=>obtain ⟨b,cap,h1,h2⟩:=hu;exact ⟨b,cap,(hnm k (by simp [SV.names])).trans h1,h2⟩
 |clo f' l=>
  obtain ⟨us,h1,h2,h3⟩:=hu
  refine ⟨us,h1,h2,fun i k hk=>?_⟩
  obtain ⟨b,h4,h5⟩:=h3 i k hk
  exact ⟨b,(hnm k (List.any_eq_true.2 ⟨k,List.mem_of_getElem? hk,by simp⟩)).trans h4,h5⟩
 |own k t s n=>exact hown (hnm k (by simp [SV.names])) hu
 |emp=>exact hu
 |mp k=>obtain ⟨b,h1,h2⟩:=hu;exact ⟨b,(hnm k (by simp [SV.names])).trans h1,h2⟩
 |mo ob=>exact hu
 |refx k o b=>exact ⟨(hnm k (by simp [SV.names])).trans hu.1,hu.2⟩
 |mpx k b=>exact ⟨(hnm k (by simp [SV.names])).trans hu.1,hu.2⟩
 |bnd f k o=>obtain ⟨b,h1,h2⟩:=hu;exact ⟨b,(hnm k (by simp [SV.names])).trans h1,h2⟩
 |ownx k t s n u=>exact ⟨hu.1,hown (hnm k (by simp [SV.names])) hu.2⟩
 |pr k t s n x=>
  obtain ⟨v1,v2,e,hu,hu2⟩:=hu
  exact ⟨v1,v2,e,hown (hnm k (by simp [SV.names])) hu,hmono hu2⟩
 |junk=>trivial
theorem SEff.blk{w w':World}{D D':kV}{β β':kY}{old new:BS}{mv:List Nat}{v:Value}{x:SV}(h:SEff w D β old new mv v x w' D' β'){k:Nat}{c:List SV}(hk:k∉mv)(hb:∀ b,β k=some b->¬ yE β old b)(hn:∀ q∈mv,kZ q c=false)(hu:uA w D β k c):uA w' D' β' k c:=by
 rcases hu with (⟨g1,g2⟩ | ⟨b,ob,g1,g2,g3,g4,g5⟩) | ⟨b,us,T,g1,g2,g3,g4,g5⟩
 ·exact .inl (.inl ⟨(h.stay k hk).trans g1,g2⟩)
 ·have hlt:=qV g2
  refine .inl (.inr ⟨b,ob,(h.stay k hk).trans g1,(h.below.block b hlt (hb b g1)).trans g2,g3,g4,fun t o hdd=>?_⟩)
  rcases h.dnew t b o hdd with h1 | h1 | h1
  ·exact g5 t o h1
  ·omega
  ·exact hb b g1 h1
 ·have hlt:=qV g2
  refine .inr ⟨b,us,T,(h.stay k hk).trans g1,(h.below.block b hlt (hb b g1)).trans g2,g3,fun i x hx=>?_,fun t o hdd=>?_⟩
  ·obtain ⟨u,e1,e2,e3⟩:=g4 i x hx
   refine ⟨u,e1,e2,h.repS (fun q hq=>?_) e3⟩
   have:=hn q hq
   simp only[kZ,List.any_eq_false] at this
   simpa using this x (List.mem_of_getElem? hx)
  ·rcases h.dnew t b o hdd with h1 | h1 | h1
   ·exact g5 t o h1
   ·omega
   ·exact hb b g1 h1
theorem bget_keyed{X Z:BS}{j:Nat}(h:j∈X.map (·.1)):jY (X++Z) j=jY X j:=by
 induction X with
 |nil=>simp at h
 |cons p X ih=>
  obtain ⟨k,x⟩:=p
  rw[List.cons_append,jI,jI]
  split
  ·rfl
  ·rename_i hne
   refine ih ?_
   rw[List.map_cons,List.mem_cons] at h
   rcases h with h | h
   ·exact absurd h.symm hne
   ·exact h
theorem bget_other{X Z:BS}{j:Nat}(h:j∉X.map (·.1)):jY (X++Z) j=jY Z j:=by
 induction X with
 |nil=>rfl
 |cons p X ih=>
  obtain ⟨k,x⟩:=p
  rw[List.map_cons,List.mem_cons,not_or] at h
  rw[List.cons_append,jI,if_neg (fun e=>h.1 e.symm)]
  exact ih h.2
theorem bget_fst{X:BS}{j:Nat}(h:j∈X.map (·.1)):(j,jY X j)∈X:=by
 induction X with
 |nil=>simp at h
 |cons p X ih=>
  obtain ⟨k,x⟩:=p
  rw[jI]
  split
  ·rename_i e;subst e;exact .head _
  ·rename_i hne
   rw[List.map_cons,List.mem_cons] at h
   rcases h with h | h
   ·exact absurd h.symm hne
   ·exact .tail _ (ih h)
theorem bget_in{X:BS}{j:Nat}{c:List SV}(h:jY X j=some c):j∈X.map (·.1)/\(j,some c)∈X:=⟨List.mem_map.2 ⟨_,eI h,rfl⟩,eI h⟩
inductive hH (P:Program) (n:Fr) (ops:Array Oper) (news:List Nat) (st:PS) (o:Oper):List Nat->List Nat->List Nat->PS->Prop
 |e {rd:List (Nat × List SV)} {x:SV} (h:uC P o (kA st.sl) rd x) (hg:vR ops st.sl o=some true) (hd:yH n o.dst=true) (hrd:∀ p∈rd,jY st.bs p.1=some p.2) (hn:clearR ops st.sl o news x=true) :
   hH P n ops news st o news (rd.map (·.1)) [] ⟨fF o.dst x st.sl,st.bs⟩
 |n {k:Nat} {cs:List SV} {x:SV} (h:NOk P o (kA st.sl) k cs x) (hg:vR ops st.sl o=some true) (hd:yH n o.dst=true) (hf:zU k st=true) (hn:clear1 news x=true) (hc:clearL news cs=true) :
   hH P n ops news st o (k::news) [] [k] ⟨fF o.dst x st.sl,(k,some cs)::st.bs⟩
 |t {k:Nat} {old cs:List SV} (h:TOk P o (kA st.sl) k old cs) (hg:vR ops st.sl o=some true) (hd:yH n o.dst=true) (hb:jY st.bs k=some old) (hc:clearLR ops st.sl o news cs=true) :
   hH P n ops news st o news [k] [k] ⟨fF o.dst .junk st.sl,(k,some cs)::st.bs⟩
 |skip (hg:vR ops st.sl o=some false) (hd:yH n o.dst=true):hH P n ops news st o news [] [] ⟨fF o.dst (.d (.tup [])) st.sl,st.bs⟩
 |a {k k':Nat} {old cs:List SV} {x:SV} (h:AOk P o (kA st.sl) k k' old cs x) (hg:vR ops st.sl o=some true) (hd:yH n o.dst=true) (hb:jY st.bs k=some old) (hf:zU k' st=true) (hne:k≠k') (hn:clear1 news x=true) (hc:clearL news cs=true) :
   hH P n ops news st o (k'::news) [k] [k',k] ⟨fF o.dst x st.sl,(k',some cs)::(k,none)::st.bs⟩
 |s {old new:BS} {mv wk:List Nat} {x:SV} (h:SOk P o (kA st.sl) old new mv x) (hg:vR ops st.sl o=some true) (hd:yH n o.dst=true) (hb:∀ p∈old,∃ c,p.2=some c/\jY st.bs p.1=some c) (hks:new.map (·.1)=old.map (·.1))
   (hwk:∀ k∈wk,k∈old.map (·.1)) (hst:∀ k∈old.map (·.1),k∉wk->jY new k=jY old k) (hm:∀ k∈mv,k∈wk/\clrM wk k st) (hn:∀ k,k∈mv\/k∈news->x.names k=false) (hc:∀ p∈new,∀ c,p.2=some c->∀ k∈news,kZ k c=true->k∈mv) :
   hH P n ops news st o (mv++news) (old.map (·.1)) wk ⟨fF o.dst x st.sl,new++st.bs⟩
inductive DSteps (P:Program) (n:Fr) (ops:Array Oper):List Nat->PS->List Oper->List (List Nat × List Nat)->PS->Prop
 |nil {news:List Nat} {st:PS}:DSteps P n ops news st [] [] st
 |cons {news fC r w:List Nat} {st st1 st2:PS} {o:Oper} {l:List Oper} {acc:List (List Nat × List Nat)} (h:hH P n ops news st o fC r w st1) (hr:DSteps P n ops fC st1 l acc st2):DSteps P n ops news st (o::l) ((r,w)::acc) st2
def directB(ops:Array Oper)(j i:Nat):Bool:=match ops[j]? with
 |some o=>o.after.any fun e=>Region.binds .any e&&Nat.beq e.on i
 |none=>false
def ancB(ops:Array Oper):Nat->Nat->Nat->Bool
 |0,_,_=>false
 |f+1,j,i=>directB ops j i||match ops[j]? with
  |some o=>o.after.any fun e=>Region.binds .any e&&ancB ops f e.on i
  |none=>false
def memB(l:List Nat)(k:Nat):Bool:=l.any (Nat.beq k)
def dstIn(o:Oper)(l:List Tmp):Bool:=match o.dst with
 |some d=>memB l d
 |none=>false
def meetB(a b:List Nat):Bool:=a.any (memB b)
def needB(ops:Array Oper)(acc:List (List Nat × List Nat))(i j:Nat):Bool :=
 match ops[i]?,ops[j]?,acc[i]?,acc[j]? with
 |some oi,some oj,some (ri,wi),some (rj,wj)=>dstIn oi (nF ops oj)||dstIn oj (nF ops oi)||dstIn oi oj.dst.toList||meetB wi rj||meetB wi wj||meetB wj ri
 |_,_,_,_=>true
def allPairs(m:Nat)(p:Nat->Nat->Bool):Bool:=(List.range m).all fun j=>(List.range j).all fun i=>p i j
def orderB(ops:Array Oper)(acc:List (List Nat × List Nat)):Bool :=
 Nat.beq acc.length ops.size&&allPairs ops.size fun i j=>!(needB ops acc i j)||ancB ops ops.size j i
theorem memB_iff{l:List Nat}{k:Nat}:memB l k=true↔k∈l:=by
 simp only[memB,List.any_eq_true]
 constructor
 ·rintro ⟨x,hx,h⟩
  have:=Nat.eq_of_beq_eq_true h
  subst this;exact hx
 ·intro h;exact ⟨k,h,by simp⟩
theorem meetB_of{a b:List Nat}{k:Nat}(h1:k∈a)(h2:k∈b):meetB a b=true:=by
 simp only[meetB,List.any_eq_true]
 exact ⟨k,h1,memB_iff.2 h2⟩
section
variable {P:Program} {n:Fr} {ops:Array Oper}
structure Line (P:Program) (n:Fr) (ops:Array Oper) (f:Nat->PS) (g r w:Nat->List Nat):Prop where
 step:∀ (i:Nat) o,ops[i]?=some o->hH P n ops (g i) (f i) o (g (i+1)) (r i) (w i) (f (i+1))
theorem line_of:∀ {l:List Oper} {news:List Nat} {st st':PS} {acc:List (List Nat × List Nat)},DSteps P n ops news st l acc st' ->
  ∃ (f:Nat->PS) (g:Nat->List Nat),f 0=st/\f l.length=st'/\g 0=news/\acc.length=l.length/\∀ (i:Nat) o,l[i]?=some o->∃ r w,acc[i]?=some (r,w)/\hH P n ops (g i) (f i) o (g (i+1)) r w (f (i+1)):=by
 intro l
 induction l with
 |nil=>
  intro news st st' acc h
  cases h
  exact ⟨fun _=>st,fun _=>news,rfl,rfl,rfl,rfl,by simp⟩
 |cons o l ih=>
  intro news st st' acc h
  cases h with
  |cons h hr=>
   rename_i fC r w st1 acc
   obtain ⟨f,g,h1,h2,h3,h4,h5⟩:=ih hr
   refine ⟨fun i=>match i with | 0=>st | i+1=>f i,fun i=>match i with | 0=>news | i+1=>g i,rfl,h2,rfl,by simp [h4],fun i o' ho=>?_⟩
   cases i with
   |zero=>
    simp at ho
    subst ho
    exact ⟨r,w,rfl,by simpa [h1,h3] using h⟩
   |succ i=>exact h5 i o' (by simpa using ho)
end
def L(listed:Array Bool)(i:Nat):Prop:=listed.getD i false=true
def Closed(ops:Array Oper)(listed:Array Bool):Prop:=∀ (j:Nat) o,ops[j]?=some o->L listed j->∀ e∈o.after,Region.binds .any e=true->L listed e.on
theorem direct_listed{ops:Array Oper}{listed:Array Bool}{j i:Nat}(hd:directB ops j i=true)(hc:∀ o,ops[j]?=some o->∀ e∈o.after,Region.binds .any e=true->L listed e.on):L listed i:=by
 unfold directB at hd
 split at hd
 ·rename_i o ho
  rw[<- Array.any_toList,List.any_eq_true] at hd
  obtain ⟨e,he,h⟩:=hd
  simp only[Bool.and_eq_true] at h
  have:=Nat.eq_of_beq_eq_true h.2
  subst this
  exact hc o ho e (Array.mem_toList_iff.1 he) h.1
 ·cases hd
theorem dZ{ops:Array Oper}{listed:Array Bool}(hcl:Closed ops listed):∀ (f j i:Nat),ancB ops f j i=true->(∀ o,ops[j]?=some o->∀ e∈o.after,Region.binds .any e=true->L listed e.on)->L listed i
 |0,j,i,h,_=>by simp [ancB] at h
 |f+1,j,i,h,hc=>by
  simp only[ancB,Bool.or_eq_true] at h
  rcases h with h | h
  ·exact direct_listed h hc
  ·split at h
   ·rename_i o ho
    rw[<- Array.any_toList,List.any_eq_true] at h
    obtain ⟨e,he,h⟩:=h
    simp only[Bool.and_eq_true] at h
    have hl:=hc o ho e (Array.mem_toList_iff.1 he) h.1
    exact dZ hcl f e.on i h.2 fun o' ho'=>hcl e.on o' ho' hl
   ·cases h
def gU(ops:Array Oper)(i:Nat):Option Tmp:=(ops[i]?).bind (·.dst)
def CurS(ops:Array Oper)(f:Nat->PS)(A:Nat->Prop)(t:Tmp)(x:SV):Prop :=
 (∃ i,i<ops.size/\A i/\gU ops i=some t/\(∀ j,i<j->j<ops.size->A j->gU ops j≠some t)/\x=kA (f (i+1)).sl t) \/
 ((∀ i,i<ops.size->A i->gU ops i≠some t)/\x=kA (f 0).sl t)
def gB(ops:Array Oper)(f:Nat->PS)(w:Nat->List Nat)(A:Nat->Prop)(k:Nat)(c:Option (List SV)):Prop :=
 (∃ i,i<ops.size/\A i/\k∈w i/\(∀ j,i<j->j<ops.size->A j->k∉w j)/\c=jY (f (i+1)).bs k) \/
 ((∀ i,i<ops.size->A i->k∉w i)/\c=jY (f 0).bs k)
section
variable {P:Program} {n:Fr} {ops:Array Oper} {f:Nat->PS} {g r w:Nat->List Nat}
theorem dstep_slot{news fC rr ww:List Nat}{st st':PS}{o:Oper}(h:hH P n ops news st o fC rr ww st'){t:Tmp}(ht:o.dst≠some t):kA st'.sl t=kA st.sl t:=by
 cases h<;>simp only[uH,ht,if_false]
theorem dstep_blk{news fC rr ww:List Nat}{st st':PS}{o:Oper}(h:hH P n ops news st o fC rr ww st'){k:Nat}(hk:k∉ww):jY st'.bs k=jY st.bs k:=by
 cases h with
 |e=>rfl
 |n=>simp at hk;simp only[jI];rw[if_neg (fun e=>hk e.symm)]
 |t=>simp at hk;simp only[jI];rw[if_neg (fun e=>hk e.symm)]
 |skip=>rfl
 |a=>simp at hk;simp only[jI];rw[if_neg (fun e=>hk.1 e.symm),if_neg (fun e=>hk.2 e.symm)]
 |s _ _ _ hb hks _ hst=>
  rename_i old new mv x _ _ _ _ _ _ _
  by_cases hj:k∈old.map (·.1)
  ·obtain ⟨c,e1,e2⟩:=hb _ (bget_fst hj)
   show jY (new++st.bs) k=jY st.bs k
   rw[bget_keyed (by rw[hks];exact hj),hst k hj hk,e2]
   exact e1
  ·exact bget_other (by rw[hks];exact hj)
theorem curS_text(hf:Line P n ops f g r w)(A:Nat->Prop)(t:Tmp):∀ i,i<=ops.size->(∀ j,j<i->gU ops j=some t->A j)->(∀ j,i<=j->j<ops.size->A j->gU ops j≠some t)->CurS ops f A t (kA (f i).sl t)
 |0,_,_,h2=>.inr ⟨fun i hi ha=>h2 i (Nat.zero_le _) hi ha,rfl⟩
 |i+1,hi,h1,h2=>by
  have hlt:i<ops.size:=by omega
  have ho:ops[i]?=some ops[i]:=Array.getElem?_eq_getElem hlt
  by_cases hd:gU ops i=some t
  ·exact .inl ⟨i,hlt,h1 i (by omega) hd,hd,fun j hj hj2 ha=>h2 j (by omega) hj2 ha,rfl⟩
  ·have hst:=hf.step i _ ho
   have hdo:(ops[i]).dst≠some t:=fun e=>hd (by simp [gU,ho,e])
   rw[dstep_slot hst hdo]
   refine curS_text hf A t i (by omega) (fun j hj=>h1 j (by omega)) (fun j hj hj2 ha=>?_)
   rcases Nat.lt_or_ge i j with h | h
   ·exact h2 j (by omega) hj2 ha
   ·obtain rfl:j=i:=by omega
    exact hd
theorem curB_text(hf:Line P n ops f g r w)(A:Nat->Prop)(k:Nat):∀ i,i<=ops.size->(∀ j,j<i->k∈w j->A j)->(∀ j,i<=j->j<ops.size->A j->k∉w j)->gB ops f w A k (jY (f i).bs k)
 |0,_,_,h2=>.inr ⟨fun i hi ha=>h2 i (Nat.zero_le _) hi ha,rfl⟩
 |i+1,hi,h1,h2=>by
  have hlt:i<ops.size:=by omega
  have ho:ops[i]?=some ops[i]:=Array.getElem?_eq_getElem hlt
  by_cases hd:k∈w i
  ·exact .inl ⟨i,hlt,h1 i (by omega) hd,hd,fun j hj hj2 ha=>h2 j (by omega) hj2 ha,rfl⟩
  ·have hst:=hf.step i _ ho
   rw[dstep_blk hst hd]
   refine curB_text hf A k i (by omega) (fun j hj=>h1 j (by omega)) (fun j hj hj2 ha=>?_)
   rcases Nat.lt_or_ge i j with h | h
   ·exact h2 j (by omega) hj2 ha
   ·obtain rfl:j=i:=by omega
    exact hd
theorem curB_uniq{A:Nat->Prop}{k:Nat}{c c':Option (List SV)}(h:gB ops f w A k c)(h':gB ops f w A k c'):c=c':=by
 rcases h with ⟨i,h1,h2,h3,h4,rfl⟩ | ⟨h1,rfl⟩
 ·rcases h' with ⟨j,g1,g2,g3,g4,rfl⟩ | ⟨g1,rfl⟩
  ·rcases Nat.lt_trichotomy i j with h | h | h
   ·exact absurd g3 (h4 j h g1 g2)
   ·subst h;rfl
   ·exact absurd h3 (g4 i h h1 h2)
  ·exact absurd h3 (g1 i h1 h2)
 ·rcases h' with ⟨j,g1,g2,g3,g4,rfl⟩ | ⟨g1,rfl⟩
  ·exact absurd g3 (h1 j g1 g2)
  ·rfl
theorem curS_old{A A':Nat->Prop}{i:Nat}(hA:∀ j,A' j↔(A j\/j=i)){t:Tmp}{x:SV}(ht:gU ops i≠some t)(h:CurS ops f A' t x):CurS ops f A t x:=by
 rcases h with ⟨j,h1,h2,h3,h4,h5⟩ | ⟨h1,h2⟩
 ·refine .inl ⟨j,h1,?_,h3,fun j' a b c=>h4 j' a b ((hA j').2 (.inl c)),h5⟩
  rcases (hA j).1 h2 with h | h
  ·exact h
  ·subst h;exact absurd h3 ht
 ·exact .inr ⟨fun j a b=>h1 j a ((hA j).2 (.inl b)),h2⟩
theorem curS_new{A A':Nat->Prop}{i:Nat}(hi:i<ops.size)(hA:∀ j,A' j↔(A j\/j=i)){t:Tmp}{x:SV}(ht:gU ops i=some t)(hlate:∀ j,i<j->j<ops.size->A j->gU ops j≠some t)(h:CurS ops f A' t x):x=kA (f (i+1)).sl t:=by
 rcases h with ⟨j,h1,h2,h3,h4,h5⟩ | ⟨h1,h2⟩
 ·rcases Nat.lt_trichotomy j i with h | h | h
  ·exact absurd ht (h4 i h hi ((hA i).2 (.inr rfl)))
  ·subst h;exact h5
  ·rcases (hA j).1 h2 with h' | h'
   ·exact absurd h3 (hlate j h h1 h')
   ·omega
 ·exact absurd ht (h1 i hi ((hA i).2 (.inr rfl)))
theorem curB_old{A A':Nat->Prop}{i:Nat}(hA:∀ j,A' j↔(A j\/j=i)){k:Nat}{c:Option (List SV)}(ht:k∉w i)(h:gB ops f w A' k c):gB ops f w A k c:=by
 rcases h with ⟨j,h1,h2,h3,h4,h5⟩ | ⟨h1,h2⟩
 ·refine .inl ⟨j,h1,?_,h3,fun j' a b c=>h4 j' a b ((hA j').2 (.inl c)),h5⟩
  rcases (hA j).1 h2 with h | h
  ·exact h
  ·subst h;exact absurd h3 ht
 ·exact .inr ⟨fun j a b=>h1 j a ((hA j).2 (.inl b)),h2⟩
theorem curB_new{A A':Nat->Prop}{i:Nat}(hi:i<ops.size)(hA:∀ j,A' j↔(A j\/j=i)){k:Nat}{c:Option (List SV)}(ht:k∈w i)(hlate:∀ j,i<j->j<ops.size->A j->k∉w j)(h:gB ops f w A' k c):c=jY (f (i+1)).bs k:=by
 rcases h with ⟨j,h1,h2,h3,h4,h5⟩ | ⟨h1,h2⟩
 ·rcases Nat.lt_trichotomy j i with h | h | h
  ·exact absurd ht (h4 i h hi ((hA i).2 (.inr rfl)))
  ·subst h;exact h5
  ·rcases (hA j).1 h2 with h' | h'
   ·exact absurd h3 (hlate j h h1 h')
   ·omega
 ·exact absurd ht (h1 i hi ((hA i).2 (.inr rfl)))
theorem dstep_news{news fC rr ww:List Nat}{st st':PS}{o:Oper}(h:hH P n ops news st o fC rr ww st'):∀ k∈news,k∈fC:=by
 intro k hk
 cases h with
 |e=>exact hk
 |n=>exact List.mem_cons_of_mem _ hk
 |t=>exact hk
 |skip=>exact hk
 |a=>exact List.mem_cons_of_mem _ hk
 |s=>exact List.mem_append_right _ hk
theorem curS_from{A:Nat->Prop}{t:Tmp}{x:SV}(h:CurS ops f A t x):x=kA (f 0).sl t\/∃ i,i<ops.size/\A i/\gU ops i=some t/\x=kA (f (i+1)).sl t:=by
 rcases h with ⟨i,h1,h2,h3,_,h5⟩ | ⟨_,h2⟩
 ·exact .inr ⟨i,h1,h2,h3,h5⟩
 ·exact .inl h2
theorem news_mono(hf:Line P n ops f g r w):∀ {i j:Nat},i<=j->j<=ops.size->∀ k∈g i,k∈g j:=by
 intro i j hij
 induction j with
 |zero=>intro _ k hk;obtain rfl:i=0:=(by omega);exact hk
 |succ j ih=>
  intro hj k hk
  rcases Nat.lt_or_ge i (j+1) with h | h
  ·have h1:=ih (by omega) (by omega) k hk
   exact dstep_news (hf.step j _ (Array.getElem?_eq_getElem (show j<ops.size by omega))) k h1
  ·obtain rfl:i=j+1:=(by omega)
   exact hk
theorem sl_suffix(hf:Line P n ops f g r w){j:Nat}:∀ {i:Nat},j<=i->i<=ops.size->∃ l,(f i).sl=l++(f j).sl:=by
 intro i
 induction i with
 |zero=>intro h _;obtain rfl:j=0:=(by omega);exact ⟨[],rfl⟩
 |succ i ih=>
  intro hj hi
  rcases Nat.lt_or_ge j (i+1) with h | h
  ·obtain ⟨l,hl⟩:=ih (by omega) (by omega)
   have hp:∀ (dst:Option Tmp) (x:SV),∃ l',fF dst x (f i).sl=l'++(f j).sl:=fun dst x=>by
    cases dst with
    |none=>exact ⟨l,hl⟩
    |some d=>exact ⟨(d,x)::l,by simp [fF,hl]⟩
   have hst:=hf.step i _ (Array.getElem?_eq_getElem (show i<ops.size by omega))
   generalize f (i+1)=st' at hst ⊢
   generalize r i=rr at hst
   generalize w i=ww at hst
   generalize g (i+1)=gg at hst
   cases hst<;>exact hp _ _
  ·obtain rfl:j=i+1:=(by omega)
   exact ⟨[],rfl⟩
theorem bs_suffix(hf:Line P n ops f g r w){j:Nat}:∀ {i:Nat},j<=i->i<=ops.size->∃ l,(f i).bs=l++(f j).bs:=by
 intro i
 induction i with
 |zero=>intro h _;obtain rfl:j=0:=(by omega);exact ⟨[],rfl⟩
 |succ i ih=>
  intro hj hi
  rcases Nat.lt_or_ge j (i+1) with h | h
  ·obtain ⟨l,hl⟩:=ih (by omega) (by omega)
   have hst:=hf.step i _ (Array.getElem?_eq_getElem (show i<ops.size by omega))
   generalize f (i+1)=st' at hst ⊢
   generalize r i=rr at hst
   generalize w i=ww at hst
   generalize g (i+1)=gg at hst
   cases hst with
   |e=>exact ⟨l,hl⟩
   |n=>rename_i k cs x _ _ _ _ _ _;exact ⟨(k,some cs)::l,by simp [hl]⟩
   |t=>rename_i k old cs _ _ _ _ _;exact ⟨(k,some cs)::l,by simp [hl]⟩
   |skip=>exact ⟨l,hl⟩
   |a=>rename_i k k' old cs x _ _ _ _ _ _ _ _;exact ⟨(k',some cs)::(k,none)::l,by simp [hl]⟩
   |s=>rename_i old new mv x _ _ _ _ _ _ _ _ _ _;exact ⟨new++l,by simp [hl]⟩
  ·obtain rfl:j=i+1:=(by omega)
   exact ⟨[],rfl⟩
theorem fresh_sl{k:Nat}{st:PS}(h:zU k st=true){l r:SL}(hl:st.sl=l++r)(t:Tmp):(kA r t).names k=false:=by
 have h':zU k ⟨r,[]⟩=true:=by
  simp only[zU,Bool.and_eq_true,List.all_eq_true,List.all_nil,and_true] at h ⊢
  exact fun p hp=>h.1 p (by rw[hl];exact List.mem_append_right _ hp)
 exact bI h' t
theorem fresh_bs{k:Nat}{st:PS}(h:zU k st=true){l r:BS}(hl:st.bs=l++r){j:Nat}{c:List SV}(hj:jY r j=some c):j≠k/\kZ k c=false:=by
 have h':zU k ⟨[],r⟩=true:=by
  simp only[zU,Bool.and_eq_true,List.all_eq_true,List.all_nil,true_and] at h ⊢
  exact fun p hp=>h.2 p (by rw[hl];exact List.mem_append_right _ hp)
 exact fZ h' hj
theorem sl_clr{k:Nat}{ks:List Nat}{st:PS}(h:clrM ks k st){l r:SL}(hl:st.sl=l++r)(t:Tmp):(kA r t).names k=false:=by
 have h':∀ p∈r,p.2.names k=false:=fun p hp=>h.1 p (by rw[hl];exact List.mem_append_right _ hp)
 clear hl
 induction r with
 |nil=>rfl
 |cons p r ih=>
  obtain ⟨j,x⟩:=p
  rw[qM]
  split
  ·exact h' (j,x) (by simp)
  ·exact ih fun q hq=>h' q (by simp [hq])
theorem clear_slot{news fC rr ww:List Nat}{st st':PS}{o:Oper}(h:hH P n ops news st o fC rr ww st'){k:Nat}(hk:k∈news){d:Tmp}(hd:o.dst=some d):(kA st'.sl d).names k=false\/∃ t∈nF ops o,(kA st.sl t).names k=true:=by
 cases h with
 |e _ _ _ _ hn=>
  simp only[uH,hd,if_true]
  simp only[clearR,List.all_eq_true] at hn
  have h1:=hn k hk
  rw[Bool.or_eq_true,List.any_eq_true] at h1
  rcases h1 with h1 | h1
  ·left;simpa using h1
  ·exact .inr h1
 |n _ _ _ _ hn _=>
  simp only[uH,hd,if_true]
  simp only[clear1,List.all_eq_true] at hn
  left;simpa using hn k hk
 |t=>simp only[uH,hd,if_true];exact .inl rfl
 |skip=>simp only[uH,hd,if_true];exact .inl rfl
 |a _ _ _ _ _ _ hn _=>
  simp only[uH,hd,if_true]
  simp only[clear1,List.all_eq_true] at hn
  left;simpa using hn k hk
 |s _ _ _ _ _ _ _ _ hn _=>
  simp only[uH,hd,if_true]
  exact .inl (hn k (.inr hk))
theorem clear_blk{news fC rr ww:List Nat}{st st':PS}{o:Oper}(h:hH P n ops news st o fC rr ww st'){k:Nat}(hk:k∈news){j:Nat}(hj:j∈ww){c:List SV}(hc:jY st'.bs j=some c):kZ k c=false\/(∃ t∈nF ops o,(kA st.sl t).names k=true)\/k∈ww:=by
 have g:∀ x,clearL news x=true->kZ k x=false:=fun x hx=>by
  simp only[clearL,List.all_eq_true] at hx
  simpa using hx k hk
 cases h with
 |e=>simp at hj
 |n _ _ _ _ _ hcl=>
  simp at hj;subst hj
  simp only[jI,if_true,Option.some.injEq] at hc
  subst hc;exact .inl (g _ hcl)
 |t _ _ _ _ hcl=>
  simp at hj;subst hj
  simp only[jI,if_true,Option.some.injEq] at hc
  subst hc
  simp only[clearLR,List.all_eq_true] at hcl
  have h1:=hcl k hk
  rw[Bool.or_eq_true,List.any_eq_true] at h1
  rcases h1 with h1 | h1
  ·left;simpa using h1
  ·exact .inr (.inl h1)
 |skip=>simp at hj
 |a _ _ _ _ _ hne _ hcl=>
  simp at hj
  rcases hj with rfl | rfl
  ·simp only[jI,if_true,Option.some.injEq] at hc
   subst hc;exact .inl (g _ hcl)
  ·rw[jI,if_neg (fun e=>hne e.symm),jI,if_pos rfl] at hc
   cases hc
 |s _ _ _ _ hks hwk _ hm _ hcl=>
  rename_i old new mv x _ _ _ _ _ _
  rw[bget_keyed (by rw[hks];exact hwk j hj)] at hc
  cases hb:kZ k c with
  |false=>exact .inl rfl
  |true=>exact .inr (.inr (hm k (hcl _ (eI hc) c rfl k hk hb)).1)
end
def backB(ops:Array Oper):Bool:=(List.range ops.size).all fun j=>match ops[j]? with
 |some o=>o.after.all fun e=>!(Region.binds .any e)||Nat.blt e.on j
 |none=>true
structure Inv (C:Ctx) (ops:Array Oper) (f:Nat->PS) (w:Nat->List Nat) (A:Nat->Prop) (a:Act) (wd:World) (D:kV) (β:kY):Prop where
 base:fJ C a wd D
 slots:∀ t x,CurS ops f A t x->qC wd D β (a.tmps.getD t undef) x
 blks:∀ k cs,gB ops f w A k (some cs)->uA wd D β k cs
 inj:∀ k1 k2 c1 c2,gB ops f w A k1 (some c1)->gB ops f w A k2 (some c2)->∀ b,β k1=some b->β k2=some b->k1=k2
 high:∀ k c,gB ops f w A k (some c)->∀ b,β k=some b->C.own b
def Needs(ops:Array Oper)(r w:Nat->List Nat)(i j:Nat):Prop :=
 ∀ oi oj,ops[i]?=some oi->ops[j]?=some oj->(∃ d,oi.dst=some d/\d∈nF ops oj)\/(∃ d,oj.dst=some d/\d∈nF ops oi)\/(∃ d,oi.dst=some d/\oj.dst=some d)\/(∃ k,k∈w i/\k∈r j)\/(∃ k,k∈w i/\k∈w j)\/(∃ k,k∈w j/\k∈r i)->ancB ops ops.size j i=true
theorem dstIn_of{o:Oper}{l:List Tmp}{d:Tmp}(h:o.dst=some d)(hm:d∈l):dstIn o l=true:=by
 simp only[dstIn,h];exact memB_iff.2 hm
theorem needs_of{ops:Array Oper}{acc:List (List Nat × List Nat)}{r w:Nat->List Nat}(h:orderB ops acc=true)(hacc:∀ i,i<ops.size->acc[i]?=some (r i,w i)){i j:Nat}(hij:i<j)(hj:j<ops.size):Needs ops r w i j:=by
 intro oi oj hoi hoj hd
 simp only[orderB,Bool.and_eq_true,allPairs,List.all_eq_true,List.mem_range] at h
 have h1:=h.2 j hj i hij
 simp only[Bool.or_eq_true,Bool.not_eq_true'] at h1
 rcases h1 with h1 | h1
 ·simp only[needB,hoi,hoj,hacc i (by omega),hacc j hj,Bool.or_eq_false_iff] at h1
  obtain ⟨⟨⟨⟨⟨q1,q2⟩,q3⟩,q4⟩,q5⟩,q6⟩:=h1
  rcases hd with ⟨d,h2,h3⟩ | ⟨d,h2,h3⟩ | ⟨d,h2,h3⟩ | ⟨k,h2,h3⟩ | ⟨k,h2,h3⟩ | ⟨k,h2,h3⟩
  ·rw[dstIn_of h2 h3] at q1;cases q1
  ·rw[dstIn_of h2 h3] at q2;cases q2
  ·rw[dstIn_of h2 (by simp [h3])] at q3;cases q3
  ·rw[meetB_of h2 h3] at q4;cases q4
  ·rw[meetB_of h2 h3] at q5;cases q5
  ·rw[meetB_of h2 h3] at q6;cases q6
 ·exact h1
theorem countP_lt{p q:Nat->Bool}{i:Nat}:∀ {l:List Nat},(∀ x∈l,p x=true->q x=true)->i∈l->q i=true->p i=false->l.countP p<l.countP q
 |[],_,h,_,_=>by simp at h
 |y::l,hpq,hi,hq,hp=>by
  simp only[List.countP_cons]
  have hle:l.countP p<=l.countP q:=List.countP_mono_left fun x hx=>hpq x (by simp [hx])
  rcases List.mem_cons.1 hi with rfl | hi
  ·rw[hq,hp];simp;omega
  ·have:=countP_lt (fun x hx=>hpq x (by simp [hx])) hi hq hp
   have h1:=hpq y (by simp)
   by_cases hy:p y=true
   ·rw[hy,h1 hy];simp;omega
   ·simp only[hy]
    split<;>simp at *<;>omega
section
variable {P:Program} {n:Fr} {ops:Array Oper} {f:Nat->PS} {g r w:Nat->List Nat} {C:Ctx} {Q:Exit->Act->World->Prop}
theorem all_listed{listed:Array Bool}(hb:backB ops=true)(hr:Region.ready .any ops listed=[])(hsz:listed.size=ops.size):∀ i,i<ops.size->L listed i:=by
 intro i
 induction i using Nat.strongRecOn with
 |_ i ih=>
  intro hi
  rcases hL:listed.getD i false with _ | _
  ·exfalso
   have:i∈Region.ready .any ops listed:=by
    rw[mem_ready]
    refine ⟨?_,ops[i],Array.getElem?_eq_getElem hi,fun e he hbd=>?_⟩
    ·rw[Array.getD_eq_getD_getElem?] at hL ⊢
     have hlt:i<listed.size:=by omega
     simp only[Array.getElem?_eq_getElem hlt,Option.getD_some] at hL ⊢
     exact hL
    ·simp only[backB,List.all_eq_true,List.mem_range] at hb
     have h1:=hb i hi
     rw[Array.getElem?_eq_getElem hi] at h1
     simp only[Array.all_eq_true_iff_forall_mem,Bool.or_eq_true,Bool.not_eq_true'] at h1
     rcases h1 e he with h2 | h2
     ·rw[hbd] at h2;cases h2
     ·have hlt:e.on<i:=Nat.le_of_ble_eq_true h2
      exact ih e.on hlt (by omega)
   rw[hr] at this
   cases this
  ·exact hL
theorem inv_end(hf:Line P n ops f g r w){A:Nat->Prop}(hA:∀ i,i<ops.size->A i){a:Act}{wd:World}{D:kV}{β:kY}(h:Inv C ops f w A a wd D β):fQ C a wd (f ops.size) D β:=by
 have hS:∀ t,CurS ops f A t (kA (f ops.size).sl t):=fun t=>curS_text hf A t ops.size (Nat.le_refl _) (fun j hj _=>hA j hj) (fun j h1 h2=>by omega)
 have hB:∀ k c,jY (f ops.size).bs k=some c->gB ops f w A k (some c):=fun k c hc=>hc▸curB_text hf A k ops.size (Nat.le_refl _) (fun j hj _=>hA j hj) (fun j h1 h2=>by omega)
 exact ⟨h.base,⟨fun k cs hk=>h.blks k cs (hB k cs hk),fun k1 k2 c1 c2 h1 h2=>h.inj k1 k2 c1 c2 (hB _ _ h1) (hB _ _ h2)⟩,fun k c hk=>h.high k c (hB k c hk),fun t=>h.slots t _ (hS t)⟩
end
end Go.Fid
