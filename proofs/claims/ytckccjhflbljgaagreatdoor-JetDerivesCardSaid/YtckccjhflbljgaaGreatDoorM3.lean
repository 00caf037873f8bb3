/- Part 3 of a proof: rules, plain facts, and functions walked. -/
import Derived.Test.YtckccjhflbljgaaGreatDoorM2
set_option linter.all false
namespace Go.Fid
open List
open Go.RowKit (Below)
def clear1(news:List Nat)(x:SV):Bool:=news.all λk=>!(x.names k)
def bF(news:List Nat)(cs:List SV):Bool:=news.all λk=>!(qI k cs)
def tmpOf:Operand->List Tmp
 |.tmp t=>[t]
 |_=>[]
def cJ(ops:Array Oper)(o:Oper):List Tmp :=
 (o.op.operands.toList.flatMap tmpOf)++match o.guard with
  |some (j,_)=>((ops[j]?).bind (·.dst)).toList
  |none=>[]
def clearR(ops:Array Oper)(S:SL)(o:Oper)(news:List Nat)(x:SV):Bool:=news.all λk=>!(x.names k)||(cJ ops o).any λd=>(kD S d).names k
def clearLR(ops:Array Oper)(S:SL)(o:Oper)(news:List Nat)(cs:List SV):Bool:=news.all λk=>!(qI k cs)||(cJ ops o).any λd=>(kD S d).names k
theorem nP{ops:Array Oper}{S:SL}{o:Oper}{news:List Nat}{cs:List SV}(h:bF news cs=true):clearLR ops S o news cs=true:=by
 simp only[bF,all_eq_true] at h
 simp only[clearLR,all_eq_true]
 intro k hk
 rw[h k hk];rfl
def gC(β:kX)(B:BS)(b:Nat):Prop:=∃ k c,kC B k=some c/\β k=some b
structure SEff (w:World) (D:kV) (β:kX) (old new:BS) (mv:List Nat) (v:Value) (x:SV) (w':World) (D':kV) (β':kX):Prop where
 below:dV (gC β old) w.heap.size w w'
 keep:∀ t g o,D t g o->w'.cell? ⟨g,o,none⟩=w.cell? ⟨g,o,none⟩
 oth:∀ (k:Nat) (o:Obj),w.heap[k]?=some o->o.isCells=false->(Obj.isMp o=true->¬ gC β old k)->w'.heap[k]?=some o
 up:∀ t g o,D t g o->D' t g o
 dnew:∀ t g o,D' t g o->D t g o\/w.heap.size<=g\/gC β old g
 dok:iU D' w'
 mem:Mem w' D' β' new
 high:∀ k c,kC new k=some c->∀ b,β' k=some b->w.heap.size<=b\/gC β old b
 stay:∀ k,k∉mv->β' k=β k
 res:kZ w' D' β' v x
def SOk(P:Program)(o:Oper)(S:Nat->SV)(old new:BS)(mv:List Nat)(x:SV):Prop :=
 ∀ (a:Act) (w:World) (D:kV) (β:kX) (Q:Exit->Act->World->Prop),Opnds w D β a o S->Mem w D β old->iU D w->o.wp P a w (λa' w'=>∃ v D' β',a'=a.put o.dst v/\SEff w D β old new mv v x w' D' β') Q
def clrM(ks:List Nat)(k:Nat)(st:PS):Prop:=(∀ p∈st.sl,p.2.names k=false)/\∀ p∈st.bs,p.1∈ks\/∀ c,p.2=some c->qI k c=false
theorem SEff.repS{w w':World}{D D':kV}{β β':kX}{old new:BS}{mv:List Nat}{v:Value}{x:SV}(h:SEff w D β old new mv v x w' D' β'){u:Value}{y:SV}(hn:∀ k∈mv,y.names k=false)(hu:kZ w D β u y):kZ w' D' β' u y:=by
 have hnm:∀ k,y.names k=true->β' k=β k:=λk hk=>h.stay k λhm=>by rw[hn k hm] at hk;cases hk
 have hmono:∀ {v:Value} {d:jY},uS w D v d->uS w' D' v d:=λhr=>uS.mono (λt g o hd=>⟨h.up _ _ _ hd,h.keep t g o hd⟩) hr
 have hown:∀ {k t s n:Nat} {v:Value},β' k=β k->((β k=none/\n=0/\v=.slice none 0 0)\/∃ b cap vs,β k=some b/\v=.slice (some ⟨b,0,none⟩) n cap/\w.heap[b]?=some (.cells vs t (0,0))/\vs.size=cap*s/\n<=cap/\cap<=maxLen) ->
   (β' k=none/\n=0/\v=.slice none 0 0)\/∃ b cap vs,β' k=some b/\v=.slice (some ⟨b,0,none⟩) n cap/\w'.heap[b]?=some (.cells vs t (0,0))/\vs.size=cap*s/\n<=cap/\cap<=maxLen:=λe hu=>by
  rcases hu with ⟨h1,h2⟩ | ⟨b,cap,us,h1,h2,h3,h4,h5⟩
  ·exact .inl ⟨e.trans h1,h2⟩
  ·obtain ⟨us',g1,g2⟩:=h.below.shape b (qW h3) us _ _ h3
   exact .inr ⟨b,cap,us',e.trans h1,h2,g1,g2.trans h4,h5⟩
 cases y with
 |d x=>exact hmono hu
 |ref k o=>obtain ⟨b,h1,h2⟩:=hu;exact ⟨b,(hnm k (by simp [SV.names])).trans h1,h2⟩
 |view k o n=>obtain ⟨b,cap,h1,h2⟩:=hu;exact ⟨b,cap,(hnm k (by simp [SV.names])).trans h1,h2⟩
 |clo f' l=>
  obtain ⟨us,h1,h2,h3⟩:=hu
  refine ⟨us,h1,h2,λi k hk=>?_⟩
  obtain ⟨b,h4,h5⟩:=h3 i k hk
  exact ⟨b,(hnm k (any_eq_true.2 ⟨k,mem_of_getElem? hk,by simp⟩)).trans h4,h5⟩
 |own k t s n=>exact hown (hnm k (by simp [SV.names])) hu
 |emp=>exact hu
 |mp k=>obtain ⟨b,h1,h2⟩:=hu;exact ⟨b,(hnm k (by simp [SV.names])).trans h1,h2⟩
 |mo ob=>exact hu
 |refx k o b=>exact ⟨(hnm k (by simp [SV.names])).trans hu.1,hu.2⟩
 |mpx k b=>exact ⟨(hnm k (by simp [SV.names])).trans hu.1,hu.2⟩
 |bnd f k o=>obtain ⟨b,h1,h2⟩:=hu;exact ⟨b,(hnm k (by simp [SV.names])).trans h1,h2⟩
 |ownx k t s n u=>exact ⟨hu.1,hown (hnm k (by simp [SV.names])) hu.2⟩
 |pr k t s n x=>
  obtain ⟨v1,v2,e,hu,hu2⟩:=hu
  exact ⟨v1,v2,e,hown (hnm k (by simp [SV.names])) hu,hmono hu2⟩
 |junk=>trivial
theorem SEff.blk{w w':World}{D D':kV}{β β':kX}{old new:BS}{mv:List Nat}{v:Value}{x:SV}(h:SEff w D β old new mv v x w' D' β'){k:Nat}{c:List SV}(hk:k∉mv)(hb:∀ b,β k=some b->¬ gC β old b)(hn:∀ q∈mv,qI q c=false)(hu:uE w D β k c):uE w' D' β' k c:=by
 rcases hu with (⟨g1,g2⟩ | ⟨b,ob,g1,g2,g3,g4,g5⟩) | ⟨b,us,T,g1,g2,g3,g4,g5⟩
 ·exact .inl (.inl ⟨(h.stay k hk).trans g1,g2⟩)
 ·have hlt:=qW g2
  refine .inl (.inr ⟨b,ob,(h.stay k hk).trans g1,(h.below.block b hlt (hb b g1)).trans g2,g3,g4,λt o hdd=>?_⟩)
  rcases h.dnew t b o hdd with h1 | h1 | h1
  ·exact g5 t o h1
  ·omega
  ·exact hb b g1 h1
 ·have hlt:=qW g2
  refine .inr ⟨b,us,T,(h.stay k hk).trans g1,(h.below.block b hlt (hb b g1)).trans g2,g3,λi x hx=>?_,λt o hdd=>?_⟩
  ·obtain ⟨u,e1,e2,e3⟩:=g4 i x hx
   refine ⟨u,e1,e2,h.repS (λq hq=>?_) e3⟩
   have:=hn q hq
   simp only[qI,any_eq_false] at this
   simpa using this x (mem_of_getElem? hx)
  ·rcases h.dnew t b o hdd with h1 | h1 | h1
   ·exact g5 t o h1
   ·omega
   ·exact hb b g1 h1
theorem bget_keyed{X Z:BS}{j:Nat}(h:j∈X.map (·.1)):kC (X++Z) j=kC X j:=by
 induction X with
 |nil=>simp at h
 |cons p X ih=>
  obtain ⟨k,x⟩:=p
  rw[cons_append,jI,jI]
  split
  ·rfl
  ·rename_i hne
   refine ih ?_
   rw[map_cons,mem_cons] at h
   rcases h with h | h
   ·exact absurd h.symm hne
   ·exact h
theorem bget_other{X Z:BS}{j:Nat}(h:j∉X.map (·.1)):kC (X++Z) j=kC Z j:=by
 induction X with
 |nil=>rfl
 |cons p X ih=>
  obtain ⟨k,x⟩:=p
  rw[map_cons,mem_cons,not_or] at h
  rw[cons_append,jI,if_neg (λe=>h.1 e.symm)]
  exact ih h.2
theorem bget_fst{X:BS}{j:Nat}(h:j∈X.map (·.1)):(j,kC X j)∈X:=by
 induction X with
 |nil=>simp at h
 |cons p X ih=>
  obtain ⟨k,x⟩:=p
  rw[jI]
  split
  ·rename_i e;subst e;exact .head _
  ·rename_i hne
   rw[map_cons,mem_cons] at h
   rcases h with h | h
   ·exact absurd h.symm hne
   ·exact .tail _ (ih h)
theorem bget_in{X:BS}{j:Nat}{c:List SV}(h:kC X j=some c):j∈X.map (·.1)/\(j,some c)∈X:=⟨mem_map.2 ⟨_,aA h,rfl⟩,aA h⟩
inductive mV (P:Program) (n:Fr) (ops:Array Oper) (news:List Nat) (st:PS) (o:Oper):List Nat->List Nat->List Nat->PS->Prop
 |e {rd:List (Nat × List SV)} {x:SV} (h:uP P o (kD st.sl) rd x) (hg:zL ops st.sl o=some true) (hd:nE n o.dst=true) (hrd:∀ p∈rd,kC st.bs p.1=some p.2) (hn:clearR ops st.sl o news x=true) :
   mV P n ops news st o news (rd.map (·.1)) [] ⟨bD o.dst x st.sl,st.bs⟩
 |n {k:Nat} {cs:List SV} {x:SV} (h:NOk P o (kD st.sl) k cs x) (hg:zL ops st.sl o=some true) (hd:nE n o.dst=true) (hf:gN k st=true) (hn:clear1 news x=true) (hc:bF news cs=true) :
   mV P n ops news st o (k::news) [] [k] ⟨bD o.dst x st.sl,(k,some cs)::st.bs⟩
 |t {k:Nat} {old cs:List SV} (h:TOk P o (kD st.sl) k old cs) (hg:zL ops st.sl o=some true) (hd:nE n o.dst=true) (hb:kC st.bs k=some old) (hc:clearLR ops st.sl o news cs=true) :
   mV P n ops news st o news [k] [k] ⟨bD o.dst .junk st.sl,(k,some cs)::st.bs⟩
 |skip (hg:zL ops st.sl o=some false) (hd:nE n o.dst=true):mV P n ops news st o news [] [] ⟨bD o.dst (.d (.tup [])) st.sl,st.bs⟩
 |a {k k':Nat} {old cs:List SV} {x:SV} (h:AOk P o (kD st.sl) k k' old cs x) (hg:zL ops st.sl o=some true) (hd:nE n o.dst=true) (hb:kC st.bs k=some old) (hf:gN k' st=true) (hne:k≠k') (hn:clear1 news x=true) (hc:bF news cs=true) :
   mV P n ops news st o (k'::news) [k] [k',k] ⟨bD o.dst x st.sl,(k',some cs)::(k,none)::st.bs⟩
 |s {old new:BS} {mv wk:List Nat} {x:SV} (h:SOk P o (kD st.sl) old new mv x) (hg:zL ops st.sl o=some true) (hd:nE n o.dst=true) (hb:∀ p∈old,∃ c,p.2=some c/\kC st.bs p.1=some c) (hks:new.map (·.1)=old.map (·.1))
   (hwk:∀ k∈wk,k∈old.map (·.1)) (hst:∀ k∈old.map (·.1),k∉wk->kC new k=kC old k) (hm:∀ k∈mv,k∈wk/\clrM wk k st) (hn:∀ k,k∈mv\/k∈news->x.names k=false) (hc:∀ p∈new,∀ c,p.2=some c->∀ k∈news,qI k c=true->k∈mv) :
   mV P n ops news st o (mv++news) (old.map (·.1)) wk ⟨bD o.dst x st.sl,new++st.bs⟩
inductive DSteps (P:Program) (n:Fr) (ops:Array Oper):List Nat->PS->List Oper->List (List Nat × List Nat)->PS->Prop
 |nil {news:List Nat} {st:PS}:DSteps P n ops news st [] [] st
 |cons {news bC r w:List Nat} {st st1 st2:PS} {o:Oper} {l:List Oper} {acc:List (List Nat × List Nat)} (h:mV P n ops news st o bC r w st1) (hr:DSteps P n ops bC st1 l acc st2):DSteps P n ops news st (o::l) ((r,w)::acc) st2
def directB(ops:Array Oper)(j i:Nat):Bool:=match ops[j]? with
 |some o=>o.after.any λe=>Region.binds .any e&&Nat.beq e.on i
 |none=>false
def ancB(ops:Array Oper):Nat->Nat->Nat->Bool
 |0,_,_=>false
 |f+1,j,i=>directB ops j i||match ops[j]? with
  |some o=>o.after.any λe=>Region.binds .any e&&ancB ops f e.on i
  |none=>false
def memB(l:List Nat)(k:Nat):Bool:=l.any (Nat.beq k)
def dstIn(o:Oper)(l:List Tmp):Bool:=match o.dst with
 |some d=>memB l d
 |none=>false
def meetB(a b:List Nat):Bool:=a.any (memB b)
def needB(ops:Array Oper)(acc:List (List Nat × List Nat))(i j:Nat):Bool :=
 match ops[i]?,ops[j]?,acc[i]?,acc[j]? with
 |some oi,some oj,some (ri,wi),some (rj,wj)=>dstIn oi (cJ ops oj)||dstIn oj (cJ ops oi)||dstIn oi oj.dst.toList||meetB wi rj||meetB wi wj||meetB wj ri
 |_,_,_,_=>true
def allPairs(m:Nat)(p:Nat->Nat->Bool):Bool:=(range m).all λj=>(range j).all λi=>p i j
def orderB(ops:Array Oper)(acc:List (List Nat × List Nat)):Bool :=
 Nat.beq acc.length ops.size&&allPairs ops.size λi j=>!(needB ops acc i j)||ancB ops ops.size j i
theorem memB_iff{l:List Nat}{k:Nat}:memB l k=true↔k∈l:=by
 simp only[memB,any_eq_true]
 constructor
 ·rintro ⟨x,hx,h⟩
  have:=Nat.eq_of_beq_eq_true h
  subst this;exact hx
 ·intro h;exact ⟨k,h,by simp⟩
theorem meetB_of{a b:List Nat}{k:Nat}(h1:k∈a)(h2:k∈b):meetB a b=true:=by
 simp only[meetB,any_eq_true]
 exact ⟨k,h1,memB_iff.2 h2⟩
section
variable {P:Program} {n:Fr} {ops:Array Oper}
structure Line (P:Program) (n:Fr) (ops:Array Oper) (f:Nat->PS) (g r w:Nat->List Nat):Prop where
 step:∀ (i:Nat) o,ops[i]?=some o->mV P n ops (g i) (f i) o (g (i+1)) (r i) (w i) (f (i+1))
theorem line_of:∀ {l:List Oper} {news:List Nat} {st st':PS} {acc:List (List Nat × List Nat)},DSteps P n ops news st l acc st' ->
  ∃ (f:Nat->PS) (g:Nat->List Nat),f 0=st/\f l.length=st'/\g 0=news/\acc.length=l.length/\∀ (i:Nat) o,l[i]?=some o->∃ r w,acc[i]?=some (r,w)/\mV P n ops (g i) (f i) o (g (i+1)) r w (f (i+1)):=by
 intro l
 induction l with
 |nil=>
  intro news st st' acc h
  cases h
  exact ⟨λ_=>st,λ_=>news,rfl,rfl,rfl,rfl,by simp⟩
 |cons o l ih=>
  intro news st st' acc h
  cases h with
  |cons h hr=>
   rename_i bC r w st1 acc
   obtain ⟨f,g,h1,h2,h3,h4,h5⟩:=ih hr
   refine ⟨λi=>match i with | 0=>st | i+1=>f i,λi=>match i with | 0=>news | i+1=>g i,rfl,h2,rfl,by simp [h4],λi o' ho=>?_⟩
   cases i with
   |zero=>
    simp at ho
    subst ho
    exact ⟨r,w,rfl,by simpa [h1,h3] using h⟩
   |succ i=>exact h5 i o' (by simpa using ho)
end
def L(listed:Array Bool)(i:Nat):Prop:=listed.getD i false=true
def Closed(ops:Array Oper)(listed:Array Bool):Prop:=∀ (j:Nat) o,ops[j]?=some o->L listed j->∀ e∈o.after,Region.binds .any e=true->L listed e.on
theorem direct_listed{ops:Array Oper}{listed:Array Bool}{j i:Nat}(hd:directB ops j i=true)(hc:∀ o,ops[j]?=some o->∀ e∈o.after,Region.binds .any e=true->L listed e.on):L listed i:=by
 unfold directB at hd
 split at hd
 ·rename_i o ho
  rw[<- Array.any_toList,any_eq_true] at hd
  obtain ⟨e,he,h⟩:=hd
  simp only[Bool.and_eq_true] at h
  have:=Nat.eq_of_beq_eq_true h.2
  subst this
  exact hc o ho e (Array.mem_toList_iff.1 he) h.1
 ·cases hd
theorem fV{ops:Array Oper}{listed:Array Bool}(hcl:Closed ops listed):∀ (f j i:Nat),ancB ops f j i=true->(∀ o,ops[j]?=some o->∀ e∈o.after,Region.binds .any e=true->L listed e.on)->L listed i
 |0,j,i,h,_=>by simp [ancB] at h
 |f+1,j,i,h,hc=>by
  simp only[ancB,Bool.or_eq_true] at h
  rcases h with h | h
  ·exact direct_listed h hc
  ·split at h
   ·rename_i o ho
    rw[<- Array.any_toList,any_eq_true] at h
    obtain ⟨e,he,h⟩:=h
    simp only[Bool.and_eq_true] at h
    have hl:=hc o ho e (Array.mem_toList_iff.1 he) h.1
    exact fV hcl f e.on i h.2 λo' ho'=>hcl e.on o' ho' hl
   ·cases h
def mW(ops:Array Oper)(i:Nat):Option Tmp:=(ops[i]?).bind (·.dst)
def CurS(ops:Array Oper)(f:Nat->PS)(A:Nat->Prop)(t:Tmp)(x:SV):Prop :=
 (∃ i,i<ops.size/\A i/\mW ops i=some t/\(∀ j,i<j->j<ops.size->A j->mW ops j≠some t)/\x=kD (f (i+1)).sl t) \/
 ((∀ i,i<ops.size->A i->mW ops i≠some t)/\x=kD (f 0).sl t)
def mJ(ops:Array Oper)(f:Nat->PS)(w:Nat->List Nat)(A:Nat->Prop)(k:Nat)(c:Option (List SV)):Prop :=
 (∃ i,i<ops.size/\A i/\k∈w i/\(∀ j,i<j->j<ops.size->A j->k∉w j)/\c=kC (f (i+1)).bs k) \/
 ((∀ i,i<ops.size->A i->k∉w i)/\c=kC (f 0).bs k)
section
variable {P:Program} {n:Fr} {ops:Array Oper} {f:Nat->PS} {g r w:Nat->List Nat}
theorem dstep_slot{news bC rr ww:List Nat}{st st':PS}{o:Oper}(h:mV P n ops news st o bC rr ww st'){t:Tmp}(ht:o.dst≠some t):kD st'.sl t=kD st.sl t:=by
 cases h<;>simp only[vC,ht,if_false]
theorem dstep_blk{news bC rr ww:List Nat}{st st':PS}{o:Oper}(h:mV P n ops news st o bC rr ww st'){k:Nat}(hk:k∉ww):kC st'.bs k=kC st.bs k:=by
 cases h with
 |e=>rfl
 |n=>simp at hk;simp only[jI];rw[if_neg (λe=>hk e.symm)]
 |t=>simp at hk;simp only[jI];rw[if_neg (λe=>hk e.symm)]
 |skip=>rfl
 |a=>simp at hk;simp only[jI];rw[if_neg (λe=>hk.1 e.symm),if_neg (λe=>hk.2 e.symm)]
 |s _ _ _ hb hks _ hst=>
  rename_i old new mv x _ _ _ _ _ _ _
  by_cases hj:k∈old.map (·.1)
  ·obtain ⟨c,e1,e2⟩:=hb _ (bget_fst hj)
   show kC (new++st.bs) k=kC st.bs k
   rw[bget_keyed (by rw[hks];exact hj),hst k hj hk,e2]
   exact e1
  ·exact bget_other (by rw[hks];exact hj)
theorem curS_text(hf:Line P n ops f g r w)(A:Nat->Prop)(t:Tmp):∀ i,i<=ops.size->(∀ j,j<i->mW ops j=some t->A j)->(∀ j,i<=j->j<ops.size->A j->mW ops j≠some t)->CurS ops f A t (kD (f i).sl t)
 |0,_,_,h2=>.inr ⟨λi hi ha=>h2 i (Nat.zero_le _) hi ha,rfl⟩
 |i+1,hi,h1,h2=>by
  have hlt:i<ops.size:=by omega
  have ho:ops[i]?=some ops[i]:=Array.getElem?_eq_getElem hlt
  by_cases hd:mW ops i=some t
  ·exact .inl ⟨i,hlt,h1 i (by omega) hd,hd,λj hj hj2 ha=>h2 j (by omega) hj2 ha,rfl⟩
  ·have hst:=hf.step i _ ho
   have hdo:(ops[i]).dst≠some t:=λe=>hd (by simp [mW,ho,e])
   rw[dstep_slot hst hdo]
   refine curS_text hf A t i (by omega) (λj hj=>h1 j (by omega)) (λj hj hj2 ha=>?_)
   rcases Nat.lt_or_ge i j with h | h
   ·exact h2 j (by omega) hj2 ha
   ·obtain rfl:j=i:=by omega
    exact hd
theorem curB_text(hf:Line P n ops f g r w)(A:Nat->Prop)(k:Nat):∀ i,i<=ops.size->(∀ j,j<i->k∈w j->A j)->(∀ j,i<=j->j<ops.size->A j->k∉w j)->mJ ops f w A k (kC (f i).bs k)
 |0,_,_,h2=>.inr ⟨λi hi ha=>h2 i (Nat.zero_le _) hi ha,rfl⟩
 |i+1,hi,h1,h2=>by
  have hlt:i<ops.size:=by omega
  have ho:ops[i]?=some ops[i]:=Array.getElem?_eq_getElem hlt
  by_cases hd:k∈w i
  ·exact .inl ⟨i,hlt,h1 i (by omega) hd,hd,λj hj hj2 ha=>h2 j (by omega) hj2 ha,rfl⟩
  ·have hst:=hf.step i _ ho
   rw[dstep_blk hst hd]
   refine curB_text hf A k i (by omega) (λj hj=>h1 j (by omega)) (λj hj hj2 ha=>?_)
   rcases Nat.lt_or_ge i j with h | h
   ·exact h2 j (by omega) hj2 ha
   ·obtain rfl:j=i:=by omega
    exact hd
theorem curB_uniq{A:Nat->Prop}{k:Nat}{c c':Option (List SV)}(h:mJ ops f w A k c)(h':mJ ops f w A k c'):c=c':=by
 rcases h with ⟨i,h1,h2,h3,h4,rfl⟩ | ⟨h1,rfl⟩
 ·rcases h' with ⟨j,g1,g2,g3,g4,rfl⟩ | ⟨g1,rfl⟩
  ·rcases Nat.lt_trichotomy i j with h | h | h
   ·exact absurd g3 (h4 j h g1 g2)
   ·subst h;rfl
   ·exact absurd h3 (g4 i h h1 h2)
  ·exact absurd h3 (g1 i h1 h2)
 ·rcases h' with ⟨j,g1,g2,g3,g4,rfl⟩ | ⟨g1,rfl⟩
  ·exact absurd g3 (h1 j g1 g2)
  ·rfl
theorem curS_old{A A':Nat->Prop}{i:Nat}(hA:∀ j,A' j↔(A j\/j=i)){t:Tmp}{x:SV}(ht:mW ops i≠some t)(h:CurS ops f A' t x):CurS ops f A t x:=by
 rcases h with ⟨j,h1,h2,h3,h4,h5⟩ | ⟨h1,h2⟩
 ·refine .inl ⟨j,h1,?_,h3,λj' a b c=>h4 j' a b ((hA j').2 (.inl c)),h5⟩
  rcases (hA j).1 h2 with h | h
  ·exact h
  ·subst h;exact absurd h3 ht
 ·exact .inr ⟨λj a b=>h1 j a ((hA j).2 (.inl b)),h2⟩
theorem curS_new{A A':Nat->Prop}{i:Nat}(hi:i<ops.size)(hA:∀ j,A' j↔(A j\/j=i)){t:Tmp}{x:SV}(ht:mW ops i=some t)(hlate:∀ j,i<j->j<ops.size->A j->mW ops j≠some t)(h:CurS ops f A' t x):x=kD (f (i+1)).sl t:=by
 rcases h with ⟨j,h1,h2,h3,h4,h5⟩ | ⟨h1,h2⟩
 ·rcases Nat.lt_trichotomy j i with h | h | h
  ·exact absurd ht (h4 i h hi ((hA i).2 (.inr rfl)))
  ·subst h;exact h5
  ·rcases (hA j).1 h2 with h' | h'
   ·exact absurd h3 (hlate j h h1 h')
   ·omega
 ·exact absurd ht (h1 i hi ((hA i).2 (.inr rfl)))
theorem curB_old{A A':Nat->Prop}{i:Nat}(hA:∀ j,A' j↔(A j\/j=i)){k:Nat}{c:Option (List SV)}(ht:k∉w i)(h:mJ ops f w A' k c):mJ ops f w A k c:=by
 rcases h with ⟨j,h1,h2,h3,h4,h5⟩ | ⟨h1,h2⟩
 ·refine .inl ⟨j,h1,?_,h3,λj' a b c=>h4 j' a b ((hA j').2 (.inl c)),h5⟩
  rcases (hA j).1 h2 with h | h
  ·exact h
  ·subst h;exact absurd h3 ht
 ·exact .inr ⟨λj a b=>h1 j a ((hA j).2 (.inl b)),h2⟩
theorem curB_new{A A':Nat->Prop}{i:Nat}(hi:i<ops.size)(hA:∀ j,A' j↔(A j\/j=i)){k:Nat}{c:Option (List SV)}(ht:k∈w i)(hlate:∀ j,i<j->j<ops.size->A j->k∉w j)(h:mJ ops f w A' k c):c=kC (f (i+1)).bs k:=by
 rcases h with ⟨j,h1,h2,h3,h4,h5⟩ | ⟨h1,h2⟩
 ·rcases Nat.lt_trichotomy j i with h | h | h
  ·exact absurd ht (h4 i h hi ((hA i).2 (.inr rfl)))
  ·subst h;exact h5
  ·rcases (hA j).1 h2 with h' | h'
   ·exact absurd h3 (hlate j h h1 h')
   ·omega
 ·exact absurd ht (h1 i hi ((hA i).2 (.inr rfl)))
theorem dstep_news{news bC rr ww:List Nat}{st st':PS}{o:Oper}(h:mV P n ops news st o bC rr ww st'):∀ k∈news,k∈bC:=by
 intro k hk
 cases h with
 |e=>exact hk
 |n=>exact mem_cons_of_mem _ hk
 |t=>exact hk
 |skip=>exact hk
 |a=>exact mem_cons_of_mem _ hk
 |s=>exact mem_append_right _ hk
theorem curS_from{A:Nat->Prop}{t:Tmp}{x:SV}(h:CurS ops f A t x):x=kD (f 0).sl t\/∃ i,i<ops.size/\A i/\mW ops i=some t/\x=kD (f (i+1)).sl t:=by
 rcases h with ⟨i,h1,h2,h3,_,h5⟩ | ⟨_,h2⟩
 ·exact .inr ⟨i,h1,h2,h3,h5⟩
 ·exact .inl h2
theorem news_mono(hf:Line P n ops f g r w):∀ {i j:Nat},i<=j->j<=ops.size->∀ k∈g i,k∈g j:=by
 intro i j hij
 induction j with
 |zero=>intro _ k hk;obtain rfl:i=0:=(by omega);exact hk
 |succ j ih=>
  intro hj k hk
  rcases Nat.lt_or_ge i (j+1) with h | h
  ·have h1:=ih (by omega) (by omega) k hk
   exact dstep_news (hf.step j _ (Array.getElem?_eq_getElem (show j<ops.size by omega))) k h1
  ·obtain rfl:i=j+1:=(by omega)
   exact hk
theorem sl_suffix(hf:Line P n ops f g r w){j:Nat}:∀ {i:Nat},j<=i->i<=ops.size->∃ l,(f i).sl=l++(f j).sl:=by
 intro i
 induction i with
 |zero=>intro h _;obtain rfl:j=0:=(by omega);exact ⟨[],rfl⟩
 |succ i ih=>
  intro hj hi
  rcases Nat.lt_or_ge j (i+1) with h | h
  ·obtain ⟨l,hl⟩:=ih (by omega) (by omega)
   have hp:∀ (dst:Option Tmp) (x:SV),∃ l',bD dst x (f i).sl=l'++(f j).sl:=λdst x=>by
    cases dst with
    |none=>exact ⟨l,hl⟩
    |some d=>exact ⟨(d,x)::l,by simp [bD,hl]⟩
   have hst:=hf.step i _ (Array.getElem?_eq_getElem (show i<ops.size by omega))
   generalize f (i+1)=st' at hst ⊢
   generalize r i=rr at hst
   generalize w i=ww at hst
   generalize g (i+1)=gg at hst
   cases hst<;>exact hp _ _
  ·obtain rfl:j=i+1:=(by omega)
   exact ⟨[],rfl⟩
theorem bs_suffix(hf:Line P n ops f g r w){j:Nat}:∀ {i:Nat},j<=i->i<=ops.size->∃ l,(f i).bs=l++(f j).bs:=by
 intro i
 induction i with
 |zero=>intro h _;obtain rfl:j=0:=(by omega);exact ⟨[],rfl⟩
 |succ i ih=>
  intro hj hi
  rcases Nat.lt_or_ge j (i+1) with h | h
  ·obtain ⟨l,hl⟩:=ih (by omega) (by omega)
   have hst:=hf.step i _ (Array.getElem?_eq_getElem (show i<ops.size by omega))
   generalize f (i+1)=st' at hst ⊢
   generalize r i=rr at hst
   generalize w i=ww at hst
   generalize g (i+1)=gg at hst
   cases hst with
   |e=>exact ⟨l,hl⟩
   |n=>rename_i k cs x _ _ _ _ _ _;exact ⟨(k,some cs)::l,by simp [hl]⟩
   |t=>rename_i k old cs _ _ _ _ _;exact ⟨(k,some cs)::l,by simp [hl]⟩
   |skip=>exact ⟨l,hl⟩
   |a=>rename_i k k' old cs x _ _ _ _ _ _ _ _;exact ⟨(k',some cs)::(k,none)::l,by simp [hl]⟩
   |s=>rename_i old new mv x _ _ _ _ _ _ _ _ _ _;exact ⟨new++l,by simp [hl]⟩
  ·obtain rfl:j=i+1:=(by omega)
   exact ⟨[],rfl⟩
theorem fresh_sl{k:Nat}{st:PS}(h:gN k st=true){l r:SL}(hl:st.sl=l++r)(t:Tmp):(kD r t).names k=false:=by
 have h':gN k ⟨r,[]⟩=true:=by
  simp only[gN,Bool.and_eq_true,all_eq_true,List.all_nil,and_true] at h ⊢
  exact λp hp=>h.1 p (by rw[hl];exact mem_append_right _ hp)
 exact lL h' t
theorem fresh_bs{k:Nat}{st:PS}(h:gN k st=true){l r:BS}(hl:st.bs=l++r){j:Nat}{c:List SV}(hj:kC r j=some c):j≠k/\qI k c=false:=by
 have h':gN k ⟨[],r⟩=true:=by
  simp only[gN,Bool.and_eq_true,all_eq_true,List.all_nil,true_and] at h ⊢
  exact λp hp=>h.2 p (by rw[hl];exact mem_append_right _ hp)
 exact bP h' hj
theorem sl_clr{k:Nat}{ks:List Nat}{st:PS}(h:clrM ks k st){l r:SL}(hl:st.sl=l++r)(t:Tmp):(kD r t).names k=false:=by
 have h':∀ p∈r,p.2.names k=false:=λp hp=>h.1 p (by rw[hl];exact mem_append_right _ hp)
 clear hl
 induction r with
 |nil=>rfl
 |cons p r ih=>
  obtain ⟨j,x⟩:=p
  rw[qQ]
  split
  ·exact h' (j,x) (by simp)
  ·exact ih λq hq=>h' q (by simp [hq])
theorem clear_slot{news bC rr ww:List Nat}{st st':PS}{o:Oper}(h:mV P n ops news st o bC rr ww st'){k:Nat}(hk:k∈news){d:Tmp}(hd:o.dst=some d):(kD st'.sl d).names k=false\/∃ t∈cJ ops o,(kD st.sl t).names k=true:=by
 cases h with
 |e _ _ _ _ hn=>
  simp only[vC,hd,if_true]
  simp only[clearR,all_eq_true] at hn
  have h1:=hn k hk
  rw[Bool.or_eq_true,any_eq_true] at h1
  rcases h1 with h1 | h1
  ·left;simpa using h1
  ·exact .inr h1
 |n _ _ _ _ hn _=>
  simp only[vC,hd,if_true]
  simp only[clear1,all_eq_true] at hn
  left;simpa using hn k hk
 |t=>simp only[vC,hd,if_true];exact .inl rfl
 |skip=>simp only[vC,hd,if_true];exact .inl rfl
 |a _ _ _ _ _ _ hn _=>
  simp only[vC,hd,if_true]
  simp only[clear1,all_eq_true] at hn
  left;simpa using hn k hk
 |s _ _ _ _ _ _ _ _ hn _=>
  simp only[vC,hd,if_true]
  exact .inl (hn k (.inr hk))
theorem clear_blk{news bC rr ww:List Nat}{st st':PS}{o:Oper}(h:mV P n ops news st o bC rr ww st'){k:Nat}(hk:k∈news){j:Nat}(hj:j∈ww){c:List SV}(hc:kC st'.bs j=some c):qI k c=false\/(∃ t∈cJ ops o,(kD st.sl t).names k=true)\/k∈ww:=by
 have g:∀ x,bF news x=true->qI k x=false:=λx hx=>by
  simp only[bF,all_eq_true] at hx
  simpa using hx k hk
 cases h with
 |e=>simp at hj
 |n _ _ _ _ _ hcl=>
  simp at hj;subst hj
  simp only[jI,if_true,Option.some.injEq] at hc
  subst hc;exact .inl (g _ hcl)
 |t _ _ _ _ hcl=>
  simp at hj;subst hj
  simp only[jI,if_true,Option.some.injEq] at hc
  subst hc
  simp only[clearLR,all_eq_true] at hcl
  have h1:=hcl k hk
  rw[Bool.or_eq_true,any_eq_true] at h1
  rcases h1 with h1 | h1
  ·left;simpa using h1
  ·exact .inr (.inl h1)
 |skip=>simp at hj
 |a _ _ _ _ _ hne _ hcl=>
  simp at hj
  rcases hj with rfl | rfl
  ·simp only[jI,if_true,Option.some.injEq] at hc
   subst hc;exact .inl (g _ hcl)
  ·rw[jI,if_neg (λe=>hne e.symm),jI,if_pos rfl] at hc
   cases hc
 |s _ _ _ _ hks hwk _ hm _ hcl=>
  rename_i old new mv x _ _ _ _ _ _
  rw[bget_keyed (by rw[hks];exact hwk j hj)] at hc
  cases hb:qI k c with
  |false=>exact .inl rfl
  |true=>exact .inr (.inr (hm k (hcl _ (aA hc) c rfl k hk hb)).1)
end
def backB(ops:Array Oper):Bool:=(range ops.size).all λj=>match ops[j]? with
 |some o=>o.after.all λe=>!(Region.binds .any e)||Nat.blt e.on j
 |none=>true
structure Inv (C:Ctx) (ops:Array Oper) (f:Nat->PS) (w:Nat->List Nat) (A:Nat->Prop) (a:Act) (wd:World) (D:kV) (β:kX):Prop where
 base:bE C a wd D
 slots:∀ t x,CurS ops f A t x->kZ wd D β (a.tmps.getD t undef) x
 blks:∀ k cs,mJ ops f w A k (some cs)->uE wd D β k cs
 inj:∀ k1 k2 c1 c2,mJ ops f w A k1 (some c1)->mJ ops f w A k2 (some c2)->∀ b,β k1=some b->β k2=some b->k1=k2
 high:∀ k c,mJ ops f w A k (some c)->∀ b,β k=some b->C.own b
def Needs(ops:Array Oper)(r w:Nat->List Nat)(i j:Nat):Prop :=
 ∀ oi oj,ops[i]?=some oi->ops[j]?=some oj->(∃ d,oi.dst=some d/\d∈cJ ops oj)\/(∃ d,oj.dst=some d/\d∈cJ ops oi)\/(∃ d,oi.dst=some d/\oj.dst=some d)\/(∃ k,k∈w i/\k∈r j)\/(∃ k,k∈w i/\k∈w j)\/(∃ k,k∈w j/\k∈r i)->ancB ops ops.size j i=true
theorem dstIn_of{o:Oper}{l:List Tmp}{d:Tmp}(h:o.dst=some d)(hm:d∈l):dstIn o l=true:=by
 simp only[dstIn,h];exact memB_iff.2 hm
theorem needs_of{ops:Array Oper}{acc:List (List Nat × List Nat)}{r w:Nat->List Nat}(h:orderB ops acc=true)(hacc:∀ i,i<ops.size->acc[i]?=some (r i,w i)){i j:Nat}(hij:i<j)(hj:j<ops.size):Needs ops r w i j:=by
 intro oi oj hoi hoj hd
 simp only[orderB,Bool.and_eq_true,allPairs,all_eq_true,mem_range] at h
 have h1:=h.2 j hj i hij
 simp only[Bool.or_eq_true,Bool.not_eq_true'] at h1
 rcases h1 with h1 | h1
 ·simp only[needB,hoi,hoj,hacc i (by omega),hacc j hj,Bool.or_eq_false_iff] at h1
  obtain ⟨⟨⟨⟨⟨q1,q2⟩,q3⟩,q4⟩,q5⟩,q6⟩:=h1
  rcases hd with ⟨d,h2,h3⟩ | ⟨d,h2,h3⟩ | ⟨d,h2,h3⟩ | ⟨k,h2,h3⟩ | ⟨k,h2,h3⟩ | ⟨k,h2,h3⟩
  ·rw[dstIn_of h2 h3] at q1;cases q1
  ·rw[dstIn_of h2 h3] at q2;cases q2
  ·rw[dstIn_of h2 (by simp [h3])] at q3;cases q3
  ·rw[meetB_of h2 h3] at q4;cases q4
  ·rw[meetB_of h2 h3] at q5;cases q5
  ·rw[meetB_of h2 h3] at q6;cases q6
 ·exact h1
theorem countP_lt{p q:Nat->Bool}{i:Nat}:∀ {l:List Nat},(∀ x∈l,p x=true->q x=true)->i∈l->q i=true->p i=false->l.countP p<l.countP q
 |[],_,h,_,_=>by simp at h
 |y::l,hpq,hi,hq,hp=>by
  simp only[countP_cons]
  have hle:l.countP p<=l.countP q:=countP_mono_left λx hx=>hpq x (by simp [hx])
  rcases mem_cons.1 hi with rfl | hi
  ·rw[hq,hp];simp;omega
  ·have:=countP_lt (λx hx=>hpq x (by simp [hx])) hi hq hp
   have h1:=hpq y (by simp)
   by_cases hy:p y=true
   ·rw[hy,h1 hy];simp;omega
   ·simp only[hy]
    split<;>simp at *<;>omega
section
variable {P:Program} {n:Fr} {ops:Array Oper} {f:Nat->PS} {g r w:Nat->List Nat} {C:Ctx} {Q:Exit->Act->World->Prop}
theorem all_listed{listed:Array Bool}(hb:backB ops=true)(hr:Region.ready .any ops listed=[])(hsz:listed.size=ops.size):∀ i,i<ops.size->L listed i:=by
 intro i
 induction i using Nat.strongRecOn with
 |_ i ih=>
  intro hi
  rcases hL:listed.getD i false with _ | _
  ·exfalso
   have:i∈Region.ready .any ops listed:=by
    rw[mem_ready]
    refine ⟨?_,ops[i],Array.getElem?_eq_getElem hi,λe he hbd=>?_⟩
    ·rw[Array.getD_eq_getD_getElem?] at hL ⊢
     have hlt:i<listed.size:=by omega
     simp only[Array.getElem?_eq_getElem hlt,Option.getD_some] at hL ⊢
     exact hL
    ·simp only[backB,all_eq_true,mem_range] at hb
     have h1:=hb i hi
     rw[Array.getElem?_eq_getElem hi] at h1
     simp only[Array.all_eq_true_iff_forall_mem,Bool.or_eq_true,Bool.not_eq_true'] at h1
     rcases h1 e he with h2 | h2
     ·rw[hbd] at h2;cases h2
     ·have hlt:e.on<i:=Nat.le_of_ble_eq_true h2
      exact ih e.on hlt (by omega)
   rw[hr] at this
   cases this
  ·exact hL
theorem inv_end(hf:Line P n ops f g r w){A:Nat->Prop}(hA:∀ i,i<ops.size->A i){a:Act}{wd:World}{D:kV}{β:kX}(h:Inv C ops f w A a wd D β):iJ C a wd (f ops.size) D β:=by
 have hS:∀ t,CurS ops f A t (kD (f ops.size).sl t):=λt=>curS_text hf A t ops.size (Nat.le_refl _) (λj hj _=>hA j hj) (λj h1 h2=>by omega)
 have hB:∀ k c,kC (f ops.size).bs k=some c->mJ ops f w A k (some c):=λk c hc=>hc▸curB_text hf A k ops.size (Nat.le_refl _) (λj hj _=>hA j hj) (λj h1 h2=>by omega)
 exact ⟨h.base,⟨λk cs hk=>h.blks k cs (hB k cs hk),λk1 k2 c1 c2 h1 h2=>h.inj k1 k2 c1 c2 (hB _ _ h1) (hB _ _ h2)⟩,λk c hk=>h.high k c (hB k c hk),λt=>h.slots t _ (hS t)⟩
end
section
variable {P:Program} {n:Fr} {ops:Array Oper} {f:Nat->PS} {g r w:Nat->List Nat} {C:Ctx} {Q:Exit->Act->World->Prop}
theorem L_set{listed:Array Bool}{i:Nat}(hi:i<listed.size)(j:Nat):L (listed.setIfInBounds i true) j↔(L listed j\/j=i):=by
 unfold L
 simp only[Array.getD_eq_getD_getElem?,Array.getElem?_setIfInBounds]
 by_cases h:i=j
 ·subst h;simp [hi]
 ·have h':j≠i:=λe=>h e.symm
  simp [h,h']
def wpOp1(P:Program)(ops:Array Oper)(Q:Exit->Act->World->Prop)(i:Nat)(K:Act->World->Prop)(a:Act)(w:World):Prop :=
 match ops[i]? with
 |none=>K a w
 |some o=>if Region.wanted o (yielded ops a.tmps) then o.wp P a w K Q else K (a.put o.dst undef) w
theorem op1_lift{n:Fr}{N i:Nat}{K:Act->World->Prop}{a:Act}{w:World}(hp:ops.toList.all yZ=true)(h:wpOp1 P ops Q i K a w):wpOpIn (fen n) N P ops Q i K a w:=by
 unfold wpOp1 at h
 unfold wpOpIn
 cases ho:ops[i]? with
 |none=>rw[ho] at h;exact h
 |some o=>
  rw[ho] at h
  simp only at h ⊢
  have hpo:yZ o=true:=all_eq_true.1 hp o (by
   have:=Array.mem_of_getElem? ho
   exact Array.mem_toList_iff.2 this)
  split
  ·rename_i e;rw[if_pos e] at h;exact oD hpo h
  ·rename_i e;rw[if_neg e] at h;exact ⟨λ_ _=>trivial,h⟩
theorem last_writer(hf:Line P n ops f g r w)(i:Nat)(d:Tmp):∀ j,i<=j->j<=ops.size->kD (f j).sl d=kD (f i).sl d\/∃ j',i<=j'/\j'<j/\mW ops j'=some d/\kD (f (j'+1)).sl d=kD (f j).sl d:=by
 intro j
 induction j with
 |zero=>intro h _;obtain rfl:i=0:=(by omega);exact .inl rfl
 |succ j ih=>
  intro h1 h2
  by_cases he:i=j+1
  ·subst he;exact .inl rfl
  have ho:ops[j]?=some ops[j]:=Array.getElem?_eq_getElem (by omega)
  by_cases hd:mW ops j=some d
  ·exact .inr ⟨j,by omega,by omega,hd,rfl⟩
  ·have hs:kD (f (j+1)).sl d=kD (f j).sl d:=dstep_slot (hf.step j _ ho) (λe=>hd (by simp [mW,ho,e]))
   rcases ih (by omega) (by omega) with h | ⟨j',a,b,c,e⟩
   ·exact .inl (hs.trans h)
   ·exact .inr ⟨j',a,by omega,c,e.trans hs.symm⟩
theorem any_step(hn:C.n=n)(hf:Line P n ops f g r w)(hneed:∀ i j,i<j->j<ops.size->Needs ops r w i j){listed:Array Bool}(hsz:listed.size=ops.size)(hcl:Closed ops listed)
  {i:Nat} (hi:i<ops.size) (hnot:¬ L listed i) (hedge:∀ o,ops[i]?=some o->∀ e∈o.after,Region.binds .any e=true->L listed e.on) {a:Act} {wd:World} {D:kV} {β:kX} (hinv:Inv C ops f w (L listed) a wd D β)
  {K:Act->World->Prop} (hk:∀ a' wd' D' β',Inv C ops f w (L (listed.setIfInBounds i true)) a' wd' D' β'->K a' wd'):wpOp1 P ops Q i K a wd:=by
 have ho:ops[i]?=some ops[i]:=Array.getElem?_eq_getElem hi
 generalize hoo:ops[i]=o at ho
 have hst:=hf.step i o ho
 have hA:=L_set (listed:=listed) (i:=i) (by omega)
 have hdst:mW ops i=o.dst:=by simp [mW,ho]
 -- what must come before i has come; what must come behind i has not
 have before:∀ j,j<i->ancB ops ops.size i j=true->L listed j:=λj _ h=>fV hcl ops.size i j h hedge
 have behind:∀ j,i<j->j<ops.size->ancB ops ops.size j i=true->¬ L listed j:=λj _ hj h hl=>hnot (fV hcl ops.size j i h λo' ho'=>hcl j o' ho' hl)
 have dst_get:∀ j t,mW ops j=some t->∃ oj,ops[j]?=some oj/\oj.dst=some t:=λj t h=>by
  unfold mW at h
  cases hj:ops[j]? with
  |none=>simp [hj] at h
  |some oj=>exact ⟨oj,rfl,by simpa [hj] using h⟩
 have lt_of:∀ j t,mW ops j=some t->j<ops.size:=λj t h=>by
  obtain ⟨oj,h1,_⟩:=dst_get j t h
  exact (Array.getElem?_eq_some_iff.1 h1).1
 -- a slot that the operation looks at holds what the text says
 have read:∀ t,t∈cJ ops o->kZ wd D β (a.tmps.getD t undef) (kD (f i).sl t):=λt ht=>by
  refine hinv.slots t _ (curS_text hf _ t i (by omega) (λj hj hd=>?_) (λj hj hj2 hl hd=>?_))
  ·obtain ⟨oj,h1,h2⟩:=dst_get j t hd
   exact before j hj (hneed j i hj hi oj o h1 ho (.inl ⟨t,h2,ht⟩))
  ·rcases Nat.lt_or_ge i j with h | h
   ·obtain ⟨oj,h1,h2⟩:=dst_get j t hd
    exact behind j h hj2 (hneed i j h hj2 o oj ho h1 (.inr (.inl ⟨t,h2,ht⟩))) hl
   ·obtain rfl:j=i:=(by omega)
    exact hnot hl
 have hop:Opnds wd D β a o (kD (f i).sl):=λy hy=>by
  cases y with
  |tmp t=>
   refine read t ?_
   simp only[cJ,mem_append,mem_flatMap]
   exact .inl ⟨_,Array.mem_toList_iff.2 hy,by simp [tmpOf]⟩
  |const v=>exact uS.val v
  |func f=>exact uS.val _
  |global g=>trivial
 have hwant:∀ bv,zL ops (f i).sl o=some bv->Region.wanted o (yielded ops a.tmps)=bv:=λbv hg=>wanted_of hg λj want d h1 h2=>read d (by
  simp only[cJ,mem_append]
  exact .inr (by simp [h1,h2]))
 have late_w:∀ k,k∈w i->∀ j,i<j->j<ops.size->L listed j->k∉w j:=λk hk j hj hj2 hl hkj=>
  behind j hj hj2 (hneed i j hj hj2 o _ ho (Array.getElem?_eq_getElem hj2) (.inr (.inr (.inr (.inr (.inl ⟨k,hk,hkj⟩)))))) hl
 have late_d:∀ t,o.dst=some t->∀ j,i<j->j<ops.size->L listed j->mW ops j≠some t:=λt ht j hj hj2 hl hd=>by
  obtain ⟨oj,h1,h2⟩:=dst_get j t hd
  exact behind j hj hj2 (hneed i j hj hj2 o oj ho h1 (.inr (.inr (.inl ⟨t,ht,h2⟩)))) hl
 have blk_text:∀ k,(k∈r i\/k∈w i)->mJ ops f w (L listed) k (kC (f i).bs k):=λk hk=>curB_text hf _ k i (by omega) (λj hj hd=>by
   have h1:ops[j]?=some ops[j]:=Array.getElem?_eq_getElem (by omega)
   refine before j hj (hneed j i hj hi _ o h1 ho ?_)
   rcases hk with hk | hk
   ·exact .inr (.inr (.inr (.inl ⟨k,hd,hk⟩)))
   ·exact .inr (.inr (.inr (.inr (.inl ⟨k,hd,hk⟩))))) (λj hj hj2 hl hd=>by
   rcases Nat.lt_or_ge i j with h | h
   ·have h1:ops[j]?=some ops[j]:=Array.getElem?_eq_getElem hj2
    refine behind j h hj2 (hneed i j h hj2 o _ ho h1 ?_) hl
    rcases hk with hk | hk
    ·exact .inr (.inr (.inr (.inr (.inr ⟨k,hd,hk⟩))))
    ·exact .inr (.inr (.inr (.inr (.inl ⟨k,hk,hd⟩))))
   ·obtain rfl:j=i:=(by omega)
    exact hnot hl)
 -- names of blocks that are made here
 have clear_from:∀ k,(∀ l r,(f i).sl=l++r->∀ t,(kD r t).names k=false)->k∈g (i+1)->∀ m j,j<m->i<j->j<ops.size->L listed j->∀ t,mW ops j=some t->(kD (f (j+1)).sl t).names k=false:=by
   intro k hfr hkn m
   induction m with
   |zero=>intro j h;omega
   |succ m ih=>
    intro j hjm hij hj hl t hd
    obtain ⟨oj,h1,h2⟩:=dst_get j t hd
    rcases clear_slot (hf.step j oj h1) (news_mono hf (show i+1<=j by omega) (by omega) k hkn) h2 with h | ⟨d,hdr,hdn⟩
    ·exact h
    ·exfalso
     rcases last_writer hf i d j (by omega) (by omega) with hw | ⟨j',q1,q2,q3,q4⟩
     ·rw[hw] at hdn
      rw[hfr [] _ rfl d] at hdn
      cases hdn
     ·obtain ⟨oj',p1,p2⟩:=dst_get j' d q3
      have hanc:=hneed j' j q2 hj oj' oj p1 h1 (.inl ⟨d,p2,hdr⟩)
      rcases Nat.lt_or_ge i j' with hlt | hge
      ·have hl':L listed j':=fV hcl ops.size j j' hanc λo' ho'=>hcl j o' ho' hl
       rw[<- q4,ih j' (by omega) hlt (by omega) hl' d q3] at hdn
       cases hdn
      ·obtain rfl:j'=i:=(by omega)
       exact behind j hij hj hanc hl
 have reads_clear:∀ k,(∀ l r,(f i).sl=l++r->∀ t,(kD r t).names k=false)->k∈g (i+1)->∀ j oj,i<j->ops[j]?=some oj->L listed j->∀ d∈cJ ops oj,(kD (f j).sl d).names k=false:=λk hfr hkn j oj hij h1 hl d hdr=>by
  have hj:j<ops.size:=(Array.getElem?_eq_some_iff.1 h1).1
  rcases last_writer hf i d j (by omega) (by omega) with hw | ⟨j',q1,q2,q3,q4⟩
  ·rw[hw]
   exact hfr [] _ rfl d
  ·obtain ⟨oj',p1,p2⟩:=dst_get j' d q3
   have hanc:=hneed j' j q2 hj oj' oj p1 h1 (.inl ⟨d,p2,hdr⟩)
   rcases Nat.lt_or_ge i j' with hlt | hge
   ·have hl':L listed j':=fV hcl ops.size j j' hanc λo' ho'=>hcl j o' ho' hl
    rw[<- q4]
    exact clear_from k hfr hkn (j'+1) j' (by omega) hlt (by omega) hl' d q3
   ·obtain rfl:j'=i:=(by omega)
    exact absurd hl (λhl=>behind j hij hj hanc hl)
 have name_s:∀ k,(∀ l r,(f i).sl=l++r->∀ t,(kD r t).names k=false)->k∈g (i+1)->∀ t x,CurS ops f (L listed) t x->x.names k=false:=λk hfr hkn t x hc=>by
  have clear_from:=clear_from k hfr hkn
  have clear_from:∀ j,i<j->j<ops.size->L listed j->∀ t,mW ops j=some t->(kD (f (j+1)).sl t).names k=false:=λj=>clear_from (j+1) j (by omega)
  rcases curS_from hc with h | ⟨j,hj,hl,hd,h⟩
  ·subst h
   obtain ⟨l,hl⟩:=sl_suffix hf (Nat.zero_le i) (by omega)
   exact hfr _ _ hl t
  ·subst h
   rcases Nat.lt_trichotomy j i with hji | hji | hji
   ·obtain ⟨l,hl'⟩:=sl_suffix hf (show j+1<=i by omega) (by omega)
    exact hfr _ _ hl' t
   ·subst hji;exact absurd hl hnot
   ·exact clear_from j hji hj hl t hd
 have name_b:∀ k,gN k (f i)=true->k∈g (i+1)->k∈w i->∀ k' c,mJ ops f w (L listed) k' (some c)->k'≠k/\qI k c=false:=λk hfr hkn hkw k' c hc=>by
  rcases hc with ⟨j,hj,hl,hd,hmax,h⟩ | ⟨hno,h⟩
  ·rcases Nat.lt_trichotomy j i with hji | hji | hji
   ·obtain ⟨l,hl'⟩:=bs_suffix hf (show j+1<=i by omega) (by omega)
    exact fresh_bs hfr hl' h.symm
   ·subst hji;exact absurd hl hnot
   ·have h1:ops[j]?=some ops[j]:=Array.getElem?_eq_getElem hj
    refine ⟨λe=>?_,?_⟩
    rotate_left
    ·rcases clear_blk (hf.step j _ h1) (news_mono hf (show i+1<=j by omega) (by omega) k hkn) hd h.symm with hq | ⟨d,hdr,hdn⟩ | hq
     ·exact hq
     ·rw[reads_clear k (λl r hl t=>fresh_sl hfr hl t) hkn j _ hji h1 hl d hdr] at hdn
      cases hdn
     ·exact absurd hq (late_w k hkw j hji hj hl)
    subst e
    exact late_w k' hkw j hji hj hl hd
  ·obtain ⟨l,hl'⟩:=bs_suffix hf (Nat.zero_le i) (by omega)
   exact fresh_bs hfr hl' h.symm
 -- blocks that a call moves
 have name_m:∀ k,clrM (w i) k (f i)->k∈g (i+1)->k∈w i->∀ k' c,k'∉w i->mJ ops f w (L listed) k' (some c)->qI k c=false:=λk hfr hkn hkw k' c hkk hc=>by
  have hsl:∀ l r,(f i).sl=l++r->∀ t,(kD r t).names k=false:=λl r hl t=>sl_clr hfr hl t
  have hbs:∀ l r,(f i).bs=l++r->some c=kC r k'->qI k c=false:=λl r hl hb=>by
   rcases hfr.2 (k',some c) (by rw[hl];exact mem_append_right _ (aA hb.symm)) with h | h
   ·exact absurd h hkk
   ·exact h c rfl
  rcases hc with ⟨j,hj,hl,hd,hmax,h⟩ | ⟨hno,h⟩
  ·rcases Nat.lt_trichotomy j i with hji | hji | hji
   ·obtain ⟨l,hl'⟩:=bs_suffix hf (show j+1<=i by omega) (by omega)
    exact hbs _ _ hl' h
   ·subst hji;exact absurd hl hnot
   ·have h1:ops[j]?=some ops[j]:=Array.getElem?_eq_getElem hj
    rcases clear_blk (hf.step j _ h1) (news_mono hf (show i+1<=j by omega) (by omega) k hkn) hd h.symm with hq | ⟨d,hdr,hdn⟩ | hq
    ·exact hq
    ·rw[reads_clear k hsl hkn j _ hji h1 hl d hdr] at hdn
     cases hdn
    ·exact absurd hq (late_w k hkw j hji hj hl)
  ·obtain ⟨l,hl'⟩:=bs_suffix hf (Nat.zero_le i) (by omega)
   exact hbs _ _ hl' h
 unfold wpOp1
 rw[ho]
 dsimp only
 subst hn
 have old_s:∀ t x,o.dst≠some t->CurS ops f (L (listed.setIfInBounds i true)) t x->CurS ops f (L listed) t x:=λt x ht hc=>curS_old hA (by rw[hdst];exact ht) hc
 have new_s:∀ t x,o.dst=some t->CurS ops f (L (listed.setIfInBounds i true)) t x->x=kD (f (i+1)).sl t:=λt x ht hc=>curS_new hi hA (by rw[hdst];exact ht) (late_d t ht) hc
 have old_b:∀ k c,k∉w i->mJ ops f w (L (listed.setIfInBounds i true)) k c->mJ ops f w (L listed) k c:=λk c hk hc=>curB_old hA hk hc
 have new_b:∀ k c,k∈w i->mJ ops f w (L (listed.setIfInBounds i true)) k c->c=kC (f (i+1)).bs k:=λk c hk hc=>curB_new hi hA hk (late_w k hk) hc
 generalize hfi:f (i+1)=st' at hst new_s new_b
 generalize hri:r i=rr at hst blk_text
 generalize hwi:w i=ww at hst blk_text old_b new_b name_b name_m
 generalize hgi:g (i+1)=gg at hst name_s name_b name_m
 cases hst with
 |e h hg hd hrd hcl1=>
  rename_i rd x
  rw[if_pos (hwant true hg)]
  refine Oper.wp_mono (λa' wd' hp=>?_) (h a wd D β Q hop (λp hp=>?_) hinv.base.dok)
  ·obtain ⟨v,D',rfl,h1,h2,h3⟩:=hp
   refine hk _ _ D' β ⟨(hinv.base.up h1 h2).put hd _,λt y hc=>?_,λk cs hc=>(hinv.blks k cs (old_b k _ (by simp) hc)).up h1 h2 hinv.base.dok,λk1 k2 c1 c2 q1 q2=>hinv.inj k1 k2 c1 c2 (old_b _ _ (by simp) q1) (old_b _ _ (by simp) q2),λk c hc=>hinv.high k c (old_b _ _ (by simp) hc)⟩
   rw[vO hinv.base.size hd]
   by_cases ht:o.dst=some t
   ·rw[if_pos ht]
    have:=new_s t y ht hc
    simp only[vC,ht,if_true] at this
    subst this;exact h3
   ·rw[if_neg ht]
    exact (hinv.slots t y (old_s t y ht hc)).up h1 h2 hinv.base.dok
  ·have h1:=blk_text p.1 (.inl (mem_map_of_mem hp))
   rw[hrd p hp] at h1
   exact hinv.blks _ _ h1
 |n h hg hd hfr hcl1 hcl2=>
  rename_i k cs x
  rw[if_pos (hwant true hg)]
  refine Oper.wp_mono (λa' wd' hp=>?_) (h a wd D β Q hop hinv.base.dok)
  obtain ⟨v,D',b,rfl,h1,h2,h3,h4,h5,h6,h7⟩:=hp
  have hβ:∀ j,j≠k->(β.set k b) j=β j:=λj hj=>by simp [kX.set,hj]
  have hlt:∀ j c,mJ ops f w (L listed) j (some c)->∀ b',β j=some b'->b'<wd.heap.size:=λj c hj b' hb'=>by
   exact (hinv.blks j c hj).lt hb'
  have hkk:∀ c,mJ ops f w (L (listed.setIfInBounds i true)) k c->c=some cs:=λc hc=>by
   have:=new_b k c (by simp) hc
   simpa [jI] using this
  refine hk _ _ D' (β.set k b) ⟨(hinv.base.up h1 h2).put hd _,λt y hc=>?_,λj c hc=>?_,λk1 k2 c1 c2 q1 q2 b' e1 e2=>?_,λj c hc b' hb'=>?_⟩
  ·rw[vO hinv.base.size hd]
   by_cases ht:o.dst=some t
   ·rw[if_pos ht]
    have:=new_s t y ht hc
    simp only[vC,ht,if_true] at this
    subst this;exact h7
   ·rw[if_neg ht]
    have hc':=old_s t y ht hc
    exact ((hinv.slots t y hc').up h1 h2 hinv.base.dok).frame hβ (name_s k (λl r hl t=>fresh_sl hfr hl t) (by simp) t y hc')
  ·by_cases hj:j=k
   ·subst hj
    have:=hkk _ hc
    injection this with this
    subst this;exact h6
   ·have hc':=old_b j _ (by simpa using hj) hc
    obtain ⟨q1,q2⟩:=name_b k hfr (by simp) (by simp) j c hc'
    exact ((hinv.blks j c hc').up h1 h2 hinv.base.dok).frame hβ q1 q2
  ·by_cases j1:k1=k<;>by_cases j2:k2=k
   ·omega
   ·subst j1
    have q2':=old_b k2 _ (by simpa using j2) q2
    rw[hβ k2 j2] at e2
    have:=hlt k2 _ q2' b' e2
    simp [kX.set] at e1
    omega
   ·subst j2
    have q1':=old_b k1 _ (by simpa using j1) q1
    rw[hβ k1 j1] at e1
    have:=hlt k1 _ q1' b' e1
    simp [kX.set] at e2
    omega
   ·rw[hβ k1 j1] at e1
    rw[hβ k2 j2] at e2
    exact hinv.inj k1 k2 _ _ (old_b k1 _ (by simpa using j1) q1) (old_b k2 _ (by simpa using j2) q2) b' e1 e2
  ·by_cases hj:j=k
   ·subst hj
    simp [kX.set] at hb'
    subst hb'
    exact hinv.base.fresh (by omega)
   ·rw[hβ j hj] at hb'
    exact hinv.high j c (old_b j _ (by simpa using hj) hc) b' hb'
 |t h hg hd hb hcl2=>
  rename_i k old cs
  rw[if_pos (hwant true hg)]
  have hcur:mJ ops f w (L listed) k (some old):=by
   have h1:=blk_text k (.inl (by simp))
   rw[hb] at h1
   exact h1
  refine Oper.wp_mono (λa' wd' hp=>?_) (h a wd D β Q hop (hinv.blks k old hcur) hinv.base.dok)
  obtain ⟨rfl,b,h1,h2,h3,h4⟩:=hp
  have hkk:∀ c,mJ ops f w (L (listed.setIfInBounds i true)) k c->c=some cs:=λc hc=>by
   have:=new_b k c (by simp) hc
   simpa [jI] using this
  have oE:∀ j c,mJ ops f w (L (listed.setIfInBounds i true)) j (some c)->∃ c',mJ ops f w (L listed) j (some c'):=λj c hc=>by
   by_cases hj:j=k
   ·subst hj;exact ⟨_,hcur⟩
   ·exact ⟨_,old_b j _ (by simpa using hj) hc⟩
  refine hk _ _ D β ⟨(hinv.base.wrote h2 (hinv.high k _ hcur b h1) (blk_heap (hinv.blks k old hcur) h1) h3).put hd _,λt y hc=>?_,λj c hc=>?_,λk1 k2 c1 c2 q1 q2 b' e1 e2=>?_,λj c hc b' hb'=>?_⟩
  ·rw[vO hinv.base.size hd]
   by_cases ht:o.dst=some t
   ·rw[if_pos ht]
    have:=new_s t y ht hc
    simp only[vC,ht,if_true] at this
    subst this;trivial
   ·rw[if_neg ht]
    exact h2.repS h3 (hinv.slots t y (old_s t y ht hc))
  ·by_cases hj:j=k
   ·subst hj
    have:=hkk _ hc
    injection this with this
    subst this;exact h4
   ·have hc':=old_b j _ (by simpa using hj) hc
    exact h2.blk h3 (λe=>hj (hinv.inj j k _ _ hc' hcur b e h1)) (hinv.blks j c hc')
  ·obtain ⟨d1,g1⟩:=oE k1 c1 q1
   obtain ⟨d2,g2⟩:=oE k2 c2 q2
   exact hinv.inj k1 k2 d1 d2 g1 g2 b' e1 e2
  ·obtain ⟨d1,g1⟩:=oE j c hc
   exact hinv.high j d1 g1 b' hb'
 |a h hg hd hb hfr hne hcl1 hcl2=>
  rename_i k k' old cs x
  rw[if_pos (hwant true hg)]
  have hcur:mJ ops f w (L listed) k (some old):=by
   have h1:=blk_text k (.inl (by simp))
   rw[hb] at h1
   exact h1
  refine Oper.wp_mono (λa' wd' hp=>?_) (h a wd D β Q hop (hinv.blks k old hcur) hinv.base.dok)
  obtain ⟨v,b,rfl,h6,h7,hor⟩:=hp
  have hβ:∀ j,j≠k'->(β.set k' b) j=β j:=λj hj=>by simp [kX.set,hj]
  have hkk:∀ c,mJ ops f w (L (listed.setIfInBounds i true)) k' c->c=some cs:=λc hc=>by
   have:=new_b k' c (by simp) hc
   simpa [jI] using this
  have hkn:∀ c,mJ ops f w (L (listed.setIfInBounds i true)) k c->c=none:=λc hc=>by
   have:=new_b k c (by simp) hc
   rw[jI,if_neg (λe=>hne e.symm),jI,if_pos rfl] at this
   exact this
  have hrest:∀ j c,j≠k'->mJ ops f w (L (listed.setIfInBounds i true)) j (some c)->j≠k/\mJ ops f w (L listed) j (some c):=λj c hj hc=>by
   have hjk:j≠k:=λe=>by subst e;have:=hkn _ hc;cases this
   exact ⟨hjk,old_b j _ (by simp [hj,hjk]) hc⟩
  have hlt:∀ j c,mJ ops f w (L listed) j (some c)->∀ b',β j=some b'->b'<wd.heap.size:=λj c hj b' hb'=>by
   exact (hinv.blks j c hj).lt hb'
  have hslot:∀ (v:Value) (y:SV),kZ wd D β v y->kZ wd' D β v y:=λv y hy=>by
   rcases hor with ⟨h1,_,_⟩ | ⟨_,h2,h3⟩
   ·exact hy.up h1 (aJ.of_same D) hinv.base.dok
   ·exact h2.repS h3 hy
  have hbase:bE C a wd' D:=by
   rcases hor with ⟨h1,_,_⟩ | ⟨h1,h2,h3⟩
   ·exact hinv.base.up h1 (aJ.of_same D)
   ·exact hinv.base.wrote h2 (hinv.high k _ hcur b h1) (blk_heap (hinv.blks k old hcur) h1) h3
  have hapart:∀ j c,j≠k->mJ ops f w (L listed) j (some c)->β j≠some b:=λj c hjk hc e=>by
   rcases hor with ⟨_,h2,_⟩ | ⟨h1,_,_⟩
   ·have:=hlt j c hc b e;omega
   ·exact hjk (hinv.inj j k _ _ hc hcur b e h1)
  refine hk _ _ D (β.set k' b) ⟨hbase.put hd _,λt y hc=>?_,λj c hc=>?_,λk1 k2 c1 c2 q1 q2 b' e1 e2=>?_,λj c hc b' hb'=>?_⟩
  ·rw[vO hinv.base.size hd]
   by_cases ht:o.dst=some t
   ·rw[if_pos ht]
    have:=new_s t y ht hc
    simp only[vC,ht,if_true] at this
    subst this;exact h7
   ·rw[if_neg ht]
    have hc':=old_s t y ht hc
    exact (hslot _ _ (hinv.slots t y hc')).frame hβ (name_s k' (λl r hl t=>fresh_sl hfr hl t) (by simp) t y hc')
  ·by_cases hj:j=k'
   ·subst hj
    have:=hkk _ hc
    injection this with this
    subst this;exact h6
   ·obtain ⟨hjk,hc'⟩:=hrest j c hj hc
    obtain ⟨q1,q2⟩:=name_b k' hfr (by simp) (by simp) j c hc'
    have hB:uE wd' D β j c:=by
     rcases hor with ⟨h1,_,_⟩ | ⟨h1,h2,h3⟩
     ·exact (hinv.blks j c hc').up h1 (aJ.of_same D) hinv.base.dok
     ·exact h2.blk h3 (hapart j c hjk hc') (hinv.blks j c hc')
    exact hB.frame hβ q1 q2
  ·by_cases j1:k1=k'<;>by_cases j2:k2=k'
   ·omega
   ·subst j1
    obtain ⟨g1,g2⟩:=hrest k2 _ j2 q2
    rw[hβ k2 j2] at e2
    simp [kX.set] at e1
    subst e1
    exact absurd e2 (hapart k2 _ g1 g2)
   ·subst j2
    obtain ⟨g1,g2⟩:=hrest k1 _ j1 q1
    rw[hβ k1 j1] at e1
    simp [kX.set] at e2
    subst e2
    exact absurd e1 (hapart k1 _ g1 g2)
   ·rw[hβ k1 j1] at e1
    rw[hβ k2 j2] at e2
    exact hinv.inj k1 k2 _ _ (hrest k1 _ j1 q1).2 (hrest k2 _ j2 q2).2 b' e1 e2
  ·by_cases hj:j=k'
   ·subst hj
    simp [kX.set] at hb'
    subst hb'
    rcases hor with ⟨_,h2,_⟩ | ⟨h1,_,_⟩
    ·exact hinv.base.fresh (by omega)
    ·exact hinv.high k _ hcur b h1
   ·rw[hβ j hj] at hb'
    exact hinv.high j c (hrest j c hj hc).2 b' hb'
 |skip hg hd=>
  rw[if_neg (by rw[hwant false hg];simp)]
  refine hk _ _ D β ⟨hinv.base.put hd _,λt y hc=>?_,λk cs hc=>hinv.blks k cs (old_b k _ (by simp) hc),λk1 k2 c1 c2 q1 q2=>hinv.inj k1 k2 c1 c2 (old_b _ _ (by simp) q1) (old_b _ _ (by simp) q2),λk c hc=>hinv.high k c (old_b _ _ (by simp) hc)⟩
  rw[vO hinv.base.size hd]
  by_cases ht:o.dst=some t
  ·rw[if_pos ht]
   have:=new_s t y ht hc
   simp only[vC,ht,if_true] at this
   subst this;exact rep_undef _ _
  ·rw[if_neg ht]
   exact hinv.slots t y (old_s t y ht hc)
 |s h hg hd hb hks hwk hst hm hn hc=>
  rename_i old new mv x
  rw[if_pos (hwant true hg)]
  have hcur:∀ k c,kC old k=some c->mJ ops f w (L listed) k (some c):=λk c hk=>by
   obtain ⟨c',e1,e2⟩:=hb _ (aA hk)
   injection e1 with e1;subst e1
   have h1:=blk_text k (.inl (bget_in hk).1)
   rw[e2] at h1
   exact h1
  have hmem:Mem wd D β old:=⟨λk c hk=>hinv.blks k c (hcur k c hk),λk1 k2 c1 c2 q1 q2=>hinv.inj k1 k2 c1 c2 (hcur _ _ q1) (hcur _ _ q2)⟩
  refine Oper.wp_mono (λa' wd' hp=>?_) (h a wd D β Q hop hmem hinv.base.dok)
  obtain ⟨v,D',β',rfl,hE⟩:=hp
  have hmine:∀ b,gC β old b->C.own b:=λb ⟨k,c,h1,h2⟩=>hinv.high k c (hcur k c h1) b h2
  have hbase:bE C a wd' D':=⟨hinv.base.defers.keep λq hq _=>hE.oth q _ hq rfl (λe=>by cases e),hinv.base.size,λt g o hd=>(hE.keep t g o (hinv.base.dmono _ _ _ hd)).trans (hinv.base.keep t g o hd),λk o hk ho hm2=>hE.oth k o (hinv.base.oth k o hk ho hm2) ho (λe h=>hm2 e (hmine k h)),hinv.base.pin,
   ⟨hE.below.os.trans hinv.base.below.os,hE.below.tape.trans hinv.base.below.tape,hE.below.output.trans hinv.base.below.output,Nat.le_trans hinv.base.below.size hE.below.size,λk hk hn=>(hE.below.block k (Nat.lt_of_lt_of_le hk hinv.base.below.size) (λhq=>by rcases hmine k hq with h1 | h1;omega;exact hn h1)).trans (hinv.base.below.block k hk hn),λk hk vs T f h1=>by
    obtain ⟨us,e1,e2⟩:=hinv.base.below.shape k hk vs T f h1
    obtain ⟨us',g1,g2⟩:=hE.below.shape k (Nat.lt_of_lt_of_le hk hinv.base.below.size) us T f e1
    exact ⟨us',g1,g2.trans e2⟩⟩,
   λt g o hd=>hE.up _ _ _ (hinv.base.dmono _ _ _ hd),λt g o hd=>by
    rcases hE.dnew t g o hd with h1 | h1 | h1
    ·exact hinv.base.dnew t g o h1
    ·exact .inr (hinv.base.fresh h1)
    ·exact .inr (hmine g h1),hE.dok⟩
  have hkmv:∀ {k},k∉old.map (·.1)->k∉mv:=λh1 h2=>h1 (hwk _ (hm _ h2).1)
  have hnot':∀ {j c b},j∉old.map (·.1)->mJ ops f w (L listed) j (some c)->β j=some b->¬ gC β old b:=fun {j c b} hj hc hb ⟨k,c',h1,h2⟩=>by
   have:=hinv.inj j k _ _ hc (hcur k c' h1) b hb h2
   subst this
   exact hj (bget_in h1).1
  have hcase:∀ {j c},mJ ops f w (L (listed.setIfInBounds i true)) j (some c)->(j∈old.map (·.1)/\kC new j=some c)\/(j∉old.map (·.1)/\mJ ops f w (L listed) j (some c)):=fun {j c} hc=>by
   by_cases hj:j∈old.map (·.1)
   ·by_cases hjw:j∈ww
    ·have:=new_b j _ hjw hc
     rw[bget_keyed (by rw[hks];exact hj)] at this
     exact .inl ⟨hj,this.symm⟩
    ·have h1:=old_b j _ hjw hc
     obtain ⟨c',e1,e2⟩:=hb _ (bget_fst hj)
     have h2:=hcur j c' e1
     have h3:=curB_uniq h1 h2
     injection h3 with h3;subst h3
     exact .inl ⟨hj,by rw[hst j hj hjw];exact e1⟩
   ·exact .inr ⟨hj,old_b j _ (λh=>hj (hwk j h)) hc⟩
  have hlt:∀ {j c b},mJ ops f w (L listed) j (some c)->β j=some b->b<wd.heap.size:=fun {j c b} hj hb'=>by
   exact (hinv.blks j c hj).lt hb'
  refine hk _ _ D' β' ⟨hbase.put hd _,λt y hc'=>?_,λj c hc'=>?_,λk1 k2 c1 c2 q1 q2 b e1 e2=>?_,λj c hc' b hb'=>?_⟩
  ·rw[vO hinv.base.size hd]
   by_cases ht:o.dst=some t
   ·rw[if_pos ht]
    have:=new_s t y ht hc'
    simp only[vC,ht,if_true] at this
    subst this;exact hE.res
   ·rw[if_neg ht]
    have h1:=old_s t y ht hc'
    exact hE.repS (λk hk=>name_s k (λl r hl t=>sl_clr (hm k hk).2 hl t) (mem_append_left _ hk) t y h1) (hinv.slots t y h1)
  ·rcases hcase hc' with ⟨h1,h2⟩ | ⟨h1,h2⟩
   ·exact hE.mem.ok j c h2
   ·exact hE.blk (hkmv h1) (λb hb=>hnot' h1 h2 hb) (λq hq=>name_m q (hm q hq).2 (mem_append_left _ hq) (hm q hq).1 j c (λh=>h1 (hwk j h)) h2) (hinv.blks j c h2)
  ·rcases hcase q1 with ⟨h1,h2⟩ | ⟨h1,h2⟩
   ·rcases hcase q2 with ⟨g1,g2⟩ | ⟨g1,g2⟩
    ·exact hE.mem.inj k1 k2 _ _ h2 g2 b e1 e2
    ·rw[hE.stay k2 (hkmv g1)] at e2
     rcases hE.high k1 _ h2 b e1 with h | h
     ·have:=hlt g2 e2;omega
     ·exact absurd h (hnot' g1 g2 e2)
   ·rw[hE.stay k1 (hkmv h1)] at e1
    rcases hcase q2 with ⟨g1,g2⟩ | ⟨g1,g2⟩
    ·rcases hE.high k2 _ g2 b e2 with h | h
     ·have:=hlt h2 e1;omega
     ·exact absurd h (hnot' h1 h2 e1)
    ·rw[hE.stay k2 (hkmv g1)] at e2
     exact hinv.inj k1 k2 _ _ h2 g2 b e1 e2
  ·rcases hcase hc' with ⟨h1,h2⟩ | ⟨h1,h2⟩
   ·rcases hE.high j _ h2 b hb' with h | h
    ·exact hinv.base.fresh h
    ·exact hmine b h
   ·rw[hE.stay j (hkmv h1)] at hb'
    exact hinv.high j c h2 b hb'
def unl(ops:Array Oper)(listed:Array Bool):Nat:=(range ops.size).countP λi=>!(listed.getD i false)
theorem any_sound(hn:C.n=n)(hf:Line P n ops f g r w)(hneed:∀ i j,i<j->j<ops.size->Needs ops r w i j)(hback:backB ops=true)(hpl:ops.toList.all yZ=true){N:Nat}(hk:∀ a' w',dQ C a' w' (f ops.size)->Q .normal a' w') :
  ∀ (fuel:Nat) (listed:Array Bool) (a:Act) (wd:World) (D:kV) (β:kX),listed.size=ops.size->Closed ops listed->unl ops listed<=fuel->Inv C ops f w (L listed) a wd D β->wpAnyIn (fen n) N P .any ops Q fuel listed a wd:=by
 have fin:∀ (listed:Array Bool) (a:Act) (wd:World) (D:kV) (β:kX),listed.size=ops.size->Inv C ops f w (L listed) a wd D β->Region.ready .any ops listed=[]->Q .normal a wd:=λlisted a wd D β hsz hinv hr=>
  hk a wd ⟨D,β,inv_end hf (all_listed hback hr hsz) hinv⟩
 intro fuel
 induction fuel with
 |zero=>
  intro listed a wd D β hsz hcl hu hinv
  have hr:Region.ready .any ops listed=[]:=by
   rw[eq_nil_iff_forall_not_mem]
   intro i hi
   obtain ⟨h1,o,h2,_⟩:=mem_ready.1 hi
   have hlt:i<ops.size:=(Array.getElem?_eq_some_iff.1 h2).1
   have h0:unl ops listed=0:=by omega
   unfold unl at h0
   rw[countP_eq_zero] at h0
   have h3:=h0 i (by simpa using hlt)
   rw[Array.getD_eq_getD_getElem?] at h1 h3
   have:i<listed.size:=by omega
   simp only[Array.getElem?_eq_getElem this,Option.getD_some] at h1 h3
   rw[h1] at h3
   simp at h3
  exact ⟨hr,fin listed a wd D β hsz hinv hr⟩
 |succ fuel ih=>
  intro listed a wd D β hsz hcl hu hinv
  refine ⟨fin listed a wd D β hsz hinv,λi hi=>?_⟩
  obtain ⟨h1,o,h2,h3⟩:=mem_ready.1 hi
  have hlt:i<ops.size:=(Array.getElem?_eq_some_iff.1 h2).1
  have hls:i<listed.size:=by omega
  have hnot:¬ L listed i:=λh=>by
   unfold L at h
   rw[Array.getD_eq_getD_getElem?] at h1 h
   simp only[Array.getElem?_eq_getElem hls,Option.getD_some] at h1 h
   rw[h1] at h;cases h
  have hA:=L_set (listed:=listed) hls
  refine op1_lift hpl ?_
  refine any_step hn hf hneed hsz hcl hlt hnot (λo' ho'=>by rw[h2] at ho';injection ho' with e;subst e;exact h3) hinv λa' wd' D' β' hinv'=>ih _ a' wd' D' β' (by simpa using hsz) ?_ ?_ hinv'
  ·intro j oj hoj hl e he hb
   rcases (hA j).1 hl with h | h
   ·exact (hA _).2 (.inl (hcl j oj hoj h e he hb))
   ·subst h
    rw[h2] at hoj
    injection hoj with e';subst e'
    exact (hA _).2 (.inl (h3 e he hb))
  ·have:unl ops (listed.setIfInBounds i true)<unl ops listed:=countP_lt (i:=i) (λx _ hx=>by
    simp only[Bool.not_eq_true'] at hx ⊢
    rcases h:listed.getD x false with _ | _
    ·rfl
    ·have:=(hA x).2 (.inl h)
     unfold L at this
     rw[this] at hx;cases hx) (by simpa using hlt) (by
     simp only[Bool.not_eq_true']
     rcases h:listed.getD i false with _ | _
     ·rfl
     ·exact absurd h hnot) (by
     have:=(hA i).2 (.inr rfl)
     unfold L at this
     simp [this])
   omega
end
section
variable {P:Program} {n:Fr} {C:Ctx} {Q:Exit->Act->World->Prop}
theorem draw_sound(hn:C.n=n){ops:Array Oper}{acc:List (List Nat × List Nat)}{st st':PS}(h:DSteps P n ops [] st ops.toList acc st')(ho:orderB ops acc=true)(hb:backB ops=true)(hpl:ops.toList.all yZ=true){N:Nat}
  (hk:∀ a' w',dQ C a' w' st'->Q .normal a' w') {a:Act} {wd:World} (hs:dQ C a wd st):wpAnyIn (fen n) N P .any ops Q ops.size (Array.replicate ops.size false) a { wd with drawn:=wd.drawn+1 }:=by
 obtain ⟨f,g,h1,h2,h3,h4,h5⟩:=line_of h
 simp only[Array.length_toList] at h2 h4
 obtain ⟨D,β,hs⟩:=hs
 have hacc:∀ i,i<ops.size->acc[i]?=some ((acc.getD i ([],[])).1,(acc.getD i ([],[])).2):=λi hi=>by
  have hlt:i<acc.length:=by omega
  simp [getElem?_eq_getElem hlt]
 have hf:Line P n ops f g (λi=>(acc.getD i ([],[])).1) (λi=>(acc.getD i ([],[])).2):=⟨λi o hoi=>by
  obtain ⟨r,w,e1,e2⟩:=h5 i o (by simpa using hoi)
  have hlt:i<ops.size:=(Array.getElem?_eq_some_iff.1 hoi).1
  have e3:=hacc i hlt
  rw[e1] at e3
  injection e3 with e3
  have e4:(acc.getD i ([],[])).1=r:=(congrArg Prod.fst e3).symm
  have e5:(acc.getD i ([],[])).2=w:=(congrArg Prod.snd e3).symm
  simp only[e4,e5]
  exact e2⟩
 have hno:∀ i,¬ L (Array.replicate ops.size false) i:=λi hi=>by
  unfold L at hi
  rw[Array.getD_eq_getD_getElem?,Array.getElem?_replicate] at hi
  split at hi<;>simp at hi
 refine any_sound hn hf (λi j hij hj=>needs_of ho hacc hij hj) hb hpl (λa' w' hs'=>hk a' w' (h2▸hs')) ops.size _ a _ D β (by simp) (λj o _ hl=>absurd hl (hno j)) ?_ ?_
 ·unfold unl
  exact Nat.le_trans (countP_le_length) (by simp)
 ·have hb0:=below_draw wd
  have hu0:aJ D D wd { wd with drawn:=wd.drawn+1 }:=aJ.of_same D
  have hS:∀ t x,CurS ops f (L (Array.replicate ops.size false)) t x->x=kD st.sl t:=λt x hc=>by
   rcases hc with ⟨i,_,hi,_⟩ | ⟨_,e⟩
   ·exact absurd hi (hno i)
   ·rw[e,h1]
  have hB:∀ k c,mJ ops f (λi=>(acc.getD i ([],[])).2) (L (Array.replicate ops.size false)) k c->kC st.bs k=c:=λk c hc=>by
   rcases hc with ⟨i,_,hi,_⟩ | ⟨_,e⟩
   ·exact absurd hi (hno i)
   ·rw[e,h1]
  exact ⟨hs.base.draw,λt x hc=>by rw[hS t x hc];exact (hs.slots t).up hb0 hu0 hs.base.dok,λk cs hc=>(hs.mem.ok k cs (hB k _ hc)).up hb0 hu0 hs.base.dok,
   λk1 k2 c1 c2 q1 q2=>hs.mem.inj k1 k2 c1 c2 (hB _ _ q1) (hB _ _ q2),λk c hc=>hs.high k c (hB _ _ hc)⟩
end
end Go.Fid
