/- Part 5 of a proof: rules, plain facts, and functions walked. -/
import Derived.Test.YteimogfidbkpnaaGreatM4
import Derived.Deep.LoopGhost
set_option linter.all false
namespace Go.Fid
open Go.RowKit (Below)
def qS(P:Program)(n:Fr)(c:Code)(Q:Exit→PS→Prop)(st:PS):Prop :=
 ∀ (C:eP) (a:Act) (w:World) (N:Nat),C.n=n→nR C a w st→c.wpIn (fen n) N P (fun e a' w'=>∃ st',nR C a' w' st'∧Q e st') a w
def PThen(next:PS→Prop)(Q:Exit→PS→Prop):Exit→PS→Prop
 |.normal,st=>next st
 |e,st=>Q e st
def PBlock(id:Nat)(Q:Exit→PS→Prop):Exit→PS→Prop
 |.exit id',st=>if id'=id then Q .normal st else Q (.exit id') st
 |e,st=>Q e st
def kB(st st':PS):Prop:=∀ (C:eP) (a:Act) (w:World),nR C a w st→nR C a w st'
section
variable {P:Program} {n:Fr} {Q Q':Exit→PS→Prop} {st st':PS}
theorem pwp_mono{c:Code}(h:qS P n c Q st)(hq:∀ e s,Q e s→Q' e s):qS P n c Q' st :=
 fun C a w N hn hs=>wpIn_mono (h C a w N hn hs) fun _ _ _ ⟨s,h1,h2⟩=>⟨s,h1,hq _ _ h2⟩
theorem kE{c:Code}(h:kB st st')(hp:qS P n c Q st'):qS P n c Q st:=fun C a w N hn hs=>hp C a w N hn (h C a w hs)
theorem jA{c d:Code}(h:qS P n c (PThen (qS P n d Q) Q) st):qS P n (.seq c d) Q st:=fun C a w N hn hs=>by
 refine wpIn_seq (wpIn_mono (h C a w N hn hs) fun e a' w' ⟨s,h1,h2⟩=>?_)
 cases e with
 |normal=>exact h2 C a' w' N hn h1
 |_=>exact ⟨s,h1,h2⟩
theorem jC(h:Q .normal st):qS P n .skip Q st:=fun _ _ _ _ _ hs=>wpIn_skip ⟨st,hs,h⟩
theorem jV{id:Nat}(h:Q (.exit id) st):qS P n (.exit id) Q st:=fun _ _ _ _ _ hs=>wpIn_exit ⟨st,hs,h⟩
theorem jE(h:Q .ret st):qS P n .ret Q st:=fun _ _ _ _ _ hs=>wpIn_ret ⟨st,hs,h⟩
theorem jD{id:Nat}{c:Code}(h:qS P n c (PBlock id Q) st):qS P n (.block id c) Q st:=fun C a w N hn hs=>by
 refine wpIn_block (wpIn_mono (h C a w N hn hs) fun e a' w' ⟨s,h1,h2⟩=>?_)
 cases e with
 |exit id'=>
  simp only[Exit.inBlock]
  simp only[PBlock] at h2
  split
  ·rename_i e;rw[if_pos e] at h2;exact ⟨s,h1,h2⟩
  ·rename_i e;rw[if_neg e] at h2;exact ⟨s,h1,h2⟩
 |_=>exact ⟨s,h1,h2⟩
theorem jG{c:Operand}{x y:Code}{b:Bool}(hc:ev (jW st.sl) c=.d (.val (.bool b)))(h1:b=true→qS P n x Q st)(h2:b=false→qS P n y Q st):qS P n (.cond c x y) Q st:=fun C a w N hn hs=>by
 obtain ⟨D,β,hs'⟩:=id hs
 have hv:a.eval c=.bool b:=by
  have:qG w D β (a.eval c) (ev (jW st.sl) c):=by
   cases c with
   |tmp t=>exact hs'.slots t
   |const v=>exact uT.val v
   |func f=>exact uT.val _
   |global g=>trivial
  rw[hc] at this
  exact rep_bool this
 exact wpIn_cond_split hv (fun e=>h1 e C a w N hn hs) (fun e=>h2 e C a w N hn hs)
theorem wpIn_loop_ghost{F:Fence}{N:Nat}{Q:Exit→Act→World→Prop}{a:Act}{w:World}{c:Code}(I:Nat→Act→World→Prop)(n₀:Nat)(h₀:I n₀ a w)
  (round:∀ m a w,I m a w→c.wpIn F N P (Exit.then (fun a' w'=>∃ m',m'<m∧I m' a' w') Q) a w):(Code.loop c).wpIn F N P Q a w:=by
 refine wpIn_loop (fun a w=>∃ m,I m a w) (fun a w=>leastOf (fun m=>I m a w)) ⟨n₀,h₀⟩ ?_
 intro a w hI
 refine wpIn_mono (round _ a w (leastOf_spec hI).1) ?_
 intro e a' w' hq
 cases e with
 |normal=>
  obtain ⟨n',hlt,hI'⟩:=hq
  exact show (∃ m,I m a' w')∧leastOf (fun m=>I m a' w')<leastOf (fun m=>I m a w) from ⟨⟨n',hI'⟩,Nat.lt_of_le_of_lt ((leastOf_spec ⟨n',hI'⟩).2 n' hI') hlt⟩
 |_=>exact hq
theorem kP{α:Type}{c:Code}(S:α→PS)(I:α→Prop)(μ:α→Nat)(x0:α)(h0:kB st (S x0))(hI:I x0)(round:∀ x,I x→qS P n c (PThen (fun s=>∃ y,kB s (S y)∧I y∧μ y<μ x) Q) (S x)):qS P n (.loop c) Q st:=fun C a w N hn hs=>by
 refine wpIn_loop_ghost (fun m a w=>∃ x,I x∧μ x=m∧nR C a w (S x)) (μ x0) ⟨x0,hI,rfl,h0 C a w hs⟩ ?_
 rintro m a w ⟨x,hx,rfl,hsx⟩
 refine wpIn_mono (round x hx C a w N hn hsx) fun e a' w' ⟨s,h1,h2⟩=>?_
 cases e with
 |normal=>
  obtain ⟨y,g1,g2,g3⟩:=h2
  exact ⟨μ y,g3,y,g2,rfl,g1 C a' w' h1⟩
 |_=>exact ⟨s,h1,h2⟩
theorem uK{l:SL}{s:SL}(h:l.map (fun p=>jW s p.1)=l.map (·.2))(t:Nat):jW l t=.junk∨jW l t=jW s t:=by
 induction l with
 |nil=>exact .inl rfl
 |cons p l ih=>
  obtain ⟨j,x⟩:=p
  simp only[List.map_cons,List.cons.injEq] at h
  rw[qO]
  split
  ·rename_i e;subst e;exact .inr h.1.symm
  ·exact ih h.2
theorem fD{l:BS}{s:BS}(h:l.map (fun p=>kD s p.1)=l.map (·.2)){k:Nat}{c:List SV}(hc:kD l k=some c):kD s k=some c:=by
 induction l with
 |nil=>simp [kD] at hc
 |cons p l ih=>
  obtain ⟨j,x⟩:=p
  simp only[List.map_cons,List.cons.injEq] at h
  rw[jK] at hc
  split at hc
  ·rename_i e;subst e;subst hc;exact h.1
  ·exact ih h.2 hc
theorem weak{l:SL}{b:BS}(h1:l.map (fun p=>jW st.sl p.1)=l.map (·.2))(h2:b.map (fun p=>kD st.bs p.1)=b.map (·.2)):kB st ⟨l,b⟩:=fun C a w ⟨D,β,hs⟩=>
 ⟨D,β,hs.base,⟨fun k cs hk=>hs.mem.ok k cs (fD h2 hk),fun k1 k2 c1 c2 q1 q2=>hs.mem.inj k1 k2 c1 c2 (fD h2 q1) (fD h2 q2)⟩,fun k c hk=>hs.high k c (fD h2 hk),fun t=>by
  rcases uK h1 t with h | h
  ·show qG w D β _ (jW l t)
   rw[h];trivial
  ·show qG w D β _ (jW l t)
   rw[h];exact hs.slots t⟩
theorem kB.refl(st:PS):kB st st:=fun _ _ _ h=>h
theorem kB.trans{a b c:PS}(h:kB a b)(k:kB b c):kB a c:=fun C x w hs=>k C x w (h C x w hs)
theorem nil_sl(t:TypeId)(s:Nat):∀ w D β v,qG w D β v (.d (.val (.slice none 0 0)))→qG w D β v (.d (.sl t s [])):=fun w D β v h=>by
 rw[uF h]
 exact fN w D t s
theorem vP{t k s m:Nat}{T:TypeId}{cs:List SV}{es:List jQ}(hs:jW st.sl t=.own k T s m)(hb:kD st.bs k=some cs)(hes:∀ e∈es,e.cells.length=s)(hl:es.length=m)(hc:cs.take (m*s)=(qA es).map .d) :
  kB st ⟨(t,.d (.sl T s es))::st.sl,(k,none)::st.bs⟩:=fun C a w ⟨D,β,h⟩=>by
 have hfl:=uZ hes
 have hbs:∀ {j:Nat} {c:List SV},kD ((k,none)::st.bs) j=some c→j≠k∧kD st.bs j=some c:=fun {j c} hj=>by
  rw[jK] at hj
  split at hj
  ·cases hj
  ·rename_i e;exact ⟨fun e'=>e e'.symm,hj⟩
 have ht:=h.slots t
 rw[hs] at ht
 rcases ht with ⟨h1,h2,h3⟩ | ⟨b,cap,vs,h1,h2,h3,h4,h5,h6⟩
 ·subst h2
  have hn:es=[]:=List.eq_nil_of_length_eq_zero hl
  subst hn
  refine ⟨D,β,h.base,⟨fun j c hj=>h.mem.ok j c (hbs hj).2,fun j1 j2 c1 c2 q1 q2=>h.mem.inj j1 j2 c1 c2 (hbs q1).2 (hbs q2).2⟩,fun j c hj=>h.high j c (hbs hj).2,fun u=>?_⟩
  show qG w D β _ (jW ((t,_)::st.sl) u)
  rw[qO]
  split
  ·rename_i e;subst e;rw[h3];exact fN w D T s
  ·exact h.slots u
 ·have hlt:=uN h3
  rcases h.mem.ok k cs hb with ⟨g1,_⟩ | ⟨b',vs',T',g1,g2,g3,g4,g5⟩
  ·rw[h1] at g1;cases g1
  ·obtain rfl:b=b':=by rw[h1] at g1;injection g1
   rw[h3] at g2
   injection g2 with g2
   injection g2 with g2 gT
   subst g2;subst gT
   have hmono:∀ t' g o,D t' g o→(D t' g o∨(t'=T∧g=b∧o<m*s))∧w.cell? ⟨g,o,none⟩=w.cell? ⟨g,o,none⟩:=fun t' g o hd=>⟨.inl hd,rfl⟩
   have hS:∀ {v x},qG w D β v x→qG w (fun t' g o=>D t' g o∨(t'=T∧g=b∧o<m*s)) β v x:=fun {v x} hr=>by
    cases x with
    |d x=>exact uT.mono hmono hr
    |ref k o=>exact hr
    |own k t s n=>exact hr
    |clo f ks=>exact hr
    |emp=>exact hr
    |view k o n=>exact hr
    |hob u b ob=>exact hr
    |pr k t s n x=>obtain ⟨v1,v2,e,h1,h2⟩:=hr;exact ⟨v1,v2,e,h1,uT.mono hmono h2⟩
    |refx k o b=>exact hr
    |bnd f k o=>exact hr
    |ownx k t s n u=>exact hr
    |junk=>trivial
   refine ⟨fun t' g o=>D t' g o∨(t'=T∧g=b∧o<m*s),β,⟨h.base.defers,h.base.size,h.base.keep,h.base.oth,h.base.pin,h.base.below,fun t' g o hd=>.inl (h.base.dmono _ _ _ hd),fun t' g o hd=>?_,fun t' g o hd=>?_⟩,⟨fun j c hj=>?_,fun j1 j2 c1 c2 q1 q2=>h.mem.inj j1 j2 c1 c2 (hbs q1).2 (hbs q2).2⟩,fun j c hj=>h.high j c (hbs hj).2,fun u=>?_⟩
   ·rcases hd with hd | ⟨_,e,_⟩
    ·exact h.base.dnew _ _ _ hd
    ·subst e;exact .inr (h.high k cs hb g h1)
   ·rcases hd with hd | ⟨_,e,_⟩
    ·exact h.base.dok _ _ _ hd
    ·subst e;exact hlt
   ·obtain ⟨hne,hj'⟩:=hbs hj
    rcases h.mem.ok j c hj' with q | ⟨b2,vs2,T2,q1,q2,q3,q4,q5⟩
    ·exact .inl q
    ·refine .inr ⟨b2,vs2,T2,q1,q2,q3,fun i x hx=>?_,fun t' o hd=>?_⟩
     ·obtain ⟨u,e1,e2,e3⟩:=q4 i x hx
      exact ⟨u,e1,e2,hS e3⟩
     ·rcases hd with hd | ⟨_,e,_⟩
      ·exact q5 _ _ hd
      ·subst e;exact hne (h.mem.inj j k _ _ hj' hb b2 q1 h1)
   ·show qG w _ β _ (jW ((t,_)::st.sl) u)
    rw[qO]
    split
    ·rename_i e;subst e
     rw[h2]
     have key:∀ (i:Nat) d,(qA es)[i]?=some d→∃ u,vs[i]?=some u∧u.oneCell'=true∧uT w D u d:=fun i d hd=>by
      have hi:i<m*s:=by
       have:=(List.getElem?_eq_some_iff.1 hd).1
       rw[hfl,hl] at this;exact this
      have e1:cs[i]?=some (.d d):=by
       have:(cs.take (m*s))[i]?=some (.d d):=by rw[hc];simp [hd]
       rwa [List.getElem?_take_of_lt hi] at this
      exact g4 i _ e1
     have hcell:∀ i,w.cell? ⟨b,i,none⟩=vs[i]?:=fun i=>cell_of_row w b i vs T (0,0) h3
     refine uT.sl b 0 (fun i=>vs.getD i undef) hl.symm h5 h6 hes (fun _=>rfl) (fun i hi=>.inr ⟨rfl,rfl,by rw[Nat.zero_add,← hl,← hfl];exact hi⟩) (fun i hi=>?_) (fun i hi=>?_) (fun i d hd=>?_)
     ·obtain ⟨x,q1,q2,q3⟩:=key i _ (List.getElem?_eq_getElem hi)
      rw[Nat.zero_add,hcell,Array.getD_eq_getD_getElem?,q1];rfl
     ·obtain ⟨x,q1,q2,q3⟩:=key i _ (List.getElem?_eq_getElem hi)
      rw[Array.getD_eq_getD_getElem?,q1];exact q2
     ·obtain ⟨x,q1,q2,q3⟩:=key i d hd
      rw[Array.getD_eq_getD_getElem?,q1]
      exact uT.mono hmono q3
    ·exact hS (h.slots u)
end
inductive cG (P:Program) (st:PS):List ResultVar→List jQ→Prop
 |nil:cG P st [] []
 |tmp {t:Tmp} {d:jQ} {rs:List ResultVar} {ds:List jQ} (h:jW st.sl t=.d d) (hr:cG P st rs ds):cG P st (.tmp t::rs) (d::ds)
 |cell {t:Tmp} {T:TypeId} {k sz:Nat} {agg:Bool} {cs:List SV} {d:jQ} {rs:List ResultVar} {ds:List jQ} (h:jW st.sl t=.ref k 0) (hb:kD st.bs k=some cs) (hs:kZ P T=some (agg,sz)) (h1:agg=false→sz=1) (hl:sz≤cs.length)
   (hg:yC agg (cs.take sz)=.d d) (hr:cG P st rs ds):cG P st (.cell t T::rs) (d::ds)
def retD:List jQ→jQ
 |[d]=>d
 |ds=>.tup ds
def RetQ(P:Program)(rs:List ResultVar)(r:jQ):Exit→PS→Prop
 |.ret,st=>∃ ds,cG P st rs ds∧retD ds=r
 |.normal,st=>∃ ds,cG P st rs ds∧retD ds=r
 |_,_=>False
def dS:List jQ→Nat→SL
 |[],_=>[]
 |d::r,i=>(i,.d d)::dS r (i+1)
theorem sget_init:∀ (ds:List jQ) (i t:Nat),jW (dS ds i) t=if i≤t then (match ds[t-i]? with | some d=>.d d | none=>.junk) else .junk
 |[],i,t=>by simp [dS,jW]
 |d::r,i,t=>by
  simp only[dS,qO]
  by_cases h:i=t
  ·subst h;simp
  ·rw[if_neg h,sget_init r (i+1) t]
   by_cases h2:i+1≤t
   ·rw[if_pos h2,if_pos (by omega)]
    obtain ⟨q,hq⟩:∃ q,t-i=q+1:=⟨t-i-1,by omega⟩
    have:t-(i+1)=q:=by omega
    rw[this,hq,List.getElem?_cons_succ]
   ·rw[if_neg h2,if_neg (by omega)]
section
variable {P:Program}
theorem gather_rep{w:World}{D:qE}{β:qD}{T:TypeId}{k sz b:Nat}{agg:Bool}{cs:List SV}(hb:vA w D β k cs)(hk:β k=some b)(hs:kZ P T=some (agg,sz))(h1:agg=false→sz=1)(hl:sz≤cs.length) :
  ∃ v,(loadVar T ⟨b,0,none⟩).run P w=.ok v w∧qG w D β v (yC agg (cs.take sz)):=by
 obtain ⟨vs,e1,e2,e3⟩:=blk_cells hb hk
 cases agg with
 |true=>
  refine ⟨.agg (vs.take sz).toArray,mP hs w _ (vs.take sz) (by simp;omega) (fun j u hu=>?_),repS_agg (by simp;omega) (fun v hv=>?_) (fun i v y hv hy=>?_)⟩
  ·have hj:j<sz:=by
    have:=(List.getElem?_eq_some_iff.1 hu).1
    simp at this;omega
   rw[List.getElem?_take_of_lt hj] at hu
   rw[Addr.add_lit,Nat.zero_add]
   exact (e2 _ _ hu).1
  ·obtain ⟨j,hj⟩:=List.getElem?_of_mem (List.mem_of_mem_take hv)
   exact (e2 j v hj).2
  ·have hj:i<sz:=by
    have:=(List.getElem?_eq_some_iff.1 hv).1
    simp at this;omega
   rw[List.getElem?_take_of_lt hj] at hv hy
   exact e3 _ _ _ hv hy
 |false=>
  obtain rfl:=h1 rfl
  have hlt:0<cs.length:=by omega
  have hlt':0<vs.length:=by omega
  refine ⟨vs[0],mQ hs w _ (e2 _ _ (List.getElem?_eq_getElem hlt')).1,?_⟩
  have:cs.take 1=[cs[0]]:=by
   match cs,hlt with
   |x::r,_=>rfl
  rw[this]
  exact e3 _ _ _ (List.getElem?_eq_getElem hlt') (List.getElem?_eq_getElem hlt)
def resF(tmps:Array Value):ResultVar→Sem Value
 |.tmp t=>pure (tmps.getD t undef)
 |.cell b t=>do loadVar t (← asAddr (tmps.getD b undef))
theorem results_eq(fn:Func)(tmps:Array Value):results fn tmps=(do let vs ← fn.results.mapM (resF tmps);pure (if h:vs.size=1 then vs[0] else .tuple vs)):=by
 unfold results
 congr 1
theorem res_run{a:Act}{w:World}{st:PS}{D:qE}{β:qD}(hsl:∀ t,qG w D β (a.tmps.getD t undef) (jW st.sl t))(hm:∀ k cs,kD st.bs k=some cs→vA w D β k cs):∀ {rs:List ResultVar} {ds:List jQ},cG P st rs ds →
  ∃ vs:List Value,(rs.mapM (resF a.tmps)).run P w=.ok vs w∧vs.length=ds.length∧∀ (i:Nat) v d,vs[i]?=some v→ds[i]?=some d→uT w D v d:=by
 intro rs ds h
 induction h with
 |nil=>exact ⟨[],by simp,rfl,by simp⟩
 |tmp h hr ih=>
  rename_i t d rs ds
  obtain ⟨vs,e1,e2,e3⟩:=ih
  have hv:=hsl t
  rw[h] at hv
  refine ⟨a.tmps.getD t undef::vs,?_,by simp [e2],fun i v d' hv' hd=>?_⟩
  ·simp only[List.mapM_cons,resF,Sem.run_bind,Sem.run_pure,Result.andThen_ok,e1]
  ·cases i with
   |zero=>simp only[List.getElem?_cons_zero,Option.some.injEq] at hv' hd;subst hv';subst hd;exact hv
   |succ i=>exact e3 i v d' (by simpa using hv') (by simpa using hd)
 |cell h hb hsh h1 hl hg hr ih=>
  rename_i t T k sz agg cs d rs ds
  obtain ⟨vs,e1,e2,e3⟩:=ih
  have hv:=hsl t
  rw[h] at hv
  obtain ⟨b,hk,hv⟩:=hv
  obtain ⟨v,g1,g2⟩:=gather_rep (hm _ _ hb) hk hsh h1 hl
  rw[hg] at g2
  refine ⟨v::vs,?_,by simp [e2],fun i u d' hv' hd=>?_⟩
  ·have hrun:(resF a.tmps (.cell t T)).run P w=.ok v w:=by
    simp only[resF,Sem.run_bind,hv,asAddr,Sem.run_pure,Result.andThen_ok,g1]
   simp only[List.mapM_cons,Sem.run_bind,hrun,Sem.run_pure,Result.andThen_ok,e1]
  ·cases i with
   |zero=>simp only[List.getElem?_cons_zero,Option.some.injEq] at hv' hd;subst hv';subst hd;exact g2
   |succ i=>exact e3 i u d' (by simpa using hv') (by simpa using hd)
theorem rep_ret{w:World}{D:qE}:∀ {vs:List Value} {ds:List jQ},vs.length=ds.length→(∀ (i:Nat) v d,vs[i]?=some v→ds[i]?=some d→uT w D v d)→uT w D (if h:vs.toArray.size=1 then vs.toArray[0] else .tuple vs.toArray) (retD ds)
 |[],[],_,_=>uT.tup [] rfl (by simp)
 |[v],[d],_,h=>h 0 v d rfl rfl
 |v1::v2::vs,d1::d2::ds,h1,h2=>by
  rw[dif_neg (by simp)]
  exact uT.tup (v1::v2::vs) h1 h2
theorem ret_run{a:Act}{w:World}{st:PS}{D:qE}{β:qD}(hsl:∀ t,qG w D β (a.tmps.getD t undef) (jW st.sl t))(hm:∀ k cs,kD st.bs k=some cs→vA w D β k cs){fn:Func}{ds:List jQ}(h:cG P st fn.results.toList ds):∃ v,(results fn a.tmps).run P w=.ok v w∧uT w D v (retD ds):=by
 obtain ⟨vs,e1,e2,e3⟩:=res_run (P:=P) hsl hm h
 have hrun:(results fn a.tmps).run P w=.ok (if h:vs.toArray.size=1 then vs.toArray[0] else .tuple vs.toArray) w:=by
  rw[results_eq,Array.mapM_eq_mapM_toList,Sem.run_bind,Sem.run_map]
  rw[e1]
  rfl
 exact ⟨_,hrun,rep_ret e2 e3⟩
theorem turned_cell{w:World}{q:Nat}{ob ob':Obj}(h:w.heap[q]?=some ob)(hc:ob.isCells=false)(hc':ob'.isCells=false)(g o:Nat):(w.putObj q ob').cell? ⟨g,o,none⟩=w.cell? ⟨g,o,none⟩:=by
 by_cases hg:g=q
 ·subst hg
  have h2:(w.putObj g ob').heap[g]?=some ob':=World.putObj_heap_same (uN h)
  have none_of:∀ {w:World} {ob:Obj},w.heap[g]?=some ob→ob.isCells=false→w.cell? ⟨g,o,none⟩=none:=fun {w ob} h hc=>by
   cases ob<;>first | (simp [World.cell?,h];done) | simp [Obj.isCells] at hc
  rw[none_of h hc,none_of h2 hc']
 ·exact World.cell?_of_block (World.putObj_heap_other hg)
theorem eR{w:World}{q:Nat}{ob ob':Obj}(h:w.heap[q]?=some ob)(hc:ob.isCells=false)(hc':ob'.isCells=false)(hmp:Obj.isMp ob=false){D:qE}{β:qD}{v:Value}{x:SV}(hx:qG w D β v x):qG (w.putObj q ob') D β v x:=by
 cases x with
 |d x=>exact uT.mono (fun t g o hd=>⟨hd,turned_cell h hc hc' g o⟩) hx
 |ref k o=>exact hx
 |own k t s n=>
  rcases hx with hx | ⟨b,cap,vs,h1,h2,h3,h4⟩
  ·exact .inl hx
  ·have hne:b≠q:=fun e=>by subst e;rw[h] at h3;injection h3 with h3;subst h3;cases hc
   exact .inr ⟨b,cap,vs,h1,h2,(World.putObj_heap_other hne).trans h3,h4⟩
 |clo f ks=>exact hx
 |emp=>exact hx
 |view k o n=>exact hx
 |hob u b ob'=>
  have hne:b≠q:=fun e=>by subst e;have e2:=hx.2.1;rw[h] at e2;injection e2 with e2;subst e2;have e3:=hx.2.2;rw[hmp] at e3;cases e3
  exact ⟨hx.1,(World.putObj_heap_other hne).trans hx.2.1,hx.2.2⟩
 |pr k t s n x=>
  obtain ⟨v1,v2,e,g1,g2⟩:=hx
  refine ⟨v1,v2,e,?_,uT.mono (fun t g o hd=>⟨hd,turned_cell h hc hc' g o⟩) g2⟩
  rcases g1 with hx | ⟨b,cap,vs,h1,h2,h3,h4⟩
  ·exact .inl hx
  ·have hne:b≠q:=fun e=>by subst e;rw[h] at h3;injection h3 with h3;subst h3;cases hc
   exact .inr ⟨b,cap,vs,h1,h2,(World.putObj_heap_other hne).trans h3,h4⟩
 |refx k o b=>exact hx
 |bnd f k o=>exact hx
 |ownx k t s n u=>
  refine ⟨hx.1,?_⟩
  rcases hx.2 with hx | ⟨b,cap,vs,h1,h2,h3,h4⟩
  ·exact .inl hx
  ·have hne:b≠q:=fun e=>by subst e;rw[h] at h3;injection h3 with h3;subst h3;cases hc
   exact .inr ⟨b,cap,vs,h1,h2,(World.putObj_heap_other hne).trans h3,h4⟩
 |junk=>trivial
theorem turned_blk{w:World}{q:Nat}{ob ob':Obj}(h:w.heap[q]?=some ob)(hc:ob.isCells=false)(hc':ob'.isCells=false)(hmp:Obj.isMp ob=false){D:qE}{β:qD}{k:Nat}{cs:List SV}(hx:vA w D β k cs):vA (w.putObj q ob') D β k cs:=by
 rcases hx with hx | ⟨b,vs,T,h1,h2,h3,h4,h5⟩
 ·exact .inl hx
 ·have hne:b≠q:=fun e=>by subst e;rw[h] at h2;injection h2 with h2;subst h2;cases hc
  refine .inr ⟨b,vs,T,h1,(World.putObj_heap_other hne).trans h2,h3,fun i x hi=>?_,h5⟩
  obtain ⟨u,e1,e2,e3⟩:=h4 i x hi
  exact ⟨u,e1,e2,eR h hc hc' hmp e3⟩
theorem turned_below{w0 w:World}{q:Nat}{ob':Obj}(h:Below w0.heap.size w0 w)(hq:w0.heap.size≤q):Below w0.heap.size w0 (w.putObj q ob') :=
 ⟨h.os,h.tape,h.output,by simpa [World.putObj] using h.size,fun k hk=>(World.putObj_heap_other (by omega)).trans (h.block k hk)⟩
theorem turned_belowM{mine:Nat→Prop}{w0 w:World}{q:Nat}{ob':Obj}(h:mO mine w0.heap.size w0 w)(hq:w0.heap.size≤q):mO mine w0.heap.size w0 (w.putObj q ob') :=
 ⟨h.os,h.tape,h.output,by simpa [World.putObj] using h.size,fun k hk hm=>(World.putObj_heap_other (by omega)).trans (h.block k hk hm),fun k hk vs T f h1=>by
  obtain ⟨us,e1,e2⟩:=h.shape k hk vs T f h1
  exact ⟨us,(World.putObj_heap_other (by omega)).trans e1,e2⟩⟩
theorem leaves_marks{fn:Func}{a:Act}{st:PS}{D D':qE}{β:qD}{r:jQ}{w w0:World}{ds:List Deferred}{ds':List jQ}(hd:DfOk w0.heap.size w ds)(hsl:∀ t,qG w D' β (a.tmps.getD t undef) (jW st.sl t))
  (hm:∀ k cs,kD st.bs k=some cs→vA w D' β k cs) (gV:Below w0.heap.size w0 w) (hmono:∀ t g o,D t g o→D' t g o) (hnew:∀ t g o,D' t g o→D t g o∨w0.heap.size≤g) (hdok:DOk D' w) (h1:cG P st fn.results.toList ds') (h2:retD ds'=r) :
  LeavesInM Fence.wide 0 P fn a.tmps (FPost w0 D r) ds .returning w:=by
 induction ds generalizing w with
 |nil=>
  obtain ⟨v,g1,g2⟩:=ret_run (P:=P) hsl hm h1
  rw[h2] at g2
  refine ⟨v,g1,v,D',rfl,gV,⟨hmono,fun t g o hd=>?_⟩,g2⟩
  rcases hnew t g o hd with h3 | h3
  ·exact .inl h3
  ·exact .inr ⟨h3,hdok _ _ _ hd⟩
 |cons d ds ih=>
  cases hd with
  |cons hqb hqh h3 hr=>
   rename_i q
   refine ⟨by simp,.inl ⟨q,_,rfl,run_takeDeferred hqh,ih (hr.keep fun q' hq' ⟨d,hd,e⟩=>?_) (fun t=>eR hqh rfl rfl rfl (hsl t)) (fun k cs hk=>turned_blk hqh rfl rfl rfl (hm k cs hk)) (turned_below gV hqb) (fun t g o hd=>by simpa [World.putObj] using hdok t g o hd)⟩⟩
   have hne:q'≠q:=fun e'=>h3 d hd (e'▸e)
   exact (World.putObj_heap_other hne).trans hq'
theorem jH{f:FuncId}{fn:Func}{c:Code}{ds:List jQ}{r:jQ}(hf:P.funcs[f]?=some fn)(hb:fn.body=some c)(hc:callB P f=true)(hn:Nat.ble ds.length fn.ntmps=true)
  (h:qS P ⟨0,fn.ntmps,none⟩ c (RetQ P fn.results.toList r) ⟨dS ds 0,[]⟩):jR P f ds r :=
 ⟨hc,fun w D vs hD hargs=>by
  refine (callsIn_wide (n:=0)).1 (callsIn_of_wp_marks hf hb trivial ?_)
  have hle:ds.length≤fn.ntmps:=Nat.le_of_ble_eq_true hn
  have hvl:=hargs.1
  have hsim:nR ⟨w,D,w,#[],⟨0,fn.ntmps,none⟩,fun _=>False⟩ { tmps:=vs.toArray++Array.replicate (fn.ntmps-vs.toArray.size) undef,defers:=[] } w ⟨dS ds 0,[]⟩:=by
   refine ⟨D,fun _=>none,⟨.nil,by simp;omega,fun _ _ _ _=>rfl,fun _ _ h _=>h,fun t ht=>absurd ht (Nat.not_lt_zero t),.of (Below.refl _ _),fun _ _ _ h=>h,fun _ _ _ h=>.inl h,hD⟩,⟨fun k cs hk=>by simp [kD] at hk,fun k1 k2 c1 c2 h1=>by simp [kD] at h1⟩,fun k c hk=>by simp [kD] at hk,fun t=>?_⟩
   show qG w D _ _ (jW (dS ds 0) t)
   rw[sget_init]
   simp only[Nat.zero_le,if_true,Nat.sub_zero]
   cases hd:ds[t]? with
   |none=>trivial
   |some d=>
    have ht:t<vs.length:=by rw[hvl];exact (List.getElem?_eq_some_iff.1 hd).1
    refine hargs.2 t _ d ?_ hd
    rw[Array.getD_eq_getD_getElem?,Array.getElem?_append_left (by simpa using ht)]
    simp [ht]
  refine wpIn_mono (h _ _ w 0 rfl hsim) fun e a w' ⟨st,⟨D',β,hs⟩,hq⟩=>?_
  have fin:(∃ ds,cG P st fn.results.toList ds∧retD ds=r)→LeavesInM Fence.wide 0 P fn a.tmps (FPost w D r) a.defers .returning w':=fun ⟨ds',h1,h2⟩=>
   leaves_marks hs.base.defers hs.slots (fun k cs hk=>hs.mem.ok k cs hk) hs.base.below.plain hs.base.dmono (fun t g o hd=>(hs.base.dnew t g o hd).imp id (fun h=>h.elim id False.elim)) hs.base.dok h1 h2
  cases e with
  |normal=>exact fin hq
  |ret=>exact fin hq
  |exit id=>exact hq.elim
  |goto l=>exact hq.elim
  |panic ch=>exact hq.elim
  |outgrown=>exact hq.elim⟩
end
section
variable {P:Program} {n:Fr} {ops:Array Oper} {S S':SL} {B B':BS} {l:List Oper} {o:Oper} {news:List Nat} {acc0:List (List Nat × List Nat)}
end
section
variable {P:Program} {o:Oper} {S:Nat→SV}
theorem e_lda{T:TypeId}{x:Operand}{k off sz:Nat}{cs:List SV}{y:SV}(ho:o.op=.load T x)(hx:ev S x=.ref k off)(hs:kZ P T=some (true,sz))(hl:Nat.ble (off+sz) cs.length=true)(hy:yC true ((cs.drop off).take sz)=y):qX P o S [(k,cs)] y :=
 hy▸e_load_ref ho hx hs (fun h=>by cases h) (Nat.le_of_ble_eq_true hl)
theorem e_ld1{T:TypeId}{x:Operand}{k off:Nat}{cs:List SV}{y:SV}(ho:o.op=.load T x)(hx:ev S x=.ref k off)(hs:kZ P T=some (false,1))(hy:cs[off]?=some y):qX P o S [(k,cs)] y:=by
 have hlt:=(List.getElem?_eq_some_iff.1 hy).1
 have h:=e_load_ref (P:=P) (cs:=cs) ho hx hs (fun _=>rfl) (by omega)
 have e:(cs.drop off).take 1=[y]:=by
  rw[List.drop_eq_getElem_cons hlt]
  have:cs[off]=y:=(List.getElem?_eq_some_iff.1 hy).2
  simp [this]
 rw[e] at h
 exact h
theorem e_lca{T t:TypeId}{x:Operand}{off sz:Nat}{cs:List jQ}{y:SV}(ho:o.op=.load T x)(hx:ev S x=.d (.cptr t cs off))(hs:kZ P T=some (true,sz))(hl:Nat.ble (off+sz) cs.length=true)(hy:yC true (((cs.drop off).take sz).map .d)=y):qX P o S [] y :=
 hy▸e_load_cptr ho hx hs (fun h=>by cases h) (Nat.le_of_ble_eq_true hl)
theorem e_lc1{T t:TypeId}{x:Operand}{off:Nat}{cs:List jQ}{y:jQ}(ho:o.op=.load T x)(hx:ev S x=.d (.cptr t cs off))(hs:kZ P T=some (false,1))(hy:cs[off]?=some y):qX P o S [] (.d y):=by
 have hlt:=(List.getElem?_eq_some_iff.1 hy).1
 have h:=e_load_cptr (P:=P) (cs:=cs) ho hx hs (fun _=>rfl) (by omega)
 have e:((cs.drop off).take 1).map SV.d=[.d y]:=by
  rw[List.drop_eq_getElem_cons hlt]
  have:cs[off]=y:=(List.getElem?_eq_some_iff.1 hy).2
  simp [this]
 rw[e] at h
 exact h
theorem e_pkt{c x y:Operand}{z:SV}(ho:o.op=.pick c x y)(hc:ev S c=.d (.val (.bool true)))(hx:ev S x=z):qX P o S [] z:=by
 have:=e_pick (P:=P) ho hc
 simpa [hx] using this
theorem e_pkf{c x y:Operand}{z:SV}(ho:o.op=.pick c x y)(hc:ev S c=.d (.val (.bool false)))(hy:ev S y=z):qX P o S [] z:=by
 have:=e_pick (P:=P) ho hc
 simpa [hy] using this
theorem e_ixs{T E t:TypeId}{x ix:Operand}{s:Nat}{es:List jQ}{k:IntKind}{i:Int}{j:Nat}{cs:List jQ}(ho:o.op=.indexAddr T x ix)(hT:uW P T=some (E,s))(hx:ev S x=.d (.sl t s es))(hi:ev S ix=.d (.val (.int k i)))
  (hj:i=(j:Int)) (he:es[j]?.map jQ.cells=some cs):qX P o S [] (.d (.cptr t cs 0)):=by
 subst hj
 rw[Option.map_eq_some_iff] at he
 obtain ⟨e,h1,rfl⟩:=he
 exact e_index_sl ho hT hx hi (by omega) (by simpa using h1)
theorem e_ixo{T E t:TypeId}{x ix:Operand}{s b n q:Nat}{k:IntKind}{i:Int}{j:Nat}(ho:o.op=.indexAddr T x ix)(hT:uW P T=some (E,s))(hx:ev S x=.own b t s n)(hi:ev S ix=.d (.val (.int k i)))
  (hj:i=(j:Int)) (h1:j<n) (hq:j*s=q):qX P o S [] (.ref b q):=by
 subst hj;subst hq
 have h:=e_index_own (P:=P) ho hT hx hi (by omega) (by omega)
 simpa using h
theorem e_ixar{T E:TypeId}{x ix:Operand}{s b n p q:Nat}{k:IntKind}{i:Int}{j:Nat}(ho:o.op=.indexAddr T x ix)(hT:dM P T=some (n,E,s))(hx:ev S x=.ref b p)(hi:ev S ix=.d (.val (.int k i)))
  (hj:i=(j:Int)) (h1:j<n) (hq:p+j*s=q):qX P o S [] (.ref b q):=by
 subst hj;subst hq
 have h:=e_index_aref (P:=P) ho hT hx hi (by omega) (by omega)
 simpa using h
theorem e_exD{x:Operand}{i:Nat}{ds:List jQ}{d:jQ}(ho:o.op=.extract x i)(hx:ev S x=.d (.tup ds))(hd:ds[i]?=some d):qX P o S [] (.d d):=e_extract ho hx hd
theorem e_fldv{T t:TypeId}{x:Operand}{f off sz:Nat}{cs:List jQ}{y:SV}(ho:o.op=.field T x f)(hx:ev S x=.d (.agg cs))(hf:fH P T f=some (off,t))(hs:kZ P t=some (true,sz))(hle:Nat.ble (off+sz) cs.length=true)(hy:yC true (((cs.drop off).take sz).map .d)=y):qX P o S [] y :=
 hy▸e_field ho hx hf hs (fun h=>by cases h) (Nat.le_of_ble_eq_true hle)
theorem e_fld1{T t:TypeId}{x:Operand}{f off:Nat}{cs:List jQ}{y:SV}(ho:o.op=.field T x f)(hx:ev S x=.d (.agg cs))(hf:fH P T f=some (off,t))(hs:kZ P t=some (false,1))(hle:Nat.ble (off+1) cs.length=true)(hy:yC false (((cs.drop off).take 1).map .d)=y):qX P o S [] y :=
 hy▸e_field ho hx hf hs (fun _=>rfl) (Nat.le_of_ble_eq_true hle)
theorem t_std{T:TypeId}{x y:Operand}{k off sz:Nat}{agg:Bool}{old cs:List SV}{d:jQ}(ho:o.op=.store T x y)(hx:ev S x=.ref k off)(hy:ev S y=.d d)(hs:kZ P T=some (agg,sz))(h1:d.ok1=true)(uB:d.cells.length=sz)(hle:Nat.ble (off+sz) old.length=true)
  (hc:patch old off (d.cells.map .d)=cs):TOk P o S k old cs:=hc▸t_store ho hx hy hs (.inl ⟨d,rfl,h1,rfl⟩) (by simpa using uB) (Nat.le_of_ble_eq_true hle)
theorem t_st1{T:TypeId}{x y:Operand}{k off:Nat}{old cs:List SV}{d:jQ}(ho:o.op=.store T x y)(hx:ev S x=.ref k off)(hy:ev S y=.d d)(hs:kZ P T=some (false,1))(h1:d.ok1=true)(hcl:d.cells=[d])(hle:off<old.length)(hc:old.set off (.d d)=cs):TOk P o S k old cs:=by
 have h:=t_store (P:=P) (old:=old) ho hx hy hs (.inl ⟨d,rfl,h1,rfl⟩) (by simp [hcl]) (by omega)
 have e:patch old off (d.cells.map .d)=old.set off (.d d):=by
  rw[hcl]
  apply List.ext_getElem?
  intro i
  rw[yK (by simp;omega),List.getElem?_set]
  simp only[List.map_cons,List.map_nil,List.length_cons,List.length_nil,Nat.zero_add]
  by_cases c1:i<off
  ·rw[if_pos c1,if_neg (by omega)]
  ·rw[if_neg c1]
   by_cases c2:off=i
   ·subst c2;simp [hle]
   ·rw[if_neg (by omega),if_neg c2]
 rw[e,hc] at h
 exact h
theorem e_cl{y:Operand}{xs:List Operand}{ats:Array TypeId}{f:FuncId}{ds:List jQ}{r:jQ}(hf:jR P f ds r)(ho:o.op=.call { callee:=.value y,args:=xs.toArray,argTypes:=ats })(hy:ev S y=.d (.val (.func (.func f) #[] #[])))(hx:xs.map (ev S)=ds.map .d):qX P o S [] (.d r):=e_call ho hy hx hf
end
theorem wi64{m r:Int}(h:m=r)(h1:-9223372036854775808≤r)(h2:r≤9223372036854775807):IntKind.i64.wrap m=r:=by
 subst h
 rw[IntKind.wrap_i64];omega
theorem wu64{m r:Int}(h:m=r)(h1:0≤r)(h2:r≤18446744073709551615):IntKind.u64.wrap m=r:=by
 subst h
 have:IntKind.u64.wrap m=m % 18446744073709551616:=by
  simp [IntKind.wrap,IntKind.bits,IntKind.signed]
 rw[this];omega
theorem wu32{m r:Int}(h:m=r)(h1:0≤r)(h2:r≤4294967295):IntKind.u32.wrap m=r:=by
 subst h
 have:IntKind.u32.wrap m=m % 4294967296:=by
  simp [IntKind.wrap,IntKind.bits,IntKind.signed]
 rw[this];omega
theorem wu8{m r:Int}(h:m=r)(h1:0≤r)(h2:r≤255):IntKind.u8.wrap m=r:=by
 subst h
 have:IntKind.u8.wrap m=m % 256:=by
  simp [IntKind.wrap,IntKind.bits,IntKind.signed]
 rw[this];omega
def bx(d:jQ):List SV:=d.cells.map .d
def jB(g:Nat):jQ:=.val (.int .u32 (g:Int))
def jT(g:Int):jQ:=.val (.int .i64 g)
def xI(g:Bool):jQ:=.val (.bool g)
section
variable {α:Type}
theorem own_get(F:α→jQ)(L:List α)(j:Nat)(d:α)(h:j<L.length):(L.map (fun g=>SV.d (F g)))[j]?=some (.d (F (L.getD j d))):=by
 simp [List.getD,List.getElem?_eq_getElem h]
theorem ixm(F:α→jQ)(L:List α)(j:Nat)(d:α)(h:j<L.length):((L.map F)[j]?).map jQ.cells=some ((F (L.getD j d)).cells):=by
 simp [List.getD,List.getElem?_eq_getElem h]
theorem own_len(F:α→jQ)(L:List α)(j:Nat)(h:j<L.length):j<(L.map (fun g=>SV.d (F g))).length:=by simpa using h
theorem own_set(F:α→jQ)(L:List α)(j:Nat)(v:α):(L.map (fun g=>SV.d (F g))).set j (.d (F v))=(L.set j v).map (fun g=>SV.d (F g)):=by
 rw[List.map_set]
theorem own_zero(F:α→jQ)(m:Nat)(z:α):((List.replicate m [F z]).flatten.map SV.d)=(List.replicate m z).map (fun g=>SV.d (F g)):=by
 induction m with
 |zero=>rfl
 |succ m ih=>
  rw[List.replicate_succ,List.replicate_succ,List.flatten_cons,List.map_append,ih]
  rfl
theorem flat_one(F:α→jQ)(hF:∀ g,(F g).cells=[F g])(L:List α):qA (L.map F)=L.map F:=by
 induction L with
 |nil=>rfl
 |cons x l ih=>rw[List.map_cons,gN,ih,hF];rfl
theorem qZ(F:α→jQ)(L:List α)(hF:∀ g,(F g).cells=[F g]):∀ e∈L.map F,e.cells.length=1:=by
 intro e he
 obtain ⟨g,_,rfl⟩:=List.mem_map.1 he
 rw[hF];rfl
theorem uS(F:α→jQ)(L:List α)(hF:∀ g,(F g).cells=[F g]){m:Nat}(h:L.length=m):(L.map (fun g=>SV.d (F g))).take (m*1)=(qA (L.map F)).map .d:=by
 rw[flat_one F hF,List.map_map,Nat.mul_one,← h]
 rw[List.take_of_length_le (by simp)]
 rfl
theorem uR(F:α→jQ)(L:List α){m:Nat}(h:L.length=m):(L.map F).length=m:=by simpa using h
end
section
variable {P:Program} {o:Oper} {S:Nat→SV}
theorem e_ln{T E t:TypeId}{x:Operand}{s:Nat}{es:List jQ}{r:Int}(ho:o.op=.call { callee:=.builtin .len,args:=#[x],argTypes:=#[T] })(hT:uW P T=some (E,s))(hx:ev S x=.d (.sl t s es))(hr:(es.length:Int)=r):qX P o S [] (.d (.val (.int .i64 r))):=hr▸e_len_sl ho hT hx
theorem e_slc{T E t:TypeId}{x:Operand}{lo hi:Option Operand}{s l h:Nat}{kl kh:IntKind}{es es':List jQ}(ho:o.op=.slice T x lo hi none)(hT:uW P T=some (E,s))(hx:ev S x=.d (.sl t s es))(hlo:optInt S lo kl 0 l)(hhi:optInt S hi kh es.length h)
  (h1:l≤h) (h2:h≤es.length) (he:(es.take h).drop l=es'):qX P o S [] (.d (.sl t s es')):=he▸e_slice ho hT hx hlo hhi h1 h2
theorem n_mks{T E:TypeId}{l c:Operand}{s n m bytes:Nat}{kl kc:IntKind}{zv:List Value}{zd:List jQ}{cs:List SV}(k:Nat)(ho:o.op=.makeSlice T l c)(hT:uW P T=some (E,s))(hz:uL P E=some zv)(hzd:gD zv zd)(hzl:zd.length=s)(hby:xK P E=some bytes)
  (hl:ev S l=.d (.val (.int kl (n:Int)))) (hc:ev S c=.d (.val (.int kc (m:Int)))) (hnm:n≤m) (hb:bytes*m≤281474976710656) (hm:m≤maxLen) (hcs:(List.replicate m zd).flatten.map .d=cs):NOk P o S k cs (.own k E s n):=hcs▸n_makeSlice k ho hT hz hzd hzl hby hl hc hnm hb hm
theorem e_maxn{T T':TypeId}{x y:Operand}{k:IntKind}{m n r:Int}(ho:o.op=.call { callee:=.builtin .max,args:=#[x,y],argTypes:=#[T,T'] })(hx:ev S x=.d (.val (.int k m)))(hy:ev S y=.d (.val (.int k n)))(hr:(if m<n then n else m)=r):qX P o S [] (.d (.val (.int k r))):=hr▸e_max ho hx hy
theorem e_minn{T T':TypeId}{x y:Operand}{k:IntKind}{m n r:Int}(ho:o.op=.call { callee:=.builtin .min,args:=#[x,y],argTypes:=#[T,T'] })(hx:ev S x=.d (.val (.int k m)))(hy:ev S y=.d (.val (.int k n)))(hr:(if n<m then n else m)=r):qX P o S [] (.d (.val (.int k r))):=hr▸e_min ho hx hy
theorem kV{st:PS}{t:Tmp}{T:TypeId}{k sz:Nat}{cs:List SV}{d:jQ}{rs:List ResultVar}{ds:List jQ}(h:jW st.sl t=.ref k 0)(hb:kD st.bs k=some cs)(hs:kZ P T=some (true,sz))(hl:Nat.ble sz cs.length=true)(hg:yC true (cs.take sz)=.d d)(hr:cG P st rs ds):cG P st (.cell t T::rs) (d::ds) :=
 .cell h hb hs (fun h=>by cases h) (Nat.le_of_ble_eq_true hl) hg hr
theorem res_1{st:PS}{t:Tmp}{T:TypeId}{k:Nat}{cs:List SV}{d:jQ}{rs:List ResultVar}{ds:List jQ}(h:jW st.sl t=.ref k 0)(hb:kD st.bs k=some cs)(hs:kZ P T=some (false,1))(hl:Nat.ble 1 cs.length=true)(hg:yC false (cs.take 1)=.d d)(hr:cG P st rs ds):cG P st (.cell t T::rs) (d::ds) :=
 .cell h hb hs (fun _=>rfl) (Nat.le_of_ble_eq_true hl) hg hr
end
theorem tmod_nat(a b:Nat):Int.tmod (a:Int) (b:Int)=((a % b:Nat):Int):=rfl
theorem quo_le{a b m:Nat}(h:a≤m):((a / b:Nat):Int)≤(m:Int):=Int.ofNat_le.2 (Nat.le_trans (Nat.div_le_self a b) h)
theorem quo_u64(a b:Nat)(h:a≤18446744073709551615):IntKind.u64.wrap (Int.tdiv (a:Int) (b:Int))=((a / b:Nat):Int) :=
 wu64 rfl (Int.natCast_nonneg _) (quo_le h)
def pw(n:Nat):Nat:=1000000000 ^ n
theorem hN:pw 0=1:=rfl
theorem uO(n:Nat):pw (n+1)=1000000000*pw n:=by unfold pw;rw[Nat.pow_succ,Nat.mul_comm]
theorem pw_add(m n:Nat):pw (m+n)=pw m*pw n:=by unfold pw;rw[Nat.pow_add]
theorem pw_pos(n:Nat):0<pw n:=Nat.pow_pos (by decide)
theorem yS{m n:Nat}(h:m≤n):pw m≤pw n:=Nat.pow_le_pow_right (by decide) h
theorem pw_lt{m n:Nat}(h:m<n):pw m<pw n:=Nat.pow_lt_pow_right (by decide) h
attribute [irreducible] pw
def val:List Nat→Nat
 |[]=>0
 |d::l=>d+1000000000*val l
def Dig(l:List Nat):Prop:=∀ d∈l,d<1000000000
theorem val_nil:val []=0:=rfl
theorem gI(d:Nat)(l:List Nat):val (d::l)=d+1000000000*val l:=rfl
theorem nO(d:Nat):val [d]=d:=by simp [val]
theorem yG:Dig []:=by intro d h;cases h
theorem xW{d:Nat}{l:List Nat}:Dig (d::l)↔d<1000000000∧Dig l:=by simp [Dig]
theorem eV{a b:List Nat}:Dig (a++b)↔Dig a∧Dig b:=by
 constructor
 ·intro h;exact ⟨fun d hd=>h d (by simp [hd]),fun d hd=>h d (by simp [hd])⟩
 ·intro h d hd;rcases List.mem_append.1 hd with h' | h'
  ·exact h.1 d h'
  ·exact h.2 d h'
theorem Dig.take{l:List Nat}(h:Dig l)(n:Nat):Dig (l.take n):=fun d hd=>h d (List.mem_of_mem_take hd)
theorem Dig.drop{l:List Nat}(h:Dig l)(n:Nat):Dig (l.drop n):=fun d hd=>h d (List.mem_of_mem_drop hd)
theorem Dig.set{l:List Nat}(h:Dig l)(i:Nat){d:Nat}(hd:d<1000000000):Dig (l.set i d):=by
 intro x hx
 rcases List.mem_or_eq_of_mem_set hx with h' | h'
 ·exact h x h'
 ·exact h'▸hd
theorem Dig.getD{l:List Nat}(h:Dig l)(i:Nat):l.getD i 0<1000000000:=by
 unfold List.getD
 cases hi:l[i]? with
 |none=>decide
 |some x=>exact h x (List.mem_of_getElem? hi)
theorem xH(n:Nat):Dig (List.replicate n 0):=by
 intro d hd;rw[(List.mem_replicate.1 hd).2];decide
theorem mH(n:Nat):val (List.replicate n 0)=0:=by
 induction n with
 |zero=>rfl
 |succ n ih=>rw[List.replicate_succ,gI,ih]
theorem mA(a b:List Nat):val (a++b)=val a+pw a.length*val b:=by
 induction a with
 |nil=>simp [val,hN]
 |cons d a ih=>rw[List.cons_append,gI,gI,ih,List.length_cons,uO];grind
theorem vF{l:List Nat}(h:Dig l):val l<pw l.length:=by
 induction l with
 |nil=>simp [val,hN]
 |cons d l ih=>
  rw[xW] at h
  have:=ih h.2
  rw[gI,List.length_cons,uO];omega
theorem val_take_succ(l:List Nat)(i:Nat):val (l.take (i+1))=val (l.take i)+pw i*l.getD i 0:=by
 by_cases h:i<l.length
 ·rw[List.take_succ_eq_append_getElem h,mA,nO,List.length_take,Nat.min_eq_left (Nat.le_of_lt h)]
  simp [List.getD,List.getElem?_eq_getElem h]
 ·rw[List.take_of_length_le (by omega),List.take_of_length_le (by omega)]
  simp [List.getD,List.getElem?_eq_none (Nat.le_of_not_lt h)]
theorem mT(l:List Nat)(i d:Nat)(h:i<l.length):val ((l.set i d).take (i+1))=val (l.take i)+pw i*d:=by
 rw[val_take_succ,List.take_set_of_le (Nat.le_refl i)]
 simp [List.getD,h]
theorem val_set(l:List Nat)(i d:Nat)(h:i<l.length):val (l.set i d)+pw i*l.getD i 0=val l+pw i*d:=by
 induction l generalizing i with
 |nil=>simp at h
 |cons x l ih=>
  cases i with
  |zero=>simp [val,hN];omega
  |succ i=>
   have:=ih i (by simpa using h)
   simp only[List.set_cons_succ,gI,List.getD_cons_succ,uO]
   grind
theorem nZ(l:List Nat)(i:Nat)(h:i≤l.length):val l=val (l.take i)+pw i*val (l.drop i):=by
 have h1:=mA (l.take i) (l.drop i)
 rw[List.take_append_drop,List.length_take,Nat.min_eq_left h] at h1
 exact h1
theorem getD_set(l:List Nat)(i j d:Nat)(h:i<l.length):(l.set i d).getD j 0=if i=j then d else l.getD j 0:=by
 simp only[List.getD,List.getElem?_set]
 by_cases hij:i=j
 ·subst hij;simp [h]
 ·simp [hij]
def ofNat(n:Nat):List Nat:=if n=0 then [] else n % 1000000000::ofNat (n / 1000000000)
termination_by n
decreasing_by omega
theorem uJ:ofNat 0=[]:=by rw[ofNat];rfl
theorem nE{n:Nat}(h:n≠0):ofNat n=n % 1000000000::ofNat (n / 1000000000):=by rw[ofNat,if_neg h]
theorem jU:∀ n,val (ofNat n)=n
 |n=>by
  by_cases h:n=0
  ·subst h;rw[uJ];rfl
  ·rw[nE h,gI,jU (n / 1000000000)];omega
termination_by n=>n
decreasing_by omega
theorem jY:∀ n,Dig (ofNat n)
 |n=>by
  by_cases h:n=0
  ·subst h;rw[uJ];exact yG
  ·rw[nE h];exact xW.2 ⟨Nat.mod_lt _ (by decide),jY (n / 1000000000)⟩
termination_by n=>n
decreasing_by omega
theorem ofNat_nil{n:Nat}:ofNat n=[]↔n=0:=by
 constructor
 ·intro h;rw[← jU n,h];rfl
 ·intro h;rw[h,uJ]
def Top(l:List Nat):Prop:=l.getD (l.length-1) 1≠0
def yB(l:List Nat):Prop:=Dig l∧Top l
theorem top_cons{d:Nat}{l:List Nat}(h:l≠[]):Top (d::l)↔Top l:=by
 cases l with
 |nil=>exact absurd rfl h
 |cons e l=>simp [Top]
theorem ofNat_top:∀ n,Top (ofNat n)
 |n=>by
  by_cases h:n=0
  ·subst h;rw[uJ];simp [Top]
  ·rw[nE h]
   by_cases h':n / 1000000000=0
   ·rw[h',uJ];simp [Top];omega
   ·rw[top_cons (fun e=>h' (ofNat_nil.1 e))];exact ofNat_top (n / 1000000000)
termination_by n=>n
decreasing_by omega
theorem kU(n:Nat):yB (ofNat n):=⟨jY n,ofNat_top n⟩
theorem can_tail{d:Nat}{l:List Nat}(h:yB (d::l)):yB l:=by
 refine ⟨(xW.1 h.1).2,?_⟩
 by_cases hl:l=[]
 ·subst hl;simp [Top]
 ·exact (top_cons hl).1 h.2
theorem can_eq:∀ {l:List Nat},yB l→l=ofNat (val l)
 |[],_=>by rw[val_nil,uJ]
 |d::l,h=>by
  have ih:=can_eq (can_tail h)
  have hd:=(xW.1 h.1).1
  have hne:val (d::l)≠0:=by
   rw[gI]
   intro e
   have h0:val l=0:=by omega
   rw[h0,uJ] at ih
   have hd0:d=0:=by omega
   subst ih;subst hd0
   exact h.2 rfl
  have e1:(d+1000000000*val l) % 1000000000=d:=by omega
  have e2:(d+1000000000*val l) / 1000000000=val l:=by omega
  rw[nE hne,gI,e1,e2,← ih]
theorem can_ofNat_val{l:List Nat}(h:yB l){n:Nat}(hn:val l=n):l=ofNat n:=hn▸can_eq h
theorem qU{n m:Nat}(h:n<pw m):(ofNat n).length≤m:=by
 induction m generalizing n with
 |zero=>
  rw[hN] at h;have:n=0:=by omega
  subst this;rw[uJ];exact Nat.le_refl _
 |succ m ih=>
  by_cases h0:n=0
  ·subst h0;rw[uJ];simp
  ·rw[nE h0,List.length_cons]
   have:=ih (n:=n / 1000000000) (by rw[uO] at h;omega)
   omega
theorem val_ge_of_top{l:List Nat}(h:Top l)(hl:l≠[]):pw (l.length-1)≤val l:=by
 have h1:=val_take_succ l (l.length-1)
 have hp:0<l.length:=by cases l with
  |nil=>exact absurd rfl hl
  |cons=>simp
 rw[show l.length-1+1=l.length by omega,List.take_length] at h1
 have h2:l.getD (l.length-1) 0≠0:=by
  have h3:l.getD (l.length-1) 1≠0:=h
  have h4:l.length-1<l.length:=by omega
  simpa [List.getD,List.getElem?_eq_getElem h4] using h3
 rw[h1]
 refine Nat.le_trans ?_ (Nat.le_add_left _ _)
 exact Nat.le_mul_of_pos_right _ (Nat.pos_of_ne_zero h2)
theorem mS{n m:Nat}(h:(ofNat n).length<(ofNat m).length):n<m:=by
 have h1:=vF (jY n)
 have h2:=val_ge_of_top (ofNat_top m) (by intro e;rw[e] at h;simp at h)
 rw[jU] at h1 h2
 exact Nat.lt_of_lt_of_le h1 (Nat.le_trans (yS (by omega)) h2)
theorem getD_out{l:List Nat}{i:Nat}(h:¬ (i:Int)<(l.length:Int)):l.getD i 0=0:=by
 simp [List.getD,List.getElem?_eq_none (show l.length≤i by omega)]
theorem trim_cond{l:List Nat}{b:Bool}(h:(decide ((0:Int)<((l.length:Nat):Int))&&(((l.getD (l.length-1) 0:Nat):Int) == 0))=b):if b then 0<l.length∧l.getD (l.length-1) 0=0 else l.length=0∨l.getD (l.length-1) 0≠0:=by
 subst h
 by_cases h1:l.length=0
 ·simp [h1]
 ·have h2:0<l.length:=by omega
  by_cases h3:l.getD (l.length-1) 0=0
  ·have:((0:Nat):Int)=0:=rfl
   simp only[h3,this,beq_self_eq_true,Bool.and_true]
   simp [h2,h3]
  ·have h4:(((l.getD (l.length-1) 0:Nat):Int) == 0)=false:=by
    rw[beq_eq_false_iff_ne];omega
   simp only[h4,Bool.and_false]
   exact .inr h3
theorem trim_step{l l0:List Nat}(hl:Dig l)(hv:val l=val l0)(hle:l.length≤l0.length)(h:(decide ((0:Int)<((l.length:Nat):Int))&&(((l.getD (l.length-1) 0:Nat):Int) == 0))=true) :
  Dig (l.take (l.length-1))∧val (l.take (l.length-1))=val l0∧(l.take (l.length-1)).length≤l0.length:=by
 obtain ⟨h1,h2⟩:=trim_cond h
 refine ⟨hl.take _,?_,by simp;omega⟩
 have h3:=val_take_succ l (l.length-1)
 rw[show l.length-1+1=l.length by omega,List.take_length,h2] at h3
 omega
theorem trim_less{l:List Nat}(h:(decide ((0:Int)<((l.length:Nat):Int))&&(((l.getD (l.length-1) 0:Nat):Int) == 0))=true):(l.take (l.length-1)).length<l.length:=by
 obtain ⟨h1,h2⟩:=trim_cond h
 simp;omega
theorem trim_end{l l0:List Nat}(hl:Dig l)(hv:val l=val l0)(h:(decide ((0:Int)<((l.length:Nat):Int))&&(((l.getD (l.length-1) 0:Nat):Int) == 0))=false):ofNat (val l0)=l:=by
 have h1:=trim_cond h
 simp only[Bool.false_eq_true,if_false] at h1
 refine (can_ofNat_val ⟨hl,?_⟩ hv).symm
 rcases h1 with h1 | h1
 ·have:l=[]:=List.eq_nil_of_length_eq_zero h1
  subst this;simp [Top]
 ·intro h2
  by_cases h3:l.length=0
  ·have:l=[]:=List.eq_nil_of_length_eq_zero h3
   subst this;simp at h2
  ·have h4:l.length-1<l.length:=by omega
   simp [List.getD,List.getElem?_eq_getElem h4] at h1 h2
   exact h1 h2
theorem plus_step{a b out:List Nat}{i c n s c':Nat}(uB:out.length=n)(hd:Dig out)(hi:i<n)(hv:val (out.take i)+pw i*c=val (a.take i)+val (b.take i))(hs:s<1000000000)(hsum:s+1000000000*c'=a.getD i 0+b.getD i 0+c) :
  (out.set i s).length=n∧Dig (out.set i s)∧val ((out.set i s).take (i+1))+pw (i+1)*c'=val (a.take (i+1))+val (b.take (i+1)):=by
 refine ⟨by simpa using uB,hd.set i hs,?_⟩
 rw[mT out i s (by omega),val_take_succ,val_take_succ,uO]
 grind
theorem plus_end{a b out:List Nat}{c:Nat}(hda:Dig a)(hdb:Dig b)(uB:out.length=max a.length b.length+1)(hv:val (out.take (max a.length b.length+1))+pw (max a.length b.length+1)*c=val (a.take (max a.length b.length+1))+val (b.take (max a.length b.length+1))):val out=val a+val b:=by
 rw[List.take_of_length_le (by omega),List.take_of_length_le (by omega),List.take_of_length_le (by omega)] at hv
 have h1:=vF hda
 have h2:=vF hdb
 have h3:pw a.length≤pw (max a.length b.length):=yS (by omega)
 have h4:pw b.length≤pw (max a.length b.length):=yS (by omega)
 rw[uO] at hv
 have hc:c=0:=by
  rcases Nat.eq_zero_or_pos c with h | h
  ·exact h
  ·have:1000000000*pw (max a.length b.length)≤1000000000*pw (max a.length b.length)*c:=Nat.le_mul_of_pos_right _ h
   omega
 subst hc
 omega
theorem minus_step{a b out:List Nat}{i c n s c':Nat}(uB:out.length=n)(hd:Dig out)(hi:i<n)(hv:val (out.take i)+val (b.take i)=val (a.take i)+pw i*c)(hs:s<1000000000)(hsum:s+(b.getD i 0+c)=a.getD i 0+1000000000*c') :
  (out.set i s).length=n∧Dig (out.set i s)∧val ((out.set i s).take (i+1))+val (b.take (i+1))=val (a.take (i+1))+pw (i+1)*c':=by
 refine ⟨by simpa using uB,hd.set i hs,?_⟩
 rw[mT out i s (by omega),val_take_succ,val_take_succ,uO]
 grind
theorem minus_end{a b out:List Nat}{c:Nat}(hda:Dig a)(hdb:Dig b)(hd:Dig out)(hba:val b≤val a)(uB:out.length=a.length)(hv:val (out.take a.length)+val (b.take a.length)=val (a.take a.length)+pw a.length*c):val out=val a-val b:=by
 rw[List.take_of_length_le (l:=out) (by omega),List.take_of_length_le (l:=a) (by omega)] at hv
 have h1:=vF hda
 have h2:=vF hd
 rw[uB] at h2
 have h3:val (b.take a.length)=val b:=by
  by_cases h:a.length≤b.length
  ·have h4:=nZ b a.length h
   rcases Nat.eq_zero_or_pos (val (b.drop a.length)) with h5 | h5
   ·rw[h5] at h4;omega
   ·have:pw a.length≤pw a.length*val (b.drop a.length):=Nat.le_mul_of_pos_right _ h5
    omega
  ·rw[List.take_of_length_le (by omega)]
 have hc:c=0:=by
  rcases Nat.eq_zero_or_pos c with h | h
  ·exact h
  ·have:pw a.length≤pw a.length*c:=Nat.le_mul_of_pos_right _ h
   omega
 subst hc
 omega
theorem times_step{out:List Nat}{A X p q pb c i j s:Nat}(hi:i+j<out.length)(hd:Dig out)(hv:val out+pw (i+j)*c=A+pw i*(p*X))(hs:s=out.getD (i+j) 0+p*q+c)(hX:pb=X+pw j*q) :
  Dig (out.set (i+j) (s % 1000000000))∧val (out.set (i+j) (s % 1000000000))+pw (i+j+1)*(s / 1000000000)=A+pw i*(p*pb):=by
 refine ⟨hd.set _ (Nat.mod_lt _ (by decide)),?_⟩
 have h1:=val_set out (i+j) (s % 1000000000) hi
 have h2:s=s % 1000000000+1000000000*(s / 1000000000):=by omega
 generalize hs1:s % 1000000000=u at *
 generalize hs2:s / 1000000000=t at *
 generalize hg:out.getD (i+j) 0=g at *
 generalize hv2:val (out.set (i+j) u)=v at *
 rw[uO]
 rw[pw_add] at *
 subst hX
 have h3:u+1000000000*t=g+p*q+c:=by omega
 have h4:pw i*pw j*(u+1000000000*t)=pw i*pw j*(g+p*q+c):=by rw[h3]
 grind
theorem cK(n k:Nat):(List.replicate n 0).getD k 0=0:=by
 simp only[List.getD,List.getElem?_replicate]
 split<;>rfl
theorem zero_set{out:List Nat}{i m s:Nat}(h:i<m)(hz:∀ k,m≤k→out.getD k 0=0):∀ k,m≤k→(out.set i s).getD k 0=0:=fun k hk=>by
 have h1:=hz k hk
 simp only[List.getD,List.getElem?_set] at h1 ⊢
 rw[if_neg (by omega)]
 exact h1
theorem times_row{a b o2:List Nat}{i c:Nat}(hdb:Dig o2)(hi:i<a.length)(uB:o2.length=a.length+b.length)(hz:∀ k,i+b.length≤k→o2.getD k 0=0)(hc:c<1000000000)
  (hv:val o2+pw (i+b.length)*c=val (a.take i)*val b+pw i*(a.getD i 0*val (b.take b.length))) :
  (o2.set (i+b.length) c).length=a.length+b.length∧Dig (o2.set (i+b.length) c)∧(∀ k,i+1+b.length≤k→(o2.set (i+b.length) c).getD k 0=0)∧val (o2.set (i+b.length) c)=val (a.take (i+1))*val b:=by
 refine ⟨by simpa using uB,hdb.set _ hc,zero_set (by omega) (fun k hk=>hz k (by omega)),?_⟩
 have h1:=val_set o2 (i+b.length) c (by omega)
 rw[hz _ (Nat.le_refl _)] at h1
 rw[List.take_of_length_le (l:=b) (Nat.le_refl _)] at hv
 rw[val_take_succ]
 grind
end Go.Fid
