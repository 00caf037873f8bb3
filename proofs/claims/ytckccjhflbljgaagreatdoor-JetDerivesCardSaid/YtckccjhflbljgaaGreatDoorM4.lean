/- Part 4 of a proof: rules, plain facts, and functions walked. -/
import Derived.Test.YtckccjhflbljgaaGreatDoorM3
import Derived.Deep.LoopGhost
set_option linter.all false
namespace Go.Fid
open List
open Go.RowKit (Below)
def eM(P:Program)(n:Fr)(c:Code)(Q:Exit->PS->Prop)(st:PS):Prop :=
 ∀ (C:Ctx) (a:Act) (w:World) (N:Nat),C.n=n->dQ C a w st->c.wpIn (fen n) N P (λe a' w'=>∃ st',dQ C a' w' st'/\Q e st') a w
def PThen(next:PS->Prop)(Q:Exit->PS->Prop):Exit->PS->Prop
 |.normal,st=>next st
 |e,st=>Q e st
def PBlock(id:Nat)(Q:Exit->PS->Prop):Exit->PS->Prop
 |.exit id',st=>if id'=id then Q .normal st else Q (.exit id') st
 |e,st=>Q e st
def xI(st st':PS):Prop:=∀ (C:Ctx) (a:Act) (w:World),dQ C a w st->dQ C a w st'
section
variable {P:Program} {n:Fr} {Q Q':Exit->PS->Prop} {st st':PS}
theorem pwp_mono{c:Code}(h:eM P n c Q st)(hq:∀ e s,Q e s->Q' e s):eM P n c Q' st :=
 λC a w N hn hs=>wpIn_mono (h C a w N hn hs) λ_ _ _ ⟨s,h1,h2⟩=>⟨s,h1,hq _ _ h2⟩
theorem kS{c:Code}(h:xI st st')(hp:eM P n c Q st'):eM P n c Q st:=λC a w N hn hs=>hp C a w N hn (h C a w hs)
theorem jB{c d:Code}(h:eM P n c (PThen (eM P n d Q) Q) st):eM P n (.seq c d) Q st:=λC a w N hn hs=>by
 refine wpIn_seq (wpIn_mono (h C a w N hn hs) λe a' w' ⟨s,h1,h2⟩=>?_)
 cases e with
 |normal=>exact h2 C a' w' N hn h1
 |_=>exact ⟨s,h1,h2⟩
theorem jF(h:Q .normal st):eM P n .skip Q st:=λ_ _ _ _ _ hs=>wpIn_skip ⟨st,hs,h⟩
theorem kO{id:Nat}(h:Q (.exit id) st):eM P n (.exit id) Q st:=λ_ _ _ _ _ hs=>wpIn_exit ⟨st,hs,h⟩
theorem jE(h:Q .ret st):eM P n .ret Q st:=λ_ _ _ _ _ hs=>wpIn_ret ⟨st,hs,h⟩
theorem jH{id:Nat}{c:Code}(h:eM P n c (PBlock id Q) st):eM P n (.block id c) Q st:=λC a w N hn hs=>by
 refine wpIn_block (wpIn_mono (h C a w N hn hs) λe a' w' ⟨s,h1,h2⟩=>?_)
 cases e with
 |exit id'=>
  simp only[Exit.inBlock]
  simp only[PBlock] at h2
  split
  ·rename_i e;rw[if_pos e] at h2;exact ⟨s,h1,h2⟩
  ·rename_i e;rw[if_neg e] at h2;exact ⟨s,h1,h2⟩
 |_=>exact ⟨s,h1,h2⟩
theorem jD{c:Operand}{x y:Code}{b:Bool}(hc:ev (kD st.sl) c=.d (.val (.bool b)))(h1:b=true->eM P n x Q st)(h2:b=false->eM P n y Q st):eM P n (.cond c x y) Q st:=λC a w N hn hs=>by
 obtain ⟨D,β,hs'⟩:=id hs
 have hv:a.eval c=.bool b:=by
  have:kZ w D β (a.eval c) (ev (kD st.sl) c):=by
   cases c with
   |tmp t=>exact hs'.slots t
   |const v=>exact uS.val v
   |func f=>exact uS.val _
   |global g=>trivial
  rw[hc] at this
  exact rep_bool this
 exact wpIn_cond_split hv (λe=>h1 e C a w N hn hs) (λe=>h2 e C a w N hn hs)
theorem wpIn_loop_ghost{F:Fence}{N:Nat}{Q:Exit->Act->World->Prop}{a:Act}{w:World}{c:Code}(I:Nat->Act->World->Prop)(n₀:Nat)(h₀:I n₀ a w)
  (round:∀ m a w,I m a w->c.wpIn F N P (Exit.then (λa' w'=>∃ m',m'<m/\I m' a' w') Q) a w):(Code.loop c).wpIn F N P Q a w:=by
 refine wpIn_loop (λa w=>∃ m,I m a w) (λa w=>leastOf (λm=>I m a w)) ⟨n₀,h₀⟩ ?_
 intro a w hI
 refine wpIn_mono (round _ a w (leastOf_spec hI).1) ?_
 intro e a' w' hq
 cases e with
 |normal=>
  obtain ⟨n',hlt,hI'⟩:=hq
  exact show (∃ m,I m a' w')/\leastOf (λm=>I m a' w')<leastOf (λm=>I m a w) from ⟨⟨n',hI'⟩,Nat.lt_of_le_of_lt ((leastOf_spec ⟨n',hI'⟩).2 n' hI') hlt⟩
 |_=>exact hq
theorem kR{α:Type}{c:Code}(S:α->PS)(I:α->Prop)(μ:α->Nat)(x0:α)(h0:xI st (S x0))(hI:I x0)(round:∀ x,I x->eM P n c (PThen (λs=>∃ y,xI s (S y)/\I y/\μ y<μ x) Q) (S x)):eM P n (.loop c) Q st:=λC a w N hn hs=>by
 refine wpIn_loop_ghost (λm a w=>∃ x,I x/\μ x=m/\dQ C a w (S x)) (μ x0) ⟨x0,hI,rfl,h0 C a w hs⟩ ?_
 rintro m a w ⟨x,hx,rfl,hsx⟩
 refine wpIn_mono (round x hx C a w N hn hsx) λe a' w' ⟨s,h1,h2⟩=>?_
 cases e with
 |normal=>
  obtain ⟨y,g1,g2,g3⟩:=h2
  exact ⟨μ y,g3,y,g2,rfl,g1 C a' w' h1⟩
 |_=>exact ⟨s,h1,h2⟩
theorem fW{l:SL}{s:SL}(h:l.map (λp=>kD s p.1)=l.map (·.2))(t:Nat):kD l t=.junk\/kD l t=kD s t:=by
 induction l with
 |nil=>exact .inl rfl
 |cons p l ih=>
  obtain ⟨j,x⟩:=p
  simp only[map_cons,List.cons.injEq] at h
  rw[qQ]
  split
  ·rename_i e;subst e;exact .inr h.1.symm
  ·exact ih h.2
theorem lU{l:BS}{s:BS}(h:l.map (λp=>kC s p.1)=l.map (·.2)){k:Nat}{c:List SV}(hc:kC l k=some c):kC s k=some c:=by
 induction l with
 |nil=>simp [kC] at hc
 |cons p l ih=>
  obtain ⟨j,x⟩:=p
  simp only[map_cons,List.cons.injEq] at h
  rw[jI] at hc
  split at hc
  ·rename_i e;subst e;subst hc;exact h.1
  ·exact ih h.2 hc
theorem weak{l:SL}{b:BS}(h1:l.map (λp=>kD st.sl p.1)=l.map (·.2))(h2:b.map (λp=>kC st.bs p.1)=b.map (·.2)):xI st ⟨l,b⟩:=λC a w ⟨D,β,hs⟩=>
 ⟨D,β,hs.base,⟨λk cs hk=>hs.mem.ok k cs (lU h2 hk),λk1 k2 c1 c2 q1 q2=>hs.mem.inj k1 k2 c1 c2 (lU h2 q1) (lU h2 q2)⟩,λk c hk=>hs.high k c (lU h2 hk),λt=>by
  rcases fW h1 t with h | h
  ·show kZ w D β _ (kD l t)
   rw[h];trivial
  ·show kZ w D β _ (kD l t)
   rw[h];exact hs.slots t⟩
theorem xI.refl(st:PS):xI st st:=λ_ _ _ h=>h
theorem xI.trans{a b c:PS}(h:xI a b)(k:xI b c):xI a c:=λC x w hs=>k C x w (h C x w hs)
theorem nil_sl(t:TypeId)(s:Nat):∀ w D β v,kZ w D β v (.d (.val (.slice none 0 0)))->kZ w D β v (.d (.sl t s [])):=λw D β v h=>by
 rw[vA h]
 exact bB w D t s
theorem xY{t k s m:Nat}{T:TypeId}{cs:List SV}{es:List jY}(hs:kD st.sl t=.own k T s m)(hb:kC st.bs k=some cs)(hes:∀ e∈es,e.cells.length=s)(hl:es.length=m)(hc:cs.take (m*s)=(qK es).map .d) :
  xI st ⟨(t,.d (.sl T s es))::st.sl,(k,none)::st.bs⟩:=λC a w ⟨D,β,h⟩=>by
 have hfl:=vQ hes
 have hbs:∀ {j:Nat} {c:List SV},kC ((k,none)::st.bs) j=some c->j≠k/\kC st.bs j=some c:=fun {j c} hj=>by
  rw[jI] at hj
  split at hj
  ·cases hj
  ·rename_i e;exact ⟨λe'=>e e'.symm,hj⟩
 have ht:=h.slots t
 rw[hs] at ht
 rcases ht with ⟨h1,h2,h3⟩ | ⟨b,cap,vs,h1,h2,h3,h4,h5,h6⟩
 ·subst h2
  have hn:es=[]:=eq_nil_of_length_eq_zero hl
  subst hn
  refine ⟨D,β,h.base,⟨λj c hj=>h.mem.ok j c (hbs hj).2,λj1 j2 c1 c2 q1 q2=>h.mem.inj j1 j2 c1 c2 (hbs q1).2 (hbs q2).2⟩,λj c hj=>h.high j c (hbs hj).2,λu=>?_⟩
  show kZ w D β _ (kD ((t,_)::st.sl) u)
  rw[qQ]
  split
  ·rename_i e;subst e;rw[h3];exact bB w D T s
  ·exact h.slots u
 ·have hlt:=qW h3
  rcases h.mem.ok k cs hb with g1 | ⟨b',vs',T',g1,g2,g3,g4,g5⟩
  ·exact (g1.at_cells h1 h3).elim
  ·obtain rfl:b=b':=by rw[h1] at g1;injection g1
   rw[h3] at g2
   injection g2 with g2
   injection g2 with g2 gT
   subst g2;subst gT
   have hmono:∀ t' g o,D t' g o->(D t' g o\/(t'=T/\g=b/\o<m*s))/\w.cell? ⟨g,o,none⟩=w.cell? ⟨g,o,none⟩:=λt' g o hd=>⟨.inl hd,rfl⟩
   have hS:∀ {v x},kZ w D β v x->kZ w (λt' g o=>D t' g o\/(t'=T/\g=b/\o<m*s)) β v x:=fun {v x} hr=>by
    cases x with
    |d x=>exact uS.mono hmono hr
    |ref k o=>exact hr
    |own k t s n=>exact hr
    |clo f ks=>exact hr
    |emp=>exact hr
    |view k o n=>exact hr
    |mp k=>exact hr
    |mo ob=>exact hr
    |pr k t s n x=>obtain ⟨v1,v2,e,h1,h2⟩:=hr;exact ⟨v1,v2,e,h1,uS.mono hmono h2⟩
    |refx k o b=>exact hr
    |mpx k b=>exact hr
    |bnd f k o=>exact hr
    |ownx k t s n u=>exact hr
    |junk=>trivial
   refine ⟨λt' g o=>D t' g o\/(t'=T/\g=b/\o<m*s),β,⟨h.base.defers,h.base.size,h.base.keep,h.base.oth,h.base.pin,h.base.below,λt' g o hd=>.inl (h.base.dmono _ _ _ hd),λt' g o hd=>?_,h.base.dok.more (λ_ _ _ hd=>.inl hd) λt' g o hd=>?_⟩,⟨λj c hj=>?_,λj1 j2 c1 c2 q1 q2=>h.mem.inj j1 j2 c1 c2 (hbs q1).2 (hbs q2).2⟩,λj c hj=>h.high j c (hbs hj).2,λu=>?_⟩
   ·rcases hd with hd | ⟨_,e,_⟩
    ·exact h.base.dnew _ _ _ hd
    ·subst e;exact .inr (h.high k cs hb g h1)
   ·rcases hd with hd | ⟨_,e,_⟩
    ·exact h.base.dok.lt _ _ _ hd
    ·subst e;exact hlt
   ·obtain ⟨hne,hj'⟩:=hbs hj
    rcases h.mem.ok j c hj' with q | ⟨b2,vs2,T2,q1,q2,q3,q4,q5⟩
    ·exact .inl (q.more (g:=b) (λt' g' o hd=>by rcases hd with hd | ⟨_,e,_⟩;exact .inl hd;exact .inr e) (λe=>hne (h.mem.inj j k _ _ hj' hb b e h1)))
    ·refine .inr ⟨b2,vs2,T2,q1,q2,q3,λi x hx=>?_,λt' o hd=>?_⟩
     ·obtain ⟨u,e1,e2,e3⟩:=q4 i x hx
      exact ⟨u,e1,e2,hS e3⟩
     ·rcases hd with hd | ⟨_,e,_⟩
      ·exact q5 _ _ hd
      ·subst e;exact hne (h.mem.inj j k _ _ hj' hb b2 q1 h1)
   ·show kZ w _ β _ (kD ((t,_)::st.sl) u)
    rw[qQ]
    split
    ·rename_i e;subst e
     rw[h2]
     have key:∀ (i:Nat) d,(qK es)[i]?=some d->∃ u,vs[i]?=some u/\u.oneCell'=true/\uS w D u d:=λi d hd=>by
      have hi:i<m*s:=by
       have:=(List.getElem?_eq_some_iff.1 hd).1
       rw[hfl,hl] at this;exact this
      have e1:cs[i]?=some (.d d):=by
       have:(cs.take (m*s))[i]?=some (.d d):=by rw[hc];simp [hd]
       rwa [getElem?_take_of_lt hi] at this
      exact g4 i _ e1
     have hcell:∀ i,w.cell? ⟨b,i,none⟩=vs[i]?:=λi=>cell_of_row w b i vs T (0,0) h3
     refine uS.sl b 0 (λi=>vs.getD i undef) hl.symm h5 h6 hes (λ_=>rfl) (λi hi=>.inr ⟨rfl,rfl,by rw[Nat.zero_add,<- hl,<- hfl];exact hi⟩) (λi hi=>?_) (λi hi=>?_) (λi d hd=>?_)
     ·obtain ⟨x,q1,q2,q3⟩:=key i _ (getElem?_eq_getElem hi)
      rw[Nat.zero_add,hcell,Array.getD_eq_getD_getElem?,q1];rfl
     ·obtain ⟨x,q1,q2,q3⟩:=key i _ (getElem?_eq_getElem hi)
      rw[Array.getD_eq_getD_getElem?,q1];exact q2
     ·obtain ⟨x,q1,q2,q3⟩:=key i d hd
      rw[Array.getD_eq_getD_getElem?,q1]
      exact uS.mono hmono q3
    ·exact hS (h.slots u)
end
inductive dN (P:Program) (st:PS):List ResultVar->List jY->Prop
 |nil:dN P st [] []
 |tmp {t:Tmp} {d:jY} {rs:List ResultVar} {ds:List jY} (h:kD st.sl t=.d d) (hr:dN P st rs ds):dN P st (.tmp t::rs) (d::ds)
 |cell {t:Tmp} {T:TypeId} {k sz:Nat} {agg:Bool} {cs:List SV} {d:jY} {rs:List ResultVar} {ds:List jY} (h:kD st.sl t=.ref k 0) (hb:kC st.bs k=some cs) (hs:qD P T=some (agg,sz)) (h1:agg=false->sz=1) (hl:sz<=cs.length)
   (hg:gF agg (cs.take sz)=.d d) (hr:dN P st rs ds) (h0:0<sz):dN P st (.cell t T::rs) (d::ds)
def retD:List jY->jY
 |[d]=>d
 |ds=>.tup ds
def RetQ(P:Program)(rs:List ResultVar)(r:jY):Exit->PS->Prop
 |.ret,st=>∃ ds,dN P st rs ds/\retD ds=r
 |.normal,st=>∃ ds,dN P st rs ds/\retD ds=r
 |_,_=>False
def fX:List jY->Nat->SL
 |[],_=>[]
 |d::r,i=>(i,.d d)::fX r (i+1)
theorem sget_init:∀ (ds:List jY) (i t:Nat),kD (fX ds i) t=if i<=t then (match ds[t-i]? with | some d=>.d d | none=>.junk) else .junk
 |[],i,t=>by simp [fX,kD]
 |d::r,i,t=>by
  simp only[fX,qQ]
  by_cases h:i=t
  ·subst h;simp
  ·rw[if_neg h,sget_init r (i+1) t]
   by_cases h2:i+1<=t
   ·rw[if_pos h2,if_pos (by omega)]
    obtain ⟨q,hq⟩:∃ q,t-i=q+1:=⟨t-i-1,by omega⟩
    have:t-(i+1)=q:=by omega
    rw[this,hq,getElem?_cons_succ]
   ·rw[if_neg h2,if_neg (by omega)]
section
variable {P:Program}
theorem mapCs_gather{agg:Bool}{cs:List SV}{sz:Nat}{d:jY}(hg:gF agg (cs.take sz)=.d d)(h0:0<sz):yC cs=false:=by
 unfold yC
 split
 ·rename_i ob
  obtain ⟨m,rfl⟩:∃ m,sz=m+1:=⟨sz-1,by omega⟩
  have e:List.take (m+1) [SV.mo ob]=[SV.mo ob]:=by simp
  rw[e] at hg
  cases agg<;>cases hg
 ·rfl
theorem gather_rep{w:World}{D:kV}{β:kX}{T:TypeId}{k sz b:Nat}{agg:Bool}{cs:List SV}(hb:uE w D β k cs)(hk:β k=some b)(hs:qD P T=some (agg,sz))(h1:agg=false->sz=1)(hl:sz<=cs.length)(hm:yC cs=false) :
  ∃ v,(loadVar T ⟨b,0,none⟩).run P w=.ok v w/\kZ w D β v (gF agg (cs.take sz)):=by
 obtain ⟨vs,e1,e2,e3⟩:=blk_cells hb hk hm
 cases agg with
 |true=>
  refine ⟨.agg (vs.take sz).toArray,eW hs w _ (vs.take sz) (by simp;omega) (λj u hu=>?_),repS_agg (by simp;omega) (λv hv=>?_) (λi v y hv hy=>?_)⟩
  ·have hj:j<sz:=by
    have:=(List.getElem?_eq_some_iff.1 hu).1
    simp at this;omega
   rw[getElem?_take_of_lt hj] at hu
   rw[Addr.add_lit,Nat.zero_add]
   exact (e2 _ _ hu).1
  ·obtain ⟨j,hj⟩:=getElem?_of_mem (mem_of_mem_take hv)
   exact (e2 j v hj).2
  ·have hj:i<sz:=by
    have:=(List.getElem?_eq_some_iff.1 hv).1
    simp at this;omega
   rw[getElem?_take_of_lt hj] at hv hy
   exact e3 _ _ _ hv hy
 |false=>
  obtain rfl:=h1 rfl
  have hlt:0<cs.length:=by omega
  have hlt':0<vs.length:=by omega
  refine ⟨vs[0],eX hs w _ (e2 _ _ (getElem?_eq_getElem hlt')).1,?_⟩
  have:cs.take 1=[cs[0]]:=by
   match cs,hlt with
   |x::r,_=>rfl
  rw[this]
  exact e3 _ _ _ (getElem?_eq_getElem hlt') (getElem?_eq_getElem hlt)
def resF(tmps:Array Value):ResultVar->Sem Value
 |.tmp t=>pure (tmps.getD t undef)
 |.cell b t=>do loadVar t (<- asAddr (tmps.getD b undef))
theorem lT(fn:Func)(tmps:Array Value):results fn tmps=(do let vs <- fn.results.mapM (resF tmps);pure (if h:vs.size=1 then vs[0] else .tuple vs)):=by
 unfold results
 congr 1
theorem res_run{a:Act}{w:World}{st:PS}{D:kV}{β:kX}(hsl:∀ t,kZ w D β (a.tmps.getD t undef) (kD st.sl t))(hm:∀ k cs,kC st.bs k=some cs->uE w D β k cs):∀ {rs:List ResultVar} {ds:List jY},dN P st rs ds ->
  ∃ vs:List Value,(rs.mapM (resF a.tmps)).run P w=.ok vs w/\vs.length=ds.length/\∀ (i:Nat) v d,vs[i]?=some v->ds[i]?=some d->uS w D v d:=by
 intro rs ds h
 induction h with
 |nil=>exact ⟨[],by simp,rfl,by simp⟩
 |tmp h hr ih=>
  rename_i t d rs ds
  obtain ⟨vs,e1,e2,e3⟩:=ih
  have hv:=hsl t
  rw[h] at hv
  refine ⟨a.tmps.getD t undef::vs,?_,by simp [e2],λi v d' hv' hd=>?_⟩
  ·simp only[mapM_cons,resF,Sem.run_bind,Sem.run_pure,Result.andThen_ok,e1]
  ·cases i with
   |zero=>simp only[getElem?_cons_zero,Option.some.injEq] at hv' hd;subst hv';subst hd;exact hv
   |succ i=>exact e3 i v d' (by simpa using hv') (by simpa using hd)
 |cell h hb hsh h1 hl hg hr h0 ih=>
  rename_i t T k sz agg cs d rs ds
  obtain ⟨vs,e1,e2,e3⟩:=ih
  have hv:=hsl t
  rw[h] at hv
  obtain ⟨b,hk,hv⟩:=hv
  obtain ⟨v,g1,g2⟩:=gather_rep (hm _ _ hb) hk hsh h1 hl (mapCs_gather hg h0)
  rw[hg] at g2
  refine ⟨v::vs,?_,by simp [e2],λi u d' hv' hd=>?_⟩
  ·have hrun:(resF a.tmps (.cell t T)).run P w=.ok v w:=by
    simp only[resF,Sem.run_bind,hv,asAddr,Sem.run_pure,Result.andThen_ok,g1]
   simp only[mapM_cons,Sem.run_bind,hrun,Sem.run_pure,Result.andThen_ok,e1]
  ·cases i with
   |zero=>simp only[getElem?_cons_zero,Option.some.injEq] at hv' hd;subst hv';subst hd;exact g2
   |succ i=>exact e3 i u d' (by simpa using hv') (by simpa using hd)
theorem rep_ret{w:World}{D:kV}:∀ {vs:List Value} {ds:List jY},vs.length=ds.length->(∀ (i:Nat) v d,vs[i]?=some v->ds[i]?=some d->uS w D v d)->uS w D (if h:vs.toArray.size=1 then vs.toArray[0] else .tuple vs.toArray) (retD ds)
 |[],[],_,_=>uS.tup [] rfl (by simp)
 |[v],[d],_,h=>h 0 v d rfl rfl
 |v1::v2::vs,d1::d2::ds,h1,h2=>by
  rw[dif_neg (by simp)]
  exact uS.tup (v1::v2::vs) h1 h2
theorem ret_run{a:Act}{w:World}{st:PS}{D:kV}{β:kX}(hsl:∀ t,kZ w D β (a.tmps.getD t undef) (kD st.sl t))(hm:∀ k cs,kC st.bs k=some cs->uE w D β k cs){fn:Func}{ds:List jY}(h:dN P st fn.results.toList ds):∃ v,(results fn a.tmps).run P w=.ok v w/\uS w D v (retD ds):=by
 obtain ⟨vs,e1,e2,e3⟩:=res_run (P:=P) hsl hm h
 have hrun:(results fn a.tmps).run P w=.ok (if h:vs.toArray.size=1 then vs.toArray[0] else .tuple vs.toArray) w:=by
  rw[lT,Array.mapM_eq_mapM_toList,Sem.run_bind,Sem.run_map]
  rw[e1]
  rfl
 exact ⟨_,hrun,rep_ret e2 e3⟩
theorem nN{w:World}{q:Nat}{ob ob':Obj}(h:w.heap[q]?=some ob)(hc:ob.isCells=false)(hc':ob'.isCells=false)(g o:Nat):(w.putObj q ob').cell? ⟨g,o,none⟩=w.cell? ⟨g,o,none⟩:=by
 by_cases hg:g=q
 ·subst hg
  have h2:(w.putObj g ob').heap[g]?=some ob':=World.putObj_heap_same (qW h)
  have none_of:∀ {w:World} {ob:Obj},w.heap[g]?=some ob->ob.isCells=false->w.cell? ⟨g,o,none⟩=none:=fun {w ob} h hc=>by
   cases ob<;>first | (simp [World.cell?,h];done) | simp [Obj.isCells] at hc
  rw[none_of h hc,none_of h2 hc']
 ·exact World.cell?_of_block (World.putObj_heap_other hg)
theorem aF{w:World}{q:Nat}{ob ob':Obj}(h:w.heap[q]?=some ob)(hc:ob.isCells=false)(hc':ob'.isCells=false)(hmp:Obj.isMp ob=false){D:kV}{β:kX}{v:Value}{x:SV}(hx:kZ w D β v x):kZ (w.putObj q ob') D β v x:=by
 cases x with
 |d x=>exact uS.mono (λt g o hd=>⟨hd,nN h hc hc' g o⟩) hx
 |ref k o=>exact hx
 |own k t s n=>
  rcases hx with hx | ⟨b,cap,vs,h1,h2,h3,h4⟩
  ·exact .inl hx
  ·have hne:b≠q:=λe=>by subst e;rw[h] at h3;injection h3 with h3;subst h3;cases hc
   exact .inr ⟨b,cap,vs,h1,h2,(World.putObj_heap_other hne).trans h3,h4⟩
 |clo f ks=>exact hx
 |emp=>exact hx
 |view k o n=>exact hx
 |mp k=>exact hx
 |mo ob=>exact hx
 |pr k t s n x=>
  obtain ⟨v1,v2,e,g1,g2⟩:=hx
  refine ⟨v1,v2,e,?_,uS.mono (λt g o hd=>⟨hd,nN h hc hc' g o⟩) g2⟩
  rcases g1 with hx | ⟨b,cap,vs,h1,h2,h3,h4⟩
  ·exact .inl hx
  ·have hne:b≠q:=λe=>by subst e;rw[h] at h3;injection h3 with h3;subst h3;cases hc
   exact .inr ⟨b,cap,vs,h1,h2,(World.putObj_heap_other hne).trans h3,h4⟩
 |refx k o b=>exact hx
 |mpx k b=>exact hx
 |bnd f k o=>exact hx
 |ownx k t s n u=>
  refine ⟨hx.1,?_⟩
  rcases hx.2 with hx | ⟨b,cap,vs,h1,h2,h3,h4⟩
  ·exact .inl hx
  ·have hne:b≠q:=λe=>by subst e;rw[h] at h3;injection h3 with h3;subst h3;cases hc
   exact .inr ⟨b,cap,vs,h1,h2,(World.putObj_heap_other hne).trans h3,h4⟩
 |junk=>trivial
theorem turned_blk{w:World}{q:Nat}{ob ob':Obj}(h:w.heap[q]?=some ob)(hc:ob.isCells=false)(hc':ob'.isCells=false)(hmp:Obj.isMp ob=false){D:kV}{β:kX}{k:Nat}{cs:List SV}(hx:uE w D β k cs):uE (w.putObj q ob') D β k cs:=by
 rcases hx with hx | ⟨b,vs,T,h1,h2,h3,h4,h5⟩
 ·rcases hx with hx | ⟨b,o2,h1,h2,h3,h4⟩
  ·exact .inl (.inl hx)
  ·have hne:b≠q:=λe=>by subst e;rw[h] at h2;injection h2 with h2;subst h2;rw[hmp] at h3;cases h3
   exact .inl (.inr ⟨b,o2,h1,(World.putObj_heap_other hne).trans h2,h3,h4⟩)
 ·have hne:b≠q:=λe=>by subst e;rw[h] at h2;injection h2 with h2;subst h2;cases hc
  refine .inr ⟨b,vs,T,h1,(World.putObj_heap_other hne).trans h2,h3,λi x hi=>?_,h5⟩
  obtain ⟨u,e1,e2,e3⟩:=h4 i x hi
  exact ⟨u,e1,e2,aF h hc hc' hmp e3⟩
theorem turned_below{w0 w:World}{q:Nat}{ob':Obj}(h:Below w0.heap.size w0 w)(hq:w0.heap.size<=q):Below w0.heap.size w0 (w.putObj q ob') :=
 ⟨h.os,h.tape,h.output,by simpa [World.putObj] using h.size,λk hk=>(World.putObj_heap_other (by omega)).trans (h.block k hk)⟩
theorem turned_belowM{mine:Nat->Prop}{w0 w:World}{q:Nat}{ob':Obj}(h:dV mine w0.heap.size w0 w)(hq:w0.heap.size<=q):dV mine w0.heap.size w0 (w.putObj q ob') :=
 ⟨h.os,h.tape,h.output,by simpa [World.putObj] using h.size,λk hk hm=>(World.putObj_heap_other (by omega)).trans (h.block k hk hm),λk hk vs T f h1=>by
  obtain ⟨us,e1,e2⟩:=h.shape k hk vs T f h1
  exact ⟨us,(World.putObj_heap_other (by omega)).trans e1,e2⟩⟩
theorem leaves_marks{fn:Func}{a:Act}{st:PS}{D D':kV}{β:kX}{r:jY}{w w0:World}{ds:List Deferred}{ds':List jY}(hd:DfOk w0.heap.size w ds)(hsl:∀ t,kZ w D' β (a.tmps.getD t undef) (kD st.sl t))
  (hm:∀ k cs,kC st.bs k=some cs->uE w D' β k cs) (nC:Below w0.heap.size w0 w) (hmono:∀ t g o,D t g o->D' t g o) (hnew:∀ t g o,D' t g o->D t g o\/w0.heap.size<=g) (hdok:iU D' w) (h1:dN P st fn.results.toList ds') (h2:retD ds'=r) :
  LeavesInM Fence.wide 0 P fn a.tmps (FPost w0 D r) ds .returning w:=by
 induction ds generalizing w with
 |nil=>
  obtain ⟨v,g1,g2⟩:=ret_run (P:=P) hsl hm h1
  rw[h2] at g2
  refine ⟨v,g1,v,D',rfl,nC,⟨hmono,λt g o hd=>?_⟩,g2⟩
  rcases hnew t g o hd with h3 | h3
  ·exact .inl h3
  ·exact .inr ⟨h3,hdok.lt _ _ _ hd⟩
 |cons d ds ih=>
  cases hd with
  |cons hqb hqh h3 hr=>
   rename_i q
   refine ⟨by simp,.inl ⟨q,_,rfl,run_takeDeferred hqh,ih (hr.keep λq' hq' ⟨d,hd,e⟩=>?_) (λt=>aF hqh rfl rfl rfl (hsl t)) (λk cs hk=>turned_blk hqh rfl rfl rfl (hm k cs hk)) (turned_below nC hqb) (hdok.kept (by simp [World.putObj]) λt g o _=>nN hqh rfl rfl g o)⟩⟩
   have hne:q'≠q:=λe'=>h3 d hd (e'▸e)
   exact (World.putObj_heap_other hne).trans hq'
theorem fn_intro{f:FuncId}{fn:Func}{c:Code}{ds:List jY}{r:jY}(hf:P.funcs[f]?=some fn)(hb:fn.body=some c)(hc:callB P f=true)(hn:Nat.ble ds.length fn.ntmps=true)
  (h:eM P ⟨0,fn.ntmps,none⟩ c (RetQ P fn.results.toList r) ⟨fX ds 0,[]⟩):jP P f ds r :=
 ⟨hc,λw D vs hD hargs=>by
  refine (callsIn_wide (n:=0)).1 (callsIn_of_wp_marks hf hb trivial ?_)
  have hle:ds.length<=fn.ntmps:=Nat.le_of_ble_eq_true hn
  have hvl:=hargs.1
  have hsim:dQ ⟨w,D,w,#[],⟨0,fn.ntmps,none⟩,λ_=>False⟩ { tmps:=vs.toArray++Array.replicate (fn.ntmps-vs.toArray.size) undef,defers:=[] } w ⟨fX ds 0,[]⟩:=by
   refine ⟨D,λ_=>none,⟨.nil,by simp;omega,λ_ _ _ _=>rfl,λ_ _ h _ _=>h,λt ht=>absurd ht (Nat.not_lt_zero t),.of (Below.refl _ _),λ_ _ _ h=>h,λ_ _ _ h=>.inl h,hD⟩,⟨λk cs hk=>by simp [kC] at hk,λk1 k2 c1 c2 h1=>by simp [kC] at h1⟩,λk c hk=>by simp [kC] at hk,λt=>?_⟩
   show kZ w D _ _ (kD (fX ds 0) t)
   rw[sget_init]
   simp only[Nat.zero_le,if_true,Nat.sub_zero]
   cases hd:ds[t]? with
   |none=>trivial
   |some d=>
    have ht:t<vs.length:=by rw[hvl];exact (List.getElem?_eq_some_iff.1 hd).1
    refine hargs.2 t _ d ?_ hd
    rw[Array.getD_eq_getD_getElem?,Array.getElem?_append_left (by simpa using ht)]
    simp [ht]
  refine wpIn_mono (h _ _ w 0 rfl hsim) λe a w' ⟨st,⟨D',β,hs⟩,hq⟩=>?_
  have fin:(∃ ds,dN P st fn.results.toList ds/\retD ds=r)->LeavesInM Fence.wide 0 P fn a.tmps (FPost w D r) a.defers .returning w':=λ⟨ds',h1,h2⟩=>
   leaves_marks hs.base.defers hs.slots (λk cs hk=>hs.mem.ok k cs hk) hs.base.below.plain hs.base.dmono (λt g o hd=>(hs.base.dnew t g o hd).imp id (λh=>h.elim id False.elim)) hs.base.dok h1 h2
  cases e with
  |normal=>exact fin hq
  |ret=>exact fin hq
  |exit id=>exact hq.elim
  |goto l=>exact hq.elim
  |panic ch=>exact hq.elim
  |outgrown=>exact hq.elim⟩
theorem vD{P:Program}{f:FuncId}{fn:Func}{c:Code}{ds:List jY}{r:jY}(hf:P.funcs[f]?=some fn)(h:eM P ⟨0,fn.ntmps,none⟩ c (RetQ P fn.results.toList r) ⟨fX ds 0,[]⟩)(hb:fn.body=some c:=by exact rfl)(hc:callB P f=true:=by kernel_rfl)(hn:Nat.ble ds.length fn.ntmps=true:=by exact rfl):jP P f ds r:=fn_intro hf hb hc hn h
end
section
variable {P:Program} {n:Fr} {ops:Array Oper} {S S':SL} {B B':BS} {l:List Oper} {o:Oper} {news:List Nat} {acc0:List (List Nat × List Nat)}
end
section
variable {P:Program} {o:Oper} {S:Nat->SV}
theorem e_lda{T:TypeId}{x:Operand}{k off sz:Nat}{cs:List SV}{y:SV}(ho:o.op=.load T x)(hx:ev S x=.ref k off)(hs:qD P T=some (true,sz))(hl:Nat.ble (off+sz) cs.length=true)(hy:gF true ((cs.drop off).take sz)=y)(hm:yC cs=false):uP P o S [(k,cs)] y :=
 hy▸oC ho hx hs (λh=>by cases h) (Nat.le_of_ble_eq_true hl) hm
theorem e_ld1{T:TypeId}{x:Operand}{k off:Nat}{cs:List SV}{y:SV}(ho:o.op=.load T x)(hx:ev S x=.ref k off)(hs:qD P T=some (false,1))(hy:cs[off]?=some y)(hn:y.isMo=false):uP P o S [(k,cs)] y:=by
 have hlt:=(List.getElem?_eq_some_iff.1 hy).1
 have h:=oC (P:=P) (cs:=cs) ho hx hs (λ_=>rfl) (by omega) (mapCs_at hy hn)
 have e:(cs.drop off).take 1=[y]:=by
  rw[drop_eq_getElem_cons hlt]
  have:cs[off]=y:=(List.getElem?_eq_some_iff.1 hy).2
  simp [this]
 rw[e] at h
 exact h
theorem e_lca{T t:TypeId}{x:Operand}{off sz:Nat}{cs:List jY}{y:SV}(ho:o.op=.load T x)(hx:ev S x=.d (.cptr t cs off))(hs:qD P T=some (true,sz))(hl:Nat.ble (off+sz) cs.length=true)(hy:gF true (((cs.drop off).take sz).map .d)=y):uP P o S [] y :=
 hy▸e_load_cptr ho hx hs (λh=>by cases h) (Nat.le_of_ble_eq_true hl)
theorem e_lc1{T t:TypeId}{x:Operand}{off:Nat}{cs:List jY}{y:jY}(ho:o.op=.load T x)(hx:ev S x=.d (.cptr t cs off))(hs:qD P T=some (false,1))(hy:cs[off]?=some y):uP P o S [] (.d y):=by
 have hlt:=(List.getElem?_eq_some_iff.1 hy).1
 have h:=e_load_cptr (P:=P) (cs:=cs) ho hx hs (λ_=>rfl) (by omega)
 have e:((cs.drop off).take 1).map SV.d=[.d y]:=by
  rw[drop_eq_getElem_cons hlt]
  have:cs[off]=y:=(List.getElem?_eq_some_iff.1 hy).2
  simp [this]
 rw[e] at h
 exact h
theorem e_pkt{c x y:Operand}{z:SV}(ho:o.op=.pick c x y)(hc:ev S c=.d (.val (.bool true)))(hx:ev S x=z):uP P o S [] z:=by
 have:=e_pick (P:=P) ho hc
 simpa [hx] using this
theorem e_pkf{c x y:Operand}{z:SV}(ho:o.op=.pick c x y)(hc:ev S c=.d (.val (.bool false)))(hy:ev S y=z):uP P o S [] z:=by
 have:=e_pick (P:=P) ho hc
 simpa [hy] using this
theorem e_ixs{T E t:TypeId}{x ix:Operand}{s:Nat}{es:List jY}{k:IntKind}{i:Int}{j:Nat}{cs:List jY}(ho:o.op=.indexAddr T x ix)(hT:uU P T=some (E,s))(hx:ev S x=.d (.sl t s es))(hi:ev S ix=.d (.val (.int k i)))
  (hj:i=(j:Int)) (he:es[j]?.map jY.cells=some cs):uP P o S [] (.d (.cptr t cs 0)):=by
 subst hj
 rw[Option.map_eq_some_iff] at he
 obtain ⟨e,h1,rfl⟩:=he
 exact e_index_sl ho hT hx hi (by omega) (by simpa using h1)
theorem e_ixo{T E t:TypeId}{x ix:Operand}{s b n q:Nat}{k:IntKind}{i:Int}{j:Nat}(ho:o.op=.indexAddr T x ix)(hT:uU P T=some (E,s))(hx:ev S x=.own b t s n)(hi:ev S ix=.d (.val (.int k i)))
  (hj:i=(j:Int)) (h1:j<n) (hq:j*s=q):uP P o S [] (.ref b q):=by
 subst hj;subst hq
 have h:=e_index_own (P:=P) ho hT hx hi (by omega) (by omega)
 simpa using h
theorem e_ixar{T E:TypeId}{x ix:Operand}{s b n p q:Nat}{k:IntKind}{i:Int}{j:Nat}(ho:o.op=.indexAddr T x ix)(hT:arrB P T=some (n,E,s))(hx:ev S x=.ref b p)(hi:ev S ix=.d (.val (.int k i)))
  (hj:i=(j:Int)) (h1:j<n) (hq:p+j*s=q):uP P o S [] (.ref b q):=by
 subst hj;subst hq
 have h:=e_index_aref (P:=P) ho hT hx hi (by omega) (by omega)
 simpa using h
theorem e_exD{x:Operand}{i:Nat}{ds:List jY}{d:jY}(ho:o.op=.extract x i)(hx:ev S x=.d (.tup ds))(hd:ds[i]?=some d):uP P o S [] (.d d):=e_extract ho hx hd
theorem e_fldv{T t:TypeId}{x:Operand}{f off sz:Nat}{cs:List jY}{y:SV}(ho:o.op=.field T x f)(hx:ev S x=.d (.agg cs))(hf:lM P T f=some (off,t))(hs:qD P t=some (true,sz))(hle:Nat.ble (off+sz) cs.length=true)(hy:gF true (((cs.drop off).take sz).map .d)=y):uP P o S [] y :=
 hy▸e_field ho hx hf hs (λh=>by cases h) (Nat.le_of_ble_eq_true hle)
theorem e_fld1{T t:TypeId}{x:Operand}{f off:Nat}{cs:List jY}{y:SV}(ho:o.op=.field T x f)(hx:ev S x=.d (.agg cs))(hf:lM P T f=some (off,t))(hs:qD P t=some (false,1))(hle:Nat.ble (off+1) cs.length=true)(hy:gF false (((cs.drop off).take 1).map .d)=y):uP P o S [] y :=
 hy▸e_field ho hx hf hs (λ_=>rfl) (Nat.le_of_ble_eq_true hle)
theorem t_std{T:TypeId}{x y:Operand}{k off sz:Nat}{agg:Bool}{old cs:List SV}{d:jY}(ho:o.op=.store T x y)(hx:ev S x=.ref k off)(hy:ev S y=.d d)(hs:qD P T=some (agg,sz))(h1:d.ok1=true)(qM:d.cells.length=sz)(hle:Nat.ble (off+sz) old.length=true)
  (hc:patch old off (d.cells.map .d)=cs) (hm:yC old=false):TOk P o S k old cs:=hc▸t_store ho hx hy hs (.inl ⟨d,rfl,h1,rfl⟩) (by simpa using qM) (Nat.le_of_ble_eq_true hle) hm
theorem t_st1{T:TypeId}{x y:Operand}{k off:Nat}{old cs:List SV}{d:jY}(ho:o.op=.store T x y)(hx:ev S x=.ref k off)(hy:ev S y=.d d)(hs:qD P T=some (false,1))(h1:d.ok1=true)(hcl:d.cells=[d])(hle:off<old.length)(hc:old.set off (.d d)=cs)(hm:yC old=false):TOk P o S k old cs:=by
 have h:=t_store (P:=P) (old:=old) ho hx hy hs (.inl ⟨d,rfl,h1,rfl⟩) (by simp [hcl]) (by omega) hm
 have e:patch old off (d.cells.map .d)=old.set off (.d d):=by
  rw[hcl]
  apply ext_getElem?
  intro i
  rw[mB (by simp;omega),getElem?_set]
  simp only[map_cons,map_nil,length_cons,length_nil,Nat.zero_add]
  by_cases c1:i<off
  ·rw[if_pos c1,if_neg (by omega)]
  ·rw[if_neg c1]
   by_cases c2:off=i
   ·subst c2;simp [hle]
   ·rw[if_neg (by omega),if_neg c2]
 rw[e,hc] at h
 exact h
theorem e_cl{y:Operand}{xs:List Operand}{ats:Array TypeId}{f:FuncId}{ds:List jY}{r:jY}(hf:jP P f ds r)(ho:o.op=.call { callee:=.value y,args:=xs.toArray,argTypes:=ats })(hy:ev S y=.d (.val (.func (.func f) #[] #[])))(hx:xs.map (ev S)=ds.map .d):uP P o S [] (.d r):=e_call ho hy hx hf
end
theorem wi64{m r:Int}(h:m=r)(h1:-9223372036854775808<=r)(h2:r<=9223372036854775807):IntKind.i64.wrap m=r:=by
 subst h
 rw[IntKind.wrap_i64];omega
theorem wu64{m r:Int}(h:m=r)(h1:0<=r)(h2:r<=18446744073709551615):IntKind.u64.wrap m=r:=by
 subst h
 have:IntKind.u64.wrap m=m % 18446744073709551616:=by
  simp [IntKind.wrap,IntKind.bits,IntKind.signed]
 rw[this];omega
theorem wu32{m r:Int}(h:m=r)(h1:0<=r)(h2:r<=4294967295):IntKind.u32.wrap m=r:=by
 subst h
 have:IntKind.u32.wrap m=m % 4294967296:=by
  simp [IntKind.wrap,IntKind.bits,IntKind.signed]
 rw[this];omega
theorem wu8{m r:Int}(h:m=r)(h1:0<=r)(h2:r<=255):IntKind.u8.wrap m=r:=by
 subst h
 have:IntKind.u8.wrap m=m % 256:=by
  simp [IntKind.wrap,IntKind.bits,IntKind.signed]
 rw[this];omega
def bx(d:jY):List SV:=d.cells.map .d
def jC(g:Nat):jY:=.val (.int .u32 (g:Int))
def jL(g:Int):jY:=.val (.int .i64 g)
def aH(g:Bool):jY:=.val (.bool g)
section
variable {α:Type}
theorem own_get(F:α->jY)(L:List α)(j:Nat)(d:α)(h:j<L.length):(L.map (λg=>SV.d (F g)))[j]?=some (.d (F (L.getD j d))):=by
 simp [List.getD,getElem?_eq_getElem h]
theorem ixm(F:α->jY)(L:List α)(j:Nat)(d:α)(h:j<L.length):((L.map F)[j]?).map jY.cells=some ((F (L.getD j d)).cells):=by
 simp [List.getD,getElem?_eq_getElem h]
theorem mapCs_own(F:α->jY)(L:List α):yC (L.map (λg=>SV.d (F g)))=false:=by
 rcases L with _ | ⟨a,_ | ⟨b,l⟩⟩<;>rfl
theorem own_len(F:α->jY)(L:List α)(j:Nat)(h:j<L.length):j<(L.map (λg=>SV.d (F g))).length:=by simpa using h
theorem own_set(F:α->jY)(L:List α)(j:Nat)(v:α):(L.map (λg=>SV.d (F g))).set j (.d (F v))=(L.set j v).map (λg=>SV.d (F g)):=by
 rw[map_set]
theorem own_zero(F:α->jY)(m:Nat)(z:α):((replicate m [F z]).flatten.map SV.d)=(replicate m z).map (λg=>SV.d (F g)):=by
 induction m with
 |zero=>rfl
 |succ m ih=>
  rw[replicate_succ,replicate_succ,flatten_cons,map_append,ih]
  rfl
theorem flat_one(F:α->jY)(hF:∀ g,(F g).cells=[F g])(L:List α):qK (L.map F)=L.map F:=by
 induction L with
 |nil=>rfl
 |cons x l ih=>rw[map_cons,mO,ih,hF];rfl
theorem vX(F:α->jY)(L:List α)(hF:∀ g,(F g).cells=[F g]):∀ e∈L.map F,e.cells.length=1:=by
 intro e he
 obtain ⟨g,_,rfl⟩:=mem_map.1 he
 rw[hF];rfl
theorem xV(F:α->jY)(L:List α)(hF:∀ g,(F g).cells=[F g]){m:Nat}(h:L.length=m):(L.map (λg=>SV.d (F g))).take (m*1)=(qK (L.map F)).map .d:=by
 rw[flat_one F hF,map_map,Nat.mul_one,<- h]
 rw[take_of_length_le (by simp)]
 rfl
theorem vK(F:α->jY)(L:List α){m:Nat}(h:L.length=m):(L.map F).length=m:=by simpa using h
end
section
variable {P:Program} {o:Oper} {S:Nat->SV}
theorem e_ln{T E t:TypeId}{x:Operand}{s:Nat}{es:List jY}{r:Int}(ho:o.op=.call { callee:=.builtin .len,args:=#[x],argTypes:=#[T] })(hT:uU P T=some (E,s))(hx:ev S x=.d (.sl t s es))(hr:(es.length:Int)=r):uP P o S [] (.d (.val (.int .i64 r))):=hr▸e_len_sl ho hT hx
theorem e_slc{T E t:TypeId}{x:Operand}{lo hi:Option Operand}{s l h:Nat}{kl kh:IntKind}{es es':List jY}(ho:o.op=.slice T x lo hi none)(hT:uU P T=some (E,s))(hx:ev S x=.d (.sl t s es))(hlo:optInt S lo kl 0 l)(hhi:optInt S hi kh es.length h)
  (h1:l<=h) (h2:h<=es.length) (he:(es.take h).drop l=es'):uP P o S [] (.d (.sl t s es')):=he▸e_slice ho hT hx hlo hhi h1 h2
theorem n_mks{T E:TypeId}{l c:Operand}{s n m bytes:Nat}{kl kc:IntKind}{zv:List Value}{zd:List jY}{cs:List SV}(k:Nat)(ho:o.op=.makeSlice T l c)(hT:uU P T=some (E,s))(hz:xH P E=some zv)(hzd:eO zv zd)(hzl:zd.length=s)(hby:zJ P E=some bytes)
  (hl:ev S l=.d (.val (.int kl (n:Int)))) (hc:ev S c=.d (.val (.int kc (m:Int)))) (hnm:n<=m) (hb:bytes*m<=281474976710656) (hm:m<=maxLen) (hcs:(replicate m zd).flatten.map .d=cs):NOk P o S k cs (.own k E s n):=hcs▸n_makeSlice k ho hT hz hzd hzl hby hl hc hnm hb hm
theorem e_maxn{T T':TypeId}{x y:Operand}{k:IntKind}{m n r:Int}(ho:o.op=.call { callee:=.builtin .max,args:=#[x,y],argTypes:=#[T,T'] })(hx:ev S x=.d (.val (.int k m)))(hy:ev S y=.d (.val (.int k n)))(hr:(if m<n then n else m)=r):uP P o S [] (.d (.val (.int k r))):=hr▸e_max ho hx hy
theorem e_minn{T T':TypeId}{x y:Operand}{k:IntKind}{m n r:Int}(ho:o.op=.call { callee:=.builtin .min,args:=#[x,y],argTypes:=#[T,T'] })(hx:ev S x=.d (.val (.int k m)))(hy:ev S y=.d (.val (.int k n)))(hr:(if n<m then n else m)=r):uP P o S [] (.d (.val (.int k r))):=hr▸e_min ho hx hy
theorem kM{st:PS}{t:Tmp}{T:TypeId}{k sz:Nat}{cs:List SV}{d:jY}{rs:List ResultVar}{ds:List jY}(h:kD st.sl t=.ref k 0)(hb:kC st.bs k=some cs)(hs:qD P T=some (true,sz))(hl:Nat.ble sz cs.length=true)(hg:gF true (cs.take sz)=.d d)(hr:dN P st rs ds)(h0:Nat.ble 1 sz=true:=by kernel_rfl):dN P st (.cell t T::rs) (d::ds) :=
 .cell h hb hs (λh=>by cases h) (Nat.le_of_ble_eq_true hl) hg hr (Nat.le_of_ble_eq_true h0)
theorem res_1{st:PS}{t:Tmp}{T:TypeId}{k:Nat}{cs:List SV}{d:jY}{rs:List ResultVar}{ds:List jY}(h:kD st.sl t=.ref k 0)(hb:kC st.bs k=some cs)(hs:qD P T=some (false,1))(hl:Nat.ble 1 cs.length=true)(hg:gF false (cs.take 1)=.d d)(hr:dN P st rs ds):dN P st (.cell t T::rs) (d::ds) :=
 .cell h hb hs (λ_=>rfl) (Nat.le_of_ble_eq_true hl) hg hr Nat.one_pos
end
theorem tmod_nat(a b:Nat):Int.tmod (a:Int) (b:Int)=((a % b:Nat):Int):=rfl
theorem quo_le{a b m:Nat}(h:a<=m):((a / b:Nat):Int)<=(m:Int):=Int.ofNat_le.2 (Nat.le_trans (Nat.div_le_self a b) h)
theorem quo_u64(a b:Nat)(h:a<=18446744073709551615:=by decide):IntKind.u64.wrap (Int.tdiv (a:Int) (b:Int))=((a / b:Nat):Int) :=
 wu64 rfl (Int.natCast_nonneg _) (quo_le h)
def nR(k:Nat):SL->SL
 |[]=>[]
 |(t,x)::r=>(t,bif x.names k then .junk else x)::nR k r
theorem aU(k:Nat):∀ (l:SL) (t:Nat),kD (nR k l) t=bif (kD l t).names k then .junk else kD l t
 |[],t=>rfl
 |(j,x)::r,t=>by
  simp only[nR,qQ]
  split
  ·rfl
  ·exact aU k r t
theorem forget_slot{w:World}{D:kV}{β:kX}{v:Value}{k:Nat}{x:SV}(h:x.names k=false->kZ w D β v x):kZ w D β v (bif x.names k then .junk else x):=by
 cases hx:x.names k with
 |true=>trivial
 |false=>exact h hx
theorem Mem.mask{w:World}{D:kV}{β:kX}{bs:BS}(h:Mem w D β bs)(k:Nat):Mem w D β ((k,none)::bs) :=
 ⟨λj c hj=>by
  rw[jI] at hj
  split at hj
  ·cases hj
  ·exact h.ok j c hj,λj1 j2 c1 c2 h1 h2=>by
  rw[jI] at h1 h2
  split at h1
  ·cases h1
  ·split at h2
   ·cases h2
   ·exact h.inj j1 j2 c1 c2 h1 h2⟩
theorem Mem.unmask{w:World}{D:kV}{β:kX}{bs:BS}{k:Nat}{cs:List SV}(h:Mem w D β ((k,some cs)::(k,none)::bs)):Mem w D β ((k,some cs)::bs):=by
 have e:∀ j,kC ((k,some cs)::bs) j=kC ((k,some cs)::(k,none)::bs) j:=λj=>by
  simp only[jI]
  split<;>rfl
 exact ⟨λj c hj=>h.ok j c (e j▸hj),λj1 j2 c1 c2 h1 h2=>h.inj j1 j2 c1 c2 (e j1▸h1) (e j2▸h2)⟩
section
variable {P:Program} {n:Fr} {C:Ctx} {a:Act} {w:World} {st:PS} {D:kV} {β:kX} {dst:Option Tmp} {k:Nat} {cs:List SV} {x:SV}
theorem grew_new(hs:iJ C a w st D β){w':World}{b:Nat}{v:Value}(hb:Below w.heap.size w w')(hge:w.heap.size<=b)(hd:nE C.n dst=true)(hB:∀ j c,j≠k->kC st.bs j=some c->qI k c=false)
  (hk:uE w' D (β.set k b) k cs) (hx:kZ w' D (β.set k b) v x):dQ C (a.put dst v) w' ⟨bD dst x (nR k st.sl),(k,some cs)::st.bs⟩:=by
 have hβ:∀ j,j≠k->(β.set k b) j=β j:=λj hj=>by simp [kX.set,hj]
 have hu:aJ D D w w':=aJ.of_same D
 refine ⟨D,β.set k b,(hs.base.up hb hu).put hd _,((hs.mem.mask k).new hb hu hs.base.dok hge (λj c hj=>?_) hk).unmask,λj c hj b' hb'=>?_,λt=>?_⟩
 ·rw[jI] at hj
  split at hj
  ·cases hj
  ·rename_i hne;exact ⟨λe=>hne e.symm,hB j c (λe=>hne e.symm) hj⟩
 ·rw[jI] at hj
  split at hj
  ·rename_i e;subst e
   simp [kX.set] at hb'
   subst hb'
   exact hs.base.fresh (by omega)
  ·rename_i hne
   rw[hβ j (λe=>hne e.symm)] at hb'
   exact hs.high j c hj b' hb'
 ·rw[vO hs.base.size hd,vC]
  split
  ·exact hx
  ·rw[aU]
   exact forget_slot λhn=>((hs.slots t).up hb hu hs.base.dok).frame hβ hn
theorem grew_room(hs:iJ C a w st D β){w':World}{b:Nat}{v:Value}{old:List SV}(hw:Wrote b w w')(hkb:β k=some b)(hp:∀ t o,¬ D t b o)(oE:kC st.bs k=some old)(hd:nE C.n dst=true)
  (hk:uE w' D β k cs) (hx:kZ w' D β v x):dQ C (a.put dst v) w' ⟨bD dst x (nR k st.sl),(k,some cs)::st.bs⟩:=by
 refine ⟨D,β,(hs.base.wrote hw (hs.high k _ oE b hkb) (blk_heap (hs.mem.ok k _ oE) hkb) hp).put hd _,hs.mem.write hw hp hkb oE hk,λj c hj b' hb'=>?_,λt=>?_⟩
 ·rw[jI] at hj
  split at hj
  ·rename_i e;subst e;exact hs.high k _ oE b' hb'
  ·exact hs.high j c hj b' hb'
 ·rw[vO hs.base.size hd,vC]
  split
  ·exact hx
  ·rw[aU]
   exact forget_slot λ_=>hw.repS hp (hs.slots t)
theorem grew_same(hs:iJ C a w st D β){v:Value}(hd:nE C.n dst=true)(hk:uE w D β k cs)(oE:∃ old,kC st.bs k=some old)(hx:kZ w D β v x):dQ C (a.put dst v) w ⟨bD dst x (nR k st.sl),(k,some cs)::st.bs⟩:=by
 obtain ⟨old,oE⟩:=oE
 refine ⟨D,β,hs.base.put hd _,⟨λj c hj=>?_,λj1 j2 c1 c2 h1 h2=>?_⟩,λj c hj b' hb'=>?_,λt=>?_⟩
 ·rw[jI] at hj
  split at hj
  ·rename_i e;subst e;injection hj with hj;subst hj;exact hk
  ·exact hs.mem.ok j c hj
 ·have g:∀ j c,kC ((k,some cs)::st.bs) j=some c->∃ c',kC st.bs j=some c':=λj c hj=>by
   rw[jI] at hj
   split at hj
   ·rename_i e;subst e;exact ⟨_,oE⟩
   ·exact ⟨_,hj⟩
  obtain ⟨d1,g1⟩:=g j1 c1 h1
  obtain ⟨d2,g2⟩:=g j2 c2 h2
  exact hs.mem.inj j1 j2 d1 d2 g1 g2
 ·rw[jI] at hj
  split at hj
  ·rename_i e;subst e;exact hs.high k _ oE b' hb'
  ·exact hs.high j c hj b' hb'
 ·rw[vO hs.base.size hd,vC]
  split
  ·exact hx
  ·rw[aU]
   exact forget_slot λ_=>hs.slots t
end
theorem lB{w:World}{D:kV}{t:TypeId}{s:Nat}{es:List jY}{v:Value}(h:uS w D v (.sl t s es)) :
  ∃ (ao:Option Addr) (c:Nat) (us:List Value),v=.slice ao es.length c/\es.length<=c/\us.length=es.length*s/\(qK es).length=es.length*s/\(∀ u∈us,u.oneCell'=true)/\(∀ (i:Nat) u d,us[i]?=some u->(qK es)[i]?=some d->uS w D u d) /\
   (0<es.length->∃ ad:Addr,ao=some ad/\∀ (j:Nat) u,us[j]?=some u->w.cell? (ad.add j)=some u):=by
 cases h with
 |sl g off u hn hc hm hs ha hD hu h1 hr=>
  rename_i a nn cap
  have hfl:=vQ hs
  refine ⟨a,cap,(range (qK es).length).map u,by rw[hn],by omega,by simp [hfl],hfl,?_,?_,?_⟩
  ·intro x hx
   obtain ⟨i,hi,rfl⟩:=mem_map.1 hx
   exact h1 i (mem_range.1 hi)
  ·intro i x d hx hd
   rw[getElem?_map,Option.map_eq_some_iff] at hx
   obtain ⟨j,hj,rfl⟩:=hx
   have hji:j=i:=by
    rw[getElem?_range (heapless hd)] at hj
    injection hj with hj
    exact hj.symm
   subst hji
   exact hr j d hd
  ·intro h0
   refine ⟨⟨g,off,none⟩,ha (by omega),λj x hx=>?_⟩
   rw[getElem?_map,Option.map_eq_some_iff] at hx
   obtain ⟨i,hi,rfl⟩:=hx
   have hlt:i<(qK es).length:=by
    have:=mem_of_getElem? hi
    exact mem_range.1 this
   have hij:i=j:=by
    have hj:j<(qK es).length:=by
     have:=(List.getElem?_eq_some_iff.1 hi).1
     simpa using this
    rw[getElem?_range hj] at hi
    injection hi with hi
    exact hi.symm
   subst hij
   rw[Addr.add_lit]
   exact hu i hlt
where
 heapless {es:List jY} {i:Nat} {d:jY} (h:(qK es)[i]?=some d):i<(qK es).length:=(List.getElem?_eq_some_iff.1 h).1
theorem app_blk{w:World}{D:kV}{β:kX}{b:Nat}{arr:List Value}{E:TypeId}{k:Nat}{es:List jY}(hkb:β k=some b)(dR:w.heap[b]?=some (.cells arr.toArray E (0,0)))(qM:(qK es).length<=arr.length)
  (h:∀ (i:Nat) d,(qK es)[i]?=some d->∃ u,arr[i]?=some u/\u.oneCell'=true/\uS w D u d) (hp:∀ t o,¬ D t b o):uE w D β k ((qK es).map .d):=by
 refine .inr ⟨b,arr.toArray,E,hkb,dR,by simpa using qM,λi x hx=>?_,hp⟩
 rw[getElem?_map,Option.map_eq_some_iff] at hx
 obtain ⟨d,hd,rfl⟩:=hx
 obtain ⟨u,e1,e2,e3⟩:=h i d hd
 exact ⟨u,by simpa using e1,e2,e3⟩
section
variable {P:Program} {o:Oper} {st:PS}
theorem app_sound{T E t':TypeId}{x y:Operand}{k s m bytes:Nat}{zv:List Value}{es es':List jY}{cs:List SV}{N:Fr}(ho:o.op=.call { callee:=.builtin .append,args:=#[x,y],argTypes:=#[T,T] })
  (hd:nE N o.dst=true) (hT:uU P T=some (E,s)) (hz:xH P E=some zv) (hzl:zv.length=s) (hby:zJ P E=some bytes) (hx:ev (kD st.sl) x=.own k E s m) (hb:kC st.bs k=some cs) (hcs:cs=(qK es).map .d)
  (hes:(qK es).length=m*s) (hy:ev (kD st.sl) y=.d (.sl t' s es')) (hbig:m+es'.length<=maxLen) (hbig':(m+es'.length)*bytes<=140737488355328) (hB:∀ j c,j≠k->kC st.bs j=some c->qI k c=false)
  (C:Ctx) (a:Act) (w:World) (Q:Exit->Act->World->Prop) (hn:C.n=N) (hs:dQ C a w st) :
  o.wp P a w (λa' w'=>dQ C a' w' ⟨bD o.dst (.own k E s (m+es'.length)) (nR k st.sl),(k,some ((qK (es++es')).map .d))::st.bs⟩) Q:=by
 obtain ⟨D,β,hs⟩:=hs
 subst hn
 subst hcs
 have hev:∀ q:Operand,kZ w D β (a.eval q) (ev (kD st.sl) q):=λq=>by
  cases q with
  |tmp t=>exact hs.slots t
  |const v=>exact uS.val v
  |func f=>exact uS.val _
  |global g=>trivial
 have h1:=hev x
 have h2:=hev y
 rw[hx] at h1
 rw[hy] at h2
 obtain ⟨ao,c,us,hyv,hcc,hul,hfl',eD,hrep,had⟩:=lB h2
 obtain ⟨i,z,z1,z2,z3⟩:=fG hz
 obtain ⟨j,f1,f2,f3⟩:=cL hT
 have hij:i=j:=by rw[z1] at f2;injection f2
 subst hij
 have hbi:i.bytes=bytes:=by
  unfold zJ at hby
  rw[z1] at hby
  simpa using hby
 subst hbi
 have hzs:z.cells.size=s:=by rw[z3];simpa using hzl
 have hml:(maxLen:Int)<=9223372036854775807:=by decide
 have hblk:=hs.mem.ok k _ hb
 have hflat:qK (es++es')=qK es++qK es':=bA es es'
 have hfll:(qK (es++es')).length=(m+es'.length)*s:=by rw[hflat,length_append,hes,hfl',Nat.add_mul]
 by_cases hm0:es'.length=0
 ·have hnil:es'=[]:=eq_nil_of_length_eq_zero hm0
  subst hnil
  have hrun:(Builtin.append_ #[T,T] o.type #[a.eval x,a.eval y]).run P w=.ok (a.eval x) w:=by
   rw[hyv]
   have e0:([]:List jY).length=0:=rfl
   have hu0:us=[]:=eq_nil_of_length_eq_zero (by simpa using hul)
   rcases h1 with ⟨_,_,hv⟩ | ⟨b,cap,vs,_,hv,dR,_,hmc,_⟩
   ·rw[hv,e0]
    cases ao with
    |none=>simp [Builtin.append_,run_underlying f1,sizeOf,typeInfo,z1,Builtin.lenOf,Builtin.firstCells]
    |some ad=>simp [Builtin.append_,run_underlying f1,sizeOf,typeInfo,z1,Builtin.lenOf,Builtin.firstCells,loadCells,loadCellsFrom]
   ·rw[hv,e0]
    cases ao with
    |none=>simp [Builtin.append_,run_underlying f1,sizeOf,typeInfo,z1,Builtin.lenOf,Builtin.firstCells,hmc,storeCells]
    |some ad=>simp [Builtin.append_,run_underlying f1,sizeOf,typeInfo,z1,Builtin.lenOf,Builtin.firstCells,hmc,storeCells,loadCells,loadCellsFrom]
  have hx':kZ w D β (a.eval x) (.own k E s (m+([]:List jY).length)):=h1
  have:=grew_same (dst:=o.dst) (cs:=(qK (es++[])).map .d) (k:=k) hs hd (by simpa using hblk) ⟨_,hb⟩ hx'
  unfold Oper.wp execOp
  simp only[ho,resolve,invoke,builtin,Sem.run_bind,Sem.run_pure,Result.andThen_ok,map_toArray,map_cons,map_nil,hrun]
  exact this
 ·obtain ⟨ad,rfl,hcell⟩:=had (by omega)
  rcases h1 with ⟨hk0,hm,hv⟩ | ⟨b,cap,vs,hkb,hv,dR,hvs,hmc,hcap⟩
  ·subst hm
   have hbytes:es'.length*i.bytes<=281474976710656:=by rw[Nat.zero_add] at hbig';omega
   have hr:=run_append_nil (P:=P) w T o.type E i z f1 z1 z2 ad es'.length c us (by rw[hul,f3]) hcell (by omega) (by omega) hbytes
   have hes0:qK es=[]:=eq_nil_of_length_eq_zero (by simpa using hes)
   have hge:=grownCap_ge w es'.length 0 E
   have hcm:=grownCap_le_maxLen w es'.length 0 E (by omega)
   generalize grownCap w es'.length 0 E=G at hr hge hcm
   have nC:Below w.heap.size w (w.drew.alloc (.cells (us.toArray++Builtin.zeroCells z.cells (G-es'.length)) E)):=⟨rfl,rfl,rfl,by simp,λq hq=>heap_alloc_old w.drew _ hq⟩
   have hblk':uE (w.drew.alloc (.cells (us.toArray++Builtin.zeroCells z.cells (G-es'.length)) E)) D (β.set k w.heap.size) k ((qK (es++es')).map .d):=by
    have earr:us.toArray++Builtin.zeroCells z.cells (G-es'.length)=(us++(Builtin.zeroCells z.cells (G-es'.length)).toList).toArray:=by apply Array.ext';simp
    refine app_blk (b:=w.heap.size) (E:=E) (arr:=us++(Builtin.zeroCells z.cells (G-es'.length)).toList) (by simp [kX.set]) (by rw[<- earr];exact heap_alloc_new w.drew _) (by rw[hfll,Nat.zero_add,length_append];omega) ?_ (λt q hq=>Nat.lt_irrefl _ (hs.base.dok.lt t _ q hq))
    intro q d hq
    rw[hflat,hes0,nil_append] at hq
    have hlt:q<us.length:=by
     have:=(List.getElem?_eq_some_iff.1 hq).1
     omega
    exact ⟨us[q],by rw[getElem?_append_left hlt];simp [hlt],eD _ (by simp),(hrep q us[q] d (by simp [hlt]) hq).up nC (aJ.of_same D) hs.base.dok⟩
   have hx':kZ (w.drew.alloc (.cells (us.toArray++Builtin.zeroCells z.cells (G-es'.length)) E)) D (β.set k w.heap.size) (.slice (some ⟨w.heap.size,0,none⟩) es'.length G) (.own k E s (0+es'.length)):=by
    rw[Nat.zero_add]
    refine .inr ⟨w.heap.size,G,_,by simp [kX.set],rfl,heap_alloc_new w.drew _,?_,hge,hcm⟩
    simp only[Array.size_append,size_toArray,size_zeroCells,hzs,hul,<- Nat.add_mul]
    congr 1
    omega
   have:=grew_new (dst:=o.dst) hs nC (Nat.le_refl _) hd hB hblk' hx'
   unfold Oper.wp execOp
   simp only[ho,resolve,invoke,builtin,Sem.run_bind,Sem.run_pure,Result.andThen_ok,map_toArray,map_cons,map_nil,hv,hyv,hr]
   exact this
  ·have hb4:∃ b' vs' T',β k=some b'/\w.heap[b']?=some (.cells vs' T' (0,0))/\((qK es).map SV.d).length<=vs'.size/\(∀ (i:Nat) x,((qK es).map SV.d)[i]?=some x->∃ u,vs'[i]?=some u/\u.oneCell'=true/\kZ w D β u x)/\∀ t o,¬ D t b' o:=by
    rcases hblk with h | h
    ·exact (h.at_cells hkb dR).elim
    ·exact h
   obtain ⟨b',vs',T',e1,e2,e3,e4,e5⟩:=hb4
   have:b'=b:=by rw[hkb] at e1;injection e1 with e1;exact e1.symm
   subst this
   have:vs'=vs:=by rw[dR] at e2;injection e2 with e2;injection e2 with e2;exact e2.symm
   subst this
   have e4':∀ (q:Nat) d,(qK es)[q]?=some d->∃ u,vs'[q]?=some u/\u.oneCell'=true/\uS w D u d:=λq d hq=>e4 q (.d d) (by rw[getElem?_map,hq];rfl)
   have hle:m*s<=vs'.size:=by rw[hvs];exact Nat.mul_le_mul_right _ hmc
   by_cases hroom:m+es'.length<=cap
   ·have hfit:m*s+us.length<=vs'.size:=by rw[hul,hvs,<- Nat.add_mul];exact Nat.mul_le_mul_right _ hroom
    have hr:=run_append_room (P:=P) w T o.type E i f1 z1 b' m cap vs' dR ad es'.length c us (by rw[hul,f3]) hcell eD hroom (by rw[f3];exact hfit)
    rw[f3] at hr
    have hpl:=nS (l:=vs'.toList) (off:=m*s) (new:=us) (by simpa using hfit)
    have hw:=lG w b' (vs'.toList.take (m*s)++us++vs'.toList.drop (m*s+us.length)).toArray (λvs2 T2 f2 h=>by
     rw[dR] at h
     injection h with h
     injection h with h
     subst h
     have e:patch vs'.toList (m*s) us=vs'.toList.take (m*s)++us++vs'.toList.drop (m*s+us.length):=rfl
     rw[e] at hpl
     simpa using hpl)
    have hheap':=setRow_heap w b' vs' (vs'.toList.take (m*s)++us++vs'.toList.drop (m*s+us.length)).toArray E _ dR
    have hpg:∀ q,(vs'.toList.take (m*s)++us++vs'.toList.drop (m*s+us.length))[q]?=if q<m*s then vs'.toList[q]? else if q<m*s+us.length then us[q-m*s]? else vs'.toList[q]?:=λq=>mB (by simpa using hfit) q
    have hblk':uE (w.setRow b' (vs'.toList.take (m*s)++us++vs'.toList.drop (m*s+us.length)).toArray) D β k ((qK (es++es')).map .d):=by
     refine app_blk hkb hheap' ?_ ?_ e5
     ·have e:patch vs'.toList (m*s) us=vs'.toList.take (m*s)++us++vs'.toList.drop (m*s+us.length):=rfl
      rw[e] at hpl
      rw[hpl,hfll,Nat.add_mul]
      simp only[Array.length_toList]
      omega
     ·intro q d hq
      rw[hpg q]
      rw[hflat] at hq
      by_cases c1:q<m*s
      ·rw[if_pos c1]
       rw[getElem?_append_left (by omega)] at hq
       obtain ⟨u,g1,g2,g3⟩:=e4' q d hq
       exact ⟨u,by simpa using g1,g2,hw.rep e5 g3⟩
      ·rw[getElem?_append_right (by omega),hes] at hq
       have hlt:q-m*s<us.length:=by
        have:=(List.getElem?_eq_some_iff.1 hq).1
        omega
       rw[if_neg c1,if_pos (by omega)]
       exact ⟨us[q-m*s],by simp [hlt],eD _ (by simp),hw.rep e5 (hrep _ _ d (by simp [hlt]) hq)⟩
    have hx':kZ (w.setRow b' (vs'.toList.take (m*s)++us++vs'.toList.drop (m*s+us.length)).toArray) D β (.slice (some ⟨b',0,none⟩) (m+es'.length) cap) (.own k E s (m+es'.length)):=by
     refine .inr ⟨b',cap,_,hkb,rfl,hheap',?_,hroom,hcap⟩
     have e:patch vs'.toList (m*s) us=vs'.toList.take (m*s)++us++vs'.toList.drop (m*s+us.length):=rfl
     rw[e] at hpl
     simpa [hvs] using hpl
    have:=grew_room (dst:=o.dst) hs hw hkb e5 hb hd hblk' hx'
    unfold Oper.wp execOp
    simp only[ho,resolve,invoke,builtin,Sem.run_bind,Sem.run_pure,Result.andThen_ok,map_toArray,map_cons,map_nil,hv,hyv,hr]
    exact this
   ·have hol:(vs'.toList.take (m*s)).length=m*i.size:=by rw[f3,length_take];simp;omega
    have holds:∀ q u,(vs'.toList.take (m*s))[q]?=some u->w.cell? ((⟨b',0,none⟩:Addr).add q)=some u:=λq u hq=>by
     rw[Addr.add_lit,Nat.zero_add,cell_of_row w b' q vs' E (0,0) dR]
     rw[getElem?_take] at hq
     split at hq
     ·simpa using hq
     ·cases hq
    have hr:=run_append_grow (P:=P) w T o.type E i z f1 z1 z2 ⟨b',0,none⟩ m cap (vs'.toList.take (m*s)) hol holds ad es'.length c us (by rw[hul,f3]) hcell (by omega) (by omega) (growslice_fits (by omega) hbig')
    have hge:=grownCap_ge w (m+es'.length) cap E
    have hcm:=grownCap_le_maxLen w (m+es'.length) cap E (by omega)
    generalize grownCap w (m+es'.length) cap E=G at hr hge hcm
    have nC:Below w.heap.size w (w.drew.alloc (.cells ((vs'.toList.take (m*s)).toArray++us.toArray++Builtin.zeroCells z.cells (G-(m+es'.length))) E)):=⟨rfl,rfl,rfl,by simp,λq hq=>heap_alloc_old w.drew _ hq⟩
    have hblk':uE (w.drew.alloc (.cells ((vs'.toList.take (m*s)).toArray++us.toArray++Builtin.zeroCells z.cells (G-(m+es'.length))) E)) D (β.set k w.heap.size) k ((qK (es++es')).map .d):=by
     have earr:(vs'.toList.take (m*s)).toArray++us.toArray++Builtin.zeroCells z.cells (G-(m+es'.length))=(vs'.toList.take (m*s)++us++(Builtin.zeroCells z.cells (G-(m+es'.length))).toList).toArray:=by apply Array.ext';simp
     rw[f3] at hol
     refine app_blk (b:=w.heap.size) (E:=E) (by simp [kX.set]) (by rw[<- earr];exact heap_alloc_new w.drew _) (by rw[hfll,length_append,length_append,hol,Nat.add_mul];omega) ?_ (λt q hq=>Nat.lt_irrefl _ (hs.base.dok.lt t _ q hq))
     intro q d hq
     rw[hflat] at hq
     by_cases c1:q<m*s
     ·rw[getElem?_append_left (by omega)] at hq
      obtain ⟨u,g1,g2,g3⟩:=e4' q d hq
      refine ⟨u,?_,g2,g3.up nC (aJ.of_same D) hs.base.dok⟩
      rw[append_assoc,getElem?_append_left (by omega),getElem?_take,if_pos c1]
      simpa using g1
     ·rw[getElem?_append_right (by omega),hes] at hq
      have hlt:q-m*s<us.length:=by
       have:=(List.getElem?_eq_some_iff.1 hq).1
       omega
      refine ⟨us[q-m*s],?_,eD _ (by simp),(hrep _ _ d (by simp [hlt]) hq).up nC (aJ.of_same D) hs.base.dok⟩
      rw[append_assoc,getElem?_append_right (by omega),hol,getElem?_append_left hlt]
      simp [hlt]
    have hx':kZ (w.drew.alloc (.cells ((vs'.toList.take (m*s)).toArray++us.toArray++Builtin.zeroCells z.cells (G-(m+es'.length))) E)) D (β.set k w.heap.size) (.slice (some ⟨w.heap.size,0,none⟩) (m+es'.length) G) (.own k E s (m+es'.length)):=by
     refine .inr ⟨w.heap.size,G,_,by simp [kX.set],rfl,heap_alloc_new w.drew _,?_,hge,hcm⟩
     rw[f3] at hol
     simp only[Array.size_append,size_toArray,size_zeroCells,hzs,hul,hol,<- Nat.add_mul]
     congr 1
     omega
    have:=grew_new (dst:=o.dst) hs nC (Nat.le_refl _) hd hB hblk' hx'
    unfold Oper.wp execOp
    simp only[ho,resolve,invoke,builtin,Sem.run_bind,Sem.run_pure,Result.andThen_ok,map_toArray,map_cons,map_nil,hv,hyv,hr]
    exact this
end
def Clr(k:Nat)(bs:BS):Prop:=∀ j c,j≠k->kC bs j=some c->qI k c=false
theorem gJ{α:Type}(k:Nat)(f:α->jY)(l:List α):qI k (l.map (λg=>SV.d (f g)))=false:=by
 simp only[qI,any_eq_false]
 intro x hx
 obtain ⟨g,_,rfl⟩:=mem_map.1 hx
 simp [SV.names]
theorem lE(k:Nat):Clr k []:=λj c _ h=>by simp [kC] at h
theorem iP{k:Nat}{x:Option (List SV)}{bs:BS}(h:Clr k bs):Clr k ((k,x)::bs):=λj c hj hb=>by
 rw[jI,if_neg (λe=>hj e.symm)] at hb
 exact h j c hj hb
theorem clr_cons{k j:Nat}{cs:List SV}{bs:BS}(hc:qI k cs=false)(h:Clr k bs):Clr k ((j,some cs)::bs):=λi c hi hb=>by
 rw[jI] at hb
 split at hb
 ·injection hb with hb;subst hb;exact hc
 ·exact h i c hi hb
theorem clr_map{α:Type}{k j:Nat}{f:α->jY}{l:List α}{bs:BS}(h:Clr k bs):Clr k ((j,some (l.map (λg=>SV.d (f g))))::bs):=clr_cons (gJ k f l) h
theorem clr_d{k j:Nat}{l:List jY}{bs:BS}(h:Clr k bs):Clr k ((j,some (l.map SV.d))::bs):=clr_cons (gJ k id l) h
theorem clr_bx{k j:Nat}{d:jY}{bs:BS}(h:Clr k bs):Clr k ((j,some (bx d))::bs):=clr_d h
section
variable {P:Program} {n:Fr} {ops:Array Oper} {S S':SL} {B B':BS} {l:List Oper} {o:Oper}
theorem nilOwn_sem{d:Tmp}(k:Nat)(E s:Nat)(ho:o.op=.assign (.const (.slice none 0 0))\/o.op=.move (.const (.slice none 0 0)))(hdst:o.dst=some d)(hd:nE n (some d)=true)(hf:gN k ⟨S,B⟩=true)
  (C:Ctx) (a:Act) (w:World) (Q:Exit->Act->World->Prop) (hn:C.n=n) (hs:dQ C a w ⟨S,B⟩):o.wp P a w (λa' w'=>dQ C a' w' ⟨(d,.own k E s 0)::S,(k,some [])::B⟩) Q:=by
 subst hn
 obtain ⟨D,β,hs⟩:=hs
 have hrun:(execOp a.eval o).run P w=.ok (.value (.slice none 0 0)) w:=by
  rcases ho with ho | ho
  ·simp only[execOp,ho,Sem.run_pure];rfl
  ·simp only[execOp,ho,Sem.run_pure];rfl
 refine cF hrun ?_
 rw[hdst]
 have hβ:∀ j,j≠k->(λj=>if j=k then none else β j:kX) j=β j:=λj hj=>by simp [hj]
 refine ⟨D,λj=>if j=k then none else β j,hs.base.put hd _,⟨λj c hj=>?_,λj1 j2 c1 c2 h1 h2 b e1 e2=>?_⟩,λj c hj b hb=>?_,λt=>?_⟩
 ·rw[jI] at hj
  split at hj
  ·rename_i e;subst e;injection hj with hj;subst hj
   exact .inl (.inl ⟨by simp,rfl⟩)
  ·obtain ⟨h1,h2⟩:=bP hf hj
   exact (hs.mem.ok j c hj).frame hβ h1 h2
 ·have n1:j1≠k:=λe=>by subst e;simp at e1
  have n2:j2≠k:=λe=>by subst e;simp at e2
  simp only[if_neg n1] at e1
  simp only[if_neg n2] at e2
  rw[jI,if_neg (λe=>n1 e.symm)] at h1
  rw[jI,if_neg (λe=>n2 e.symm)] at h2
  exact hs.mem.inj j1 j2 c1 c2 h1 h2 b e1 e2
 ·have nj:j≠k:=λe=>by subst e;simp at hb
  simp only[if_neg nj] at hb
  rw[jI,if_neg (λe=>nj e.symm)] at hj
  exact hs.high j c hj b hb
 ·show kZ w D _ ((a.put (some d) (.slice none 0 0)).tmps.getD t undef) (kD ((d,.own k E s 0)::S) t)
  rw[vO hs.base.size hd,qQ]
  by_cases e:d=t
  ·rw[if_pos e,if_pos (by rw[e])]
   exact .inl ⟨by simp,rfl,rfl⟩
  ·rw[if_neg e,if_neg (λe'=>e (by injection e'))]
   exact (hs.slots t).frame hβ (lL hf t)
end
section
variable {P:Program} {o:Oper} {S:Nat->SV}
theorem n_bso{T E:TypeId}{s len:Nat}{ps:List (Nat × Operand)}{pd:List (Nat × jY)}{zv:List Value}{zd es:List jY}{cs:List SV}(k:Nat)(ho:o.op=.buildSlice T len ps.toArray)(hT:uU P T=some (E,s))(hz:xH P E=some zv)(hzd:eO zv zd)(hzl:zd.length=s)
  (hps:ps.map (λp=>(p.1,ev S p.2))=pd.map (λp=>(p.1,.d p.2))) (hok:pd.all (λp=>p.2.ok1)=true) (hbig:Nat.ble (len*s) 16777216=true) (hbig':Nat.ble len 16777216=true) (qM:es.length=len) (hs:es.map (λe=>e.cells.length)=replicate len s)
  (hr:aO (λi=>some (i*s,s)) (replicate len zd).flatten (pd.map λp=>(p.1,p.2.cells))=some (qK es)) (hcs:(qK es).map .d=cs):NOk P o S k cs (.own k E s len) :=
 λa w D β Q hop hD=>by
  subst hcs
  have hbig:=Nat.le_of_ble_eq_true hbig
  have hbig':=Nat.le_of_ble_eq_true hbig'
  have hs:∀ e∈es,e.cells.length=s:=λe he=>by
   have:e.cells.length∈es.map (λe=>e.cells.length):=mem_map_of_mem he
   rw[hs] at this
   exact (mem_replicate.1 this).2
  obtain ⟨i,z,z1,z2,z3⟩:=fG hz
  obtain ⟨j,e1,e2,e3⟩:=cL hT
  have hij:i=j:=by rw[z1] at e2;injection e2
  subst hij
  obtain ⟨q1,q2⟩:=aX (a:=a) (w:=w) (D:=D) (β:=β) hps hok (λp hp=>hop p.2 (by
   simp only[ho,Op.operands]
   exact mem_toArray.2 (by simpa using mem_map_of_mem (f:=(·.2)) hp)))
  have hzvl:zv.length=zd.length:=(bQ (w:=w) (D:=D) hzd).1
  have hzs:z.cells.size=s:=by rw[z3];simp;omega
  have hrz:=dT z.cells s len hzs
  have hzero:RepL w D ((Array.range (len*s)).map (z.cells[· % z.cells.size]!)).toList (replicate len zd).flatten:=by
   rw[hrz,z3]
   exact repL_zeros hzd len
  obtain ⟨cs',f1,f2⟩:=bW (λi=>some (i*s,s)) _ _ _ _ _ q1 q2 hzero hr
  have hpp:(ps.toArray.map λp=>(p.1,a.eval p.2)).toList=ps.map λp=>(p.1,a.eval p.2):=by simp
  have hrun:(execOp a.eval o).run P w=.ok (.value (.slice (some ⟨w.heap.size,0,none⟩) len len)) (w.alloc (.cells cs' E)):=by
   by_cases h0:len*s=0
   ·rw[h0] at f1
    simp only[Array.range_zero',Array.map_empty] at f1
    simp only[execOp,ho,Instr.buildSlice,Sem.run_bind,run_underlying e1,Result.andThen_ok,xM e2,e3,h0,if_true,Array.range_zero',Array.map_empty,hpp,Sem.run_pure]
    rw[if_neg (by omega)]
    simp only[Sem.run_bind,Sem.run_pure,Result.andThen_ok,f1,newRow,run_newObj]
    rfl
   ·simp only[execOp,ho,Instr.buildSlice,Sem.run_bind,run_underlying e1,Result.andThen_ok,xM e2,e3,h0,if_false,hpp]
    rw[if_neg (by omega)]
    simp only[Sem.run_bind,Sem.run_pure,Result.andThen_ok,run_zero z1 z2,f1,newRow,run_newObj]
    rfl
  refine npost_new (vs:=cs') (T:=E) hD f2 hrun ?_
  refine .inr ⟨w.heap.size,len,cs',by simp [kX.set],rfl,heap_alloc_new w _,?_,Nat.le_refl _,by unfold maxLen;omega⟩
  have h1:=f2.1
  rw[vQ hs,qM] at h1
  simpa using h1
end
end Go.Fid
