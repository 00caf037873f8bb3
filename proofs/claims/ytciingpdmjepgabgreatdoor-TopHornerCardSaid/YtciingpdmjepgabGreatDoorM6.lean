/- Part 6 of a proof: rules, plain facts, and functions walked. -/
import Derived.Test.YtciingpdmjepgabGreatDoorM5
import Derived.Deep.LoopGhost
set_option linter.all false
namespace Go.Fid
open Go.RowKit (Below)
def dR(P:Program)(n:Fr)(c:Code)(Q:Exit->PS->Prop)(st:PS):Prop :=
 ∀ (C:Ctx) (a:Act) (w:World) (N:Nat),C.n=n->cI C a w st->c.wpIn (fen n) N P (fun e a' w'=>∃ st',cI C a' w' st'/\Q e st') a w
def PThen(next:PS->Prop)(Q:Exit->PS->Prop):Exit->PS->Prop
 |.normal,st=>next st
 |e,st=>Q e st
def PBlock(id:Nat)(Q:Exit->PS->Prop):Exit->PS->Prop
 |.exit id',st=>if id'=id then Q .normal st else Q (.exit id') st
 |e,st=>Q e st
def qQ(st st':PS):Prop:=∀ (C:Ctx) (a:Act) (w:World),cI C a w st->cI C a w st'
section
variable {P:Program} {n:Fr} {Q Q':Exit->PS->Prop} {st st':PS}
theorem pwp_mono{c:Code}(h:dR P n c Q st)(hq:∀ e s,Q e s->Q' e s):dR P n c Q' st :=
 fun C a w N hn hs=>wpIn_mono (h C a w N hn hs) fun _ _ _ ⟨s,h1,h2⟩=>⟨s,h1,hq _ _ h2⟩
theorem kM{c:Code}(h:qQ st st')(hp:dR P n c Q st'):dR P n c Q st:=fun C a w N hn hs=>hp C a w N hn (h C a w hs)
theorem jB{c d:Code}(h:dR P n c (PThen (dR P n d Q) Q) st):dR P n (.seq c d) Q st:=fun C a w N hn hs=>by
 refine wpIn_seq (wpIn_mono (h C a w N hn hs) fun e a' w' ⟨s,h1,h2⟩=>?_)
 cases e with
 |normal=>exact h2 C a' w' N hn h1
 |_=>exact ⟨s,h1,h2⟩
theorem jF(h:Q .normal st):dR P n .skip Q st:=fun _ _ _ _ _ hs=>wpIn_skip ⟨st,hs,h⟩
theorem kK{id:Nat}(h:Q (.exit id) st):dR P n (.exit id) Q st:=fun _ _ _ _ _ hs=>wpIn_exit ⟨st,hs,h⟩
theorem jE(h:Q .ret st):dR P n .ret Q st:=fun _ _ _ _ _ hs=>wpIn_ret ⟨st,hs,h⟩
theorem jG{id:Nat}{c:Code}(h:dR P n c (PBlock id Q) st):dR P n (.block id c) Q st:=fun C a w N hn hs=>by
 refine wpIn_block (wpIn_mono (h C a w N hn hs) fun e a' w' ⟨s,h1,h2⟩=>?_)
 cases e with
 |exit id'=>
  simp only[Exit.inBlock]
  simp only[PBlock] at h2
  split
  ·rename_i e;rw[if_pos e] at h2;exact ⟨s,h1,h2⟩
  ·rename_i e;rw[if_neg e] at h2;exact ⟨s,h1,h2⟩
 |_=>exact ⟨s,h1,h2⟩
theorem jH{c:Operand}{x y:Code}{b:Bool}(hc:ev (kA st.sl) c=.d (.val (.bool b)))(h1:b=true->dR P n x Q st)(h2:b=false->dR P n y Q st):dR P n (.cond c x y) Q st:=fun C a w N hn hs=>by
 obtain ⟨D,β,hs'⟩:=id hs
 have hv:a.eval c=.bool b:=by
  have:qC w D β (a.eval c) (ev (kA st.sl) c):=by
   cases c with
   |tmp t=>exact hs'.slots t
   |const v=>exact uN.val v
   |func f=>exact uN.val _
   |global g=>trivial
  rw[hc] at this
  exact rep_bool this
 exact wpIn_cond_split hv (fun e=>h1 e C a w N hn hs) (fun e=>h2 e C a w N hn hs)
theorem wpIn_loop_ghost{F:Fence}{N:Nat}{Q:Exit->Act->World->Prop}{a:Act}{w:World}{c:Code}(I:Nat->Act->World->Prop)(n₀:Nat)(h₀:I n₀ a w)
  (round:∀ m a w,I m a w->c.wpIn F N P (Exit.then (fun a' w'=>∃ m',m'<m/\I m' a' w') Q) a w):(Code.loop c).wpIn F N P Q a w:=by
 refine wpIn_loop (fun a w=>∃ m,I m a w) (fun a w=>leastOf (fun m=>I m a w)) ⟨n₀,h₀⟩ ?_
 intro a w hI
 refine wpIn_mono (round _ a w (leastOf_spec hI).1) ?_
 intro e a' w' hq
 cases e with
 |normal=>
  obtain ⟨n',hlt,hI'⟩:=hq
  exact show (∃ m,I m a' w')/\leastOf (fun m=>I m a' w')<leastOf (fun m=>I m a w) from ⟨⟨n',hI'⟩,Nat.lt_of_le_of_lt ((leastOf_spec ⟨n',hI'⟩).2 n' hI') hlt⟩
 |_=>exact hq
theorem kU{α:Type}{c:Code}(S:α->PS)(I:α->Prop)(μ:α->Nat)(x0:α)(h0:qQ st (S x0))(hI:I x0)(round:∀ x,I x->dR P n c (PThen (fun s=>∃ y,qQ s (S y)/\I y/\μ y<μ x) Q) (S x)):dR P n (.loop c) Q st:=fun C a w N hn hs=>by
 refine wpIn_loop_ghost (fun m a w=>∃ x,I x/\μ x=m/\cI C a w (S x)) (μ x0) ⟨x0,hI,rfl,h0 C a w hs⟩ ?_
 rintro m a w ⟨x,hx,rfl,hsx⟩
 refine wpIn_mono (round x hx C a w N hn hsx) fun e a' w' ⟨s,h1,h2⟩=>?_
 cases e with
 |normal=>
  obtain ⟨y,g1,g2,g3⟩:=h2
  exact ⟨μ y,g3,y,g2,rfl,g1 C a' w' h1⟩
 |_=>exact ⟨s,h1,h2⟩
theorem sget_eq_or{l:SL}{s:SL}(h:l.map (fun p=>kA s p.1)=l.map (·.2))(t:Nat):kA l t=.junk\/kA l t=kA s t:=by
 induction l with
 |nil=>exact .inl rfl
 |cons p l ih=>
  obtain ⟨j,x⟩:=p
  simp only[List.map_cons,List.cons.injEq] at h
  rw[qM]
  split
  ·rename_i e;subst e;exact .inr h.1.symm
  ·exact ih h.2
theorem aO{l:BS}{s:BS}(h:l.map (fun p=>jY s p.1)=l.map (·.2)){k:Nat}{c:List SV}(hc:jY l k=some c):jY s k=some c:=by
 induction l with
 |nil=>simp [jY] at hc
 |cons p l ih=>
  obtain ⟨j,x⟩:=p
  simp only[List.map_cons,List.cons.injEq] at h
  rw[jI] at hc
  split at hc
  ·rename_i e;subst e;subst hc;exact h.1
  ·exact ih h.2 hc
theorem weak{l:SL}{b:BS}(h1:l.map (fun p=>kA st.sl p.1)=l.map (·.2))(h2:b.map (fun p=>jY st.bs p.1)=b.map (·.2)):qQ st ⟨l,b⟩:=fun C a w ⟨D,β,hs⟩=>
 ⟨D,β,hs.base,⟨fun k cs hk=>hs.mem.ok k cs (aO h2 hk),fun k1 k2 c1 c2 q1 q2=>hs.mem.inj k1 k2 c1 c2 (aO h2 q1) (aO h2 q2)⟩,fun k c hk=>hs.high k c (aO h2 hk),fun t=>by
  rcases sget_eq_or h1 t with h | h
  ·show qC w D β _ (kA l t)
   rw[h];trivial
  ·show qC w D β _ (kA l t)
   rw[h];exact hs.slots t⟩
theorem qQ.refl(st:PS):qQ st st:=fun _ _ _ h=>h
theorem qQ.trans{a b c:PS}(h:qQ a b)(k:qQ b c):qQ a c:=fun C x w hs=>k C x w (h C x w hs)
theorem nil_sl(t:TypeId)(s:Nat):∀ w D β v,qC w D β v (.d (.val (.slice none 0 0)))->qC w D β v (.d (.sl t s [])):=fun w D β v h=>by
 rw[uO h]
 exact eX w D t s
theorem vS{t k s m:Nat}{T:TypeId}{cs:List SV}{es:List jT}(hs:kA st.sl t=.own k T s m)(hb:jY st.bs k=some cs)(hes:∀ e∈es,e.cells.length=s)(hl:es.length=m)(hc:cs.take (m*s)=(kR es).map .d) :
  qQ st ⟨(t,.d (.sl T s es))::st.sl,(k,none)::st.bs⟩:=fun C a w ⟨D,β,h⟩=>by
 have hfl:=uQ hes
 have hbs:∀ {j:Nat} {c:List SV},jY ((k,none)::st.bs) j=some c->j≠k/\jY st.bs j=some c:=fun {j c} hj=>by
  rw[jI] at hj
  split at hj
  ·cases hj
  ·rename_i e;exact ⟨fun e'=>e e'.symm,hj⟩
 have ht:=h.slots t
 rw[hs] at ht
 rcases ht with ⟨h1,h2,h3⟩ | ⟨b,cap,vs,h1,h2,h3,h4,h5,h6⟩
 ·subst h2
  have hn:es=[]:=List.eq_nil_of_length_eq_zero hl
  subst hn
  refine ⟨D,β,h.base,⟨fun j c hj=>h.mem.ok j c (hbs hj).2,fun j1 j2 c1 c2 q1 q2=>h.mem.inj j1 j2 c1 c2 (hbs q1).2 (hbs q2).2⟩,fun j c hj=>h.high j c (hbs hj).2,fun u=>?_⟩
  show qC w D β _ (kA ((t,_)::st.sl) u)
  rw[qM]
  split
  ·rename_i e;subst e;rw[h3];exact eX w D T s
  ·exact h.slots u
 ·have hlt:=qV h3
  rcases h.mem.ok k cs hb with g1 | ⟨b',vs',T',g1,g2,g3,g4,g5⟩
  ·exact (g1.at_cells h1 h3).elim
  ·obtain rfl:b=b':=by rw[h1] at g1;injection g1
   rw[h3] at g2
   injection g2 with g2
   injection g2 with g2 gT
   subst g2;subst gT
   have hmono:∀ t' g o,D t' g o->(D t' g o\/(t'=T/\g=b/\o<m*s))/\w.cell? ⟨g,o,none⟩=w.cell? ⟨g,o,none⟩:=fun t' g o hd=>⟨.inl hd,rfl⟩
   have hS:∀ {v x},qC w D β v x->qC w (fun t' g o=>D t' g o\/(t'=T/\g=b/\o<m*s)) β v x:=fun {v x} hr=>by
    cases x with
    |d x=>exact uN.mono hmono hr
    |ref k o=>exact hr
    |own k t s n=>exact hr
    |clo f ks=>exact hr
    |emp=>exact hr
    |view k o n=>exact hr
    |mp k=>exact hr
    |mo ob=>exact hr
    |pr k t s n x=>obtain ⟨v1,v2,e,h1,h2⟩:=hr;exact ⟨v1,v2,e,h1,uN.mono hmono h2⟩
    |refx k o b=>exact hr
    |mpx k b=>exact hr
    |bnd f k o=>exact hr
    |ownx k t s n u=>exact hr
    |junk=>trivial
   refine ⟨fun t' g o=>D t' g o\/(t'=T/\g=b/\o<m*s),β,⟨h.base.defers,h.base.size,h.base.keep,h.base.oth,h.base.pin,h.base.below,fun t' g o hd=>.inl (h.base.dmono _ _ _ hd),fun t' g o hd=>?_,h.base.dok.more (fun _ _ _ hd=>.inl hd) fun t' g o hd=>?_⟩,⟨fun j c hj=>?_,fun j1 j2 c1 c2 q1 q2=>h.mem.inj j1 j2 c1 c2 (hbs q1).2 (hbs q2).2⟩,fun j c hj=>h.high j c (hbs hj).2,fun u=>?_⟩
   ·rcases hd with hd | ⟨_,e,_⟩
    ·exact h.base.dnew _ _ _ hd
    ·subst e;exact .inr (h.high k cs hb g h1)
   ·rcases hd with hd | ⟨_,e,_⟩
    ·exact h.base.dok.lt _ _ _ hd
    ·subst e;exact hlt
   ·obtain ⟨hne,hj'⟩:=hbs hj
    rcases h.mem.ok j c hj' with q | ⟨b2,vs2,T2,q1,q2,q3,q4,q5⟩
    ·exact .inl (q.more (g:=b) (fun t' g' o hd=>by rcases hd with hd | ⟨_,e,_⟩;exact .inl hd;exact .inr e) (fun e=>hne (h.mem.inj j k _ _ hj' hb b e h1)))
    ·refine .inr ⟨b2,vs2,T2,q1,q2,q3,fun i x hx=>?_,fun t' o hd=>?_⟩
     ·obtain ⟨u,e1,e2,e3⟩:=q4 i x hx
      exact ⟨u,e1,e2,hS e3⟩
     ·rcases hd with hd | ⟨_,e,_⟩
      ·exact q5 _ _ hd
      ·subst e;exact hne (h.mem.inj j k _ _ hj' hb b2 q1 h1)
   ·show qC w _ β _ (kA ((t,_)::st.sl) u)
    rw[qM]
    split
    ·rename_i e;subst e
     rw[h2]
     have key:∀ (i:Nat) d,(kR es)[i]?=some d->∃ u,vs[i]?=some u/\u.oneCell'=true/\uN w D u d:=fun i d hd=>by
      have hi:i<m*s:=by
       have:=(List.getElem?_eq_some_iff.1 hd).1
       rw[hfl,hl] at this;exact this
      have e1:cs[i]?=some (.d d):=by
       have:(cs.take (m*s))[i]?=some (.d d):=by rw[hc];simp [hd]
       rwa [List.getElem?_take_of_lt hi] at this
      exact g4 i _ e1
     have hcell:∀ i,w.cell? ⟨b,i,none⟩=vs[i]?:=fun i=>cell_of_row w b i vs T (0,0) h3
     refine uN.sl b 0 (fun i=>vs.getD i undef) hl.symm h5 h6 hes (fun _=>rfl) (fun i hi=>.inr ⟨rfl,rfl,by rw[Nat.zero_add,<- hl,<- hfl];exact hi⟩) (fun i hi=>?_) (fun i hi=>?_) (fun i d hd=>?_)
     ·obtain ⟨x,q1,q2,q3⟩:=key i _ (List.getElem?_eq_getElem hi)
      rw[Nat.zero_add,hcell,Array.getD_eq_getD_getElem?,q1];rfl
     ·obtain ⟨x,q1,q2,q3⟩:=key i _ (List.getElem?_eq_getElem hi)
      rw[Array.getD_eq_getD_getElem?,q1];exact q2
     ·obtain ⟨x,q1,q2,q3⟩:=key i d hd
      rw[Array.getD_eq_getD_getElem?,q1]
      exact uN.mono hmono q3
    ·exact hS (h.slots u)
end
inductive cD (P:Program) (st:PS):List ResultVar->List jT->Prop
 |nil:cD P st [] []
 |tmp {t:Tmp} {d:jT} {rs:List ResultVar} {ds:List jT} (h:kA st.sl t=.d d) (hr:cD P st rs ds):cD P st (.tmp t::rs) (d::ds)
 |cell {t:Tmp} {T:TypeId} {k sz:Nat} {agg:Bool} {cs:List SV} {d:jT} {rs:List ResultVar} {ds:List jT} (h:kA st.sl t=.ref k 0) (hb:jY st.bs k=some cs) (hs:qD P T=some (agg,sz)) (h1:agg=false->sz=1) (hl:sz<=cs.length)
   (hg:yD agg (cs.take sz)=.d d) (hr:cD P st rs ds) (h0:0<sz):cD P st (.cell t T::rs) (d::ds)
def retD:List jT->jT
 |[d]=>d
 |ds=>.tup ds
def RetQ(P:Program)(rs:List ResultVar)(r:jT):Exit->PS->Prop
 |.ret,st=>∃ ds,cD P st rs ds/\retD ds=r
 |.normal,st=>∃ ds,cD P st rs ds/\retD ds=r
 |_,_=>False
def eF:List jT->Nat->SL
 |[],_=>[]
 |d::r,i=>(i,.d d)::eF r (i+1)
theorem sget_init:∀ (ds:List jT) (i t:Nat),kA (eF ds i) t=if i<=t then (match ds[t-i]? with | some d=>.d d | none=>.junk) else .junk
 |[],i,t=>by simp [eF,kA]
 |d::r,i,t=>by
  simp only[eF,qM]
  by_cases h:i=t
  ·subst h;simp
  ·rw[if_neg h,sget_init r (i+1) t]
   by_cases h2:i+1<=t
   ·rw[if_pos h2,if_pos (by omega)]
    obtain ⟨q,hq⟩:∃ q,t-i=q+1:=⟨t-i-1,by omega⟩
    have:t-(i+1)=q:=by omega
    rw[this,hq,List.getElem?_cons_succ]
   ·rw[if_neg h2,if_neg (by omega)]
section
variable {P:Program}
theorem mapCs_gather{agg:Bool}{cs:List SV}{sz:Nat}{d:jT}(hg:yD agg (cs.take sz)=.d d)(h0:0<sz):yQ cs=false:=by
 unfold yQ
 split
 ·rename_i ob
  obtain ⟨m,rfl⟩:∃ m,sz=m+1:=⟨sz-1,by omega⟩
  have e:List.take (m+1) [SV.mo ob]=[SV.mo ob]:=by simp
  rw[e] at hg
  cases agg<;>cases hg
 ·rfl
theorem gather_rep{w:World}{D:kV}{β:kY}{T:TypeId}{k sz b:Nat}{agg:Bool}{cs:List SV}(hb:uA w D β k cs)(hk:β k=some b)(hs:qD P T=some (agg,sz))(h1:agg=false->sz=1)(hl:sz<=cs.length)(hm:yQ cs=false) :
  ∃ v,(loadVar T ⟨b,0,none⟩).run P w=.ok v w/\qC w D β v (yD agg (cs.take sz)):=by
 obtain ⟨vs,e1,e2,e3⟩:=blk_cells hb hk hm
 cases agg with
 |true=>
  refine ⟨.agg (vs.take sz).toArray,dA hs w _ (vs.take sz) (by simp;omega) (fun j u hu=>?_),repS_agg (by simp;omega) (fun v hv=>?_) (fun i v y hv hy=>?_)⟩
  ·have hj:j<sz:=by
    have:=(List.getElem?_eq_some_iff.1 hu).1
    simp at this;omega
   rw[List.getElem?_take_of_lt hj] at hu
   rw[Addr.add_lit,Nat.zero_add]
   exact (e2 _ _ hu).1
  ·obtain ⟨j,hj⟩:=List.getElem?_of_mem (List.mem_of_mem_take hv)
   exact (e2 j v hj).2
  ·have hj:i<sz:=by
    have:=(List.getElem?_eq_some_iff.1 hv).1
    simp at this;omega
   rw[List.getElem?_take_of_lt hj] at hv hy
   exact e3 _ _ _ hv hy
 |false=>
  obtain rfl:=h1 rfl
  have hlt:0<cs.length:=by omega
  have hlt':0<vs.length:=by omega
  refine ⟨vs[0],cZ hs w _ (e2 _ _ (List.getElem?_eq_getElem hlt')).1,?_⟩
  have:cs.take 1=[cs[0]]:=by
   match cs,hlt with
   |x::r,_=>rfl
  rw[this]
  exact e3 _ _ _ (List.getElem?_eq_getElem hlt') (List.getElem?_eq_getElem hlt)
def resF(tmps:Array Value):ResultVar->Sem Value
 |.tmp t=>pure (tmps.getD t undef)
 |.cell b t=>do loadVar t (<- asAddr (tmps.getD b undef))
theorem aN(fn:Func)(tmps:Array Value):results fn tmps=(do let vs <- fn.results.mapM (resF tmps);pure (if h:vs.size=1 then vs[0] else .tuple vs)):=by
 unfold results
 congr 1
theorem res_run{a:Act}{w:World}{st:PS}{D:kV}{β:kY}(hsl:∀ t,qC w D β (a.tmps.getD t undef) (kA st.sl t))(hm:∀ k cs,jY st.bs k=some cs->uA w D β k cs):∀ {rs:List ResultVar} {ds:List jT},cD P st rs ds ->
  ∃ vs:List Value,(rs.mapM (resF a.tmps)).run P w=.ok vs w/\vs.length=ds.length/\∀ (i:Nat) v d,vs[i]?=some v->ds[i]?=some d->uN w D v d:=by
 intro rs ds h
 induction h with
 |nil=>exact ⟨[],by simp,rfl,by simp⟩
 |tmp h hr ih=>
  rename_i t d rs ds
  obtain ⟨vs,e1,e2,e3⟩:=ih
  have hv:=hsl t
  rw[h] at hv
  refine ⟨a.tmps.getD t undef::vs,?_,by simp [e2],fun i v d' hv' hd=>?_⟩
  ·simp only[List.mapM_cons,resF,Sem.run_bind,Sem.run_pure,Result.andThen_ok,e1]
  ·cases i with
   |zero=>simp only[List.getElem?_cons_zero,Option.some.injEq] at hv' hd;subst hv';subst hd;exact hv
   |succ i=>exact e3 i v d' (by simpa using hv') (by simpa using hd)
 |cell h hb hsh h1 hl hg hr h0 ih=>
  rename_i t T k sz agg cs d rs ds
  obtain ⟨vs,e1,e2,e3⟩:=ih
  have hv:=hsl t
  rw[h] at hv
  obtain ⟨b,hk,hv⟩:=hv
  obtain ⟨v,g1,g2⟩:=gather_rep (hm _ _ hb) hk hsh h1 hl (mapCs_gather hg h0)
  rw[hg] at g2
  refine ⟨v::vs,?_,by simp [e2],fun i u d' hv' hd=>?_⟩
  ·have hrun:(resF a.tmps (.cell t T)).run P w=.ok v w:=by
    simp only[resF,Sem.run_bind,hv,asAddr,Sem.run_pure,Result.andThen_ok,g1]
   simp only[List.mapM_cons,Sem.run_bind,hrun,Sem.run_pure,Result.andThen_ok,e1]
  ·cases i with
   |zero=>simp only[List.getElem?_cons_zero,Option.some.injEq] at hv' hd;subst hv';subst hd;exact g2
   |succ i=>exact e3 i u d' (by simpa using hv') (by simpa using hd)
theorem rep_ret{w:World}{D:kV}:∀ {vs:List Value} {ds:List jT},vs.length=ds.length->(∀ (i:Nat) v d,vs[i]?=some v->ds[i]?=some d->uN w D v d)->uN w D (if h:vs.toArray.size=1 then vs.toArray[0] else .tuple vs.toArray) (retD ds)
 |[],[],_,_=>uN.tup [] rfl (by simp)
 |[v],[d],_,h=>h 0 v d rfl rfl
 |v1::v2::vs,d1::d2::ds,h1,h2=>by
  rw[dif_neg (by simp)]
  exact uN.tup (v1::v2::vs) h1 h2
theorem ret_run{a:Act}{w:World}{st:PS}{D:kV}{β:kY}(hsl:∀ t,qC w D β (a.tmps.getD t undef) (kA st.sl t))(hm:∀ k cs,jY st.bs k=some cs->uA w D β k cs){fn:Func}{ds:List jT}(h:cD P st fn.results.toList ds):∃ v,(results fn a.tmps).run P w=.ok v w/\uN w D v (retD ds):=by
 obtain ⟨vs,e1,e2,e3⟩:=res_run (P:=P) hsl hm h
 have hrun:(results fn a.tmps).run P w=.ok (if h:vs.toArray.size=1 then vs.toArray[0] else .tuple vs.toArray) w:=by
  rw[aN,Array.mapM_eq_mapM_toList,Sem.run_bind,Sem.run_map]
  rw[e1]
  rfl
 exact ⟨_,hrun,rep_ret e2 e3⟩
theorem yI{w:World}{q:Nat}{ob ob':Obj}(h:w.heap[q]?=some ob)(hc:ob.isCells=false)(hc':ob'.isCells=false)(g o:Nat):(w.putObj q ob').cell? ⟨g,o,none⟩=w.cell? ⟨g,o,none⟩:=by
 by_cases hg:g=q
 ·subst hg
  have h2:(w.putObj g ob').heap[g]?=some ob':=World.putObj_heap_same (qV h)
  have none_of:∀ {w:World} {ob:Obj},w.heap[g]?=some ob->ob.isCells=false->w.cell? ⟨g,o,none⟩=none:=fun {w ob} h hc=>by
   cases ob<;>first | (simp [World.cell?,h];done) | simp [Obj.isCells] at hc
  rw[none_of h hc,none_of h2 hc']
 ·exact World.cell?_of_block (World.putObj_heap_other hg)
theorem eJ{w:World}{q:Nat}{ob ob':Obj}(h:w.heap[q]?=some ob)(hc:ob.isCells=false)(hc':ob'.isCells=false)(hmp:Obj.isMp ob=false){D:kV}{β:kY}{v:Value}{x:SV}(hx:qC w D β v x):qC (w.putObj q ob') D β v x:=by
 cases x with
 |d x=>exact uN.mono (fun t g o hd=>⟨hd,yI h hc hc' g o⟩) hx
 |ref k o=>exact hx
 |own k t s n=>
  rcases hx with hx | ⟨b,cap,vs,h1,h2,h3,h4⟩
  ·exact .inl hx
  ·have hne:b≠q:=fun e=>by subst e;rw[h] at h3;injection h3 with h3;subst h3;cases hc
   exact .inr ⟨b,cap,vs,h1,h2,(World.putObj_heap_other hne).trans h3,h4⟩
 |clo f ks=>exact hx
 |emp=>exact hx
 |view k o n=>exact hx
 |mp k=>exact hx
 |mo ob=>exact hx
 |pr k t s n x=>
  obtain ⟨v1,v2,e,g1,g2⟩:=hx
  refine ⟨v1,v2,e,?_,uN.mono (fun t g o hd=>⟨hd,yI h hc hc' g o⟩) g2⟩
  rcases g1 with hx | ⟨b,cap,vs,h1,h2,h3,h4⟩
  ·exact .inl hx
  ·have hne:b≠q:=fun e=>by subst e;rw[h] at h3;injection h3 with h3;subst h3;cases hc
   exact .inr ⟨b,cap,vs,h1,h2,(World.putObj_heap_other hne).trans h3,h4⟩
 |refx k o b=>exact hx
 |mpx k b=>exact hx
 |bnd f k o=>exact hx
 |ownx k t s n u=>
  refine ⟨hx.1,?_⟩
  rcases hx.2 with hx | ⟨b,cap,vs,h1,h2,h3,h4⟩
  ·exact .inl hx
  ·have hne:b≠q:=fun e=>by subst e;rw[h] at h3;injection h3 with h3;subst h3;cases hc
   exact .inr ⟨b,cap,vs,h1,h2,(World.putObj_heap_other hne).trans h3,h4⟩
 |junk=>trivial
theorem turned_blk{w:World}{q:Nat}{ob ob':Obj}(h:w.heap[q]?=some ob)(hc:ob.isCells=false)(hc':ob'.isCells=false)(hmp:Obj.isMp ob=false){D:kV}{β:kY}{k:Nat}{cs:List SV}(hx:uA w D β k cs):uA (w.putObj q ob') D β k cs:=by
 rcases hx with hx | ⟨b,vs,T,h1,h2,h3,h4,h5⟩
 ·rcases hx with hx | ⟨b,o2,h1,h2,h3,h4⟩
  ·exact .inl (.inl hx)
  ·have hne:b≠q:=fun e=>by subst e;rw[h] at h2;injection h2 with h2;subst h2;rw[hmp] at h3;cases h3
   exact .inl (.inr ⟨b,o2,h1,(World.putObj_heap_other hne).trans h2,h3,h4⟩)
 ·have hne:b≠q:=fun e=>by subst e;rw[h] at h2;injection h2 with h2;subst h2;cases hc
  refine .inr ⟨b,vs,T,h1,(World.putObj_heap_other hne).trans h2,h3,fun i x hi=>?_,h5⟩
  obtain ⟨u,e1,e2,e3⟩:=h4 i x hi
  exact ⟨u,e1,e2,eJ h hc hc' hmp e3⟩
theorem turned_below{w0 w:World}{q:Nat}{ob':Obj}(h:Below w0.heap.size w0 w)(hq:w0.heap.size<=q):Below w0.heap.size w0 (w.putObj q ob') :=
 ⟨h.os,h.tape,h.output,by simpa [World.putObj] using h.size,fun k hk=>(World.putObj_heap_other (by omega)).trans (h.block k hk)⟩
theorem turned_belowM{mine:Nat->Prop}{w0 w:World}{q:Nat}{ob':Obj}(h:cF mine w0.heap.size w0 w)(hq:w0.heap.size<=q):cF mine w0.heap.size w0 (w.putObj q ob') :=
 ⟨h.os,h.tape,h.output,by simpa [World.putObj] using h.size,fun k hk hm=>(World.putObj_heap_other (by omega)).trans (h.block k hk hm),fun k hk vs T f h1=>by
  obtain ⟨us,e1,e2⟩:=h.shape k hk vs T f h1
  exact ⟨us,(World.putObj_heap_other (by omega)).trans e1,e2⟩⟩
theorem leaves_marks{fn:Func}{a:Act}{st:PS}{D D':kV}{β:kY}{r:jT}{w w0:World}{ds:List Deferred}{ds':List jT}(hd:DfOk w0.heap.size w ds)(hsl:∀ t,qC w D' β (a.tmps.getD t undef) (kA st.sl t))
  (hm:∀ k cs,jY st.bs k=some cs->uA w D' β k cs) (gC:Below w0.heap.size w0 w) (hmono:∀ t g o,D t g o->D' t g o) (hnew:∀ t g o,D' t g o->D t g o\/w0.heap.size<=g) (hdok:DOk D' w) (h1:cD P st fn.results.toList ds') (h2:retD ds'=r) :
  LeavesInM Fence.wide 0 P fn a.tmps (FPost w0 D r) ds .returning w:=by
 induction ds generalizing w with
 |nil=>
  obtain ⟨v,g1,g2⟩:=ret_run (P:=P) hsl hm h1
  rw[h2] at g2
  refine ⟨v,g1,v,D',rfl,gC,⟨hmono,fun t g o hd=>?_⟩,g2⟩
  rcases hnew t g o hd with h3 | h3
  ·exact .inl h3
  ·exact .inr ⟨h3,hdok.lt _ _ _ hd⟩
 |cons d ds ih=>
  cases hd with
  |cons hqb hqh h3 hr=>
   rename_i q
   refine ⟨by simp,.inl ⟨q,_,rfl,run_takeDeferred hqh,ih (hr.keep fun q' hq' ⟨d,hd,e⟩=>?_) (fun t=>eJ hqh rfl rfl rfl (hsl t)) (fun k cs hk=>turned_blk hqh rfl rfl rfl (hm k cs hk)) (turned_below gC hqb) (hdok.kept (by simp [World.putObj]) fun t g o _=>yI hqh rfl rfl g o)⟩⟩
   have hne:q'≠q:=fun e'=>h3 d hd (e'▸e)
   exact (World.putObj_heap_other hne).trans hq'
theorem fn_intro{f:FuncId}{fn:Func}{c:Code}{ds:List jT}{r:jT}(hf:P.funcs[f]?=some fn)(hb:fn.body=some c)(hc:callB P f=true)(hn:Nat.ble ds.length fn.ntmps=true)
  (h:dR P ⟨0,fn.ntmps,none⟩ c (RetQ P fn.results.toList r) ⟨eF ds 0,[]⟩):jW P f ds r :=
 ⟨hc,fun w D vs hD hargs=>by
  refine (callsIn_wide (n:=0)).1 (callsIn_of_wp_marks hf hb trivial ?_)
  have hle:ds.length<=fn.ntmps:=Nat.le_of_ble_eq_true hn
  have hvl:=hargs.1
  have hsim:cI ⟨w,D,w,#[],⟨0,fn.ntmps,none⟩,fun _=>False⟩ { tmps:=vs.toArray++Array.replicate (fn.ntmps-vs.toArray.size) undef,defers:=[] } w ⟨eF ds 0,[]⟩:=by
   refine ⟨D,fun _=>none,⟨.nil,by simp;omega,fun _ _ _ _=>rfl,fun _ _ h _ _=>h,fun t ht=>absurd ht (Nat.not_lt_zero t),.of (Below.refl _ _),fun _ _ _ h=>h,fun _ _ _ h=>.inl h,hD⟩,⟨fun k cs hk=>by simp [jY] at hk,fun k1 k2 c1 c2 h1=>by simp [jY] at h1⟩,fun k c hk=>by simp [jY] at hk,fun t=>?_⟩
   show qC w D _ _ (kA (eF ds 0) t)
   rw[sget_init]
   simp only[Nat.zero_le,if_true,Nat.sub_zero]
   cases hd:ds[t]? with
   |none=>trivial
   |some d=>
    have ht:t<vs.length:=by rw[hvl];exact (List.getElem?_eq_some_iff.1 hd).1
    refine hargs.2 t _ d ?_ hd
    rw[Array.getD_eq_getD_getElem?,Array.getElem?_append_left (by simpa using ht)]
    simp [ht]
  refine wpIn_mono (h _ _ w 0 rfl hsim) fun e a w' ⟨st,⟨D',β,hs⟩,hq⟩=>?_
  have fin:(∃ ds,cD P st fn.results.toList ds/\retD ds=r)->LeavesInM Fence.wide 0 P fn a.tmps (FPost w D r) a.defers .returning w':=fun ⟨ds',h1,h2⟩=>
   leaves_marks hs.base.defers hs.slots (fun k cs hk=>hs.mem.ok k cs hk) hs.base.below.plain hs.base.dmono (fun t g o hd=>(hs.base.dnew t g o hd).imp id (fun h=>h.elim id False.elim)) hs.base.dok h1 h2
  cases e with
  |normal=>exact fin hq
  |ret=>exact fin hq
  |exit id=>exact hq.elim
  |goto l=>exact hq.elim
  |panic ch=>exact hq.elim
  |outgrown=>exact hq.elim⟩
theorem uW{P:Program}{f:FuncId}{fn:Func}{c:Code}{ds:List jT}{r:jT}(hf:P.funcs[f]?=some fn)(h:dR P ⟨0,fn.ntmps,none⟩ c (RetQ P fn.results.toList r) ⟨eF ds 0,[]⟩)(hb:fn.body=some c:=by exact rfl)(hc:callB P f=true:=by kernel_rfl)(hn:Nat.ble ds.length fn.ntmps=true:=by exact rfl):jW P f ds r:=fn_intro hf hb hc hn h
end
section
variable {P:Program} {n:Fr} {ops:Array Oper} {S S':SL} {B B':BS} {l:List Oper} {o:Oper} {news:List Nat} {acc0:List (List Nat × List Nat)}
end
section
variable {P:Program} {o:Oper} {S:Nat->SV}
theorem e_lda{T:TypeId}{x:Operand}{k off sz:Nat}{cs:List SV}{y:SV}(ho:o.op=.load T x)(hx:ev S x=.ref k off)(hs:qD P T=some (true,sz))(hl:Nat.ble (off+sz) cs.length=true)(hy:yD true ((cs.drop off).take sz)=y)(hm:yQ cs=false):uC P o S [(k,cs)] y :=
 hy▸e_load_ref ho hx hs (fun h=>by cases h) (Nat.le_of_ble_eq_true hl) hm
theorem e_ld1{T:TypeId}{x:Operand}{k off:Nat}{cs:List SV}{y:SV}(ho:o.op=.load T x)(hx:ev S x=.ref k off)(hs:qD P T=some (false,1))(hy:cs[off]?=some y)(hn:y.isMo=false):uC P o S [(k,cs)] y:=by
 have hlt:=(List.getElem?_eq_some_iff.1 hy).1
 have h:=e_load_ref (P:=P) (cs:=cs) ho hx hs (fun _=>rfl) (by omega) (mapCs_at hy hn)
 have e:(cs.drop off).take 1=[y]:=by
  rw[List.drop_eq_getElem_cons hlt]
  have:cs[off]=y:=(List.getElem?_eq_some_iff.1 hy).2
  simp [this]
 rw[e] at h
 exact h
theorem e_lca{T t:TypeId}{x:Operand}{off sz:Nat}{cs:List jT}{y:SV}(ho:o.op=.load T x)(hx:ev S x=.d (.cptr t cs off))(hs:qD P T=some (true,sz))(hl:Nat.ble (off+sz) cs.length=true)(hy:yD true (((cs.drop off).take sz).map .d)=y):uC P o S [] y :=
 hy▸e_load_cptr ho hx hs (fun h=>by cases h) (Nat.le_of_ble_eq_true hl)
theorem e_lc1{T t:TypeId}{x:Operand}{off:Nat}{cs:List jT}{y:jT}(ho:o.op=.load T x)(hx:ev S x=.d (.cptr t cs off))(hs:qD P T=some (false,1))(hy:cs[off]?=some y):uC P o S [] (.d y):=by
 have hlt:=(List.getElem?_eq_some_iff.1 hy).1
 have h:=e_load_cptr (P:=P) (cs:=cs) ho hx hs (fun _=>rfl) (by omega)
 have e:((cs.drop off).take 1).map SV.d=[.d y]:=by
  rw[List.drop_eq_getElem_cons hlt]
  have:cs[off]=y:=(List.getElem?_eq_some_iff.1 hy).2
  simp [this]
 rw[e] at h
 exact h
theorem e_pkt{c x y:Operand}{z:SV}(ho:o.op=.pick c x y)(hc:ev S c=.d (.val (.bool true)))(hx:ev S x=z):uC P o S [] z:=by
 have:=e_pick (P:=P) ho hc
 simpa [hx] using this
theorem e_pkf{c x y:Operand}{z:SV}(ho:o.op=.pick c x y)(hc:ev S c=.d (.val (.bool false)))(hy:ev S y=z):uC P o S [] z:=by
 have:=e_pick (P:=P) ho hc
 simpa [hy] using this
theorem e_ixs{T E t:TypeId}{x ix:Operand}{s:Nat}{es:List jT}{k:IntKind}{i:Int}{j:Nat}{cs:List jT}(ho:o.op=.indexAddr T x ix)(hT:uB P T=some (E,s))(hx:ev S x=.d (.sl t s es))(hi:ev S ix=.d (.val (.int k i)))
  (hj:i=(j:Int)) (he:es[j]?.map jT.cells=some cs):uC P o S [] (.d (.cptr t cs 0)):=by
 subst hj
 rw[Option.map_eq_some_iff] at he
 obtain ⟨e,h1,rfl⟩:=he
 exact e_index_sl ho hT hx hi (by omega) (by simpa using h1)
theorem e_ixo{T E t:TypeId}{x ix:Operand}{s b n q:Nat}{k:IntKind}{i:Int}{j:Nat}(ho:o.op=.indexAddr T x ix)(hT:uB P T=some (E,s))(hx:ev S x=.own b t s n)(hi:ev S ix=.d (.val (.int k i)))
  (hj:i=(j:Int)) (h1:j<n) (hq:j*s=q):uC P o S [] (.ref b q):=by
 subst hj;subst hq
 have h:=e_index_own (P:=P) ho hT hx hi (by omega) (by omega)
 simpa using h
theorem e_exD{x:Operand}{i:Nat}{ds:List jT}{d:jT}(ho:o.op=.extract x i)(hx:ev S x=.d (.tup ds))(hd:ds[i]?=some d):uC P o S [] (.d d):=e_extract ho hx hd
theorem e_fldv{T t:TypeId}{x:Operand}{f off sz:Nat}{cs:List jT}{y:SV}(ho:o.op=.field T x f)(hx:ev S x=.d (.agg cs))(hf:aP P T f=some (off,t))(hs:qD P t=some (true,sz))(hle:Nat.ble (off+sz) cs.length=true)(hy:yD true (((cs.drop off).take sz).map .d)=y):uC P o S [] y :=
 hy▸e_field ho hx hf hs (fun h=>by cases h) (Nat.le_of_ble_eq_true hle)
theorem e_fld1{T t:TypeId}{x:Operand}{f off:Nat}{cs:List jT}{y:SV}(ho:o.op=.field T x f)(hx:ev S x=.d (.agg cs))(hf:aP P T f=some (off,t))(hs:qD P t=some (false,1))(hle:Nat.ble (off+1) cs.length=true)(hy:yD false (((cs.drop off).take 1).map .d)=y):uC P o S [] y :=
 hy▸e_field ho hx hf hs (fun _=>rfl) (Nat.le_of_ble_eq_true hle)
theorem t_std{T:TypeId}{x y:Operand}{k off sz:Nat}{agg:Bool}{old cs:List SV}{d:jT}(ho:o.op=.store T x y)(hx:ev S x=.ref k off)(hy:ev S y=.d d)(hs:qD P T=some (agg,sz))(h1:d.ok1=true)(qL:d.cells.length=sz)(hle:Nat.ble (off+sz) old.length=true)
  (hc:patch old off (d.cells.map .d)=cs) (hm:yQ old=false):TOk P o S k old cs:=hc▸t_store ho hx hy hs (.inl ⟨d,rfl,h1,rfl⟩) (by simpa using qL) (Nat.le_of_ble_eq_true hle) hm
theorem t_st1{T:TypeId}{x y:Operand}{k off:Nat}{old cs:List SV}{d:jT}(ho:o.op=.store T x y)(hx:ev S x=.ref k off)(hy:ev S y=.d d)(hs:qD P T=some (false,1))(h1:d.ok1=true)(hcl:d.cells=[d])(hle:off<old.length)(hc:old.set off (.d d)=cs)(hm:yQ old=false):TOk P o S k old cs:=by
 have h:=t_store (P:=P) (old:=old) ho hx hy hs (.inl ⟨d,rfl,h1,rfl⟩) (by simp [hcl]) (by omega) hm
 have e:patch old off (d.cells.map .d)=old.set off (.d d):=by
  rw[hcl]
  apply List.ext_getElem?
  intro i
  rw[yS (by simp;omega),List.getElem?_set]
  simp only[List.map_cons,List.map_nil,List.length_cons,List.length_nil,Nat.zero_add]
  by_cases c1:i<off
  ·rw[if_pos c1,if_neg (by omega)]
  ·rw[if_neg c1]
   by_cases c2:off=i
   ·subst c2;simp [hle]
   ·rw[if_neg (by omega),if_neg c2]
 rw[e,hc] at h
 exact h
theorem e_cl{y:Operand}{xs:List Operand}{ats:Array TypeId}{f:FuncId}{ds:List jT}{r:jT}(hf:jW P f ds r)(ho:o.op=.call { callee:=.value y,args:=xs.toArray,argTypes:=ats })(hy:ev S y=.d (.val (.func (.func f) #[] #[])))(hx:xs.map (ev S)=ds.map .d):uC P o S [] (.d r):=e_call ho hy hx hf
end
theorem wi64{m r:Int}(h:m=r)(h1:-9223372036854775808<=r)(h2:r<=9223372036854775807):IntKind.i64.wrap m=r:=by
 subst h
 rw[IntKind.wrap_i64];omega
theorem wu64{m r:Int}(h:m=r)(h1:0<=r)(h2:r<=18446744073709551615):IntKind.u64.wrap m=r:=by
 subst h
 have:IntKind.u64.wrap m=m % 18446744073709551616:=by
  simp [IntKind.wrap,IntKind.bits,IntKind.signed]
 rw[this];omega
theorem wu32{m r:Int}(h:m=r)(h1:0<=r)(h2:r<=4294967295):IntKind.u32.wrap m=r:=by
 subst h
 have:IntKind.u32.wrap m=m % 4294967296:=by
  simp [IntKind.wrap,IntKind.bits,IntKind.signed]
 rw[this];omega
theorem wu8{m r:Int}(h:m=r)(h1:0<=r)(h2:r<=255):IntKind.u8.wrap m=r:=by
 subst h
 have:IntKind.u8.wrap m=m % 256:=by
  simp [IntKind.wrap,IntKind.bits,IntKind.signed]
 rw[this];omega
def bx(d:jT):List SV:=d.cells.map .d
def jC(g:Nat):jT:=.val (.int .u32 (g:Int))
def uZ(g:Int):jT:=.val (.int .i64 g)
section
variable {α:Type}
theorem own_get(F:α->jT)(L:List α)(j:Nat)(d:α)(h:j<L.length):(L.map (fun g=>SV.d (F g)))[j]?=some (.d (F (L.getD j d))):=by
 simp [List.getD,List.getElem?_eq_getElem h]
theorem ixm(F:α->jT)(L:List α)(j:Nat)(d:α)(h:j<L.length):((L.map F)[j]?).map jT.cells=some ((F (L.getD j d)).cells):=by
 simp [List.getD,List.getElem?_eq_getElem h]
theorem mapCs_own(F:α->jT)(L:List α):yQ (L.map (fun g=>SV.d (F g)))=false:=by
 rcases L with _ | ⟨a,_ | ⟨b,l⟩⟩<;>rfl
theorem own_len(F:α->jT)(L:List α)(j:Nat)(h:j<L.length):j<(L.map (fun g=>SV.d (F g))).length:=by simpa using h
theorem own_set(F:α->jT)(L:List α)(j:Nat)(v:α):(L.map (fun g=>SV.d (F g))).set j (.d (F v))=(L.set j v).map (fun g=>SV.d (F g)):=by
 rw[List.map_set]
theorem own_zero(F:α->jT)(m:Nat)(z:α):((List.replicate m [F z]).flatten.map SV.d)=(List.replicate m z).map (fun g=>SV.d (F g)):=by
 induction m with
 |zero=>rfl
 |succ m ih=>
  rw[List.replicate_succ,List.replicate_succ,List.flatten_cons,List.map_append,ih]
  rfl
theorem flat_one(F:α->jT)(hF:∀ g,(F g).cells=[F g])(L:List α):kR (L.map F)=L.map F:=by
 induction L with
 |nil=>rfl
 |cons x l ih=>rw[List.map_cons,nZ,ih,hF];rfl
theorem uM(F:α->jT)(L:List α)(hF:∀ g,(F g).cells=[F g]):∀ e∈L.map F,e.cells.length=1:=by
 intro e he
 obtain ⟨g,_,rfl⟩:=List.mem_map.1 he
 rw[hF];rfl
theorem vE(F:α->jT)(L:List α)(hF:∀ g,(F g).cells=[F g]){m:Nat}(h:L.length=m):(L.map (fun g=>SV.d (F g))).take (m*1)=(kR (L.map F)).map .d:=by
 rw[flat_one F hF,List.map_map,Nat.mul_one,<- h]
 rw[List.take_of_length_le (by simp)]
 rfl
theorem uD(F:α->jT)(L:List α){m:Nat}(h:L.length=m):(L.map F).length=m:=by simpa using h
end
section
variable {P:Program} {o:Oper} {S:Nat->SV}
theorem e_ln{T E t:TypeId}{x:Operand}{s:Nat}{es:List jT}{r:Int}(ho:o.op=.call { callee:=.builtin .len,args:=#[x],argTypes:=#[T] })(hT:uB P T=some (E,s))(hx:ev S x=.d (.sl t s es))(hr:(es.length:Int)=r):uC P o S [] (.d (.val (.int .i64 r))):=hr▸e_len_sl ho hT hx
theorem e_slc{T E t:TypeId}{x:Operand}{lo hi:Option Operand}{s l h:Nat}{kl kh:IntKind}{es es':List jT}(ho:o.op=.slice T x lo hi none)(hT:uB P T=some (E,s))(hx:ev S x=.d (.sl t s es))(hlo:optInt S lo kl 0 l)(hhi:optInt S hi kh es.length h)
  (h1:l<=h) (h2:h<=es.length) (he:(es.take h).drop l=es'):uC P o S [] (.d (.sl t s es')):=he▸e_slice ho hT hx hlo hhi h1 h2
theorem n_mks{T E:TypeId}{l c:Operand}{s n m bytes:Nat}{kl kc:IntKind}{zv:List Value}{zd:List jT}{cs:List SV}(k:Nat)(ho:o.op=.makeSlice T l c)(hT:uB P T=some (E,s))(hz:vP P E=some zv)(hzd:dV zv zd)(hzl:zd.length=s)(hby:vJ P E=some bytes)
  (hl:ev S l=.d (.val (.int kl (n:Int)))) (hc:ev S c=.d (.val (.int kc (m:Int)))) (hnm:n<=m) (hb:bytes*m<=281474976710656) (hm:m<=maxLen) (hcs:(List.replicate m zd).flatten.map .d=cs):NOk P o S k cs (.own k E s n):=hcs▸n_makeSlice k ho hT hz hzd hzl hby hl hc hnm hb hm
theorem e_maxn{T T':TypeId}{x y:Operand}{k:IntKind}{m n r:Int}(ho:o.op=.call { callee:=.builtin .max,args:=#[x,y],argTypes:=#[T,T'] })(hx:ev S x=.d (.val (.int k m)))(hy:ev S y=.d (.val (.int k n)))(hr:(if m<n then n else m)=r):uC P o S [] (.d (.val (.int k r))):=hr▸e_max ho hx hy
theorem kQ{st:PS}{t:Tmp}{T:TypeId}{k sz:Nat}{cs:List SV}{d:jT}{rs:List ResultVar}{ds:List jT}(h:kA st.sl t=.ref k 0)(hb:jY st.bs k=some cs)(hs:qD P T=some (true,sz))(hl:Nat.ble sz cs.length=true)(hg:yD true (cs.take sz)=.d d)(hr:cD P st rs ds)(h0:Nat.ble 1 sz=true:=by kernel_rfl):cD P st (.cell t T::rs) (d::ds) :=
 .cell h hb hs (fun h=>by cases h) (Nat.le_of_ble_eq_true hl) hg hr (Nat.le_of_ble_eq_true h0)
theorem res_1{st:PS}{t:Tmp}{T:TypeId}{k:Nat}{cs:List SV}{d:jT}{rs:List ResultVar}{ds:List jT}(h:kA st.sl t=.ref k 0)(hb:jY st.bs k=some cs)(hs:qD P T=some (false,1))(hl:Nat.ble 1 cs.length=true)(hg:yD false (cs.take 1)=.d d)(hr:cD P st rs ds):cD P st (.cell t T::rs) (d::ds) :=
 .cell h hb hs (fun _=>rfl) (Nat.le_of_ble_eq_true hl) hg hr Nat.one_pos
end
theorem tmod_nat(a b:Nat):Int.tmod (a:Int) (b:Int)=((a % b:Nat):Int):=rfl
theorem quo_le{a b m:Nat}(h:a<=m):((a / b:Nat):Int)<=(m:Int):=Int.ofNat_le.2 (Nat.le_trans (Nat.div_le_self a b) h)
theorem quo_u64(a b:Nat)(h:a<=18446744073709551615:=by decide):IntKind.u64.wrap (Int.tdiv (a:Int) (b:Int))=((a / b:Nat):Int) :=
 wu64 rfl (Int.natCast_nonneg _) (quo_le h)
end Go.Fid
