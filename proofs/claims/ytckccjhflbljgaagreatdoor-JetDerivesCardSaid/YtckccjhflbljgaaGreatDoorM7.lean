/- Part 7 of a proof: rules, plain facts, and functions walked. -/
import Derived.Test.YtckccjhflbljgaaGreatDoorM6
import Derived.Test.YtckccjhflbljgaaGreatDoorM5
import Derived.Test.YtckccjhflbljgaaGreatDoorChecked
import Derived.LoopNIn
set_option linter.all false
namespace Go.Fid
open List
open Go.RowKit (Below)
theorem publish_core{C:Ctx}{a:Act}{w:World}{st:PS}{D:kV}{β:kX}{k s m:Nat}{T:TypeId}{cs:List SV}{es:List jY}(h:iJ C a w st D β)(hb:kC st.bs k=some cs)(hes:∀ e∈es,e.cells.length=s)(hl:es.length=m)(hc:cs.take (m*s)=(qK es).map .d) :
  ∃ D',iJ C a w ⟨st.sl,(k,none)::st.bs⟩ D' β/\∀ v D2,kZ w D2 β v (.own k T s m)->uS w D' v (.sl T s es):=by
 have hfl:=vQ hes
 have hbs:∀ {j:Nat} {c:List SV},kC ((k,none)::st.bs) j=some c->j≠k/\kC st.bs j=some c:=fun {j c} hj=>by
  rw[jI] at hj
  split at hj
  ·cases hj
  ·rename_i e;exact ⟨λe'=>e e'.symm,hj⟩
 rcases h.mem.ok k cs hb with g1 | ⟨b,vs,T',g1,g2,g3,g4,g5⟩
 ·refine ⟨D,⟨h.base,⟨λj c hj=>h.mem.ok j c (hbs hj).2,λj1 j2 c1 c2 q1 q2=>h.mem.inj j1 j2 c1 c2 (hbs q1).2 (hbs q2).2⟩,λj c hj=>h.high j c (hbs hj).2,h.slots⟩,λv D2 hv=>?_⟩
  rcases hv with ⟨_,e2,e3⟩ | ⟨b,cap,vs,h1,_,h3,_⟩
  ·rw[e2] at hl
   have hn:es=[]:=eq_nil_of_length_eq_zero hl
   subst hn
   rw[e3];exact bB w D T s
  ·exact (g1.at_cells h1 h3).elim
 ·have hlt:=qW g2
  have hmono:∀ t' g o,D t' g o->(D t' g o\/(t'=T/\g=b/\o<m*s))/\w.cell? ⟨g,o,none⟩=w.cell? ⟨g,o,none⟩:=λt' g o hd=>⟨.inl hd,rfl⟩
  have hS:∀ {v x},kZ w D β v x->kZ w (λt' g o=>D t' g o\/(t'=T/\g=b/\o<m*s)) β v x:=fun {v x} hr=>by
   cases x with
   |d x=>exact uS.mono hmono hr
   |ref k o=>exact hr
   |own k t s n=>exact hr
   |clo f ks=>exact hr
   |emp=>exact hr
   |view k o n=>exact hr
   |mp k=>exact hr
   |mo ob=>exact hr
   |pr k t s n x=>obtain ⟨v1,v2,e,h1,h2⟩:=hr;exact ⟨v1,v2,e,h1,uS.mono hmono h2⟩
   |refx k o b=>exact hr
   |mpx k b=>exact hr
   |bnd f k o=>exact hr
   |ownx k t s n u=>exact hr
   |junk=>trivial
  refine ⟨λt' g o=>D t' g o\/(t'=T/\g=b/\o<m*s),⟨⟨h.base.defers,h.base.size,h.base.keep,h.base.oth,h.base.pin,h.base.below,λt' g o hd=>.inl (h.base.dmono _ _ _ hd),λt' g o hd=>?_,h.base.dok.more (λ_ _ _ hd=>.inl hd) λt' g o hd=>?_⟩,⟨λj c hj=>?_,λj1 j2 c1 c2 q1 q2=>h.mem.inj j1 j2 c1 c2 (hbs q1).2 (hbs q2).2⟩,λj c hj=>h.high j c (hbs hj).2,λu=>hS (h.slots u)⟩,λv D2 hv=>?_⟩
  ·rcases hd with hd | ⟨_,e,_⟩
   ·exact h.base.dnew _ _ _ hd
   ·subst e;exact .inr (h.high k cs hb g g1)
  ·rcases hd with hd | ⟨_,e,_⟩
   ·exact h.base.dok.lt _ _ _ hd
   ·subst e;exact hlt
  ·obtain ⟨hne,hj'⟩:=hbs hj
   rcases h.mem.ok j c hj' with q | ⟨b2,vs2,T2,q1,q2,q3,q4,q5⟩
   ·exact .inl (q.more (g:=b) (λt' g' o hd=>by rcases hd with hd | ⟨_,e,_⟩;exact .inl hd;exact .inr e) (λe=>hne (h.mem.inj j k _ _ hj' hb b e g1)))
   ·refine .inr ⟨b2,vs2,T2,q1,q2,q3,λi x hx=>?_,λt' o hd=>?_⟩
    ·obtain ⟨u,e1,e2,e3⟩:=q4 i x hx
     exact ⟨u,e1,e2,hS e3⟩
    ·rcases hd with hd | ⟨_,e,_⟩
     ·exact q5 _ _ hd
     ·subst e;exact hne (h.mem.inj j k _ _ hj' hb b2 q1 g1)
  ·rcases hv with ⟨e1,_,_⟩ | ⟨b2,cap,vs2,h1,h2,h3,h4,h5,h6⟩
   ·rw[e1] at g1;cases g1
   ·obtain rfl:b=b2:=by rw[h1] at g1;injection g1 with g1;exact g1.symm
    rw[h3] at g2
    injection g2 with g2
    injection g2 with g2 gT
    subst g2;subst gT
    rw[h2]
    have key:∀ (i:Nat) d,(qK es)[i]?=some d->∃ u,vs2[i]?=some u/\u.oneCell'=true/\uS w D u d:=λi d hd=>by
     have hi:i<m*s:=by
      have:=(List.getElem?_eq_some_iff.1 hd).1
      rw[hfl,hl] at this;exact this
     have e1:cs[i]?=some (.d d):=by
      have:(cs.take (m*s))[i]?=some (.d d):=by rw[hc];simp [hd]
      rwa [getElem?_take_of_lt hi] at this
     exact g4 i _ e1
    have hcell:∀ i,w.cell? ⟨b,i,none⟩=vs2[i]?:=λi=>cell_of_row w b i vs2 T (0,0) h3
    refine uS.sl b 0 (λi=>vs2.getD i undef) hl.symm h5 h6 hes (λ_=>rfl) (λi hi=>.inr ⟨rfl,rfl,by rw[Nat.zero_add,<- hl,<- hfl];exact hi⟩) (λi hi=>?_) (λi hi=>?_) (λi d hd=>?_)
    ·obtain ⟨x,q1,q2,q3⟩:=key i _ (getElem?_eq_getElem hi)
     rw[Nat.zero_add,hcell,Array.getD_eq_getD_getElem?,q1];rfl
    ·obtain ⟨x,q1,q2,q3⟩:=key i _ (getElem?_eq_getElem hi)
     rw[Array.getD_eq_getD_getElem?,q1];exact q2
    ·obtain ⟨x,q1,q2,q3⟩:=key i d hd
     rw[Array.getD_eq_getD_getElem?,q1]
     exact uS.mono hmono q3
theorem publishB{st:PS}{j k s m:Nat}{T:TypeId}{cs:List SV}{es:List jY}(hj:kC st.bs j=some [.own k T s m])(hjk:Nat.beq k j=false)(hb:kC st.bs k=some cs)(hes:∀ e∈es,e.cells.length=s)(hl:es.length=m)(hc:cs.take (m*s)=(qK es).map .d) :
  xI st ⟨st.sl,(j,some [.d (.sl T s es)])::(k,none)::st.bs⟩:=λC a w ⟨D,β,h⟩=>by
 obtain ⟨D',h',hown⟩:=publish_core (T:=T) h hb hes hl hc
 have hne:k≠j:=fH hjk
 have hj2:kC ((k,none)::st.bs) j=some [.own k T s m]:=by rw[jI,if_neg hne];exact hj
 refine ⟨D',β,h'.base,⟨λi c hi=>?_,λi1 i2 c1 c2 q1 q2=>?_⟩,λi c hi=>?_,h'.slots⟩
 ·rw[jI] at hi
  split at hi
  ·rename_i e;subst e
   injection hi with hi;subst hi
   rcases h'.mem.ok j _ hj2 with (⟨_,q⟩ | ⟨_,_,_,_,_,q,_⟩) | ⟨b,vs,T2,q1,q2,q3,q4,q5⟩
   ·cases q
   ·cases q
   ·refine .inr ⟨b,vs,T2,q1,q2,by simpa using q3,λi x hx=>?_,q5⟩
    rcases i with _ | i
    ·obtain ⟨u,e1,e2,e3⟩:=q4 0 _ rfl
     simp at hx;subst hx
     exact ⟨u,e1,e2,hown u D' e3⟩
    ·simp at hx
  ·exact h'.mem.ok i c hi
 ·have conv:∀ {i c},kC ((j,some [SV.d (.sl T s es)])::(k,none)::st.bs) i=some c->∃ c',kC ((k,none)::st.bs) i=some c':=fun {i c} hi=>by
   rw[jI] at hi
   split at hi
   ·rename_i e;subst e;exact ⟨_,hj2⟩
   ·exact ⟨c,hi⟩
  obtain ⟨c1',r1⟩:=conv q1
  obtain ⟨c2',r2⟩:=conv q2
  exact h'.mem.inj i1 i2 c1' c2' r1 r2
 ·rw[jI] at hi
  split at hi
  ·rename_i e;subst e;exact h'.high j _ hj2
  ·exact h'.high i c hi
section
variable {P:Program} {o:Oper} {S:Nat->SV}
theorem t_sto{T:TypeId}{x y:Operand}{k j E s n:Nat}{u:SV}(ho:o.op=.store T x y)(hx:ev S x=.ref k 0)(hy:ev S y=.own j E s n)(hs:qD P T=some (false,1))(hm:u.isMo=false):TOk P o S k [u] [.own j E s n] :=
 t_store (old:=[u]) ho hx hy hs (.inr ⟨⟨j,E,s,n,rfl⟩,rfl⟩) rfl (Nat.le_refl _) (mapCs_at (i:=0) rfl hm)
inductive eK (k:Nat) (T:TypeId) (s m:Nat) (es:List jY):List SV->List jY->Prop
 |nil:eK k T s m es [] []
 |d {x:jY} {zs:List SV} {ds:List jY} (h:eK k T s m es zs ds):eK k T s m es (.d x::zs) (x::ds)
 |o {zs:List SV} {ds:List jY} (h:eK k T s m es zs ds):eK k T s m es (.own k T s m::zs) (.sl T s es::ds)
theorem eK.len{k:Nat}{T:TypeId}{s m:Nat}{es:List jY}{zs:List SV}{ds:List jY}(h:eK k T s m es zs ds):zs.length=ds.length:=by
 induction h with
 |nil=>rfl
 |d h ih=>simp [ih]
 |o h ih=>simp [ih]
theorem eK.rep{k:Nat}{T:TypeId}{s m:Nat}{es:List jY}{w:World}{D D':kV}{β:kX}(h1:∀ v x,uS w D v x->uS w D' v x)(h2:∀ v,kZ w D β v (.own k T s m)->uS w D' v (.sl T s es)){zs:List SV}{ds:List jY}(h:eK k T s m es zs ds) :
  ∀ {vs:List Value},vs.length=zs.length->(∀ (i:Nat) v x,vs[i]?=some v->zs[i]?=some x->kZ w D β v x)->∀ (i:Nat) v d,vs[i]?=some v->ds[i]?=some d->uS w D' v d:=by
 induction h with
 |nil=>intro vs _ _ i v d _ hd;simp at hd
 |d h ih=>
  rename_i x zs ds
  intro vs hl hr i v d' hv hd
  rcases vs with _ | ⟨v0,vs⟩
  ·simp at hl
  ·rcases i with _ | i
   ·simp at hv hd;subst hv;subst hd;exact h1 _ _ (hr 0 _ _ rfl rfl)
   ·exact ih (by simpa using hl) (λi v x h3 h4=>hr (i+1) v x (by simpa using h3) (by simpa using h4)) i v d' (by simpa using hv) (by simpa using hd)
 |o h ih=>
  intro vs hl hr i v d' hv hd
  rcases vs with _ | ⟨v0,vs⟩
  ·simp at hl
  ·rcases i with _ | i
   ·simp at hv hd;subst hv;subst hd;exact h2 _ (hr 0 _ _ rfl rfl)
   ·exact ih (by simpa using hl) (λi v x h3 h4=>hr (i+1) v x (by simpa using h3) (by simpa using h4)) i v d' (by simpa using hv) (by simpa using hd)
theorem e_clo{y:Operand}{xs:List Operand}{ats:Array TypeId}{f:FuncId}{ds es:List jY}{u:Value}{zs:List SV}{cs:List SV}{k T s m:Nat}(hf:jP P f ds (.val u))(ho:o.op=.call { callee:=.value y,args:=xs.toArray,argTypes:=ats })(hy:ev S y=.d (.val (.func (.func f) #[] #[])))(hx:xs.map (ev S)=zs)
  (hz:eK k T s m es zs ds) (hes:∀ e∈es,e.cells.length=s) (hl:es.length=m) (hc:cs.take (m*s)=(qK es).map .d):uP P o S [(k,cs)] (.d (.val u)) :=
 λa w D β Q hop hrd hD=>by
  have hyv:=hop y (by simp [ho,Op.operands,Call.operands])
  rw[hy] at hyv
  have hyv':=vA hyv
  have hrep:∀ (i:Nat) v x,(xs.map a.eval)[i]?=some v->zs[i]?=some x->kZ w D β v x:=λi v x hv hz'=>by
   rw[getElem?_map,Option.map_eq_some_iff] at hv
   obtain ⟨q,hqi,rfl⟩:=hv
   have hm:=hop q (by simp [ho,Op.operands,Call.operands,mem_of_getElem? hqi])
   have hi:=congrArg (λl:List SV=>l[i]?) hx
   simp only[getElem?_map,hqi,hz',Option.map_some,Option.some.injEq] at hi
   rw[hi] at hm
   exact hm
  have qM:(xs.map a.eval).length=zs.length:=by rw[<- hx];simp
  have hrun:(execOp a.eval o).run P w=.ok (.enter f (xs.map a.eval).toArray) w:=by
   simp only[execOp,ho,resolve,Deferred.ofValue,hyv',Sem.run_bind,Sem.run_pure,Result.andThen_ok,invoke,Array.empty_append,Array.append_empty]
   rw[xJ hf.may]
   simp
  have hfl:=vQ hes
  have hblk:=hrd (k,cs) (by simp)
  have key:∃ D',iU D' w/\(∀ v x,uS w D v x->uS w D' v x)/\(∀ v,kZ w D β v (.own k T s m)->uS w D' v (.sl T s es)):=by
   rcases hblk with g1 | ⟨b,vs,T',g1,g2,g3,g4,g5⟩
   ·refine ⟨D,hD,λ_ _ h=>h,λv hv=>?_⟩
    rcases hv with ⟨_,e2,e3⟩ | ⟨b,cap,vs,h1,_,h3,_⟩
    ·rw[e2] at hl
     have hn:es=[]:=eq_nil_of_length_eq_zero hl
     subst hn
     rw[e3];exact bB w D T s
    ·exact (g1.at_cells h1 h3).elim
   ·have hmono:∀ t' g o,D t' g o->(D t' g o\/(t'=T/\g=b/\o<m*s))/\w.cell? ⟨g,o,none⟩=w.cell? ⟨g,o,none⟩:=λt' g o hd=>⟨.inl hd,rfl⟩
    refine ⟨λt' g o=>D t' g o\/(t'=T/\g=b/\o<m*s),hD.more (λ_ _ _ hd=>.inl hd) λt' g o hd=>?_,λv x hr=>uS.mono hmono hr,λv hv=>?_⟩
    ·rcases hd with hd | ⟨_,e,_⟩
     ·exact hD.lt _ _ _ hd
     ·subst e;exact qW g2
    ·rcases hv with ⟨e1,_,_⟩ | ⟨b2,cap,vs2,h1,h2,h3,h4,h5,h6⟩
     ·rw[e1] at g1;cases g1
     ·obtain rfl:b=b2:=by rw[h1] at g1;injection g1 with g1;exact g1.symm
      rw[h3] at g2
      injection g2 with g2
      injection g2 with g2 gT
      subst g2;subst gT
      rw[h2]
      have key:∀ (i:Nat) d,(qK es)[i]?=some d->∃ u,vs2[i]?=some u/\u.oneCell'=true/\uS w D u d:=λi d hd=>by
       have hi:i<m*s:=by
        have:=(List.getElem?_eq_some_iff.1 hd).1
        rw[hfl,hl] at this;exact this
       have e1:cs[i]?=some (.d d):=by
        have:(cs.take (m*s))[i]?=some (.d d):=by rw[hc];simp [hd]
        rwa [getElem?_take_of_lt hi] at this
       exact g4 i _ e1
      have hcell:∀ i,w.cell? ⟨b,i,none⟩=vs2[i]?:=λi=>cell_of_row w b i vs2 T (0,0) h3
      refine uS.sl b 0 (λi=>vs2.getD i undef) hl.symm h5 h6 hes (λ_=>rfl) (λi hi=>.inr ⟨rfl,rfl,by rw[Nat.zero_add,<- hl,<- hfl];exact hi⟩) (λi hi=>?_) (λi hi=>?_) (λi d hd=>?_)
      ·obtain ⟨x,q1,q2,q3⟩:=key i _ (getElem?_eq_getElem hi)
       rw[Nat.zero_add,hcell,Array.getD_eq_getD_getElem?,q1];rfl
      ·obtain ⟨x,q1,q2,q3⟩:=key i _ (getElem?_eq_getElem hi)
       rw[Array.getD_eq_getD_getElem?,q1];exact q2
      ·obtain ⟨x,q1,q2,q3⟩:=key i d hd
       rw[Array.getD_eq_getD_getElem?,q1]
       exact uS.mono hmono q3
  obtain ⟨D',hD',hm1,hm2⟩:=key
  have hargs:Args w D' (xs.map a.eval) ds:=⟨qM.trans hz.len,hz.rep hm1 hm2 qM hrep⟩
  refine dG hrun ((hf.run w D' _ hD' hargs).mono λe w' h=>?_)
  obtain ⟨v,D2,he,h1,h2,h3⟩:=h
  refine ⟨v,he,v,D,rfl,h1,⟨λ_ _ _ h=>h,λ_ _ _ h=>.inl h⟩,?_⟩
  rw[vA h3]
  exact .val u
def OPost(w:World)(D:kV)(T s n:Nat)(es:List jY)(e:Ending)(w':World):Prop :=
 ∃ v D' b cap vs,e=.returned v/\Below w.heap.size w w'/\aJ D D' w w'/\w.heap.size<=b/\(∀ t o,¬ D' t b o)/\v=.slice (some ⟨b,0,none⟩) n cap/\w'.heap[b]?=some (.cells vs T (0,0))/\vs.size=cap*s/\n<=cap/\cap<=maxLen/\es.length<=vs.size /\
  (∀ (i:Nat) d,es[i]?=some d->∃ u,vs[i]?=some u/\u.oneCell'=true/\uS w' D' u d)
structure TakesO (P:Program) (f:FuncId) (ds:List jY) (T s n:Nat) (es:List jY):Prop where
 may:callB P f=true
 run:∀ (w:World) (D:kV) (vs:List Value),iU D w->Args w D vs ds->Calls P f vs.toArray w (OPost w D T s n es)
theorem n_own{y:Operand}{xs:List Operand}{ats:Array TypeId}{f:FuncId}{ds es:List jY}{T s n:Nat}{cs:List SV}(k:Nat)(hf:TakesO P f ds T s n es)(ho:o.op=.call { callee:=.value y,args:=xs.toArray,argTypes:=ats })(hy:ev S y=.d (.val (.func (.func f) #[] #[])))(hx:xs.map (ev S)=ds.map .d)(hc:es.map .d=cs):NOk P o S k cs (.own k T s n) :=
 λa w D β Q hop hD=>by
  subst hc
  have hyv:=hop y (by simp [ho,Op.operands,Call.operands])
  rw[hy] at hyv
  have hyv':=vA hyv
  have hargs:Args w D (xs.map a.eval) ds:=by
   have hl:xs.length=ds.length:=by simpa using congrArg List.length hx
   refine ⟨by simpa using hl,λi v d hv hd=>?_⟩
   rw[getElem?_map,Option.map_eq_some_iff] at hv
   obtain ⟨x,hxi,rfl⟩:=hv
   have hm:=hop x (by simp [ho,Op.operands,Call.operands,mem_of_getElem? hxi])
   have hi:=congrArg (λl:List SV=>l[i]?) hx
   simp only[getElem?_map,hxi,hd,Option.map_some,Option.some.injEq] at hi
   rw[hi] at hm
   exact hm
  have hrun:(execOp a.eval o).run P w=.ok (.enter f (xs.map a.eval).toArray) w:=by
   simp only[execOp,ho,resolve,Deferred.ofValue,hyv',Sem.run_bind,Sem.run_pure,Result.andThen_ok,invoke,Array.empty_append,Array.append_empty]
   rw[xJ hf.may]
   simp
  refine dG hrun ((hf.run w D _ hD hargs).mono λe w' h=>?_)
  obtain ⟨v,D',b,cap,vs,he,h1,h2,h3,h4,h5,h6,h7,h8,h9,h10,h11⟩:=h
  have hβ:β.set k b k=some b:=by simp [kX.set]
  refine ⟨v,he,v,D',b,rfl,h1,h2,h3,qW h6,h4,.inr ⟨b,vs,T,hβ,h6,by simpa using h10,λi x hx=>?_,h4⟩,.inr ⟨b,cap,vs,hβ,h5,h6,h7,h8,h9⟩⟩
  rw[getElem?_map,Option.map_eq_some_iff] at hx
  obtain ⟨d,hd,rfl⟩:=hx
  exact h11 i d hd
theorem leaves_own{a:Act}{v:Value}{w w0:World}{fn:Func}{D D':kV}{T s n b cap:Nat}{es:List jY}{vs:Array Value}{ds:List Deferred}(hd:DfOk w0.heap.size w ds)(hres:∀ w',(results fn a.tmps).run P w'=.ok v w')
  (nC:Below w0.heap.size w0 w) (hup:∀ t g o,D t g o->D' t g o) (hnew:∀ t g o,D' t g o->D t g o\/w0.heap.size<=g) (hdok:iU D' w) (h3:w0.heap.size<=b) (h4:∀ t o,¬ D' t b o) (h5:v=.slice (some ⟨b,0,none⟩) n cap)
  (h6:w.heap[b]?=some (.cells vs T (0,0))) (h7:vs.size=cap*s) (h8:n<=cap) (h9:cap<=maxLen) (h10:es.length<=vs.size) (h11:∀ (i:Nat) d,es[i]?=some d->∃ u,vs[i]?=some u/\u.oneCell'=true/\uS w D' u d) :
  LeavesInM Fence.wide 0 P fn a.tmps (OPost w0 D T s n es) ds .returning w:=by
 induction ds generalizing w with
 |nil=>
  refine ⟨v,hres w,v,D',b,cap,vs,rfl,nC,⟨hup,λt g o hd=>?_⟩,h3,h4,h5,h6,h7,h8,h9,h10,h11⟩
  rcases hnew t g o hd with q | q
  ·exact .inl q
  ·exact .inr ⟨q,hdok.lt _ _ _ hd⟩
 |cons d ds ih=>
  cases hd with
  |cons hqb hqh h3' hr=>
   rename_i q
   have hne:b≠q:=λe=>by subst e;rw[h6] at hqh;cases hqh
   refine ⟨by simp,.inl ⟨q,_,rfl,run_takeDeferred hqh,ih (hr.keep λq' hq' ⟨d,hd,e⟩=>?_) (turned_below nC hqb) (hdok.kept (by simp [World.putObj]) λt g o _=>nN hqh rfl rfl g o) ((World.putObj_heap_other hne).trans h6) (λi d hd=>?_)⟩⟩
   ·have hne:q'≠q:=λe'=>h3' d hd (e'▸e)
    exact (World.putObj_heap_other hne).trans hq'
   ·obtain ⟨u,e1,e2,e3⟩:=h11 i d hd
    exact ⟨u,e1,e2,aF (β:=λ_=>none) (x:=.d d) hqh rfl rfl rfl e3⟩
def RetO(rs:List ResultVar)(T s n:Nat)(es:List jY):Exit->PS->Prop
 |.ret,st=>∃ t k,rs=[.tmp t]/\kD st.sl t=.own k T s n/\∃ cs,kC st.bs k=some cs/\es.length<=cs.length/\∀ (i:Nat) d,es[i]?=some d->cs[i]?=some (.d d)
 |.normal,st=>∃ t k,rs=[.tmp t]/\kD st.sl t=.own k T s n/\∃ cs,kC st.bs k=some cs/\es.length<=cs.length/\∀ (i:Nat) d,es[i]?=some d->cs[i]?=some (.d d)
 |_,_=>False
theorem own_prefix{α:Type}(F:α->jY){L L':List α}{j:Nat}(h:L=L'.take j):(L.map F).length<=(L'.map (λg=>SV.d (F g))).length/\∀ (i:Nat) d,(L.map F)[i]?=some d->(L'.map (λg=>SV.d (F g)))[i]?=some (.d d):=by
 subst h
 refine ⟨by simp;omega,λi d hd=>?_⟩
 rw[getElem?_map,Option.map_eq_some_iff] at hd
 obtain ⟨g,hg,rfl⟩:=hd
 have hi:i<(L'.take j).length:=(List.getElem?_eq_some_iff.1 hg).1
 rw[length_take] at hi
 rw[getElem?_take_of_lt (by omega)] at hg
 rw[getElem?_map,hg]
 rfl
theorem fn_introO{f:FuncId}{fn:Func}{c:Code}{ds:List jY}{T s n:Nat}{es:List jY}(hf:P.funcs[f]?=some fn)(hb:fn.body=some c)(hc:callB P f=true)(hn:Nat.ble ds.length fn.ntmps=true)(hpos:0<n)
  (h:eM P ⟨0,fn.ntmps,none⟩ c (RetO fn.results.toList T s n es) ⟨fX ds 0,[]⟩):TakesO P f ds T s n es :=
 ⟨hc,λw D vs hD hargs=>by
  refine (callsIn_wide (n:=0)).1 (callsIn_of_wp_marks hf hb trivial ?_)
  have hle:ds.length<=fn.ntmps:=Nat.le_of_ble_eq_true hn
  have hvl:=hargs.1
  have hsim:dQ ⟨w,D,w,#[],⟨0,fn.ntmps,none⟩,λ_=>False⟩ { tmps:=vs.toArray++Array.replicate (fn.ntmps-vs.toArray.size) undef,defers:=[] } w ⟨fX ds 0,[]⟩:=by
   refine ⟨D,λ_=>none,⟨.nil,by simp;omega,λ_ _ _ _=>rfl,λ_ _ h _ _=>h,λt ht=>absurd ht (Nat.not_lt_zero t),.of (Below.refl _ _),λ_ _ _ h=>h,λ_ _ _ h=>.inl h,hD⟩,⟨λk cs hk=>by simp [kC] at hk,λk1 k2 c1 c2 h1=>by simp [kC] at h1⟩,λk c hk=>by simp [kC] at hk,λt=>?_⟩
   show kZ w D _ _ (kD (fX ds 0) t)
   rw[sget_init]
   simp only[Nat.zero_le,if_true,Nat.sub_zero]
   cases hd:ds[t]? with
   |none=>trivial
   |some d=>
    have ht:t<vs.length:=by rw[hvl];exact (List.getElem?_eq_some_iff.1 hd).1
    refine hargs.2 t _ d ?_ hd
    rw[Array.getD_eq_getD_getElem?,Array.getElem?_append_left (by simpa using ht)]
    simp [ht]
  refine wpIn_mono (h _ _ w 0 rfl hsim) λe a w' ⟨st,⟨D',β,hs⟩,hq⟩=>?_
  have fin:(∃ t k,fn.results.toList=[.tmp t]/\kD st.sl t=.own k T s n/\∃ cs,kC st.bs k=some cs/\es.length<=cs.length/\∀ (i:Nat) d,es[i]?=some d->cs[i]?=some (.d d))->LeavesInM Fence.wide 0 P fn a.tmps (OPost w D T s n es) a.defers .returning w':=λ⟨t,k,h1,h2,cs,h3,h3l,h3c⟩=>by
   have ht:=hs.slots t
   rw[h2] at ht
   rcases ht with ⟨_,q,_⟩ | ⟨b,cap,vs',g1,g2,g3,g4,g5,g6⟩
   ·omega
   ·rcases hs.mem.ok k _ h3 with q | ⟨b',vs2,T2,q1,q2,q3,q4,q5⟩
    ·exact (q.at_cells g1 g3).elim
    ·obtain rfl:b=b':=by rw[g1] at q1;injection q1
     rw[g3] at q2
     injection q2 with q2
     injection q2 with q2 qT
     subst q2;subst qT
     have hr:fn.results=#[.tmp t]:=by rw[<- Array.toList_inj,h1]
     refine leaves_own (a:=a) hs.base.defers (λw2=>?_) hs.base.below.plain hs.base.dmono (λt g o hd=>(hs.base.dnew t g o hd).imp id (λh=>h.elim id False.elim)) hs.base.dok ((hs.high k _ h3 b g1).elim id False.elim) q5 g2 g3 g4 g5 g6 (by omega) (λi d hd=>q4 i (.d d) (h3c i d hd))
     rw[lT,hr]
     simp [resF]
  cases e with
  |normal=>exact fin hq
  |ret=>exact fin hq
  |exit id=>exact hq.elim
  |goto l=>exact hq.elim
  |panic ch=>exact hq.elim
  |outgrown=>exact hq.elim⟩
end
def FrB(k:Nat)(B:BS):Prop:=(B.all λp=>(!(Nat.beq p.1 k))&&match p.2 with
  |some cs=>!(qI k cs)
  |none=>true)=true
theorem frb_nil(k:Nat):FrB k []:=rfl
theorem frb_none{k j:Nat}{B:BS}(h:Nat.beq j k=false)(hB:FrB k B):FrB k ((j,none)::B):=by
 unfold FrB at *
 rw[all_cons,hB,h];rfl
theorem frb_cs{k j:Nat}{cs:List SV}{B:BS}(h:Nat.beq j k=false)(hc:qI k cs=false)(hB:FrB k B):FrB k ((j,some cs)::B):=by
 unfold FrB at *
 rw[all_cons,hB,h];simp [hc]
theorem frb_map{α:Type}{k j:Nat}{f:α->jY}{l:List α}{B:BS}(h:Nat.beq j k=false)(hB:FrB k B):FrB k ((j,some (l.map (λg=>SV.d (f g))))::B):=frb_cs h (gJ k f l) hB
theorem frb_d{k j:Nat}{l:List jY}{B:BS}(h:Nat.beq j k=false)(hB:FrB k B):FrB k ((j,some (l.map SV.d))::B):=frb_cs h (gJ k id l) hB
theorem yE{α:Type}(news:List Nat)(f:α->jY)(l:List α):bF news (l.map (λg=>SV.d (f g)))=true:=by
 unfold bF
 rw[all_eq_true]
 intro k _
 rw[gJ];rfl
theorem bO{k:Nat}{S:SL}{B:BS}(h1:(S.all λp=>!p.2.names k)=true)(h2:FrB k B):gN k ⟨S,B⟩=true:=by
 unfold gN
 unfold FrB at h2
 rw[h1]
 exact h2
def PJoin{α:Type}(id:Nat)(St:α->PS)(I:α->Prop)(Q:Exit->PS->Prop):Exit->PS->Prop
 |.normal,s=>∃ y,xI s (St y)/\I y
 |.exit i,s=>if i=id then ∃ y,xI s (St y)/\I y else Q (.exit i) s
 |e,s=>Q e s
theorem pjoin_exit{α:Type}{id:Nat}{St:α->PS}{I:α->Prop}{Q:Exit->PS->Prop}{s:PS}(h:∃ y,xI s (St y)/\I y):PJoin id St I Q (.exit id) s:=by
 show (if id=id then _ else _)
 rw[if_pos rfl];exact h
theorem pwp_seqjoin{P:Program}{n:Fr}{Q:Exit->PS->Prop}{st:PS}{α:Type}{id:Nat}{c d:Code}(St:α->PS)(I:α->Prop)(h1:eM P n c (PJoin id St I Q) st)(h2:∀ y,I y->eM P n d Q (St y)):eM P n (.seq (.block id c) d) Q st:=by
 refine jB (jH (pwp_mono h1 ?_))
 rintro e s h
 cases e with
 |normal=>
  obtain ⟨y,q1,q2⟩:=h
  exact kS q1 (h2 y q2)
 |exit i=>
  have h':if i=id then ∃ y,xI s (St y)/\I y else Q (.exit i) s:=h
  show if i=id then _ else _
  split
  ·rename_i e;rw[if_pos e] at h'
   obtain ⟨y,q1,q2⟩:=h'
   exact kS q1 (h2 y q2)
  ·rename_i e;rw[if_neg e] at h';exact h'
 |ret=>exact h
 |goto l=>exact h
 |panic ch=>exact h
 |outgrown=>exact h
theorem e_pkfo{P:Program}{o:Oper}{S:Nat->SV}{c x y:Operand}{q:Bool}(ho:o.op=.pick c x y)(hc:ev S c=.d (.val (.bool false)))(hy:ev S y=.d (.val (.bool q))):uP P o S [] (.d (.val (.bool (false||q)))):=by
 rw[Bool.false_or];exact e_pkf ho hc hy
theorem e_pkta{P:Program}{o:Oper}{S:Nat->SV}{c x y:Operand}{q:Bool}(ho:o.op=.pick c x y)(hc:ev S c=.d (.val (.bool true)))(hx:ev S x=.d (.val (.bool q))):uP P o S [] (.d (.val (.bool (true&&q)))):=by
 rw[Bool.true_and];exact e_pkt ho hc hx
section
variable {P:Program} {o:Oper} {S:Nat->SV}
theorem e_bse{T E:TypeId}{s:Nat}(ho:o.op=.buildSlice T 0 #[])(hT:uU P T=some (E,s)):uP P o S [] .emp :=
 λa w D β Q hop _ hD=>by
  obtain ⟨j,e1,e2,e3⟩:=cL hT
  have hrun:(execOp a.eval o).run P w=.ok (.value (.slice (some ⟨w.heap.size,0,none⟩) 0 0)) (w.alloc (.cells #[] E)):=by
   simp only[execOp,ho,Instr.buildSlice,Sem.run_bind,run_underlying e1,Result.andThen_ok,xM e2,Nat.zero_mul,if_true,Sem.run_pure]
   rw[if_neg (by omega)]
   simp [newRow,run_newObj,Array.range_zero',Instr.fill]
  exact cF hrun ⟨_,D,rfl,⟨rfl,rfl,rfl,by simp,λq hq=>heap_alloc_old w _ hq⟩,aJ.of_same D,⟨_,rfl⟩⟩
theorem e_appe{T E t':TypeId}{x y:Operand}{s bytes:Nat}{zv:List Value}{es':List jY}(ho:o.op=.call { callee:=.builtin .append,args:=#[x,y],argTypes:=#[T,T] })
  (hT:uU P T=some (E,s)) (hz:xH P E=some zv) (hzl:zv.length=s) (hby:zJ P E=some bytes) (hx:ev S x=.emp) (hy:ev S y=.d (.sl t' s es')) (hbig:es'.length<=maxLen) (hbig':es'.length*bytes<=140737488355328) :
  uP P o S [] (.d (.sl t' s es')):=λa w D β Q hop _ hD=>by
 have h1:=hop x (by simp [ho,Op.operands,Call.operands])
 have h2:=hop y (by simp [ho,Op.operands,Call.operands])
 rw[hx] at h1
 rw[hy] at h2
 obtain ⟨ao0,hv⟩:=h1
 obtain ⟨ao,c,us,hyv,hcc,hul,hfl',eD,hrep,had⟩:=lB h2
 obtain ⟨i,z,z1,z2,z3⟩:=fG hz
 obtain ⟨j,f1,f2,f3⟩:=cL hT
 have hij:i=j:=by rw[z1] at f2;injection f2
 subst hij
 have hbi:i.bytes=bytes:=by
  unfold zJ at hby
  rw[z1] at hby
  simpa using hby
 subst hbi
 have hzs:z.cells.size=s:=by rw[z3];simpa using hzl
 have hml:(maxLen:Int)<=9223372036854775807:=by decide
 have hsl:∀ e∈es',e.cells.length=s:=(λv (h:uS w D v (.sl t' s es'))=>by
  cases h with
  |sl g off u hn hc hm hs ha hD hu h1 hr=>exact hs:∀ v,uS w D v (.sl t' s es')->∀ e∈es',e.cells.length=s) _ h2
 by_cases hm0:es'.length=0
 ·have hnil:es'=[]:=eq_nil_of_length_eq_zero hm0
  subst hnil
  have hrun:(Builtin.append_ #[T,T] o.type #[a.eval x,a.eval y]).run P w=.ok (a.eval x) w:=by
   rw[hyv]
   have e0:([]:List jY).length=0:=rfl
   have hu0:us=[]:=eq_nil_of_length_eq_zero (by simpa using hul)
   rw[hv,e0]
   cases ao0<;>cases ao with
   |none=>simp [Builtin.append_,run_underlying f1,sizeOf,typeInfo,z1,Builtin.lenOf,Builtin.firstCells,storeCells]
   |some ad=>simp [Builtin.append_,run_underlying f1,sizeOf,typeInfo,z1,Builtin.lenOf,Builtin.firstCells,loadCells,loadCellsFrom,storeCells]
  have hR:kZ w D β (a.eval x) (.d (.sl t' s [])):=by
   rw[hv]
   exact uS.sl 0 0 (λ_=>undef) rfl (Nat.le_refl _) (Nat.zero_le _) (by simp) (λh=>absurd h (Nat.lt_irrefl 0)) (by simp [qK]) (by simp [qK]) (by simp [qK]) (by simp [qK])
  unfold Oper.wp execOp
  simp only[ho,resolve,invoke,builtin,Sem.run_bind,Sem.run_pure,Result.andThen_ok,map_toArray,map_cons,map_nil,hrun]
  exact ⟨_,D,rfl,Below.refl _ _,aJ.of_same D,hR⟩
 ·obtain ⟨ad,rfl,hcell⟩:=had (by omega)
  have key:∃ (G:Nat) (arr:List Value) (w':World),(Builtin.append_ #[T,T] o.type #[a.eval x,a.eval y]).run P w=.ok (.slice (some ⟨w.heap.size,0,none⟩) es'.length G) w'/\w'=w.drew.alloc (.cells (us++arr).toArray E)/\es'.length<=G/\G<=maxLen:=by
   cases ao0 with
   |none=>
    have hbytes:es'.length*i.bytes<=281474976710656:=by omega
    have hr:=run_append_nil (P:=P) w T o.type E i z f1 z1 z2 ad es'.length c us (by rw[hul,f3]) hcell (by omega) (by omega) hbytes
    have hge:=grownCap_ge w es'.length 0 E
    have hcm:=grownCap_le_maxLen w es'.length 0 E (by omega)
    generalize grownCap w es'.length 0 E=G at hr hge hcm
    exact ⟨G,(Builtin.zeroCells z.cells (G-es'.length)).toList,_,by rw[hv,hyv];exact hr,by congr 2;apply Array.ext';simp,hge,hcm⟩
   |some b0=>
    have hr:=run_append_grow (P:=P) w T o.type E i z f1 z1 z2 b0 0 0 [] (by simp) (by simp) ad es'.length c us (by rw[hul,f3]) hcell (by omega) (by omega) (growslice_fits (by omega) (by rw[Nat.zero_add];exact hbig'))
    rw[Nat.zero_add] at hr
    have hge:=grownCap_ge w es'.length 0 E
    have hcm:=grownCap_le_maxLen w es'.length 0 E (by omega)
    generalize grownCap w es'.length 0 E=G at hr hge hcm
    exact ⟨G,(Builtin.zeroCells z.cells (G-es'.length)).toList,_,by rw[hv,hyv];exact hr,by congr 2;apply Array.ext';simp,hge,hcm⟩
  obtain ⟨G,arr,w',hrun,hw',hge,hcm⟩:=key
  have hfl:=vQ hsl
  have nC:Below w.heap.size w w':=by subst hw';exact ⟨rfl,rfl,rfl,by simp,λq hq=>heap_alloc_old w.drew _ hq⟩
  have hrow:w'.heap[w.heap.size]?=some (.cells (us++arr).toArray E (0,0)):=by subst hw';exact heap_alloc_new w.drew _
  have hcells:∀ q,w'.cell? ⟨w.heap.size,q,none⟩=(us++arr)[q]?:=λq=>by rw[cell_of_row w' w.heap.size q _ E (0,0) hrow];simp
  have hsz:w'.heap.size=w.heap.size+1:=by subst hw';simp
  have hmono:∀ t g q,D t g q->(D t g q\/(t=t'/\g=w.heap.size/\q<us.length))/\w'.cell? ⟨g,q,none⟩=w.cell? ⟨g,q,none⟩:=λt g q hd=>⟨.inl hd,xW nC (hD.lt t g q hd)⟩
  have hul2:us.length=(qK es').length:=by rw[hul,hfl]
  unfold Oper.wp execOp
  simp only[ho,resolve,invoke,builtin,Sem.run_bind,Sem.run_pure,Result.andThen_ok,map_toArray,map_cons,map_nil,hrun]
  refine ⟨_,λt g q=>D t g q\/(t=t'/\g=w.heap.size/\q<us.length),rfl,nC,⟨λt g q h=>.inl h,λt g q h=>?_⟩,?_⟩
  ·rcases h with h | ⟨_,h,_⟩
   ·exact .inl h
   ·exact .inr ⟨by omega,by omega⟩
  ·refine uS.sl w.heap.size 0 (λq=>(us++arr).getD q undef) rfl hge hcm hsl (λ_=>rfl) (λq hq=>.inr ⟨rfl,rfl,by omega⟩) (λq hq=>?_) (λq hq=>?_) (λq d hq=>?_)
   ·rw[Nat.zero_add,hcells,getElem?_append_left (by omega)]
    simp [List.getD,getElem?_append_left (by omega:q<us.length),getElem?_eq_getElem (by omega:q<us.length)]
   ·rw[List.getD,getElem?_append_left (by omega),getElem?_eq_getElem (by omega:q<us.length)]
    exact eD _ (by simp)
   ·have hq':=(List.getElem?_eq_some_iff.1 hq).1
    rw[List.getD,getElem?_append_left (by omega),getElem?_eq_getElem (by omega:q<us.length)]
    exact uS.mono hmono (hrep q _ d (getElem?_eq_getElem (by omega)) hq)
end
abbrev uD {α:Type} (F:α->jY) (L:List α):List SV:=(qK (L.map F)).map SV.d
theorem cS{α:Type}(F:α->jY){s:Nat}(hF:∀ g,(F g).cells.length=s)(L:List α):(qK (L.map F)).length=L.length*s:=by
 rw[vQ (s:=s) (λe he=>by
  rw[mem_map] at he
  obtain ⟨g,_,rfl⟩:=he
  exact hF g),length_map]
theorem map_celllen{α:Type}(F:α->jY){s:Nat}(hF:∀ g,(F g).cells.length=s)(L:List α):∀ e∈L.map F,e.cells.length=s:=λe he=>by
 rw[mem_map] at he
 obtain ⟨g,_,rfl⟩:=he
 exact hF g
section
variable {P:Program} {n:Fr} {ops:Array Oper} {S S':SL} {B B':BS} {l:List Oper} {o:Oper}
theorem appP_sem{α:Type}{d:Tmp}{T E t':TypeId}{x y:Operand}{k s m bytes:Nat}{zv:List Value}(F:α->jY)(L L':List α)(hF:∀ g,(F g).cells.length=s)(ho:o.op=.call { callee:=.builtin .append,args:=#[x,y],argTypes:=#[T,T] })(hdst:o.dst=some d)(hd:nE n (some d)=true)
  (hT:uU P T=some (E,s)) (hz:xH P E=some zv) (hzl:zv.length=s) (hby:zJ P E=some bytes) (hx:ev (kD S) x=.own k E s m) (hb:kC B k=some (uD F L)) (hL:L.length=m) (hy:ev (kD S) y=.d (.sl t' s (L'.map F)))
  (hbig:m+L'.length<=maxLen) (hbig':(m+L'.length)*bytes<=140737488355328) (hB:Clr k B) (C:Ctx) (a:Act) (w:World) (Q:Exit->Act->World->Prop) (hn:C.n=n) (hs:dQ C a w ⟨S,B⟩):o.wp P a w (λa' w'=>dQ C a' w' ⟨(d,.d (.sl E s ((L++L').map F)))::nR k S,(k,none)::B⟩) Q:=by
 have h0:=app_sound (st:=⟨S,B⟩) (N:=n) (es:=L.map F) (es':=L'.map F) ho (by rw[hdst];exact hd) hT hz hzl hby hx hb rfl (by rw[cS F hF,hL]) hy (by simpa using hbig) (by simpa using hbig') hB C a w Q hn hs
 rw[hdst] at h0
 refine Oper.wp_mono (λa' w' h1=>?_) h0
 have h2:=xY (st:=⟨(d,.own k E s (m+(L'.map F).length))::nR k S,(k,some ((qK (L.map F++L'.map F)).map .d))::B⟩) (t:=d) (k:=k) (s:=s) (m:=m+(L'.map F).length) (T:=E) (cs:=(qK (L.map F++L'.map F)).map .d) (es:=(L++L').map F)
  (by simp [qQ]) (by simp [jI]) (map_celllen F hF _) (by simp [hL]) (by rw[<- map_append];rw[take_of_length_le];rw[length_map,cS F hF,length_append,hL,length_map];exact Nat.le_refl _)
 obtain ⟨D,β,h3⟩:=h2 C a' w' h1
 refine ⟨D,β,h3.base,⟨λj c hj=>?_,λj1 j2 c1 c2 q1 q2=>?_⟩,λj c hj=>?_,λt=>?_⟩
 ·rw[jI] at hj
  split at hj
  ·cases hj
  ·rename_i e;exact h3.mem.ok j c (by rw[jI,if_neg e,jI,if_neg e];exact hj)
 ·have conv:∀ {j:Nat} {c:List SV},kC ((k,none)::B) j=some c->kC ((k,none)::(k,some ((qK (L.map F++L'.map F)).map .d))::B) j=some c:=fun {j c} hj=>by
   rw[jI] at hj
   split at hj
   ·cases hj
   ·rename_i e;rw[jI,if_neg e,jI,if_neg e];exact hj
  exact h3.mem.inj j1 j2 c1 c2 (conv q1) (conv q2)
 ·rw[jI] at hj
  split at hj
  ·cases hj
  ·rename_i e;exact h3.high j c (by rw[jI,if_neg e,jI,if_neg e];exact hj)
 ·have h4:=h3.slots t
  have e1:kD ((d,SV.d (.sl E s ((L++L').map F)))::nR k S) t=kD ((d,SV.d (.sl E s ((L++L').map F)))::(d,.own k E s (m+(L'.map F).length))::nR k S) t:=by
   rw[qQ,qQ,qQ]
   split
   ·rfl
   ·rfl
  show kZ w' D β _ (kD ((d,SV.d (.sl E s ((L++L').map F)))::nR k S) t)
  rw[e1]
  exact h4
theorem bxs_one{α:Type}(F:α->jY)(hF:∀ g,(F g).cells=[F g])(L:List α):uD F L=L.map (λg=>SV.d (F g)):=by
 unfold uD;rw[flat_one F hF,map_map];rfl
end
def xQ(a:jX):Bool:=kT a.lo&&(kT a.hi&&decide (qS a.lo<=qS a.hi))
def GOk(n:Nat)(a:jX):Prop:=yB a.lo (qS a.lo) n/\yB a.hi (qS a.hi) n
theorem gok_get{l:List jX}{n j:Nat}{d:jX}(h:∀ a∈l,GOk n a)(hj:j<l.length):GOk n (l.getD j d):=by
 rw[List.getD,getElem?_eq_getElem hj]
 exact h _ (getElem_mem hj)
theorem qok_raw{x:kY}{n:Nat}(h:1<=n)(h1:x.num.gs.length<=n)(h2:x.den.gs.length<=n):yB x (qS x) n:=⟨rfl,h,h1,h2⟩
theorem uW{x:kY}{q:Rat}{n:Nat}(h:yB x q n):yB x (qS x) n:=⟨rfl,h.p,h.n1,h.n2⟩
theorem eC{p q:Rat}(h:p<=q):xQ ⟨jM p,jM q⟩=true:=by
 unfold xQ
 simp only[cP,vY,Bool.true_and]
 exact decide_eq_true h
theorem cmpQ_le{a b:Rat}:gE a b<=0↔a<=b:=by
 unfold gE
 by_cases h:a<b
 ·rw[if_pos h];exact ⟨λ_=>Rat.le_of_lt h,λ_=>by decide⟩
 ·rw[if_neg h]
  by_cases h2:b<a
  ·rw[if_pos h2];exact ⟨λh3=>by omega,λh3=>absurd h3 (Rat.not_le.2 h2)⟩
  ·rw[if_neg h2];exact ⟨λ_=>Rat.not_lt.1 h2,λ_=>by decide⟩
theorem cmpQ_lt{a b:Rat}:gE a b<0↔a<b:=by
 unfold gE
 by_cases h:a<b
 ·rw[if_pos h];exact ⟨λ_=>h,λ_=>by decide⟩
 ·rw[if_neg h]
  by_cases h2:b<a
  ·rw[if_pos h2];exact ⟨λh3=>by omega,λh3=>absurd h3 h⟩
  ·rw[if_neg h2];exact ⟨λh3=>by omega,λh3=>absurd h3 h⟩
theorem cmpQ_gt{a b:Rat}:0<gE a b↔b<a:=by
 unfold gE
 by_cases h:a<b
 ·rw[if_pos h];exact ⟨λh3=>by omega,λh3=>absurd (Rat.le_of_lt h3) (Rat.not_le.2 h)⟩
 ·rw[if_neg h]
  by_cases h2:b<a
  ·rw[if_pos h2];exact ⟨λ_=>h2,λ_=>by decide⟩
  ·rw[if_neg h2];exact ⟨λh3=>by omega,λh3=>absurd h3 h2⟩
theorem cmpQ_eq{a b:Rat}:gE a b=0↔a=b:=by
 unfold gE
 by_cases h:a<b
 ·rw[if_pos h];exact ⟨λh3=>by omega,λh3=>absurd h (h3▸Rat.lt_irrefl)⟩
 ·rw[if_neg h]
  by_cases h2:b<a
  ·rw[if_pos h2];exact ⟨λh3=>by omega,λh3=>absurd h2 (h3▸Rat.lt_irrefl)⟩
  ·rw[if_neg h2];exact ⟨λ_=>Rat.le_antisymm (Rat.not_lt.1 h2) (Rat.not_lt.1 h),λ_=>rfl⟩
theorem validG_eq(a:jX):((kT a.lo&&kT a.hi)&&decide (gE (qS a.lo) (qS a.hi)<=0))=xQ a:=by
 unfold xQ
 rw[Bool.and_assoc]
 congr 2
 rw[Bool.eq_iff_iff,decide_eq_true_eq,decide_eq_true_eq,cmpQ_le]
def mF(p:Rat)(l:List Rat):Rat:=l.foldl min p
def cC(p:Rat)(l:List Rat):Rat:=l.foldl max p
theorem take_getD{l:List Rat}{i:Nat}(h:i<l.length):l.take (i+1)=l.take i++[l.getD i 0]:=by
 rw[take_succ_eq_append_getElem h];simp [List.getD,getElem?_eq_getElem h]
theorem mnL_step{p:Rat}{l:List Rat}{i:Nat}(h:i<l.length):mF p (l.take (i+1))=min (mF p (l.take i)) (l.getD i 0):=by
 unfold mF;rw[take_getD h,foldl_append];rfl
theorem mxL_step{p:Rat}{l:List Rat}{i:Nat}(h:i<l.length):cC p (l.take (i+1))=max (cC p (l.take i)) (l.getD i 0):=by
 unfold cC;rw[take_getD h,foldl_append];rfl
theorem mnL_lt{p:Rat}{l:List Rat}{i:Nat}{x:Rat}(h:i<l.length)(hx:x=mF p (l.take i))(hc:gE (l.getD i 0) x<0):l.getD i 0=mF p (l.take (i+1)):=by
 rw[mnL_step h,<- hx,Rat.min_def,if_neg (Rat.not_le.2 (cmpQ_lt.1 hc))]
theorem mnL_ge{p:Rat}{l:List Rat}{i:Nat}{x:Rat}(h:i<l.length)(hx:x=mF p (l.take i))(hc:¬ gE (l.getD i 0) x<0):x=mF p (l.take (i+1)):=by
 rw[mnL_step h,<- hx,Rat.min_def,if_pos (Rat.not_lt.1 (λh2=>hc (cmpQ_lt.2 h2)))]
theorem mxL_gt{p:Rat}{l:List Rat}{i:Nat}{x:Rat}(h:i<l.length)(hx:x=cC p (l.take i))(hc:0<gE (l.getD i 0) x):l.getD i 0=cC p (l.take (i+1)):=by
 rw[mxL_step h,<- hx,Rat.max_def,if_pos (Rat.le_of_lt (cmpQ_gt.1 hc))]
theorem mxL_le{p:Rat}{l:List Rat}{i:Nat}{x:Rat}(h:i<l.length)(hx:x=cC p (l.take i))(hc:¬ 0<gE (l.getD i 0) x):x=cC p (l.take (i+1)):=by
 rw[mxL_step h,<- hx,Rat.max_def]
 have h2:l.getD i 0<=x:=Rat.not_lt.1 (λh2=>hc (cmpQ_gt.2 h2))
 split
 ·exact Rat.le_antisymm (by assumption) h2
 ·rfl
theorem cH{l:List Rat}{n:Nat}(h:∀ q∈l,QL q n)(h1:1<=n)(j:Nat):QL (l.getD j 0) n:=by
 rw[List.getD]
 cases hj:l[j]? with
 |none=>exact uG cY h1
 |some q=>exact h q (mem_of_getElem? hj)
theorem ql_mnL{p:Rat}{l:List Rat}{n:Nat}(hp:QL p n)(h:∀ q∈l,QL q n):QL (mF p l) n:=by
 unfold mF
 induction l generalizing p with
 |nil=>exact hp
 |cons q l ih=>exact ih (ql_min hp (h q (by simp))) (λr hr=>h r (by simp [hr]))
theorem ql_mxL{p:Rat}{l:List Rat}{n:Nat}(hp:QL p n)(h:∀ q∈l,QL q n):QL (cC p l) n:=by
 unfold cC
 induction l generalizing p with
 |nil=>exact hp
 |cons q l ih=>exact ih (ql_max hp (h q (by simp))) (λr hr=>h r (by simp [hr]))
theorem mnL_le_mxL(p:Rat)(l:List Rat):mF p l<=cC p l:=by
 have h1:∀ (l:List Rat) (p:Rat),mF p l<=p:=by
  intro l
  induction l with
  |nil=>intro p;exact Rat.le_refl
  |cons q l ih=>
   intro p
   refine Rat.le_trans (ih (min p q)) ?_
   rw[Rat.min_def];split
   ·exact Rat.le_refl
   ·exact Rat.le_of_lt (Rat.not_le.1 (by assumption))
 have h2:∀ (l:List Rat) (p:Rat),p<=cC p l:=by
  intro l
  induction l with
  |nil=>intro p;exact Rat.le_refl
  |cons q l ih=>
   intro p
   refine Rat.le_trans ?_ (ih (max p q))
   rw[Rat.max_def];split
   ·assumption
   ·exact Rat.le_refl
 exact Rat.le_trans (h1 l p) (h2 l p)
def digR(x:kY):Nat:=x.num.gs.length+x.den.gs.length
theorem all_take{α:Type}{f:α->Bool}{l:List α}{i:Nat}{d:α}(h:i<l.length)(h1:(l.take i).all f=true)(h2:f (l.getD i d)=true):(l.take (i+1)).all f=true:=by
 rw[take_succ_eq_append_getElem h,all_append,h1]
 simp [List.getD,getElem?_eq_getElem h] at h2
 simp [h2]
theorem all_not{α:Type}{f:α->Bool}{l:List α}{i:Nat}{d:α}(h:i<l.length)(h2:f (l.getD i d)=false):l.all f=false:=by
 rw[all_eq_false]
 refine ⟨l[i],getElem_mem h,?_⟩
 simp [List.getD,getElem?_eq_getElem h] at h2
 simp [h2]
theorem sameR_eq(x y:kY):((kT x&&kT y)&&(gE (qS x) (qS y) == 0))=(kT x&&(kT y&&decide (qS x=qS y))):=by
 rw[Bool.and_assoc]
 congr 2
 rw[Bool.eq_iff_iff,beq_iff_eq,decide_eq_true_eq,cmpQ_eq]
def dM(x y:kY):Bool:=kT x&&(kT y&&decide (qS x=qS y))
theorem fT(p q:Rat):dM (jM p) (jM q)=decide (p=q):=by
 unfold dM;simp only[cP,vY,Bool.true_and]
def mU(p q:Rat):Bool:=decide (p<=0)&&decide (0<=q)
theorem zeroG_eq(p q:Rat):(decide (aE p<=0)&&decide (0<=aE q))=mU p q:=by
 unfold mU aE
 have h1:qZ p.num<=0↔p<=0:=by
  rw[signI_le]
  have h:0<p.num↔0<p:=by
   have a1:=Rat.num_nonneg (q:=p)
   have a2:=Rat.num_eq_zero (q:=p)
   constructor
   ·intro h
    rw[Rat.lt_iff_le_and_ne]
    exact ⟨a1.1 (by omega),λe=>by rw[<- e] at h;simp at h⟩
   ·intro h
    rw[Rat.lt_iff_le_and_ne] at h
    have:=a1.2 h.1
    have h3:p.num≠0:=λe=>h.2 (a2.1 e).symm
    omega
  constructor
  ·intro h2;exact Rat.not_lt.1 (λh3=>by have:=h.2 h3;omega)
  ·intro h2;exact Int.not_lt.1 (λh3=>absurd h2 (Rat.not_le.2 (h.1 h3)))
 have h2:0<=qZ q.num↔0<=q:=by
  rw[<- Rat.num_nonneg]
  rcases yL q.num with ⟨a,b⟩ | ⟨a,b⟩ | ⟨a,b⟩<;>omega
 rw[Bool.eq_iff_iff]
 simp only[Bool.and_eq_true,decide_eq_true_eq]
 rw[h1,h2]
theorem fU{a:jX}{m n:Nat}(h:GOk m a)(hm:m<=n:=by decide):GOk n a:=⟨jO h.1 hm,jO h.2 hm⟩
theorem zeroG_ne{r s:Rat}(h:r<=s)(hz:mU r s=false):r≠0/\s≠0:=by
 unfold mU at hz
 rw[Bool.and_eq_false_iff,decide_eq_false_iff_not,decide_eq_false_iff_not,Rat.not_le,Rat.not_le] at hz
 constructor
 ·intro e
  subst e
  rcases hz with hz | hz
  ·exact Rat.lt_irrefl hz
  ·exact absurd h (Rat.not_le.2 hz)
 ·intro e
  subst e
  rcases hz with hz | hz
  ·exact absurd h (Rat.not_le.2 hz)
  ·exact Rat.lt_irrefl hz
def sqL(p q:Rat):Rat:=if mU p q=true then ((0:Int):Rat) else mF (p*p) [q*q]
def sqH(p q:Rat):Rat:=cC (p*p) [q*q]
theorem rat_sq(p:Rat):0<=p*p:=by
 rcases Rat.le_total (a:=0) (b:=p) with h | h
 ·exact Rat.mul_nonneg h h
 ·have h1:=Rat.mul_nonneg (a:=-p) (b:=-p) (Rat.neg_zero▸Rat.neg_le_neg h) (Rat.neg_zero▸Rat.neg_le_neg h)
  rwa [Rat.neg_mul,Rat.mul_neg,Rat.neg_neg] at h1
theorem le_mxL(l:List Rat):∀ p:Rat,p<=cC p l:=by
 induction l with
 |nil=>intro p;exact Rat.le_refl
 |cons q l ih=>
  intro p
  refine Rat.le_trans ?_ (ih (max p q))
  rw[Rat.max_def];split
  ·assumption
  ·exact Rat.le_refl
theorem sqL_le(p q:Rat):sqL p q<=sqH p q:=by
 unfold sqL sqH
 split
 ·exact Rat.le_trans (rat_sq p) (le_mxL _ _)
 ·exact mnL_le_mxL _ _
theorem ql_sqL{p q:Rat}{n:Nat}(h1:QL (p*p) n)(h2:QL (q*q) n):QL (sqL p q) n:=by
 unfold sqL
 exact ql_ite (uG cY (ql_pos h1)) (ql_mnL h1 (λx hx=>by rw[mem_singleton] at hx;subst hx;exact h2))
theorem ql_sqH{p q:Rat}{n:Nat}(h1:QL (p*p) n)(h2:QL (q*q) n):QL (sqH p q) n:=ql_mxL h1 (λx hx=>by rw[mem_singleton] at hx;subst hx;exact h2)
def sameG(a b:jX):Bool:=(xQ a&&xQ b)&&(dM a.lo b.lo&&dM a.hi b.hi)
theorem sameG_of{p q r s:Rat}:sameG ⟨jM p,jM q⟩ ⟨jM r,jM s⟩=((decide (p<=q)&&decide (r<=s))&&(decide (p=r)&&decide (q=s))):=by
 unfold sameG xQ
 simp only[fT,cP,vY,Bool.true_and]
theorem mnL_mem(l:List Rat):∀ p:Rat,mF p l=p\/mF p l∈l:=by
 induction l with
 |nil=>intro p;exact .inl rfl
 |cons q l ih=>
  intro p
  have h:mF p (q::l)=mF (min p q) l:=rfl
  rw[h]
  rcases ih (min p q) with h1 | h1
  ·rw[h1,Rat.min_def]
   split
   ·exact .inl rfl
   ·exact .inr (by simp)
  ·exact .inr (mem_cons_of_mem _ h1)
theorem mxL_mem(l:List Rat):∀ p:Rat,cC p l=p\/cC p l∈l:=by
 induction l with
 |nil=>intro p;exact .inl rfl
 |cons q l ih=>
  intro p
  have h:cC p (q::l)=cC (max p q) l:=rfl
  rw[h]
  rcases ih (max p q) with h1 | h1
  ·rw[h1,Rat.max_def]
   split
   ·exact .inr (by simp)
   ·exact .inl rfl
  ·exact .inr (mem_cons_of_mem _ h1)
def hasQ(p q x:Rat):Bool:=decide (p<=x)&&decide (x<=q)
theorem hasQ_eq(p q x:Rat):(decide (gE p x<=0)&&decide (gE x q<=0))=hasQ p q x:=by
 unfold hasQ
 rw[Bool.eq_iff_iff,Bool.and_eq_true,Bool.and_eq_true,decide_eq_true_eq,decide_eq_true_eq,decide_eq_true_eq,decide_eq_true_eq,cmpQ_le,cmpQ_le]
theorem mnL_low(l:List Rat):∀ p:Rat,mF p l<=p/\∀ x∈l,mF p l<=x:=by
 induction l with
 |nil=>intro p;exact ⟨Rat.le_refl,λx h=>by cases h⟩
 |cons q l ih=>
  intro p
  have h:mF p (q::l)=mF (min p q) l:=rfl
  obtain ⟨a,b⟩:=ih (min p q)
  rw[h]
  have c1:min p q<=p:=by
   rw[Rat.min_def];split
   ·exact Rat.le_refl
   ·exact Rat.le_of_lt (Rat.not_le.1 (by assumption))
  have c2:min p q<=q:=by
   rw[Rat.min_def];split
   ·assumption
   ·exact Rat.le_refl
  refine ⟨Rat.le_trans a c1,λx hx=>?_⟩
  rcases mem_cons.1 hx with e | e
  ·rw[e];exact Rat.le_trans a c2
  ·exact b x e
theorem mxL_upp(l:List Rat):∀ p:Rat,p<=cC p l/\∀ x∈l,x<=cC p l:=by
 induction l with
 |nil=>intro p;exact ⟨Rat.le_refl,λx h=>by cases h⟩
 |cons q l ih=>
  intro p
  have h:cC p (q::l)=cC (max p q) l:=rfl
  obtain ⟨a,b⟩:=ih (max p q)
  rw[h]
  have c1:p<=max p q:=by
   rw[Rat.max_def];split
   ·assumption
   ·exact Rat.le_refl
  have c2:q<=max p q:=by
   rw[Rat.max_def];split
   ·exact Rat.le_refl
   ·exact Rat.le_of_lt (Rat.not_le.1 (by assumption))
  refine ⟨Rat.le_trans c1 a,λx hx=>?_⟩
  rcases mem_cons.1 hx with e | e
  ·rw[e];exact Rat.le_trans c2 a
  ·exact b x e
theorem low4(a b c d:Rat):mF a [b,c,d]<=a/\mF a [b,c,d]<=b/\mF a [b,c,d]<=c/\mF a [b,c,d]<=d:=by
 obtain ⟨h,g⟩:=mnL_low [b,c,d] a
 exact ⟨h,g b (by simp),g c (by simp),g d (by simp)⟩
theorem upp4(a b c d:Rat):a<=cC a [b,c,d]/\b<=cC a [b,c,d]/\c<=cC a [b,c,d]/\d<=cC a [b,c,d]:=by
 obtain ⟨h,g⟩:=mxL_upp [b,c,d] a
 exact ⟨h,g b (by simp),g c (by simp),g d (by simp)⟩
theorem add_valid{p q r s:Rat}(h1:p<=q)(h2:r<=s):p+r<=q+s:=Rat.le_trans (Rat.add_le_add_right.2 h1) (Rat.add_le_add_left.2 h2)
theorem sub_valid{p q r s:Rat}(h1:p<=q)(h2:r<=s):p-s<=q-r:=by
 rw[Rat.sub_eq_add_neg,Rat.sub_eq_add_neg];exact add_valid h1 (Rat.neg_le_neg h2)
abbrev vi (z:Int):SV:=.d (.val (.int .i64 z))
abbrev kE (n:Nat):SV:=.d (.val (.int .i64 (n:Int)))
abbrev gL (n:Nat):SV:=.d (.val (.int .u64 (n:Int)))
abbrev iT (n:Nat):SV:=.d (.val (.int .u32 (n:Int)))
abbrev vq (z:Int):SV:=.d (.val (.int .u64 z))
abbrev vb (b:Bool):SV:=.d (.val (.bool b))
abbrev vl {α:Type} (E z:Nat) (F:α->jY) (L:List α):SV:=.d (.sl E z (L.map F))
abbrev bm {α:Type} (F:α->jY) (L:List α):List SV:=L.map (λg=>SV.d (F g))
section
variable {P:Program} {n:Fr} {ops:Array Oper} {S S':SL} {B B':BS} {l:List Oper} {o:Oper} {news:List Nat} {acc0:List (List Nat × List Nat)}
end
theorem fillL_all{s:Nat}:∀ (ds:List jY) (k:Nat) (a z:List jY),a.length=k*s->z.length=ds.length*s->(∀ d∈ds,d.cells.length=s) ->
  aO (λi=>some (i*s,s)) (a++z) ((ds.zipIdx k).map λp=>(p.2,p.1.cells))=some (a++qK ds)
 |[],k,a,z,ha,hz,_=>by
  have:z=[]:=eq_nil_of_length_eq_zero (by simpa using hz)
  subst this;simp [aO,qK]
 |d::ds,k,a,z,ha,hz,hs=>by
  have hd:=hs d (by simp)
  have hz':z.length=s+ds.length*s:=by rw[hz,length_cons,Nat.add_mul];omega
  rw[zipIdx_cons,map_cons]
  simp only[aO]
  have h1:(Nat.beq d.cells.length s&&Nat.ble (k*s+d.cells.length) (a++z).length)=true:=by
   rw[Bool.and_eq_true]
   refine ⟨by rw[hd];exact Nat.beq_refl s,Nat.ble_eq_true_of_le ?_⟩
   rw[length_append,ha,hd];omega
  rw[h1,cond_true]
  have h2:patch (a++z) (k*s) d.cells=(a++d.cells)++z.drop s:=by
   unfold patch
   rw[<- ha,take_left,hd]
   congr 1
   rw[drop_append,drop_of_length_le (by omega),nil_append]
   congr 1;omega
  rw[h2,fillL_all ds (k+1) (a++d.cells) (z.drop s) (by rw[length_append,ha,hd,Nat.add_mul];omega) (by rw[length_drop];omega) (λx hx=>hs x (by simp [hx])),mO,append_assoc]
theorem e_bldF{P:Program}{o:Oper}{S:Nat->SV}{T E:TypeId}{n s:Nat}{ps:List (Nat × Operand)}{ds:List jY}{zv:List Value}{zd:List jY}{y:jY}(ho:o.op=.build T ps.toArray)(hT:arrB P T=some (n,E,s))(hz:xH P T=some zv)(hzd:eO zv zd)
  (hps:ps.map (λp=>(p.1,ev S p.2))=ds.zipIdx.map (λp=>(p.2,.d p.1))) (hok:ds.all (λd=>d.ok1)=true) (hs:ds.all (λd=>Nat.beq d.cells.length s)=true) (hl:Nat.beq zd.length (ds.length*s)=true) (hy:jY.agg (qK ds)=y):uP P o S [] (.d y):=by
 subst hy
 refine e_build_arr (pd:=ds.zipIdx.map λp=>(p.2,p.1)) ho hT hz hzd (by rw[hps,map_map];rfl) ?_ ?_
 ·rw[all_eq_true] at hok ⊢
  intro p hp
  obtain ⟨q,hq,rfl⟩:=mem_map.1 hp
  exact hok _ (fst_mem_of_mem_zipIdx hq)
 ·have:=fillL_all ds 0 [] zd (by simp) (Nat.eq_of_beq_eq_true hl) (λd hd=>Nat.eq_of_beq_eq_true (all_eq_true.1 hs d hd))
  rw[map_map]
  rw[nil_append,nil_append] at this
  exact this
theorem gO{α:Type}{s:Nat}(F:α->jY)(L:List α)(hF:∀ g,(F g).cells.length=s):∀ e∈L.map F,e.cells.length=s:=by
 intro e he
 obtain ⟨g,_,rfl⟩:=mem_map.1 he
 exact hF g
theorem mA{α:Type}{s:Nat}(F:α->jY)(L:List α)(hF:∀ g,(F g).cells.length=s){m:Nat}(h:L.length=m):(uD F L).take (m*s)=(qK (L.map F)).map .d:=by
 refine take_of_length_le ?_
 rw[length_map,cS F hF,h]
 exact Nat.le_refl _
theorem mnL_self(p:Rat)(l:List Rat):mF p (p::l)=mF p l:=by
 show mF (min p p) l=mF p l
 rw[Rat.min_def];split<;>rfl
theorem mxL_self(p:Rat)(l:List Rat):cC p (p::l)=cC p l:=by
 show cC (max p p) l=cC p l
 rw[Rat.max_def];split<;>rfl
theorem least_start{l:List Rat}(h:0<l.length):l.getD 0 0=mF (l.getD 0 0) (l.take 1):=by
 cases l with
 |nil=>cases h
 |cons p l=>show p=mF p (p::l.take 0);rw[mnL_self];rfl
theorem neg_min(a b:Rat):-(min (-a) (-b))=max a b:=by
 rw[Rat.min_def,Rat.max_def]
 by_cases h:a<=b
 ·rw[if_pos h]
  split
  ·rename_i h2
   rw[Rat.neg_neg]
   exact Rat.le_antisymm h (Rat.neg_le_neg_iff.1 h2)
  ·rw[Rat.neg_neg]
 ·rw[if_neg h,if_pos (Rat.neg_le_neg (Rat.le_of_lt (Rat.not_le.1 h))),Rat.neg_neg]
theorem neg_mnL(l:List Rat):∀ p:Rat,-(mF (-p) (l.map (λq=>-q)))=cC p l:=by
 induction l with
 |nil=>intro p;exact Rat.neg_neg p
 |cons q l ih=>
  intro p
  show -(mF (min (-p) (-q)) (l.map (λq=>-q)))=cC (max p q) l
  rw[<- ih (max p q),<- neg_min p q,Rat.neg_neg]
theorem great_eq{l:List Rat}(h:0<l.length):-(mF ((l.map (λq=>-q)).getD 0 0) (l.map (λq=>-q)))=cC (l.getD 0 0) l:=by
 cases l with
 |nil=>cases h
 |cons p l=>exact neg_mnL (p::l) p
theorem ql_negs{l:List Rat}{n:Nat}(h:∀ q∈l,QL q n):∀ q∈l.map (λq=>-q),QL q n:=by
 intro q hq
 obtain ⟨r,hr,rfl⟩:=mem_map.1 hq
 exact ql_neg (h r hr)
theorem neg_push{l:List Rat}{i:Nat}{o:List kY}(hi:i<l.length)(h:o=map jM (map (λq=>-q) (l.take i))):o++[jM (-(l.getD i 0))]=map jM (map (λq=>-q) (l.take (i+1))):=by
 rw[h,take_getD hi,map_append,map_append];rfl
theorem mnL_ge_all{l:List Rat}{p x:Rat}(h0:x<=p)(h:∀ q∈l,x<=q):x<=mF p l:=by
 rcases mnL_mem l p with e | e
 ·rw[e];exact h0
 ·exact h _ e
theorem lJ{l:List Rat}{p x:Rat}(h0:p<=x)(h:∀ q∈l,q<=x):cC p l<=x:=by
 rcases mxL_mem l p with e | e
 ·rw[e];exact h0
 ·exact h _ e
def zeroR(x:kY):Bool:=((!x.num.neg&&!x.den.neg)&&(((x.num.gs.length:Nat):Int) == 0))&&(((x.den.gs.length:Nat):Int) == 0)
theorem neg_valid{p q:Rat}(h:p<=q):-q<=-p:=Rat.neg_le_neg h
theorem hasQ_zero(p q:Rat):hasQ p q ((0:Int):Rat)=mU p q:=rfl
theorem sq_noL{p q:Rat}(h:hasQ p q ((0:Int):Rat)=false):sqL p q=mF (p*p) [q*q]:=if_neg (by rw[<- hasQ_zero,h];simp)
theorem sq_hasL{p q:Rat}(h:hasQ p q ((0:Int):Rat)=true):sqL p q=mF (p*p) [q*q,((0:Int):Rat)]:=by
 rw[hasQ_zero] at h
 rw[show sqL p q=((0:Int):Rat) from if_pos h]
 refine Rat.le_antisymm (mnL_ge_all (rat_sq p) ?_) ((mnL_low [q*q,((0:Int):Rat)] (p*p)).2 _ (by simp))
 intro x hx
 simp at hx
 rcases hx with e | e
 ·rw[e];exact rat_sq q
 ·rw[e];exact Rat.le_refl
theorem sq_hasH(p q:Rat):sqH p q=cC (p*p) [q*q,((0:Int):Rat)]:=by
 have u:=mxL_upp [q*q] (p*p)
 refine Rat.le_antisymm (lJ (mxL_upp [q*q,((0:Int):Rat)] (p*p)).1 (λx hx=>(mxL_upp [q*q,((0:Int):Rat)] (p*p)).2 x (by simp at hx;simp [hx]))) (lJ u.1 ?_)
 intro x hx
 simp at hx
 rcases hx with e | e
 ·rw[e];exact u.2 _ (by simp)
 ·rw[e];exact Rat.le_trans (rat_sq p) u.1
theorem mn4_perm(a b c d:Rat):mF b [a,d,c]=mF a [b,c,d]:=by
 obtain ⟨l1,l2,l3,l4⟩:=low4 a b c d
 obtain ⟨k1,k2,k3,k4⟩:=low4 b a d c
 exact Rat.le_antisymm (mnL_ge_all k2 (by intro x hx;simp at hx;rcases hx with e | e | e<;>rw[e]<;>assumption)) (mnL_ge_all l2 (by intro x hx;simp at hx;rcases hx with e | e | e<;>rw[e]<;>assumption))
theorem mx4_perm(a b c d:Rat):cC b [a,d,c]=cC a [b,c,d]:=by
 obtain ⟨l1,l2,l3,l4⟩:=upp4 a b c d
 obtain ⟨k1,k2,k3,k4⟩:=upp4 b a d c
 exact Rat.le_antisymm (lJ l2 (by intro x hx;simp at hx;rcases hx with e | e | e<;>rw[e]<;>assumption)) (lJ k2 (by intro x hx;simp at hx;rcases hx with e | e | e<;>rw[e]<;>assumption))
theorem nK(p r:Rat):p*(((1:Int):Rat) / r)=p / r:=by
 rw[Rat.div_def,Rat.div_def,show ((1:Int):Rat)=1 from rfl,Rat.one_mul]
theorem recip_lo(p q r s:Rat):mF (p*(((1:Int):Rat) / s)) [(p*(((1:Int):Rat) / r)),(q*(((1:Int):Rat) / s)),(q*(((1:Int):Rat) / r))]=mF (p / r) [(p / s),(q / r),(q / s)]:=by
 rw[nK,nK,nK,nK];exact mn4_perm _ _ _ _
theorem recip_hi(p q r s:Rat):cC (p*(((1:Int):Rat) / s)) [(p*(((1:Int):Rat) / r)),(q*(((1:Int):Rat) / s)),(q*(((1:Int):Rat) / r))]=cC (p / r) [(p / s),(q / r),(q / s)]:=by
 rw[nK,nK,nK,nK];exact mx4_perm _ _ _ _
def kF(x:Rat × Rat):jX:=⟨jM x.1,jM x.2⟩
def GL(n:Nat)(x:Rat × Rat):Prop:=QL x.1 n/\QL x.2 n/\x.1<=x.2
theorem gok_map{L:List (Rat × Rat)}{n:Nat}(h:∀ x∈L,GL n x):∀ a∈map kF L,GOk n a:=by
 intro a ha
 obtain ⟨x,hx,rfl⟩:=mem_map.1 ha
 have:=h x hx
 exact ⟨uW (jZ this.1),uW (jZ this.2.1)⟩
theorem valid_map{L:List (Rat × Rat)}{n:Nat}(h:∀ x∈L,GL n x):List.all (map kF L) xQ=true:=by
 rw[all_eq_true]
 intro a ha
 obtain ⟨x,hx,rfl⟩:=mem_map.1 ha
 exact eC (h x hx).2.2
theorem gl_getD{L:List (Rat × Rat)}{n:Nat}(h:∀ x∈L,GL n x)(h1:1<=n)(j:Nat):GL n (L.getD j (0,0)):=by
 rw[List.getD]
 cases hj:L[j]? with
 |none=>exact ⟨uG cY h1,uG cY h1,Rat.le_refl⟩
 |some q=>exact h q (mem_of_getElem? hj)
structure jS where
 op:Int
 a:Int
 b:Int
 n:kY
def zr:kY:=⟨⟨false,[]⟩,⟨false,[]⟩⟩
def tz:jS:=⟨0,0,0,zr⟩
structure xS where
 value:jX
 grad:List jX
 hess:List (List jX)
structure RMc where
 vars:Int
 order:Int
 places:Int
 jets:List xS
 failed:Bool
abbrev R2:=Rat × Rat
def z2:R2:=(0,0)
def gw(n:Int):R2:=((n:Rat),(n:Rat))
def xG(q:Rat):R2:=(q,q)
def qE(a b:R2):R2:=(a.1+b.1,a.2+b.2)
def gS(a b:R2):R2:=(a.1-b.2,a.2-b.1)
def lR(a:R2):R2:=(-a.2,-a.1)
def kL(a b:R2):R2:=(mF (a.1*b.1) [(a.1*b.2),(a.2*b.1),(a.2*b.2)],cC (a.1*b.1) [(a.1*b.2),(a.2*b.1),(a.2*b.2)])
def fK(a b:R2):R2:=(mF (a.1 / b.1) [(a.1 / b.2),(a.2 / b.1),(a.2 / b.2)],cC (a.1 / b.1) [(a.1 / b.2),(a.2 / b.1),(a.2 / b.2)])
def gsq(a:R2):R2:=(sqL a.1 a.2,sqH a.1 a.2)
theorem kU{a:R2}{m n:Nat}(h:GL m a)(hm:m<=n:=by decide):GL n a:=⟨uG h.1 hm,uG h.2.1 hm,h.2.2⟩
theorem gl_pt{q:Rat}{m:Nat}(h:QL q m):GL m (xG q):=⟨h,h,Rat.le_refl⟩
theorem gl_w{z:Int}(h1:-9223372036854775808<=z)(h2:z<=9223372036854775807):GL 3 (gw z):=⟨vL (cE h1 h2) (by decide),vL (cE h1 h2) (by decide),Rat.le_refl⟩
theorem gY{a b:R2}{m n k:Nat}(ha:GL m a)(hb:GL n b)(h:m+n+1<=k:=by decide):GL k (qE a b):=⟨ql_add ha.1 hb.1 h,ql_add ha.2.1 hb.2.1 h,add_valid ha.2.2 hb.2.2⟩
theorem gl_sub{a b:R2}{m n k:Nat}(ha:GL m a)(hb:GL n b)(h:m+n+1<=k:=by decide):GL k (gS a b):=⟨ql_sub ha.1 hb.2.1 h,ql_sub ha.2.1 hb.1 h,sub_valid ha.2.2 hb.2.2⟩
theorem gl_neg{a:R2}{m:Nat}(ha:GL m a):GL m (lR a):=⟨ql_neg ha.2.1,ql_neg ha.1,neg_valid ha.2.2⟩
theorem ql_of4{a b c d:Rat}{k:Nat}(h1:QL a k)(h2:QL b k)(h3:QL c k)(h4:QL d k):QL (mF a [b,c,d]) k/\QL (cC a [b,c,d]) k:=by
 have ml:∀ z∈[b,c,d],QL z k:=by
  intro z hz;simp at hz;rcases hz with e | e | e<;>rw[e]<;>assumption
 exact ⟨ql_mnL h1 ml,ql_mxL h1 ml⟩
theorem uM{a b:R2}{m n k:Nat}(ha:GL m a)(hb:GL n b)(h:m+n<=k:=by decide):GL k (kL a b):=by
 obtain ⟨h1,h2⟩:=ql_of4 (yH ha.1 hb.1 h) (yH ha.1 hb.2.1 h) (yH ha.2.1 hb.1 h) (yH ha.2.1 hb.2.1 h)
 exact ⟨h1,h2,mnL_le_mxL _ _⟩
theorem gl_div{a b:R2}{m n k:Nat}(ha:GL m a)(hb:GL n b)(h:m+n<=k):GL k (fK a b):=by
 obtain ⟨h1,h2⟩:=ql_of4 (ql_div ha.1 hb.1 h) (ql_div ha.1 hb.2.1 h) (ql_div ha.2.1 hb.1 h) (ql_div ha.2.1 hb.2.1 h)
 exact ⟨h1,h2,mnL_le_mxL _ _⟩
theorem gl_sq{a:R2}{m k:Nat}(ha:GL m a)(h:m+m<=k:=by decide):GL k (gsq a):=⟨ql_sqL (yH ha.1 ha.1 h) (yH ha.2.1 ha.2.1 h),ql_sqH (yH ha.1 ha.1 h) (yH ha.2.1 ha.2.1 h),sqL_le _ _⟩
theorem uH{L:List R2}{n:Nat}(h:∀ x∈L,GL n x)(h1:1<=n)(j:Nat):GL n (L.getD j z2):=gl_getD h h1 j
structure JV where
 v:R2
 g:List R2
def jz:JV:=⟨z2,[]⟩
def nI(x:JV):xS:=⟨kF x.v,x.g.map kF,[]⟩
def aW(N n:Nat)(x:JV):Prop:=GL N x.v/\(∀ y∈x.g,GL N y)/\x.g.length=n
theorem aW.at{N n:Nat}{x:JV}(h:aW N n x)(h1:1<=N)(j:Nat):GL N (x.g.getD j z2):=uH h.2.1 h1 j
theorem bZ{α β:Type}(f:α->β)(l:List α)(d:α)(e:β){j:Nat}(h:j<l.length):(l.map f).getD j e=f (l.getD j d):=by
 rw[getD_eq_getElem?_getD,getElem?_map,getD_eq_getElem?_getD,getElem?_eq_getElem h];rfl
def jk(V:R2)(G:Nat->R2)(n:Nat):JV:=⟨V,(range n).map G⟩
theorem jk_push{G:Nat->R2}{l:List jX}{i:Nat}(h:l=((range i).map G).map kF):l++[kF (G i)]=((range (i+1)).map G).map kF:=by
 rw[h,range_succ,map_append,map_append];rfl
theorem jk_len{G:Nat->R2}{l:List jX}{i:Nat}(h:l=((range i).map G).map kF):l.length=i:=by
 rw[h];simp
theorem jk_ok{V:R2}{G:Nat->R2}{N n:Nat}(hV:GL N V)(hG:∀ i,i<n->GL N (G i)):aW N n (jk V G n):=by
 refine ⟨hV,λy hy=>?_,by simp [jk]⟩
 obtain ⟨i,hi,rfl⟩:=mem_map.1 hy
 exact hG i (mem_range.1 hi)
def jA(L:List JV)(z:Int):JV:=L.getD z.toNat jz
def nV(bx:List R2)(L:List JV)(x:jS):R2 :=
 if x.op=0 then xG (qS x.n)
 else if x.op=1 then bx.getD x.a.toNat z2
 else if x.op=2 then qE (jA L x.a).v (jA L x.b).v
 else if x.op=3 then gS (jA L x.a).v (jA L x.b).v
 else if x.op=4 then kL (jA L x.a).v (jA L x.b).v
 else if x.op=6 then gS (gw 0) (jA L x.a).v
 else if x.op=7 then gsq (jA L x.a).v
 else fK (jA L x.a).v (jA L x.b).v
def nG(bx:List R2)(L:List JV)(x:jS)(i:Nat):R2 :=
 if x.op=0 then gw 0
 else if x.op=1 then (if (i:Int)=x.a then gw 1 else gw 0)
 else if x.op=2 then qE ((jA L x.a).g.getD i z2) ((jA L x.b).g.getD i z2)
 else if x.op=3 then gS ((jA L x.a).g.getD i z2) ((jA L x.b).g.getD i z2)
 else if x.op=4 then qE (kL (jA L x.a).v ((jA L x.b).g.getD i z2)) (kL (jA L x.b).v ((jA L x.a).g.getD i z2))
 else if x.op=6 then gS (gw 0) ((jA L x.a).g.getD i z2)
 else if x.op=7 then kL (gw 2) (kL (jA L x.a).v ((jA L x.a).g.getD i z2))
 else fK (gS ((jA L x.a).g.getD i z2) (kL (nV bx L x) ((jA L x.b).g.getD i z2))) (jA L x.b).v
def nJ(bx:List R2)(L:List JV)(x:jS):JV:=jk (nV bx L x) (nG bx L x) bx.length
def jU(bx:List R2)(t:List jS):Nat->List JV
 |0=>[]
 |k+1=>jU bx t k++[nJ bx (jU bx t k) (t.getD k tz)]
theorem gZ(bx:List R2)(t:List jS):∀ k,(jU bx t k).length=k
 |0=>rfl
 |k+1=>by rw[jU,length_append,gZ bx t k];rfl
end Go.Fid
namespace Go.Proofs.YtckccjhflbljgaaGreatDoor
open List Tryz
open Go.Fid
def jQ(x:kW):jY:=.agg [.val (.bool x.neg),.sl 107 1 (x.gs.map jC)]
def jJ(x:kY):jY:=.agg [.val (.bool x.num.neg),.sl 107 1 (x.num.gs.map jC),.val (.bool x.den.neg),.sl 107 1 (x.den.gs.map jC)]
def jG(x:jX):jY:=.agg [.val (.bool x.lo.num.neg),.sl 107 1 (x.lo.num.gs.map jC),.val (.bool x.lo.den.neg),.sl 107 1 (x.lo.den.gs.map jC),.val (.bool x.hi.num.neg),.sl 107 1 (x.hi.num.gs.map jC),.val (.bool x.hi.den.neg),.sl 107 1 (x.hi.den.gs.map jC)]
def jN(x:jS):jY:=.agg [.val (.int .i64 x.op),.val (.int .i64 x.a),.val (.int .i64 x.b),.val (.bool x.n.num.neg),.sl 107 1 (x.n.num.gs.map jC),.val (.bool x.n.den.neg),.sl 107 1 (x.n.den.gs.map jC)]
def qY(l:List (jX)):jY:=.sl 42 8 (l.map jG)
def jR(x:xS):jY:=.agg [.val (.bool x.value.lo.num.neg),.sl 107 1 (x.value.lo.num.gs.map jC),.val (.bool x.value.lo.den.neg),.sl 107 1 (x.value.lo.den.gs.map jC),.val (.bool x.value.hi.num.neg),.sl 107 1 (x.value.hi.num.gs.map jC),.val (.bool x.value.hi.den.neg),.sl 107 1 (x.value.hi.den.gs.map jC),.sl 42 8 (x.grad.map jG),.sl 43 1 (x.hess.map qY)]
structure A2 (α:Type) where
 a0:α
 a1:α
structure A3 (α:Type) where
 a0:α
 a1:α
 a2:α
def encA39(x:A2 (Nat)):jY:=.agg [.val (.int .u8 ((x.a0:Nat):Int)),.val (.int .u8 ((x.a1:Nat):Int))]
def encA130(x:A3 (Int)):jY:=.agg [.val (.int .i64 x.a0),.val (.int .i64 x.a1),.val (.int .i64 x.a2)]
theorem mo:prog.follows .mixedOrders=true:=by kernel_rfl
end Go.Proofs.YtckccjhflbljgaaGreatDoor
namespace Go.Fid
open List
open Go.RowKit (Below)
section
variable {P:Program} {o:Oper} {S:Nat->SV}
theorem e_nckr{x:Operand}{k q:Nat}(ho:o.op=.nilCheck x)(hx:ev S x=.ref k q):uP P o S [] (.ref k q) :=
 uP.same λa' w D β hop _=>by
  have hp:=hop x (by simp [ho,Op.operands])
  rw[hx] at hp
  obtain ⟨b,h1,h2⟩:=hp
  exact ⟨.pointer (some ⟨b,q,none⟩),by simp [execOp,ho,h2],b,h1,rfl⟩
inductive yS (E:TypeId):jY->Prop
 |val (v:Value):yS E (.val v)
 |sl {t:TypeId} {s:Nat} {es:List jY} (h:t≠E) (hs:∀ (i:Nat) d,(qK es)[i]?=some d->yS E d):yS E (.sl t s es)
 |agg {cs:List jY} (hs:∀ (i:Nat) d,cs[i]?=some d->yS E d):yS E (.agg cs)
 |tup {cs:List jY} (hs:∀ (i:Nat) d,cs[i]?=some d->yS E d):yS E (.tup cs)
 |cptr {t:TypeId} {cs:List jY} {off:Nat} (h:t≠E) (hs:∀ (i:Nat) d,cs[i]?=some d->yS E d):yS E (.cptr t cs off)
 |clo {f:FuncId} {iR:List jY} (hs:∀ (i:Nat) d,iR[i]?=some d->yS E d):yS E (.clo f iR)
theorem avo_nil{E:TypeId}:∀ (i:Nat) d,([]:List jY)[i]?=some d->yS E d:=λi d h=>by simp at h
theorem eQ{E:TypeId}{x:jY}{l:List jY}(h:yS E x)(hl:∀ (i:Nat) d,l[i]?=some d->yS E d):∀ (i:Nat) d,(x::l)[i]?=some d->yS E d:=λi d hd=>by
 rcases i with _ | i
 ·simp at hd;subst hd;exact h
 ·exact hl i d (by simpa using hd)
theorem avo_vals{α:Type}{E t:TypeId}{s:Nat}{F:α->Value}(h:t≠E)(l:List α):yS E (.sl t s (l.map λx=>jY.val (F x))) :=
 .sl h (λi d hd=>by
  have:d∈qK (l.map λx=>jY.val (F x)):=mem_of_getElem? hd
  simp only[qK,mem_flatMap,mem_map] at this
  obtain ⟨x,⟨y,_,rfl⟩,hx⟩:=this
  simp only[jY.cells,mem_singleton] at hx
  subst hx;exact .val _)
theorem yS.rep{E:TypeId}{w:World}{D D':kV}(hk:∀ t g o,t≠E->D t g o->D' t g o){v:Value}{r:jY}(ha:yS E r)(h:uS w D v r):uS w D' v r:=by
 induction h with
 |val v=>exact .val v
 |sl g off u hn hc hm hs hao hD hu h1 hr ih=>
  cases ha with
  |sl hne has=>exact .sl g off u hn hc hm hs hao (λi hi=>hk _ _ _ hne (hD i hi)) hu h1 (λi d hd=>ih i d hd (has i d hd))
 |agg vs hl h1 hr ih=>
  cases ha with
  |agg has=>exact .agg vs hl h1 (λi v d hv hd=>ih i v d hv hd (has i d hd))
 |tup vs hl hr ih=>
  cases ha with
  |tup has=>exact .tup vs hl (λi v d hv hd=>ih i v d hv hd (has i d hd))
 |cptr g o u hD hu h1 hr ih=>
  cases ha with
  |cptr hne has=>exact .cptr g o u (λi hi=>hk _ _ _ hne (hD i hi)) hu h1 (λi d hd=>ih i d hd (has i d hd))
 |clo vs hl hr ih=>
  cases ha with
  |clo has=>exact .clo vs hl (λi v d hv hd=>ih i v d hv hd (has i d hd))
inductive cV (k:Nat) (E:TypeId) (s q m:Nat) (es:List jY):List SV->List jY->Prop
 |nil:cV k E s q m es [] []
 |d {x:jY} {zs:List SV} {ds:List jY} (h:cV k E s q m es zs ds):cV k E s q m es (.d x::zs) (x::ds)
 |v {zs:List SV} {ds:List jY} (h:cV k E s q m es zs ds):cV k E s q m es (.view k q m::zs) (.sl E s es::ds)
theorem cV.len{k E s q m:Nat}{es:List jY}{zs:List SV}{ds:List jY}(h:cV k E s q m es zs ds):zs.length=ds.length:=by
 induction h with
 |nil=>rfl
 |d h ih=>simp [ih]
 |v h ih=>simp [ih]
theorem cV.rep{k E s q m:Nat}{es:List jY}{w:World}{D D':kV}{β:kX}(h1:∀ v x,uS w D v x->uS w D' v x)(h2:∀ v,kZ w D β v (.view k q m)->uS w D' v (.sl E s es)){zs:List SV}{ds:List jY}(h:cV k E s q m es zs ds) :
  ∀ {vs:List Value},vs.length=zs.length->(∀ (i:Nat) v x,vs[i]?=some v->zs[i]?=some x->kZ w D β v x)->∀ (i:Nat) v d,vs[i]?=some v->ds[i]?=some d->uS w D' v d:=by
 induction h with
 |nil=>intro vs _ _ i v d _ hd;simp at hd
 |d h ih=>
  intro vs hl hr i v d' hv hd
  rcases vs with _ | ⟨v0,vs⟩
  ·simp at hl
  ·rcases i with _ | i
   ·simp at hv hd;subst hv;subst hd;exact h1 _ _ (hr 0 _ _ rfl rfl)
   ·exact ih (by simpa using hl) (λi v x h3 h4=>hr (i+1) v x (by simpa using h3) (by simpa using h4)) i v d' (by simpa using hv) (by simpa using hd)
 |v h ih=>
  intro vs hl hr i v d' hv hd
  rcases vs with _ | ⟨v0,vs⟩
  ·simp at hl
  ·rcases i with _ | i
   ·simp at hv hd;subst hv;subst hd;exact h2 _ (hr 0 _ _ rfl rfl)
   ·exact ih (by simpa using hl) (λi v x h3 h4=>hr (i+1) v x (by simpa using h3) (by simpa using h4)) i v d' (by simpa using hv) (by simpa using hd)
end
end Go.Fid
