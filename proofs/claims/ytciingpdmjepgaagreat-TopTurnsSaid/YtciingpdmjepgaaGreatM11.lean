/- Part 11 of a proof: rules, plain facts, and functions walked. -/
import Derived.Test.YtciingpdmjepgaaGreatM10
set_option linter.all false
namespace Go.Fid
open Go.RowKit (Below)
theorem publish_core{C:Ctx}{a:Act}{w:World}{st:PS}{D:kN}{β:kT}{k s m:Nat}{T:TypeId}{cs:List SV}{es:List jW}(h:dP C a w st D β)(hb:jV st.bs k=some cs)(hes:∀ e∈es,e.cells.length=s)(hl:es.length=m)(hc:cs.take (m*s)=(flat es).map .d) :
  ∃ D',dP C a w ⟨st.sl,(k,none)::st.bs⟩ D' β/\∀ v D2,qF w D2 β v (.own k T s m)->uC w D' v (.sl T s es):=by
 have hfl:=uN hes
 have hbs:∀ {j:Nat} {c:List SV},jV ((k,none)::st.bs) j=some c->j≠k/\jV st.bs j=some c:=fun {j c} hj=>by
  rw[jJ] at hj
  split at hj
  ·cases hj
  ·rename_i e;exact ⟨fun e'=>e e'.symm,hj⟩
 rcases h.mem.ok k cs hb with g1 | ⟨b,vs,T',g1,g2,g3,g4,g5⟩
 ·refine ⟨D,⟨h.base,⟨fun j c hj=>h.mem.ok j c (hbs hj).2,fun j1 j2 c1 c2 q1 q2=>h.mem.inj j1 j2 c1 c2 (hbs q1).2 (hbs q2).2⟩,fun j c hj=>h.high j c (hbs hj).2,h.slots⟩,fun v D2 hv=>?_⟩
  rcases hv with ⟨_,e2,e3⟩ | ⟨b,cap,vs,h1,_,h3,_⟩
  ·rw[e2] at hl
   have hn:es=[]:=List.eq_nil_of_length_eq_zero hl
   subst hn
   rw[e3];exact bA w D T s
  ·exact (g1.at_cells h1 h3).elim
 ·have hlt:=qR g2
  have hmono:∀ t' g o,D t' g o->(D t' g o\/(t'=T/\g=b/\o<m*s))/\w.cell? ⟨g,o,none⟩=w.cell? ⟨g,o,none⟩:=fun t' g o hd=>⟨.inl hd,rfl⟩
  have hS:∀ {v x},qF w D β v x->qF w (fun t' g o=>D t' g o\/(t'=T/\g=b/\o<m*s)) β v x:=fun {v x} hr=>by
   cases x with
   |d x=>exact uC.mono hmono hr
   |ref k o=>exact hr
   |own k t s n=>exact hr
   |clo f ks=>exact hr
   |emp=>exact hr
   |view k o n=>exact hr
   |mp k=>exact hr
   |mo ob=>exact hr
   |pr k t s n x=>obtain ⟨v1,v2,e,h1,h2⟩:=hr;exact ⟨v1,v2,e,h1,uC.mono hmono h2⟩
   |refx k o b=>exact hr
   |mpx k b=>exact hr
   |bnd f k o=>exact hr
   |ownx k t s n u=>exact hr
   |junk=>trivial
  refine ⟨fun t' g o=>D t' g o\/(t'=T/\g=b/\o<m*s),⟨⟨h.base.defers,h.base.size,h.base.keep,h.base.oth,h.base.pin,h.base.below,fun t' g o hd=>.inl (h.base.dmono _ _ _ hd),fun t' g o hd=>?_,h.base.dok.more (fun _ _ _ hd=>.inl hd) fun t' g o hd=>?_⟩,⟨fun j c hj=>?_,fun j1 j2 c1 c2 q1 q2=>h.mem.inj j1 j2 c1 c2 (hbs q1).2 (hbs q2).2⟩,fun j c hj=>h.high j c (hbs hj).2,fun u=>hS (h.slots u)⟩,fun v D2 hv=>?_⟩
  ·rcases hd with hd | ⟨_,e,_⟩
   ·exact h.base.dnew _ _ _ hd
   ·subst e;exact .inr (h.high k cs hb g g1)
  ·rcases hd with hd | ⟨_,e,_⟩
   ·exact h.base.dok.lt _ _ _ hd
   ·subst e;exact hlt
  ·obtain ⟨hne,hj'⟩:=hbs hj
   rcases h.mem.ok j c hj' with q | ⟨b2,vs2,T2,q1,q2,q3,q4,q5⟩
   ·exact .inl (q.more (g:=b) (fun t' g' o hd=>by rcases hd with hd | ⟨_,e,_⟩;exact .inl hd;exact .inr e) (fun e=>hne (h.mem.inj j k _ _ hj' hb b e g1)))
   ·refine .inr ⟨b2,vs2,T2,q1,q2,q3,fun i x hx=>?_,fun t' o hd=>?_⟩
    ·obtain ⟨u,e1,e2,e3⟩:=q4 i x hx
     exact ⟨u,e1,e2,hS e3⟩
    ·rcases hd with hd | ⟨_,e,_⟩
     ·exact q5 _ _ hd
     ·subst e;exact hne (h.mem.inj j k _ _ hj' hb b2 q1 g1)
  ·rcases hv with ⟨e1,_,_⟩ | ⟨b2,cap,vs2,h1,h2,h3,h4,h5,h6⟩
   ·rw[e1] at g1;cases g1
   ·obtain rfl:b=b2:=by rw[h1] at g1;injection g1 with g1;exact g1.symm
    rw[h3] at g2
    injection g2 with g2
    injection g2 with g2 gT
    subst g2;subst gT
    rw[h2]
    have key:∀ (i:Nat) d,(flat es)[i]?=some d->∃ u,vs2[i]?=some u/\u.oneCell'=true/\uC w D u d:=fun i d hd=>by
     have hi:i<m*s:=by
      have:=(List.getElem?_eq_some_iff.1 hd).1
      rw[hfl,hl] at this;exact this
     have e1:cs[i]?=some (.d d):=by
      have:(cs.take (m*s))[i]?=some (.d d):=by rw[hc];simp [hd]
      rwa [List.getElem?_take_of_lt hi] at this
     exact g4 i _ e1
    have hcell:∀ i,w.cell? ⟨b,i,none⟩=vs2[i]?:=fun i=>cell_of_row w b i vs2 T (0,0) h3
    refine uC.sl b 0 (fun i=>vs2.getD i undef) hl.symm h5 h6 hes (fun _=>rfl) (fun i hi=>.inr ⟨rfl,rfl,by rw[Nat.zero_add,<- hl,<- hfl];exact hi⟩) (fun i hi=>?_) (fun i hi=>?_) (fun i d hd=>?_)
    ·obtain ⟨x,q1,q2,q3⟩:=key i _ (List.getElem?_eq_getElem hi)
     rw[Nat.zero_add,hcell,Array.getD_eq_getD_getElem?,q1];rfl
    ·obtain ⟨x,q1,q2,q3⟩:=key i _ (List.getElem?_eq_getElem hi)
     rw[Array.getD_eq_getD_getElem?,q1];exact q2
    ·obtain ⟨x,q1,q2,q3⟩:=key i d hd
     rw[Array.getD_eq_getD_getElem?,q1]
     exact uC.mono hmono q3
theorem publishB{st:PS}{j k s m:Nat}{T:TypeId}{cs:List SV}{es:List jW}(hj:jV st.bs j=some [.own k T s m])(hjk:Nat.beq k j=false)(hb:jV st.bs k=some cs)(hes:∀ e∈es,e.cells.length=s)(hl:es.length=m)(hc:cs.take (m*s)=(flat es).map .d) :
  kP st ⟨st.sl,(j,some [.d (.sl T s es)])::(k,none)::st.bs⟩:=fun C a w ⟨D,β,h⟩=>by
 obtain ⟨D',h',hown⟩:=publish_core (T:=T) h hb hes hl hc
 have hne:k≠j:=aN hjk
 have hj2:jV ((k,none)::st.bs) j=some [.own k T s m]:=by rw[jJ,if_neg hne];exact hj
 refine ⟨D',β,h'.base,⟨fun i c hi=>?_,fun i1 i2 c1 c2 q1 q2=>?_⟩,fun i c hi=>?_,h'.slots⟩
 ·rw[jJ] at hi
  split at hi
  ·rename_i e;subst e
   injection hi with hi;subst hi
   rcases h'.mem.ok j _ hj2 with (⟨_,q⟩ | ⟨_,_,_,_,_,q,_⟩) | ⟨b,vs,T2,q1,q2,q3,q4,q5⟩
   ·cases q
   ·cases q
   ·refine .inr ⟨b,vs,T2,q1,q2,by simpa using q3,fun i x hx=>?_,q5⟩
    rcases i with _ | i
    ·obtain ⟨u,e1,e2,e3⟩:=q4 0 _ rfl
     simp at hx;subst hx
     exact ⟨u,e1,e2,hown u D' e3⟩
    ·simp at hx
  ·exact h'.mem.ok i c hi
 ·have conv:∀ {i c},jV ((j,some [SV.d (.sl T s es)])::(k,none)::st.bs) i=some c->∃ c',jV ((k,none)::st.bs) i=some c':=fun {i c} hi=>by
   rw[jJ] at hi
   split at hi
   ·rename_i e;subst e;exact ⟨_,hj2⟩
   ·exact ⟨c,hi⟩
  obtain ⟨c1',r1⟩:=conv q1
  obtain ⟨c2',r2⟩:=conv q2
  exact h'.mem.inj i1 i2 c1' c2' r1 r2
 ·rw[jJ] at hi
  split at hi
  ·rename_i e;subst e;exact h'.high j _ hj2
  ·exact h'.high i c hi
section
variable {P:Program} {o:Oper} {S:Nat->SV}
theorem t_sto{T:TypeId}{x y:Operand}{k j E s n:Nat}{u:SV}(ho:o.op=.store T x y)(hx:ev S x=.ref k 0)(hy:ev S y=.own j E s n)(hs:kQ P T=some (false,1))(hm:u.isMo=false):TOk P o S k [u] [.own j E s n] :=
 t_store (old:=[u]) ho hx hy hs (.inr ⟨⟨j,E,s,n,rfl⟩,rfl⟩) rfl (Nat.le_refl _) (mapCs_at (i:=0) rfl hm)
inductive cD (k:Nat) (T:TypeId) (s m:Nat) (es:List jW):List SV->List jW->Prop
 |nil:cD k T s m es [] []
 |d {x:jW} {zs:List SV} {ds:List jW} (h:cD k T s m es zs ds):cD k T s m es (.d x::zs) (x::ds)
 |o {zs:List SV} {ds:List jW} (h:cD k T s m es zs ds):cD k T s m es (.own k T s m::zs) (.sl T s es::ds)
theorem cD.len{k:Nat}{T:TypeId}{s m:Nat}{es:List jW}{zs:List SV}{ds:List jW}(h:cD k T s m es zs ds):zs.length=ds.length:=by
 induction h with
 |nil=>rfl
 |d h ih=>simp [ih]
 |o h ih=>simp [ih]
theorem cD.rep{k:Nat}{T:TypeId}{s m:Nat}{es:List jW}{w:World}{D D':kN}{β:kT}(h1:∀ v x,uC w D v x->uC w D' v x)(h2:∀ v,qF w D β v (.own k T s m)->uC w D' v (.sl T s es)){zs:List SV}{ds:List jW}(h:cD k T s m es zs ds) :
  ∀ {vs:List Value},vs.length=zs.length->(∀ (i:Nat) v x,vs[i]?=some v->zs[i]?=some x->qF w D β v x)->∀ (i:Nat) v d,vs[i]?=some v->ds[i]?=some d->uC w D' v d:=by
 induction h with
 |nil=>intro vs _ _ i v d _ hd;simp at hd
 |d h ih=>
  rename_i x zs ds
  intro vs hl hr i v d' hv hd
  rcases vs with _ | ⟨v0,vs⟩
  ·simp at hl
  ·rcases i with _ | i
   ·simp at hv hd;subst hv;subst hd;exact h1 _ _ (hr 0 _ _ rfl rfl)
   ·exact ih (by simpa using hl) (fun i v x h3 h4=>hr (i+1) v x (by simpa using h3) (by simpa using h4)) i v d' (by simpa using hv) (by simpa using hd)
 |o h ih=>
  intro vs hl hr i v d' hv hd
  rcases vs with _ | ⟨v0,vs⟩
  ·simp at hl
  ·rcases i with _ | i
   ·simp at hv hd;subst hv;subst hd;exact h2 _ (hr 0 _ _ rfl rfl)
   ·exact ih (by simpa using hl) (fun i v x h3 h4=>hr (i+1) v x (by simpa using h3) (by simpa using h4)) i v d' (by simpa using hv) (by simpa using hd)
theorem e_clo{y:Operand}{xs:List Operand}{ats:Array TypeId}{f:FuncId}{ds es:List jW}{u:Value}{zs:List SV}{cs:List SV}{k T s m:Nat}(hf:jU P f ds (.val u))(ho:o.op=.call { callee:=.value y,args:=xs.toArray,argTypes:=ats })(hy:ev S y=.d (.val (.func (.func f) #[] #[])))(hx:xs.map (ev S)=zs)
  (hz:cD k T s m es zs ds) (hes:∀ e∈es,e.cells.length=s) (hl:es.length=m) (hc:cs.take (m*s)=(flat es).map .d):qU P o S [(k,cs)] (.d (.val u)) :=
 fun a w D β Q hop hrd hD=>by
  have hyv:=hop y (by simp [ho,Op.operands,Call.operands])
  rw[hy] at hyv
  have hyv':=qH hyv
  have hrep:∀ (i:Nat) v x,(xs.map a.eval)[i]?=some v->zs[i]?=some x->qF w D β v x:=fun i v x hv hz'=>by
   rw[List.getElem?_map,Option.map_eq_some_iff] at hv
   obtain ⟨q,hqi,rfl⟩:=hv
   have hm:=hop q (by simp [ho,Op.operands,Call.operands,List.mem_of_getElem? hqi])
   have hi:=congrArg (fun l:List SV=>l[i]?) hx
   simp only[List.getElem?_map,hqi,hz',Option.map_some,Option.some.injEq] at hi
   rw[hi] at hm
   exact hm
  have uB:(xs.map a.eval).length=zs.length:=by rw[<- hx];simp
  have hrun:(execOp a.eval o).run P w=.ok (.enter f (xs.map a.eval).toArray) w:=by
   simp only[execOp,ho,resolve,Deferred.ofValue,hyv',Sem.run_bind,Sem.run_pure,Result.andThen_ok,invoke,Array.empty_append,Array.append_empty]
   rw[vQ hf.may]
   simp
  have hfl:=uN hes
  have hblk:=hrd (k,cs) (by simp)
  have key:∃ D',DOk D' w/\(∀ v x,uC w D v x->uC w D' v x)/\(∀ v,qF w D β v (.own k T s m)->uC w D' v (.sl T s es)):=by
   rcases hblk with g1 | ⟨b,vs,T',g1,g2,g3,g4,g5⟩
   ·refine ⟨D,hD,fun _ _ h=>h,fun v hv=>?_⟩
    rcases hv with ⟨_,e2,e3⟩ | ⟨b,cap,vs,h1,_,h3,_⟩
    ·rw[e2] at hl
     have hn:es=[]:=List.eq_nil_of_length_eq_zero hl
     subst hn
     rw[e3];exact bA w D T s
    ·exact (g1.at_cells h1 h3).elim
   ·have hmono:∀ t' g o,D t' g o->(D t' g o\/(t'=T/\g=b/\o<m*s))/\w.cell? ⟨g,o,none⟩=w.cell? ⟨g,o,none⟩:=fun t' g o hd=>⟨.inl hd,rfl⟩
    refine ⟨fun t' g o=>D t' g o\/(t'=T/\g=b/\o<m*s),hD.more (fun _ _ _ hd=>.inl hd) fun t' g o hd=>?_,fun v x hr=>uC.mono hmono hr,fun v hv=>?_⟩
    ·rcases hd with hd | ⟨_,e,_⟩
     ·exact hD.lt _ _ _ hd
     ·subst e;exact qR g2
    ·rcases hv with ⟨e1,_,_⟩ | ⟨b2,cap,vs2,h1,h2,h3,h4,h5,h6⟩
     ·rw[e1] at g1;cases g1
     ·obtain rfl:b=b2:=by rw[h1] at g1;injection g1 with g1;exact g1.symm
      rw[h3] at g2
      injection g2 with g2
      injection g2 with g2 gT
      subst g2;subst gT
      rw[h2]
      have key:∀ (i:Nat) d,(flat es)[i]?=some d->∃ u,vs2[i]?=some u/\u.oneCell'=true/\uC w D u d:=fun i d hd=>by
       have hi:i<m*s:=by
        have:=(List.getElem?_eq_some_iff.1 hd).1
        rw[hfl,hl] at this;exact this
       have e1:cs[i]?=some (.d d):=by
        have:(cs.take (m*s))[i]?=some (.d d):=by rw[hc];simp [hd]
        rwa [List.getElem?_take_of_lt hi] at this
       exact g4 i _ e1
      have hcell:∀ i,w.cell? ⟨b,i,none⟩=vs2[i]?:=fun i=>cell_of_row w b i vs2 T (0,0) h3
      refine uC.sl b 0 (fun i=>vs2.getD i undef) hl.symm h5 h6 hes (fun _=>rfl) (fun i hi=>.inr ⟨rfl,rfl,by rw[Nat.zero_add,<- hl,<- hfl];exact hi⟩) (fun i hi=>?_) (fun i hi=>?_) (fun i d hd=>?_)
      ·obtain ⟨x,q1,q2,q3⟩:=key i _ (List.getElem?_eq_getElem hi)
       rw[Nat.zero_add,hcell,Array.getD_eq_getD_getElem?,q1];rfl
      ·obtain ⟨x,q1,q2,q3⟩:=key i _ (List.getElem?_eq_getElem hi)
       rw[Array.getD_eq_getD_getElem?,q1];exact q2
      ·obtain ⟨x,q1,q2,q3⟩:=key i d hd
       rw[Array.getD_eq_getD_getElem?,q1]
       exact uC.mono hmono q3
  obtain ⟨D',hD',hm1,hm2⟩:=key
  have hargs:Args w D' (xs.map a.eval) ds:=⟨uB.trans hz.len,hz.rep hm1 hm2 uB hrep⟩
  refine cK hrun ((hf.run w D' _ hD' hargs).mono fun e w' h=>?_)
  obtain ⟨v,D2,he,h1,h2,h3⟩:=h
  refine ⟨v,he,v,D,rfl,h1,⟨fun _ _ _ h=>h,fun _ _ _ h=>.inl h⟩,?_⟩
  rw[qH h3]
  exact .val u
def OPost(w:World)(D:kN)(T s n:Nat)(es:List jW)(e:Ending)(w':World):Prop :=
 ∃ v D' b cap vs,e=.returned v/\Below w.heap.size w w'/\fS D D' w w'/\w.heap.size<=b/\(∀ t o,¬ D' t b o)/\v=.slice (some ⟨b,0,none⟩) n cap/\w'.heap[b]?=some (.cells vs T (0,0))/\vs.size=cap*s/\n<=cap/\cap<=maxLen/\es.length<=vs.size /\
  (∀ (i:Nat) d,es[i]?=some d->∃ u,vs[i]?=some u/\u.oneCell'=true/\uC w' D' u d)
structure TakesO (P:Program) (f:FuncId) (ds:List jW) (T s n:Nat) (es:List jW):Prop where
 may:callB P f=true
 run:∀ (w:World) (D:kN) (vs:List Value),DOk D w->Args w D vs ds->Calls P f vs.toArray w (OPost w D T s n es)
theorem n_own{y:Operand}{xs:List Operand}{ats:Array TypeId}{f:FuncId}{ds es:List jW}{T s n:Nat}{cs:List SV}(k:Nat)(hf:TakesO P f ds T s n es)(ho:o.op=.call { callee:=.value y,args:=xs.toArray,argTypes:=ats })(hy:ev S y=.d (.val (.func (.func f) #[] #[])))(hx:xs.map (ev S)=ds.map .d)(hc:es.map .d=cs):NOk P o S k cs (.own k T s n) :=
 fun a w D β Q hop hD=>by
  subst hc
  have hyv:=hop y (by simp [ho,Op.operands,Call.operands])
  rw[hy] at hyv
  have hyv':=qH hyv
  have hargs:Args w D (xs.map a.eval) ds:=by
   have hl:xs.length=ds.length:=by simpa using congrArg List.length hx
   refine ⟨by simpa using hl,fun i v d hv hd=>?_⟩
   rw[List.getElem?_map,Option.map_eq_some_iff] at hv
   obtain ⟨x,hxi,rfl⟩:=hv
   have hm:=hop x (by simp [ho,Op.operands,Call.operands,List.mem_of_getElem? hxi])
   have hi:=congrArg (fun l:List SV=>l[i]?) hx
   simp only[List.getElem?_map,hxi,hd,Option.map_some,Option.some.injEq] at hi
   rw[hi] at hm
   exact hm
  have hrun:(execOp a.eval o).run P w=.ok (.enter f (xs.map a.eval).toArray) w:=by
   simp only[execOp,ho,resolve,Deferred.ofValue,hyv',Sem.run_bind,Sem.run_pure,Result.andThen_ok,invoke,Array.empty_append,Array.append_empty]
   rw[vQ hf.may]
   simp
  refine cK hrun ((hf.run w D _ hD hargs).mono fun e w' h=>?_)
  obtain ⟨v,D',b,cap,vs,he,h1,h2,h3,h4,h5,h6,h7,h8,h9,h10,h11⟩:=h
  have hβ:β.set k b k=some b:=by simp [kT.set]
  refine ⟨v,he,v,D',b,rfl,h1,h2,h3,qR h6,h4,.inr ⟨b,vs,T,hβ,h6,by simpa using h10,fun i x hx=>?_,h4⟩,.inr ⟨b,cap,vs,hβ,h5,h6,h7,h8,h9⟩⟩
  rw[List.getElem?_map,Option.map_eq_some_iff] at hx
  obtain ⟨d,hd,rfl⟩:=hx
  exact h11 i d hd
theorem leaves_own{a:Act}{v:Value}{w w0:World}{fn:Func}{D D':kN}{T s n b cap:Nat}{es:List jW}{vs:Array Value}{ds:List Deferred}(hd:DfOk w0.heap.size w ds)(hres:∀ w',(results fn a.tmps).run P w'=.ok v w')
  (mD:Below w0.heap.size w0 w) (hup:∀ t g o,D t g o->D' t g o) (hnew:∀ t g o,D' t g o->D t g o\/w0.heap.size<=g) (hdok:DOk D' w) (h3:w0.heap.size<=b) (h4:∀ t o,¬ D' t b o) (h5:v=.slice (some ⟨b,0,none⟩) n cap)
  (h6:w.heap[b]?=some (.cells vs T (0,0))) (h7:vs.size=cap*s) (h8:n<=cap) (h9:cap<=maxLen) (h10:es.length<=vs.size) (h11:∀ (i:Nat) d,es[i]?=some d->∃ u,vs[i]?=some u/\u.oneCell'=true/\uC w D' u d) :
  LeavesInM Fence.wide 0 P fn a.tmps (OPost w0 D T s n es) ds .returning w:=by
 induction ds generalizing w with
 |nil=>
  refine ⟨v,hres w,v,D',b,cap,vs,rfl,mD,⟨hup,fun t g o hd=>?_⟩,h3,h4,h5,h6,h7,h8,h9,h10,h11⟩
  rcases hnew t g o hd with q | q
  ·exact .inl q
  ·exact .inr ⟨q,hdok.lt _ _ _ hd⟩
 |cons d ds ih=>
  cases hd with
  |cons hqb hqh h3' hr=>
   rename_i q
   have hne:b≠q:=fun e=>by subst e;rw[h6] at hqh;cases hqh
   refine ⟨by simp,.inl ⟨q,_,rfl,run_takeDeferred hqh,ih (hr.keep fun q' hq' ⟨d,hd,e⟩=>?_) (turned_below mD hqb) (hdok.kept (by simp [World.putObj]) fun t g o _=>yW hqh rfl rfl g o) ((World.putObj_heap_other hne).trans h6) (fun i d hd=>?_)⟩⟩
   ·have hne:q'≠q:=fun e'=>h3' d hd (e'▸e)
    exact (World.putObj_heap_other hne).trans hq'
   ·obtain ⟨u,e1,e2,e3⟩:=h11 i d hd
    exact ⟨u,e1,e2,dV (β:=fun _=>none) (x:=.d d) hqh rfl rfl rfl e3⟩
def RetO(rs:List ResultVar)(T s n:Nat)(es:List jW):Exit->PS->Prop
 |.ret,st=>∃ t k,rs=[.tmp t]/\jR st.sl t=.own k T s n/\∃ cs,jV st.bs k=some cs/\es.length<=cs.length/\∀ (i:Nat) d,es[i]?=some d->cs[i]?=some (.d d)
 |.normal,st=>∃ t k,rs=[.tmp t]/\jR st.sl t=.own k T s n/\∃ cs,jV st.bs k=some cs/\es.length<=cs.length/\∀ (i:Nat) d,es[i]?=some d->cs[i]?=some (.d d)
 |_,_=>False
theorem own_prefix{α:Type}(F:α->jW){L L':List α}{j:Nat}(h:L=L'.take j):(L.map F).length<=(L'.map (fun g=>SV.d (F g))).length/\∀ (i:Nat) d,(L.map F)[i]?=some d->(L'.map (fun g=>SV.d (F g)))[i]?=some (.d d):=by
 subst h
 refine ⟨by simp;omega,fun i d hd=>?_⟩
 rw[List.getElem?_map,Option.map_eq_some_iff] at hd
 obtain ⟨g,hg,rfl⟩:=hd
 have hi:i<(L'.take j).length:=(List.getElem?_eq_some_iff.1 hg).1
 rw[List.length_take] at hi
 rw[List.getElem?_take_of_lt (by omega)] at hg
 rw[List.getElem?_map,hg]
 rfl
theorem fn_introO{f:FuncId}{fn:Func}{c:Code}{ds:List jW}{T s n:Nat}{es:List jW}(hf:P.funcs[f]?=some fn)(hb:fn.body=some c)(hc:callB P f=true)(hn:Nat.ble ds.length fn.ntmps=true)(hpos:0<n)
  (h:cR P ⟨0,fn.ntmps,none⟩ c (RetO fn.results.toList T s n es) ⟨dR ds 0,[]⟩):TakesO P f ds T s n es :=
 ⟨hc,fun w D vs hD hargs=>by
  refine (callsIn_wide (n:=0)).1 (callsIn_of_wp_marks hf hb trivial ?_)
  have hle:ds.length<=fn.ntmps:=Nat.le_of_ble_eq_true hn
  have hvl:=hargs.1
  have hsim:nU ⟨w,D,w,#[],⟨0,fn.ntmps,none⟩,fun _=>False⟩ { tmps:=vs.toArray++Array.replicate (fn.ntmps-vs.toArray.size) undef,defers:=[] } w ⟨dR ds 0,[]⟩:=by
   refine ⟨D,fun _=>none,⟨.nil,by simp;omega,fun _ _ _ _=>rfl,fun _ _ h _ _=>h,fun t ht=>absurd ht (Nat.not_lt_zero t),.of (Below.refl _ _),fun _ _ _ h=>h,fun _ _ _ h=>.inl h,hD⟩,⟨fun k cs hk=>by simp [jV] at hk,fun k1 k2 c1 c2 h1=>by simp [jV] at h1⟩,fun k c hk=>by simp [jV] at hk,fun t=>?_⟩
   show qF w D _ _ (jR (dR ds 0) t)
   rw[sget_init]
   simp only[Nat.zero_le,if_true,Nat.sub_zero]
   cases hd:ds[t]? with
   |none=>trivial
   |some d=>
    have ht:t<vs.length:=by rw[hvl];exact (List.getElem?_eq_some_iff.1 hd).1
    refine hargs.2 t _ d ?_ hd
    rw[Array.getD_eq_getD_getElem?,Array.getElem?_append_left (by simpa using ht)]
    simp [ht]
  refine wpIn_mono (h _ _ w 0 rfl hsim) fun e a w' ⟨st,⟨D',β,hs⟩,hq⟩=>?_
  have fin:(∃ t k,fn.results.toList=[.tmp t]/\jR st.sl t=.own k T s n/\∃ cs,jV st.bs k=some cs/\es.length<=cs.length/\∀ (i:Nat) d,es[i]?=some d->cs[i]?=some (.d d))->LeavesInM Fence.wide 0 P fn a.tmps (OPost w D T s n es) a.defers .returning w':=fun ⟨t,k,h1,h2,cs,h3,h3l,h3c⟩=>by
   have ht:=hs.slots t
   rw[h2] at ht
   rcases ht with ⟨_,q,_⟩ | ⟨b,cap,vs',g1,g2,g3,g4,g5,g6⟩
   ·omega
   ·rcases hs.mem.ok k _ h3 with q | ⟨b',vs2,T2,q1,q2,q3,q4,q5⟩
    ·exact (q.at_cells g1 g3).elim
    ·obtain rfl:b=b':=by rw[g1] at q1;injection q1
     rw[g3] at q2
     injection q2 with q2
     injection q2 with q2 qT
     subst q2;subst qT
     have hr:fn.results=#[.tmp t]:=by rw[<- Array.toList_inj,h1]
     refine leaves_own (a:=a) hs.base.defers (fun w2=>?_) hs.base.below.plain hs.base.dmono (fun t g o hd=>(hs.base.dnew t g o hd).imp id (fun h=>h.elim id False.elim)) hs.base.dok ((hs.high k _ h3 b g1).elim id False.elim) q5 g2 g3 g4 g5 g6 (by omega) (fun i d hd=>q4 i (.d d) (h3c i d hd))
     rw[aM,hr]
     simp [resF]
  cases e with
  |normal=>exact fin hq
  |ret=>exact fin hq
  |exit id=>exact hq.elim
  |goto l=>exact hq.elim
  |panic ch=>exact hq.elim
  |outgrown=>exact hq.elim⟩
end
def FrB(k:Nat)(B:BS):Prop:=(B.all fun p=>(!(Nat.beq p.1 k))&&match p.2 with
  |some cs=>!(kY k cs)
  |none=>true)=true
theorem frb_nil(k:Nat):FrB k []:=rfl
theorem frb_none{k j:Nat}{B:BS}(h:Nat.beq j k=false)(hB:FrB k B):FrB k ((j,none)::B):=by
 unfold FrB at *
 rw[List.all_cons,hB,h];rfl
theorem frb_cs{k j:Nat}{cs:List SV}{B:BS}(h:Nat.beq j k=false)(hc:kY k cs=false)(hB:FrB k B):FrB k ((j,some cs)::B):=by
 unfold FrB at *
 rw[List.all_cons,hB,h];simp [hc]
theorem frb_map{α:Type}{k j:Nat}{f:α->jW}{l:List α}{B:BS}(h:Nat.beq j k=false)(hB:FrB k B):FrB k ((j,some (l.map (fun g=>SV.d (f g))))::B):=frb_cs h (hH k f l) hB
theorem frb_d{k j:Nat}{l:List jW}{B:BS}(h:Nat.beq j k=false)(hB:FrB k B):FrB k ((j,some (l.map SV.d))::B):=frb_cs h (hH k id l) hB
theorem freshB_of{k:Nat}{S:SL}{B:BS}(h1:(S.all fun p=>!p.2.names k)=true)(h2:FrB k B):zB k ⟨S,B⟩=true:=by
 unfold zB
 unfold FrB at h2
 rw[h1]
 exact h2
def PJoin{α:Type}(id:Nat)(St:α->PS)(I:α->Prop)(Q:Exit->PS->Prop):Exit->PS->Prop
 |.normal,s=>∃ y,kP s (St y)/\I y
 |.exit i,s=>if i=id then ∃ y,kP s (St y)/\I y else Q (.exit i) s
 |e,s=>Q e s
theorem pjoin_exit{α:Type}{id:Nat}{St:α->PS}{I:α->Prop}{Q:Exit->PS->Prop}{s:PS}(h:∃ y,kP s (St y)/\I y):PJoin id St I Q (.exit id) s:=by
 show (if id=id then _ else _)
 rw[if_pos rfl];exact h
theorem pwp_seqjoin{P:Program}{n:Fr}{Q:Exit->PS->Prop}{st:PS}{α:Type}{id:Nat}{c d:Code}(St:α->PS)(I:α->Prop)(h1:cR P n c (PJoin id St I Q) st)(h2:∀ y,I y->cR P n d Q (St y)):cR P n (.seq (.block id c) d) Q st:=by
 refine jA (jH (pwp_mono h1 ?_))
 rintro e s h
 cases e with
 |normal=>
  obtain ⟨y,q1,q2⟩:=h
  exact kU q1 (h2 y q2)
 |exit i=>
  have h':if i=id then ∃ y,kP s (St y)/\I y else Q (.exit i) s:=h
  show if i=id then _ else _
  split
  ·rename_i e;rw[if_pos e] at h'
   obtain ⟨y,q1,q2⟩:=h'
   exact kU q1 (h2 y q2)
  ·rename_i e;rw[if_neg e] at h';exact h'
 |ret=>exact h
 |goto l=>exact h
 |panic ch=>exact h
 |outgrown=>exact h
theorem e_pkfo{P:Program}{o:Oper}{S:Nat->SV}{c x y:Operand}{q:Bool}(ho:o.op=.pick c x y)(hc:ev S c=.d (.val (.bool false)))(hy:ev S y=.d (.val (.bool q))):qU P o S [] (.d (.val (.bool (false||q)))):=by
 rw[Bool.false_or];exact e_pkf ho hc hy
theorem e_pkta{P:Program}{o:Oper}{S:Nat->SV}{c x y:Operand}{q:Bool}(ho:o.op=.pick c x y)(hc:ev S c=.d (.val (.bool true)))(hx:ev S x=.d (.val (.bool q))):qU P o S [] (.d (.val (.bool (true&&q)))):=by
 rw[Bool.true_and];exact e_pkt ho hc hx
section
variable {P:Program} {o:Oper} {S:Nat->SV}
theorem e_bse{T E:TypeId}{s:Nat}(ho:o.op=.buildSlice T 0 #[])(hT:uJ P T=some (E,s)):qU P o S [] .emp :=
 fun a w D β Q hop _ hD=>by
  obtain ⟨j,e1,e2,e3⟩:=nV hT
  have hrun:(execOp a.eval o).run P w=.ok (.value (.slice (some ⟨w.heap.size,0,none⟩) 0 0)) (w.alloc (.cells #[] E)):=by
   simp only[execOp,ho,Instr.buildSlice,Sem.run_bind,run_underlying e1,Result.andThen_ok,uA e2,Nat.zero_mul,if_true,Sem.run_pure]
   rw[if_neg (by omega)]
   simp [newRow,run_newObj,Array.range_zero',Instr.fill]
  exact zL hrun ⟨_,D,rfl,⟨rfl,rfl,rfl,by simp,fun q hq=>heap_alloc_old w _ hq⟩,fS.of_same D,⟨_,rfl⟩⟩
theorem e_appe{T E t':TypeId}{x y:Operand}{s bytes:Nat}{zv:List Value}{es':List jW}(ho:o.op=.call { callee:=.builtin .append,args:=#[x,y],argTypes:=#[T,T] })
  (hT:uJ P T=some (E,s)) (hz:uO P E=some zv) (hzl:zv.length=s) (hby:xD P E=some bytes) (hx:ev S x=.emp) (hy:ev S y=.d (.sl t' s es')) (hbig:es'.length<=maxLen) (hbig':es'.length*bytes<=140737488355328) :
  qU P o S [] (.d (.sl t' s es')):=fun a w D β Q hop _ hD=>by
 have h1:=hop x (by simp [ho,Op.operands,Call.operands])
 have h2:=hop y (by simp [ho,Op.operands,Call.operands])
 rw[hx] at h1
 rw[hy] at h2
 obtain ⟨ao0,hv⟩:=h1
 obtain ⟨ao,c,us,hyv,hcc,hul,hfl',bI,hrep,had⟩:=rep_sl_cells h2
 obtain ⟨i,z,z1,z2,z3⟩:=fA hz
 obtain ⟨j,f1,f2,f3⟩:=nV hT
 have hij:i=j:=by rw[z1] at f2;injection f2
 subst hij
 have hbi:i.bytes=bytes:=by
  unfold xD at hby
  rw[z1] at hby
  simpa using hby
 subst hbi
 have hzs:z.cells.size=s:=by rw[z3];simpa using hzl
 have hml:(maxLen:Int)<=9223372036854775807:=by decide
 have hsl:∀ e∈es',e.cells.length=s:=(fun v (h:uC w D v (.sl t' s es'))=>by
  cases h with
  |sl g off u hn hc hm hs ha hD hu h1 hr=>exact hs:∀ v,uC w D v (.sl t' s es')->∀ e∈es',e.cells.length=s) _ h2
 by_cases hm0:es'.length=0
 ·have hnil:es'=[]:=List.eq_nil_of_length_eq_zero hm0
  subst hnil
  have hrun:(Builtin.append_ #[T,T] o.type #[a.eval x,a.eval y]).run P w=.ok (a.eval x) w:=by
   rw[hyv]
   have e0:([]:List jW).length=0:=rfl
   have hu0:us=[]:=List.eq_nil_of_length_eq_zero (by simpa using hul)
   rw[hv,e0]
   cases ao0<;>cases ao with
   |none=>simp [Builtin.append_,run_underlying f1,sizeOf,typeInfo,z1,Builtin.lenOf,Builtin.firstCells,storeCells]
   |some ad=>simp [Builtin.append_,run_underlying f1,sizeOf,typeInfo,z1,Builtin.lenOf,Builtin.firstCells,loadCells,loadCellsFrom,storeCells]
  have hR:qF w D β (a.eval x) (.d (.sl t' s [])):=by
   rw[hv]
   exact uC.sl 0 0 (fun _=>undef) rfl (Nat.le_refl _) (Nat.zero_le _) (by simp) (fun h=>absurd h (Nat.lt_irrefl 0)) (by simp [flat]) (by simp [flat]) (by simp [flat]) (by simp [flat])
  unfold Oper.wp execOp
  simp only[ho,resolve,invoke,builtin,Sem.run_bind,Sem.run_pure,Result.andThen_ok,List.map_toArray,List.map_cons,List.map_nil,hrun]
  exact ⟨_,D,rfl,Below.refl _ _,fS.of_same D,hR⟩
 ·obtain ⟨ad,rfl,hcell⟩:=had (by omega)
  have key:∃ (G:Nat) (arr:List Value) (w':World),(Builtin.append_ #[T,T] o.type #[a.eval x,a.eval y]).run P w=.ok (.slice (some ⟨w.heap.size,0,none⟩) es'.length G) w'/\w'=w.drew.alloc (.cells (us++arr).toArray E)/\es'.length<=G/\G<=maxLen:=by
   cases ao0 with
   |none=>
    have hbytes:es'.length*i.bytes<=281474976710656:=by omega
    have hr:=run_append_nil (P:=P) w T o.type E i z f1 z1 z2 ad es'.length c us (by rw[hul,f3]) hcell (by omega) (by omega) hbytes
    have hge:=grownCap_ge w es'.length 0 E
    have hcm:=grownCap_le_maxLen w es'.length 0 E (by omega)
    generalize grownCap w es'.length 0 E=G at hr hge hcm
    exact ⟨G,(Builtin.zeroCells z.cells (G-es'.length)).toList,_,by rw[hv,hyv];exact hr,by congr 2;apply Array.ext';simp,hge,hcm⟩
   |some b0=>
    have hr:=run_append_grow (P:=P) w T o.type E i z f1 z1 z2 b0 0 0 [] (by simp) (by simp) ad es'.length c us (by rw[hul,f3]) hcell (by omega) (by omega) (growslice_fits (by omega) (by rw[Nat.zero_add];exact hbig'))
    rw[Nat.zero_add] at hr
    have hge:=grownCap_ge w es'.length 0 E
    have hcm:=grownCap_le_maxLen w es'.length 0 E (by omega)
    generalize grownCap w es'.length 0 E=G at hr hge hcm
    exact ⟨G,(Builtin.zeroCells z.cells (G-es'.length)).toList,_,by rw[hv,hyv];exact hr,by congr 2;apply Array.ext';simp,hge,hcm⟩
  obtain ⟨G,arr,w',hrun,hw',hge,hcm⟩:=key
  have hfl:=uN hsl
  have mD:Below w.heap.size w w':=by subst hw';exact ⟨rfl,rfl,rfl,by simp,fun q hq=>heap_alloc_old w.drew _ hq⟩
  have hrow:w'.heap[w.heap.size]?=some (.cells (us++arr).toArray E (0,0)):=by subst hw';exact heap_alloc_new w.drew _
  have hcells:∀ q,w'.cell? ⟨w.heap.size,q,none⟩=(us++arr)[q]?:=fun q=>by rw[cell_of_row w' w.heap.size q _ E (0,0) hrow];simp
  have hsz:w'.heap.size=w.heap.size+1:=by subst hw';simp
  have hmono:∀ t g q,D t g q->(D t g q\/(t=t'/\g=w.heap.size/\q<us.length))/\w'.cell? ⟨g,q,none⟩=w.cell? ⟨g,q,none⟩:=fun t g q hd=>⟨.inl hd,nP mD (hD.lt t g q hd)⟩
  have hul2:us.length=(flat es').length:=by rw[hul,hfl]
  unfold Oper.wp execOp
  simp only[ho,resolve,invoke,builtin,Sem.run_bind,Sem.run_pure,Result.andThen_ok,List.map_toArray,List.map_cons,List.map_nil,hrun]
  refine ⟨_,fun t g q=>D t g q\/(t=t'/\g=w.heap.size/\q<us.length),rfl,mD,⟨fun t g q h=>.inl h,fun t g q h=>?_⟩,?_⟩
  ·rcases h with h | ⟨_,h,_⟩
   ·exact .inl h
   ·exact .inr ⟨by omega,by omega⟩
  ·refine uC.sl w.heap.size 0 (fun q=>(us++arr).getD q undef) rfl hge hcm hsl (fun _=>rfl) (fun q hq=>.inr ⟨rfl,rfl,by omega⟩) (fun q hq=>?_) (fun q hq=>?_) (fun q d hq=>?_)
   ·rw[Nat.zero_add,hcells,List.getElem?_append_left (by omega)]
    simp [List.getD,List.getElem?_append_left (by omega:q<us.length),List.getElem?_eq_getElem (by omega:q<us.length)]
   ·rw[List.getD,List.getElem?_append_left (by omega),List.getElem?_eq_getElem (by omega:q<us.length)]
    exact bI _ (by simp)
   ·have hq':=(List.getElem?_eq_some_iff.1 hq).1
    rw[List.getD,List.getElem?_append_left (by omega),List.getElem?_eq_getElem (by omega:q<us.length)]
    exact uC.mono hmono (hrep q _ d (List.getElem?_eq_getElem (by omega)) hq)
end
abbrev xQ {α:Type} (F:α->jW) (L:List α):List SV:=(flat (L.map F)).map SV.d
theorem cP{α:Type}(F:α->jW){s:Nat}(hF:∀ g,(F g).cells.length=s)(L:List α):(flat (L.map F)).length=L.length*s:=by
 rw[uN (s:=s) (fun e he=>by
  rw[List.mem_map] at he
  obtain ⟨g,_,rfl⟩:=he
  exact hF g),List.length_map]
theorem map_celllen{α:Type}(F:α->jW){s:Nat}(hF:∀ g,(F g).cells.length=s)(L:List α):∀ e∈L.map F,e.cells.length=s:=fun e he=>by
 rw[List.mem_map] at he
 obtain ⟨g,_,rfl⟩:=he
 exact hF g
section
variable {P:Program} {n:Fr} {ops:Array Oper} {S S':SL} {B B':BS} {l:List Oper} {o:Oper}
theorem appP_sem{α:Type}{d:Tmp}{T E t':TypeId}{x y:Operand}{k s m bytes:Nat}{zv:List Value}(F:α->jW)(L L':List α)(hF:∀ g,(F g).cells.length=s)(ho:o.op=.call { callee:=.builtin .append,args:=#[x,y],argTypes:=#[T,T] })(hdst:o.dst=some d)(hd:yP n (some d)=true)
  (hT:uJ P T=some (E,s)) (hz:uO P E=some zv) (hzl:zv.length=s) (hby:xD P E=some bytes) (hx:ev (jR S) x=.own k E s m) (hb:jV B k=some (xQ F L)) (hL:L.length=m) (hy:ev (jR S) y=.d (.sl t' s (L'.map F)))
  (hbig:m+L'.length<=maxLen) (hbig':(m+L'.length)*bytes<=140737488355328) (hB:Clr k B) (C:Ctx) (a:Act) (w:World) (Q:Exit->Act->World->Prop) (hn:C.n=n) (hs:nU C a w ⟨S,B⟩):o.wp P a w (fun a' w'=>nU C a' w' ⟨(d,.d (.sl E s ((L++L').map F)))::yZ k S,(k,none)::B⟩) Q:=by
 have h0:=app_sound (st:=⟨S,B⟩) (N:=n) (es:=L.map F) (es':=L'.map F) ho (by rw[hdst];exact hd) hT hz hzl hby hx hb rfl (by rw[cP F hF,hL]) hy (by simpa using hbig) (by simpa using hbig') hB C a w Q hn hs
 rw[hdst] at h0
 refine Oper.wp_mono (fun a' w' h1=>?_) h0
 have h2:=xR (st:=⟨(d,.own k E s (m+(L'.map F).length))::yZ k S,(k,some ((flat (L.map F++L'.map F)).map .d))::B⟩) (t:=d) (k:=k) (s:=s) (m:=m+(L'.map F).length) (T:=E) (cs:=(flat (L.map F++L'.map F)).map .d) (es:=(L++L').map F)
  (by simp [qJ]) (by simp [jJ]) (map_celllen F hF _) (by simp [hL]) (by rw[<- List.map_append];rw[List.take_of_length_le];rw[List.length_map,cP F hF,List.length_append,hL,List.length_map];exact Nat.le_refl _)
 obtain ⟨D,β,h3⟩:=h2 C a' w' h1
 refine ⟨D,β,h3.base,⟨fun j c hj=>?_,fun j1 j2 c1 c2 q1 q2=>?_⟩,fun j c hj=>?_,fun t=>?_⟩
 ·rw[jJ] at hj
  split at hj
  ·cases hj
  ·rename_i e;exact h3.mem.ok j c (by rw[jJ,if_neg e,jJ,if_neg e];exact hj)
 ·have conv:∀ {j:Nat} {c:List SV},jV ((k,none)::B) j=some c->jV ((k,none)::(k,some ((flat (L.map F++L'.map F)).map .d))::B) j=some c:=fun {j c} hj=>by
   rw[jJ] at hj
   split at hj
   ·cases hj
   ·rename_i e;rw[jJ,if_neg e,jJ,if_neg e];exact hj
  exact h3.mem.inj j1 j2 c1 c2 (conv q1) (conv q2)
 ·rw[jJ] at hj
  split at hj
  ·cases hj
  ·rename_i e;exact h3.high j c (by rw[jJ,if_neg e,jJ,if_neg e];exact hj)
 ·have h4:=h3.slots t
  have e1:jR ((d,SV.d (.sl E s ((L++L').map F)))::yZ k S) t=jR ((d,SV.d (.sl E s ((L++L').map F)))::(d,.own k E s (m+(L'.map F).length))::yZ k S) t:=by
   rw[qJ,qJ,qJ]
   split
   ·rfl
   ·rfl
  show qF w' D β _ (jR ((d,SV.d (.sl E s ((L++L').map F)))::yZ k S) t)
  rw[e1]
  exact h4
theorem bxs_one{α:Type}(F:α->jW)(hF:∀ g,(F g).cells=[F g])(L:List α):xQ F L=L.map (fun g=>SV.d (F g)):=by
 unfold xQ;rw[flat_one F hF,List.map_map];rfl
end
def yD(a b c d:Int):Nat:=if a=0/\b=0/\c=0/\d=0 then 1 else if (-1048576<=a/\a<=1048576)/\(-1048576<=b/\b<=1048576)/\(-1048576<=c/\c<=1048576)/\(-1048576<=d/\d<=1048576) then 0 else 3
theorem rotC_z{a b c d:Int}(h:a=0/\b=0/\c=0/\d=0):yD a b c d=1:=if_pos h
theorem fN{a b c d:Int}(h:¬ (a=0/\b=0/\c=0/\d=0))(h2:¬ ((-1048576<=a/\a<=1048576)/\(-1048576<=b/\b<=1048576)/\(-1048576<=c/\c<=1048576)/\(-1048576<=d/\d<=1048576))):yD a b c d=3:=by unfold yD;rw[if_neg h,if_neg h2]
theorem eA{a b c d:Int}(h:¬ (a=0/\b=0/\c=0/\d=0))(h2:(-1048576<=a/\a<=1048576)/\(-1048576<=b/\b<=1048576)/\(-1048576<=c/\c<=1048576)/\(-1048576<=d/\d<=1048576)):yD a b c d=0:=by unfold yD;rw[if_neg h,if_pos h2]
def stnP(x y z u v f:Int):Prop:=(-1048576<=x/\x<=1048576)/\(-1048576<=y/\y<=1048576)/\(-1048576<=z/\z<=1048576)/\(-1048576<=u/\u<=1048576)/\(-1048576<=v/\v<=1048576)/\(1<=f/\f<=1048576)
instance {x y z u v f:Int}:Decidable (stnP x y z u v f):=by unfold stnP;infer_instance
theorem zJ{a b:Int}(ha:-1048576<=a/\a<=1048576)(hb:-1048576<=b/\b<=1048576):-1099511627776<=a*b/\a*b<=1099511627776:=by
 have h1:(a*b).natAbs<=1048576*1048576:=by
  rw[Int.natAbs_mul];exact Nat.mul_le_mul (by omega) (by omega)
 omega
def nq(a b c d:Int):Int:=(((a*a)+(b*b))+(c*c))+(d*d)
def N4(a b c d:Int):Rat:=((nq a b c d:Int):Rat)
def r02(a b c d:Int):Int:=2*((b*d)+(a*c))
def R02(a b c d:Int):Rat:=((r02 a b c d:Int):Rat)
def r12(a b c d:Int):Int:=2*((c*d)-(a*b))
def R12(a b c d:Int):Rat:=((r12 a b c d:Int):Rat)
def r22(a b c d:Int):Int:=(((a*a)-(b*b))-(c*c))+(d*d)
def R22(a b c d:Int):Rat:=((r22 a b c d:Int):Rat)
def gcd3(a b c:Rat):Int:=((Int.gcd a.num ((Int.gcd b.num c.num:Nat):Int):Nat):Int)
def redK(a b c:Rat):Rat:=Rat.divInt 1 (gcd3 a b c)
def dq0(a b c d p q r s:Int):Rat:=(R02 a b c d*N4 p q r s)+(R02 p q r s*N4 a b c d)
def dq1(a b c d p q r s:Int):Rat:=(R12 a b c d*N4 p q r s)+(R12 p q r s*N4 a b c d)
def dq2(a b c d p q r s:Int):Rat:=(R22 a b c d*N4 p q r s)+(R22 p q r s*N4 a b c d)
def RFr(lx ly lz la lb lc ld rx ry rz ra rb rc rd:Int)(b0 b1 b2 e00 e01 e02 e10 e11 e12 e20 e21 e22:Rat):Prop :=
 (((rx-lx):Int):Rat)=b0 /\
 (((ry-ly):Int):Rat)=b1 /\
 (((rz-lz):Int):Rat)=b2 /\
 b0*redK b0 b1 b2=e00 /\
 b1*redK b0 b1 b2=e01 /\
 b2*redK b0 b1 b2=e02 /\
 (((dq1 la lb lc ld ra rb rc rd)*e02)-((dq2 la lb lc ld ra rb rc rd)*e01))*redK (((dq1 la lb lc ld ra rb rc rd)*e02)-((dq2 la lb lc ld ra rb rc rd)*e01)) (((dq2 la lb lc ld ra rb rc rd)*e00)-((dq0 la lb lc ld ra rb rc rd)*e02)) (((dq0 la lb lc ld ra rb rc rd)*e01)-((dq1 la lb lc ld ra rb rc rd)*e00))=e10 /\
 (((dq2 la lb lc ld ra rb rc rd)*e00)-((dq0 la lb lc ld ra rb rc rd)*e02))*redK (((dq1 la lb lc ld ra rb rc rd)*e02)-((dq2 la lb lc ld ra rb rc rd)*e01)) (((dq2 la lb lc ld ra rb rc rd)*e00)-((dq0 la lb lc ld ra rb rc rd)*e02)) (((dq0 la lb lc ld ra rb rc rd)*e01)-((dq1 la lb lc ld ra rb rc rd)*e00))=e11 /\
 (((dq0 la lb lc ld ra rb rc rd)*e01)-((dq1 la lb lc ld ra rb rc rd)*e00))*redK (((dq1 la lb lc ld ra rb rc rd)*e02)-((dq2 la lb lc ld ra rb rc rd)*e01)) (((dq2 la lb lc ld ra rb rc rd)*e00)-((dq0 la lb lc ld ra rb rc rd)*e02)) (((dq0 la lb lc ld ra rb rc rd)*e01)-((dq1 la lb lc ld ra rb rc rd)*e00))=e12 /\
 ((e01*e12)-(e02*e11))*redK ((e01*e12)-(e02*e11)) ((e02*e10)-(e00*e12)) ((e00*e11)-(e01*e10))=e20 /\
 ((e02*e10)-(e00*e12))*redK ((e01*e12)-(e02*e11)) ((e02*e10)-(e00*e12)) ((e00*e11)-(e01*e10))=e21 /\
 ((e00*e11)-(e01*e10))*redK ((e01*e12)-(e02*e11)) ((e02*e10)-(e00*e12)) ((e00*e11)-(e01*e10))=e22
instance {lx ly lz la lb lc ld rx ry rz ra rb rc rd:Int} {b0 b1 b2 e00 e01 e02 e10 e11 e12 e20 e21 e22:Rat}:Decidable (RFr lx ly lz la lb lc ld rx ry rz ra rb rc rd b0 b1 b2 e00 e01 e02 e10 e11 e12 e20 e21 e22):=by unfold RFr;infer_instance
section
variable {lx ly lz la lb lc ld rx ry rz ra rb rc rd:Int} {b0 b1 b2 e00 e01 e02 e10 e11 e12 e20 e21 e22:Rat}
end
section
variable {lx ly lz la lb lc ld rx ry rz ra rb rc rd:Int} {b0 b1 b2 e00 e01 e02 e10 e11 e12 e20 e21 e22:Rat}
end
section
variable {lx ly lz la lb lc ld rx ry rz ra rb rc rd:Int} {b0 b1 b2 e00 e01 e02 e10 e11 e12 e20 e21 e22:Rat}
end
def IsZ(q:Rat):Prop:=∃ z:Int,q=(z:Rat)
theorem IsZ.of(z:Int):IsZ (z:Rat):=⟨z,rfl⟩
theorem IsZ.mul{p q:Rat}(h:IsZ p)(h2:IsZ q):IsZ (p*q):=by
 obtain ⟨a,rfl⟩:=h;obtain ⟨b,rfl⟩:=h2;exact ⟨a*b,(Rat.intCast_mul a b).symm⟩
theorem IsZ.add{p q:Rat}(h:IsZ p)(h2:IsZ q):IsZ (p+q):=by
 obtain ⟨a,rfl⟩:=h;obtain ⟨b,rfl⟩:=h2;exact ⟨a+b,(Rat.intCast_add a b).symm⟩
theorem IsZ.sub{p q:Rat}(h:IsZ p)(h2:IsZ q):IsZ (p-q):=by
 obtain ⟨a,rfl⟩:=h;obtain ⟨b,rfl⟩:=h2;exact ⟨a-b,(Rat.intCast_sub a b).symm⟩
section
variable {lx ly lz la lb lc ld rx ry rz ra rb rc rd:Int} {b0 b1 b2 e00 e01 e02 e10 e11 e12 e20 e21 e22:Rat}
end
section
variable {lx ly lz la lb lc ld rx ry rz ra rb rc rd:Int} {b0 b1 b2 e00 e01 e02 e10 e11 e12 e20 e21 e22:Rat}
end
def loS:List Int->List Int
 |a::b::r=>((a+b).fdiv 2)::loS r
 |[a]=>[a]
 |[]=>[]
def hiS:List Int->List Int
 |a::b::r=>(a-b)::hiS r
 |_=>[]
def Bd(n:Int)(l:List Int):Prop:=∀ x∈l,-n<=x/\x<=n
theorem Bd.get{n:Int}{l:List Int}(h:Bd n l)(hn:0<=n)(i:Nat):-n<=l.getD i 0/\l.getD i 0<=n:=by
 rw[List.getD_eq_getElem?_getD]
 cases e:l[i]? with
 |none=>simp;omega
 |some x=>exact h x (List.mem_of_getElem? e)
theorem Bd.up{m n:Int}{l:List Int}(h:Bd m l)(hm:m<=n):Bd n l:=fun x hx=>by have:=h x hx;omega
theorem two_ind{P:List Int->Prop}(h0:P [])(h1:∀ a,P [a])(h2:∀ a b r,P r->P (a::b::r)):∀ l,P l
 |[]=>h0
 |[a]=>h1 a
 |a::b::r=>h2 a b r (two_ind h0 h1 h2 r)
theorem loS_len(l:List Int):(loS l).length=(l.length+1) / 2:=by
 induction l using two_ind with
 |h0=>rfl
 |h1 a=>simp [loS]
 |h2 a b r ih=>simp only[loS,List.length_cons,ih];omega
def tr(w:Nat)(T:List (List Int)):List (List Int):=(List.range w).map fun j=>T.map fun r=>r.getD j 0
def trP(T:List (List Int)):List (List Int):=tr (T.headD []).length T
def Rect(w:Nat)(T:List (List Int)):Prop:=∀ r∈T,r.length=w
theorem tr_rect(w:Nat)(T:List (List Int)):Rect T.length (tr w T):=fun r hr=>by
 simp only[tr,List.mem_map] at hr
 obtain ⟨j,_,rfl⟩:=hr
 simp
theorem trP_eq{w:Nat}{T:List (List Int)}(h:Rect w T)(hne:T≠[]):trP T=tr w T:=by
 cases T with
 |nil=>exact absurd rfl hne
 |cons r T=>unfold trP;rw[List.headD_cons,h r (by simp)]
def rowsOf(w h:Nat)(l:List Int):List (List Int):=(List.range h).map fun y=>(l.drop (y*w)).take w
theorem rowsOf_rect{w h:Nat}{l:List Int}(hl:l.length=w*h):Rect w (rowsOf w h l):=fun r hr=>by
 simp only[rowsOf,List.mem_map,List.mem_range] at hr
 obtain ⟨y,hy,rfl⟩:=hr
 have:(y+1)*w<=h*w:=Nat.mul_le_mul_right w hy
 rw[Nat.add_mul] at this
 rw[List.length_take,List.length_drop,hl,Nat.mul_comm w h]
 omega
def colLo(T:List (List Int)):List Int:=(trP ((trP T).map loS)).flatten
def uD(f:Int->Bool):List Int->Nat->Int
 |[],_=>-1
 |x::r,i=>bif f x then ((i:Nat):Int) else uD f r (i+1)
theorem dJ(f:Int->Bool)(l:List Int)(k:Nat)(h:k<l.length)(hf:f (l.getD k 0)=false):uD f (l.drop k) k=uD f (l.drop (k+1)) (k+1):=by
 rw[List.drop_eq_getElem_cons h,uD,show f l[k]=false by rw[<- hf,List.getD_eq_getElem?_getD,List.getElem?_eq_getElem h];rfl];rfl
theorem aY(f:Int->Bool)(l:List Int)(k:Nat)(h:k<l.length)(hf:f (l.getD k 0)=true):uD f (l.drop k) k=((k:Nat):Int):=by
 rw[List.drop_eq_getElem_cons h,uD,show f l[k]=true by rw[<- hf,List.getD_eq_getElem?_getD,List.getElem?_eq_getElem h];rfl];rfl
theorem eY(f:Int->Bool)(l:List Int)(k:Nat)(h:l.length<=k):uD f (l.drop k) k=-1:=by rw[List.drop_eq_nil_of_le h];rfl
theorem cH(f:Int->Bool):∀ (l:List Int) (i:Nat),decide (0<=uD f l i)=l.any f
 |[],i=>by simp [uD]
 |x::r,i=>by
  rw[uD,List.any_cons]
  cases hx:f x with
  |true=>simp
  |false=>simp only[cond_false,Bool.false_or];exact cH f r (i+1)
def bLow(w h:Nat)(px:List Int):List Int:=colLo ((rowsOf w h px).map loS)
theorem td2(n:Int):(0<=n/\n.tdiv 2=n / 2/\n.tmod 2=n % 2)\/(n<0/\n.tdiv 2=-((-n) / 2)/\n.tmod 2=-((-n) % 2)):=by
 rcases Int.lt_or_le n 0 with h | h
 ·obtain ⟨m,rfl⟩:∃ m,n=-m:=⟨-n,by omega⟩
  right
  rw[Int.neg_tdiv,Int.neg_tmod,Int.neg_neg,Int.tdiv_eq_ediv_of_nonneg (by omega),Int.tmod_eq_emod_of_nonneg (by omega)]
  exact ⟨h,rfl,rfl⟩
 ·left
  exact ⟨h,Int.tdiv_eq_ediv_of_nonneg h,Int.tmod_eq_emod_of_nonneg h⟩
def kO(z:Int):Bool:=decide (-9223372036854775808<=z)&&decide (z<=9223372036854775807)
def jO(z:Int):Int:=if kO z=true then z else 0
theorem fits64_t{z:Int}(h1:-9223372036854775808<=z)(h2:z<=9223372036854775807):kO z=true:=by simp [kO,h1,h2]
theorem fits64_f{z:Int}(h:9223372036854775808<z.natAbs):kO z=false:=by
 unfold kO
 by_cases h1:-9223372036854775808<=z
 ·have:¬ z<=9223372036854775807:=by omega
  simp [this]
 ·simp [h1]
theorem smallI_t{z:Int}(h:kO z=true):jO z=z:=if_pos h
theorem smallI_f{z:Int}(h:kO z=false):jO z=0:=by unfold jO;rw[h];rfl
theorem gz_eq(z:Int):jQ (kG z)=ofNat z.natAbs:=by unfold jQ;rw[validI_ofZ,if_pos rfl];rfl
theorem gz_dig(z:Int):Dig (jQ (kG z)):=by rw[gz_eq];exact kB _
theorem gz_val(z:Int):val (jQ (kG z))=z.natAbs:=by rw[gz_eq];exact kI _
theorem gz_long{z:Int}(h:3<(jQ (kG z)).length):9223372036854775808<z.natAbs:=by
 rw[gz_eq] at h
 by_cases hh:z.natAbs<pw 3
 ·have:=qP hh;omega
 ·have:pw 3=1000000000000000000000000000:=by simp [pw]
  omega
theorem gz_neg(z:Int):(kG z).neg=decide (z<0):=by
 show (decide (z<0)&&z.natAbs != 0)=decide (z<0)
 by_cases h:z<0
 ·have:z.natAbs≠0:=by omega
  simp [h,this]
 ·simp [h]
theorem gz_lenp{z:Int}(h:z≠0):0<(jQ (kG z)).length:=by
 rw[gz_eq];exact fM (by omega)
theorem val_drop_le(l:List Nat)(k:Nat):val (l.drop k)<=val l:=by
 induction l generalizing k with
 |nil=>simp
 |cons d l ih=>
  cases k with
  |zero=>simp
  |succ k=>
   rw[List.drop_succ_cons]
   have:=ih k
   show _<=d+1000000000*val l
   omega
theorem gz_step{z:Int}{j n:Nat}(hj:j<(jQ (kG z)).length)(hn:n=val ((jQ (kG z)).drop ((jQ (kG z)).length-j))) :
  n*1000000000+(jQ (kG z)).getD ((jQ (kG z)).length-1-j) 0=val ((jQ (kG z)).drop ((jQ (kG z)).length-(j+1))):=by
 rw[dQ _ j hj,<- hn];omega
theorem gz_over{z:Int}{j n:Nat}(hj:j<(jQ (kG z)).length)(hn:n=val ((jQ (kG z)).drop ((jQ (kG z)).length-j)))
  (h:(9223372036854775808-(jQ (kG z)).getD ((jQ (kG z)).length-1-j) 0) / 1000000000<n):9223372036854775808<z.natAbs:=by
 have e:=gz_step hj hn
 have h2:=val_drop_le (jQ (kG z)) ((jQ (kG z)).length-(j+1))
 have hd:=(gz_dig z).getD ((jQ (kG z)).length-1-j)
 rw[gz_val,<- e] at h2
 omega
theorem gz_room{z:Int}{j n:Nat}(h:¬ (9223372036854775808-(jQ (kG z)).getD ((jQ (kG z)).length-1-j) 0) / 1000000000<n) :
  n*1000000000+(jQ (kG z)).getD ((jQ (kG z)).length-1-j) 0<=9223372036854775808:=by
 have hd:=(gz_dig z).getD ((jQ (kG z)).length-1-j)
 omega
theorem gz_end{z:Int}{n:Nat}(hn:n=val ((jQ (kG z)).drop ((jQ (kG z)).length-(jQ (kG z)).length))):n=z.natAbs:=by
 rw[Nat.sub_self,List.drop_zero,gz_val] at hn;exact hn
theorem sm_n{z:Int}{n:Nat}(hn:n=z.natAbs)(hb:n<=9223372036854775808)(h:z<0):jO z=-((n:Nat):Int)/\kO z=true:=by
 have hf:kO z=true:=fits64_t (by omega) (by omega)
 exact ⟨by rw[smallI_t hf];omega,hf⟩
theorem sm_p{z:Int}{n:Nat}(hn:n=z.natAbs)(hb:n<9223372036854775808)(h:¬ z<0):jO z=((n:Nat):Int)/\kO z=true:=by
 have hf:kO z=true:=fits64_t (by omega) (by omega)
 exact ⟨by rw[smallI_t hf];omega,hf⟩
theorem sm_x{z:Int}(hb:z=9223372036854775808):jO z=0/\kO z=false:=by subst hb;decide
theorem sm_neg{z:Int}(h:(decide (0<(((jQ (kG z)).length:Nat):Int))&&(kG z).neg)=true):z<0:=by
 rw[gz_neg,Bool.and_eq_true] at h;exact of_decide_eq_true h.2
theorem sm_pos{z:Int}(h:(decide (0<(((jQ (kG z)).length:Nat):Int))&&(kG z).neg)=false):¬ z<0:=by
 intro hz
 have:=gz_lenp (z:=z) (by omega)
 rw[gz_neg,decide_eq_true hz,decide_eq_true (show (0:Int)<(((jQ (kG z)).length:Nat):Int) by omega)] at h
 cases h
theorem negu64{n:Nat}(h:n<=9223372036854775808):IntKind.u64.wrap (0-((n:Nat):Int))=(((18446744073709551616-n) % 18446744073709551616:Nat):Int):=by
 have:IntKind.u64.wrap (0-((n:Nat):Int))=(0-((n:Nat):Int)) % 18446744073709551616:=by
  simp [IntKind.wrap,IntKind.bits,IntKind.signed]
 rw[this];omega
theorem negi64{n:Nat}(h:n<=9223372036854775808):IntKind.i64.wrap (((18446744073709551616-n) % 18446744073709551616:Nat):Int)=-((n:Nat):Int):=by
 simp [IntKind.wrap,IntKind.bits,IntKind.signed]
 split<;>omega
section
variable {b s a c d e o l:Bool}
end
end Go.Fid
