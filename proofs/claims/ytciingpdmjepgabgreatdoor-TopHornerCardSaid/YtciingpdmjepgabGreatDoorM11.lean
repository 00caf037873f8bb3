/- Part 11 of a proof: rules, plain facts, and functions walked. -/
import Derived.Test.YtciingpdmjepgabGreatDoorM10
set_option linter.all false
namespace Go.Fid
open Go.RowKit (Below)
theorem publish_core{C:Ctx}{a:Act}{w:World}{st:PS}{D:kV}{β:kY}{k s m:Nat}{T:TypeId}{cs:List SV}{es:List jT}(h:fQ C a w st D β)(hb:jY st.bs k=some cs)(hes:∀ e∈es,e.cells.length=s)(hl:es.length=m)(hc:cs.take (m*s)=(kR es).map .d) :
  ∃ D',fQ C a w ⟨st.sl,(k,none)::st.bs⟩ D' β/\∀ v D2,qC w D2 β v (.own k T s m)->uN w D' v (.sl T s es):=by
 have hfl:=uQ hes
 have hbs:∀ {j:Nat} {c:List SV},jY ((k,none)::st.bs) j=some c->j≠k/\jY st.bs j=some c:=fun {j c} hj=>by
  rw[jI] at hj
  split at hj
  ·cases hj
  ·rename_i e;exact ⟨fun e'=>e e'.symm,hj⟩
 rcases h.mem.ok k cs hb with g1 | ⟨b,vs,T',g1,g2,g3,g4,g5⟩
 ·refine ⟨D,⟨h.base,⟨fun j c hj=>h.mem.ok j c (hbs hj).2,fun j1 j2 c1 c2 q1 q2=>h.mem.inj j1 j2 c1 c2 (hbs q1).2 (hbs q2).2⟩,fun j c hj=>h.high j c (hbs hj).2,h.slots⟩,fun v D2 hv=>?_⟩
  rcases hv with ⟨_,e2,e3⟩ | ⟨b,cap,vs,h1,_,h3,_⟩
  ·rw[e2] at hl
   have hn:es=[]:=List.eq_nil_of_length_eq_zero hl
   subst hn
   rw[e3];exact eX w D T s
  ·exact (g1.at_cells h1 h3).elim
 ·have hlt:=qV g2
  have hmono:∀ t' g o,D t' g o->(D t' g o\/(t'=T/\g=b/\o<m*s))/\w.cell? ⟨g,o,none⟩=w.cell? ⟨g,o,none⟩:=fun t' g o hd=>⟨.inl hd,rfl⟩
  have hS:∀ {v x},qC w D β v x->qC w (fun t' g o=>D t' g o\/(t'=T/\g=b/\o<m*s)) β v x:=fun {v x} hr=>by
   cases x with
   |d x=>exact uN.mono hmono hr
   |ref k o=>exact hr
   |own k t s n=>exact hr
   |clo f ks=>exact hr
   |emp=>exact hr
   |view k o n=>exact hr
   |mp k=>exact hr
   |mo ob=>exact hr
   |pr k t s n x=>obtain ⟨v1,v2,e,h1,h2⟩:=hr;exact ⟨v1,v2,e,h1,uN.mono hmono h2⟩
   |refx k o b=>exact hr
   |mpx k b=>exact hr
   |bnd f k o=>exact hr
   |ownx k t s n u=>exact hr
   |junk=>trivial
  refine ⟨fun t' g o=>D t' g o\/(t'=T/\g=b/\o<m*s),⟨⟨h.base.defers,h.base.size,h.base.keep,h.base.oth,h.base.pin,h.base.below,fun t' g o hd=>.inl (h.base.dmono _ _ _ hd),fun t' g o hd=>?_,h.base.dok.more (fun _ _ _ hd=>.inl hd) fun t' g o hd=>?_⟩,⟨fun j c hj=>?_,fun j1 j2 c1 c2 q1 q2=>h.mem.inj j1 j2 c1 c2 (hbs q1).2 (hbs q2).2⟩,fun j c hj=>h.high j c (hbs hj).2,fun u=>hS (h.slots u)⟩,fun v D2 hv=>?_⟩
  ·rcases hd with hd | ⟨_,e,_⟩
   ·exact h.base.dnew _ _ _ hd
   ·subst e;exact .inr (h.high k cs hb g g1)
  ·rcases hd with hd | ⟨_,e,_⟩
   ·exact h.base.dok.lt _ _ _ hd
   ·subst e;exact hlt
  ·obtain ⟨hne,hj'⟩:=hbs hj
   rcases h.mem.ok j c hj' with q | ⟨b2,vs2,T2,q1,q2,q3,q4,q5⟩
   ·exact .inl (q.more (g:=b) (fun t' g' o hd=>by rcases hd with hd | ⟨_,e,_⟩;exact .inl hd;exact .inr e) (fun e=>hne (h.mem.inj j k _ _ hj' hb b e g1)))
   ·refine .inr ⟨b2,vs2,T2,q1,q2,q3,fun i x hx=>?_,fun t' o hd=>?_⟩
    ·obtain ⟨u,e1,e2,e3⟩:=q4 i x hx
     exact ⟨u,e1,e2,hS e3⟩
    ·rcases hd with hd | ⟨_,e,_⟩
     ·exact q5 _ _ hd
     ·subst e;exact hne (h.mem.inj j k _ _ hj' hb b2 q1 g1)
  ·rcases hv with ⟨e1,_,_⟩ | ⟨b2,cap,vs2,h1,h2,h3,h4,h5,h6⟩
   ·rw[e1] at g1;cases g1
   ·obtain rfl:b=b2:=by rw[h1] at g1;injection g1 with g1;exact g1.symm
    rw[h3] at g2
    injection g2 with g2
    injection g2 with g2 gT
    subst g2;subst gT
    rw[h2]
    have key:∀ (i:Nat) d,(kR es)[i]?=some d->∃ u,vs2[i]?=some u/\u.oneCell'=true/\uN w D u d:=fun i d hd=>by
     have hi:i<m*s:=by
      have:=(List.getElem?_eq_some_iff.1 hd).1
      rw[hfl,hl] at this;exact this
     have e1:cs[i]?=some (.d d):=by
      have:(cs.take (m*s))[i]?=some (.d d):=by rw[hc];simp [hd]
      rwa [List.getElem?_take_of_lt hi] at this
     exact g4 i _ e1
    have hcell:∀ i,w.cell? ⟨b,i,none⟩=vs2[i]?:=fun i=>cell_of_row w b i vs2 T (0,0) h3
    refine uN.sl b 0 (fun i=>vs2.getD i undef) hl.symm h5 h6 hes (fun _=>rfl) (fun i hi=>.inr ⟨rfl,rfl,by rw[Nat.zero_add,<- hl,<- hfl];exact hi⟩) (fun i hi=>?_) (fun i hi=>?_) (fun i d hd=>?_)
    ·obtain ⟨x,q1,q2,q3⟩:=key i _ (List.getElem?_eq_getElem hi)
     rw[Nat.zero_add,hcell,Array.getD_eq_getD_getElem?,q1];rfl
    ·obtain ⟨x,q1,q2,q3⟩:=key i _ (List.getElem?_eq_getElem hi)
     rw[Array.getD_eq_getD_getElem?,q1];exact q2
    ·obtain ⟨x,q1,q2,q3⟩:=key i d hd
     rw[Array.getD_eq_getD_getElem?,q1]
     exact uN.mono hmono q3
theorem publishB{st:PS}{j k s m:Nat}{T:TypeId}{cs:List SV}{es:List jT}(hj:jY st.bs j=some [.own k T s m])(hjk:Nat.beq k j=false)(hb:jY st.bs k=some cs)(hes:∀ e∈es,e.cells.length=s)(hl:es.length=m)(hc:cs.take (m*s)=(kR es).map .d) :
  qQ st ⟨st.sl,(j,some [.d (.sl T s es)])::(k,none)::st.bs⟩:=fun C a w ⟨D,β,h⟩=>by
 obtain ⟨D',h',hown⟩:=publish_core (T:=T) h hb hes hl hc
 have hne:k≠j:=dL hjk
 have hj2:jY ((k,none)::st.bs) j=some [.own k T s m]:=by rw[jI,if_neg hne];exact hj
 refine ⟨D',β,h'.base,⟨fun i c hi=>?_,fun i1 i2 c1 c2 q1 q2=>?_⟩,fun i c hi=>?_,h'.slots⟩
 ·rw[jI] at hi
  split at hi
  ·rename_i e;subst e
   injection hi with hi;subst hi
   rcases h'.mem.ok j _ hj2 with (⟨_,q⟩ | ⟨_,_,_,_,_,q,_⟩) | ⟨b,vs,T2,q1,q2,q3,q4,q5⟩
   ·cases q
   ·cases q
   ·refine .inr ⟨b,vs,T2,q1,q2,by simpa using q3,fun i x hx=>?_,q5⟩
    rcases i with _ | i
    ·obtain ⟨u,e1,e2,e3⟩:=q4 0 _ rfl
     simp at hx;subst hx
     exact ⟨u,e1,e2,hown u D' e3⟩
    ·simp at hx
  ·exact h'.mem.ok i c hi
 ·have conv:∀ {i c},jY ((j,some [SV.d (.sl T s es)])::(k,none)::st.bs) i=some c->∃ c',jY ((k,none)::st.bs) i=some c':=fun {i c} hi=>by
   rw[jI] at hi
   split at hi
   ·rename_i e;subst e;exact ⟨_,hj2⟩
   ·exact ⟨c,hi⟩
  obtain ⟨c1',r1⟩:=conv q1
  obtain ⟨c2',r2⟩:=conv q2
  exact h'.mem.inj i1 i2 c1' c2' r1 r2
 ·rw[jI] at hi
  split at hi
  ·rename_i e;subst e;exact h'.high j _ hj2
  ·exact h'.high i c hi
section
variable {P:Program} {o:Oper} {S:Nat->SV}
theorem t_sto{T:TypeId}{x y:Operand}{k j E s n:Nat}{u:SV}(ho:o.op=.store T x y)(hx:ev S x=.ref k 0)(hy:ev S y=.own j E s n)(hs:qD P T=some (false,1))(hm:u.isMo=false):TOk P o S k [u] [.own j E s n] :=
 t_store (old:=[u]) ho hx hy hs (.inr ⟨⟨j,E,s,n,rfl⟩,rfl⟩) rfl (Nat.le_refl _) (mapCs_at (i:=0) rfl hm)
inductive cS (k:Nat) (T:TypeId) (s m:Nat) (es:List jT):List SV->List jT->Prop
 |nil:cS k T s m es [] []
 |d {x:jT} {zs:List SV} {ds:List jT} (h:cS k T s m es zs ds):cS k T s m es (.d x::zs) (x::ds)
 |o {zs:List SV} {ds:List jT} (h:cS k T s m es zs ds):cS k T s m es (.own k T s m::zs) (.sl T s es::ds)
theorem cS.len{k:Nat}{T:TypeId}{s m:Nat}{es:List jT}{zs:List SV}{ds:List jT}(h:cS k T s m es zs ds):zs.length=ds.length:=by
 induction h with
 |nil=>rfl
 |d h ih=>simp [ih]
 |o h ih=>simp [ih]
theorem cS.rep{k:Nat}{T:TypeId}{s m:Nat}{es:List jT}{w:World}{D D':kV}{β:kY}(h1:∀ v x,uN w D v x->uN w D' v x)(h2:∀ v,qC w D β v (.own k T s m)->uN w D' v (.sl T s es)){zs:List SV}{ds:List jT}(h:cS k T s m es zs ds) :
  ∀ {vs:List Value},vs.length=zs.length->(∀ (i:Nat) v x,vs[i]?=some v->zs[i]?=some x->qC w D β v x)->∀ (i:Nat) v d,vs[i]?=some v->ds[i]?=some d->uN w D' v d:=by
 induction h with
 |nil=>intro vs _ _ i v d _ hd;simp at hd
 |d h ih=>
  rename_i x zs ds
  intro vs hl hr i v d' hv hd
  rcases vs with _ | ⟨v0,vs⟩
  ·simp at hl
  ·rcases i with _ | i
   ·simp at hv hd;subst hv;subst hd;exact h1 _ _ (hr 0 _ _ rfl rfl)
   ·exact ih (by simpa using hl) (fun i v x h3 h4=>hr (i+1) v x (by simpa using h3) (by simpa using h4)) i v d' (by simpa using hv) (by simpa using hd)
 |o h ih=>
  intro vs hl hr i v d' hv hd
  rcases vs with _ | ⟨v0,vs⟩
  ·simp at hl
  ·rcases i with _ | i
   ·simp at hv hd;subst hv;subst hd;exact h2 _ (hr 0 _ _ rfl rfl)
   ·exact ih (by simpa using hl) (fun i v x h3 h4=>hr (i+1) v x (by simpa using h3) (by simpa using h4)) i v d' (by simpa using hv) (by simpa using hd)
theorem e_clo{y:Operand}{xs:List Operand}{ats:Array TypeId}{f:FuncId}{ds es:List jT}{u:Value}{zs:List SV}{cs:List SV}{k T s m:Nat}(hf:jW P f ds (.val u))(ho:o.op=.call { callee:=.value y,args:=xs.toArray,argTypes:=ats })(hy:ev S y=.d (.val (.func (.func f) #[] #[])))(hx:xs.map (ev S)=zs)
  (hz:cS k T s m es zs ds) (hes:∀ e∈es,e.cells.length=s) (hl:es.length=m) (hc:cs.take (m*s)=(kR es).map .d):uC P o S [(k,cs)] (.d (.val u)) :=
 fun a w D β Q hop hrd hD=>by
  have hyv:=hop y (by simp [ho,Op.operands,Call.operands])
  rw[hy] at hyv
  have hyv':=uO hyv
  have hrep:∀ (i:Nat) v x,(xs.map a.eval)[i]?=some v->zs[i]?=some x->qC w D β v x:=fun i v x hv hz'=>by
   rw[List.getElem?_map,Option.map_eq_some_iff] at hv
   obtain ⟨q,hqi,rfl⟩:=hv
   have hm:=hop q (by simp [ho,Op.operands,Call.operands,List.mem_of_getElem? hqi])
   have hi:=congrArg (fun l:List SV=>l[i]?) hx
   simp only[List.getElem?_map,hqi,hz',Option.map_some,Option.some.injEq] at hi
   rw[hi] at hm
   exact hm
  have qL:(xs.map a.eval).length=zs.length:=by rw[<- hx];simp
  have hrun:(execOp a.eval o).run P w=.ok (.enter f (xs.map a.eval).toArray) w:=by
   simp only[execOp,ho,resolve,Deferred.ofValue,hyv',Sem.run_bind,Sem.run_pure,Result.andThen_ok,invoke,Array.empty_append,Array.append_empty]
   rw[uY hf.may]
   simp
  have hfl:=uQ hes
  have hblk:=hrd (k,cs) (by simp)
  have key:∃ D',DOk D' w/\(∀ v x,uN w D v x->uN w D' v x)/\(∀ v,qC w D β v (.own k T s m)->uN w D' v (.sl T s es)):=by
   rcases hblk with g1 | ⟨b,vs,T',g1,g2,g3,g4,g5⟩
   ·refine ⟨D,hD,fun _ _ h=>h,fun v hv=>?_⟩
    rcases hv with ⟨_,e2,e3⟩ | ⟨b,cap,vs,h1,_,h3,_⟩
    ·rw[e2] at hl
     have hn:es=[]:=List.eq_nil_of_length_eq_zero hl
     subst hn
     rw[e3];exact eX w D T s
    ·exact (g1.at_cells h1 h3).elim
   ·have hmono:∀ t' g o,D t' g o->(D t' g o\/(t'=T/\g=b/\o<m*s))/\w.cell? ⟨g,o,none⟩=w.cell? ⟨g,o,none⟩:=fun t' g o hd=>⟨.inl hd,rfl⟩
    refine ⟨fun t' g o=>D t' g o\/(t'=T/\g=b/\o<m*s),hD.more (fun _ _ _ hd=>.inl hd) fun t' g o hd=>?_,fun v x hr=>uN.mono hmono hr,fun v hv=>?_⟩
    ·rcases hd with hd | ⟨_,e,_⟩
     ·exact hD.lt _ _ _ hd
     ·subst e;exact qV g2
    ·rcases hv with ⟨e1,_,_⟩ | ⟨b2,cap,vs2,h1,h2,h3,h4,h5,h6⟩
     ·rw[e1] at g1;cases g1
     ·obtain rfl:b=b2:=by rw[h1] at g1;injection g1 with g1;exact g1.symm
      rw[h3] at g2
      injection g2 with g2
      injection g2 with g2 gT
      subst g2;subst gT
      rw[h2]
      have key:∀ (i:Nat) d,(kR es)[i]?=some d->∃ u,vs2[i]?=some u/\u.oneCell'=true/\uN w D u d:=fun i d hd=>by
       have hi:i<m*s:=by
        have:=(List.getElem?_eq_some_iff.1 hd).1
        rw[hfl,hl] at this;exact this
       have e1:cs[i]?=some (.d d):=by
        have:(cs.take (m*s))[i]?=some (.d d):=by rw[hc];simp [hd]
        rwa [List.getElem?_take_of_lt hi] at this
       exact g4 i _ e1
      have hcell:∀ i,w.cell? ⟨b,i,none⟩=vs2[i]?:=fun i=>cell_of_row w b i vs2 T (0,0) h3
      refine uN.sl b 0 (fun i=>vs2.getD i undef) hl.symm h5 h6 hes (fun _=>rfl) (fun i hi=>.inr ⟨rfl,rfl,by rw[Nat.zero_add,<- hl,<- hfl];exact hi⟩) (fun i hi=>?_) (fun i hi=>?_) (fun i d hd=>?_)
      ·obtain ⟨x,q1,q2,q3⟩:=key i _ (List.getElem?_eq_getElem hi)
       rw[Nat.zero_add,hcell,Array.getD_eq_getD_getElem?,q1];rfl
      ·obtain ⟨x,q1,q2,q3⟩:=key i _ (List.getElem?_eq_getElem hi)
       rw[Array.getD_eq_getD_getElem?,q1];exact q2
      ·obtain ⟨x,q1,q2,q3⟩:=key i d hd
       rw[Array.getD_eq_getD_getElem?,q1]
       exact uN.mono hmono q3
  obtain ⟨D',hD',hm1,hm2⟩:=key
  have hargs:Args w D' (xs.map a.eval) ds:=⟨qL.trans hz.len,hz.rep hm1 hm2 qL hrep⟩
  refine cW hrun ((hf.run w D' _ hD' hargs).mono fun e w' h=>?_)
  obtain ⟨v,D2,he,h1,h2,h3⟩:=h
  refine ⟨v,he,v,D,rfl,h1,⟨fun _ _ _ h=>h,fun _ _ _ h=>.inl h⟩,?_⟩
  rw[uO h3]
  exact .val u
def OPost(w:World)(D:kV)(T s n:Nat)(es:List jT)(e:Ending)(w':World):Prop :=
 ∃ v D' b cap vs,e=.returned v/\Below w.heap.size w w'/\aF D D' w w'/\w.heap.size<=b/\(∀ t o,¬ D' t b o)/\v=.slice (some ⟨b,0,none⟩) n cap/\w'.heap[b]?=some (.cells vs T (0,0))/\vs.size=cap*s/\n<=cap/\cap<=maxLen/\es.length<=vs.size /\
  (∀ (i:Nat) d,es[i]?=some d->∃ u,vs[i]?=some u/\u.oneCell'=true/\uN w' D' u d)
structure TakesO (P:Program) (f:FuncId) (ds:List jT) (T s n:Nat) (es:List jT):Prop where
 may:callB P f=true
 run:∀ (w:World) (D:kV) (vs:List Value),DOk D w->Args w D vs ds->Calls P f vs.toArray w (OPost w D T s n es)
theorem n_own{y:Operand}{xs:List Operand}{ats:Array TypeId}{f:FuncId}{ds es:List jT}{T s n:Nat}{cs:List SV}(k:Nat)(hf:TakesO P f ds T s n es)(ho:o.op=.call { callee:=.value y,args:=xs.toArray,argTypes:=ats })(hy:ev S y=.d (.val (.func (.func f) #[] #[])))(hx:xs.map (ev S)=ds.map .d)(hc:es.map .d=cs):NOk P o S k cs (.own k T s n) :=
 fun a w D β Q hop hD=>by
  subst hc
  have hyv:=hop y (by simp [ho,Op.operands,Call.operands])
  rw[hy] at hyv
  have hyv':=uO hyv
  have hargs:Args w D (xs.map a.eval) ds:=by
   have hl:xs.length=ds.length:=by simpa using congrArg List.length hx
   refine ⟨by simpa using hl,fun i v d hv hd=>?_⟩
   rw[List.getElem?_map,Option.map_eq_some_iff] at hv
   obtain ⟨x,hxi,rfl⟩:=hv
   have hm:=hop x (by simp [ho,Op.operands,Call.operands,List.mem_of_getElem? hxi])
   have hi:=congrArg (fun l:List SV=>l[i]?) hx
   simp only[List.getElem?_map,hxi,hd,Option.map_some,Option.some.injEq] at hi
   rw[hi] at hm
   exact hm
  have hrun:(execOp a.eval o).run P w=.ok (.enter f (xs.map a.eval).toArray) w:=by
   simp only[execOp,ho,resolve,Deferred.ofValue,hyv',Sem.run_bind,Sem.run_pure,Result.andThen_ok,invoke,Array.empty_append,Array.append_empty]
   rw[uY hf.may]
   simp
  refine cW hrun ((hf.run w D _ hD hargs).mono fun e w' h=>?_)
  obtain ⟨v,D',b,cap,vs,he,h1,h2,h3,h4,h5,h6,h7,h8,h9,h10,h11⟩:=h
  have hβ:β.set k b k=some b:=by simp [kY.set]
  refine ⟨v,he,v,D',b,rfl,h1,h2,h3,qV h6,h4,.inr ⟨b,vs,T,hβ,h6,by simpa using h10,fun i x hx=>?_,h4⟩,.inr ⟨b,cap,vs,hβ,h5,h6,h7,h8,h9⟩⟩
  rw[List.getElem?_map,Option.map_eq_some_iff] at hx
  obtain ⟨d,hd,rfl⟩:=hx
  exact h11 i d hd
theorem leaves_own{a:Act}{v:Value}{w w0:World}{fn:Func}{D D':kV}{T s n b cap:Nat}{es:List jT}{vs:Array Value}{ds:List Deferred}(hd:DfOk w0.heap.size w ds)(hres:∀ w',(results fn a.tmps).run P w'=.ok v w')
  (gC:Below w0.heap.size w0 w) (hup:∀ t g o,D t g o->D' t g o) (hnew:∀ t g o,D' t g o->D t g o\/w0.heap.size<=g) (hdok:DOk D' w) (h3:w0.heap.size<=b) (h4:∀ t o,¬ D' t b o) (h5:v=.slice (some ⟨b,0,none⟩) n cap)
  (h6:w.heap[b]?=some (.cells vs T (0,0))) (h7:vs.size=cap*s) (h8:n<=cap) (h9:cap<=maxLen) (h10:es.length<=vs.size) (h11:∀ (i:Nat) d,es[i]?=some d->∃ u,vs[i]?=some u/\u.oneCell'=true/\uN w D' u d) :
  LeavesInM Fence.wide 0 P fn a.tmps (OPost w0 D T s n es) ds .returning w:=by
 induction ds generalizing w with
 |nil=>
  refine ⟨v,hres w,v,D',b,cap,vs,rfl,gC,⟨hup,fun t g o hd=>?_⟩,h3,h4,h5,h6,h7,h8,h9,h10,h11⟩
  rcases hnew t g o hd with q | q
  ·exact .inl q
  ·exact .inr ⟨q,hdok.lt _ _ _ hd⟩
 |cons d ds ih=>
  cases hd with
  |cons hqb hqh h3' hr=>
   rename_i q
   have hne:b≠q:=fun e=>by subst e;rw[h6] at hqh;cases hqh
   refine ⟨by simp,.inl ⟨q,_,rfl,run_takeDeferred hqh,ih (hr.keep fun q' hq' ⟨d,hd,e⟩=>?_) (turned_below gC hqb) (hdok.kept (by simp [World.putObj]) fun t g o _=>yI hqh rfl rfl g o) ((World.putObj_heap_other hne).trans h6) (fun i d hd=>?_)⟩⟩
   ·have hne:q'≠q:=fun e'=>h3' d hd (e'▸e)
    exact (World.putObj_heap_other hne).trans hq'
   ·obtain ⟨u,e1,e2,e3⟩:=h11 i d hd
    exact ⟨u,e1,e2,eJ (β:=fun _=>none) (x:=.d d) hqh rfl rfl rfl e3⟩
def RetO(rs:List ResultVar)(T s n:Nat)(es:List jT):Exit->PS->Prop
 |.ret,st=>∃ t k,rs=[.tmp t]/\kA st.sl t=.own k T s n/\∃ cs,jY st.bs k=some cs/\es.length<=cs.length/\∀ (i:Nat) d,es[i]?=some d->cs[i]?=some (.d d)
 |.normal,st=>∃ t k,rs=[.tmp t]/\kA st.sl t=.own k T s n/\∃ cs,jY st.bs k=some cs/\es.length<=cs.length/\∀ (i:Nat) d,es[i]?=some d->cs[i]?=some (.d d)
 |_,_=>False
theorem own_prefix{α:Type}(F:α->jT){L L':List α}{j:Nat}(h:L=L'.take j):(L.map F).length<=(L'.map (fun g=>SV.d (F g))).length/\∀ (i:Nat) d,(L.map F)[i]?=some d->(L'.map (fun g=>SV.d (F g)))[i]?=some (.d d):=by
 subst h
 refine ⟨by simp;omega,fun i d hd=>?_⟩
 rw[List.getElem?_map,Option.map_eq_some_iff] at hd
 obtain ⟨g,hg,rfl⟩:=hd
 have hi:i<(L'.take j).length:=(List.getElem?_eq_some_iff.1 hg).1
 rw[List.length_take] at hi
 rw[List.getElem?_take_of_lt (by omega)] at hg
 rw[List.getElem?_map,hg]
 rfl
theorem fn_introO{f:FuncId}{fn:Func}{c:Code}{ds:List jT}{T s n:Nat}{es:List jT}(hf:P.funcs[f]?=some fn)(hb:fn.body=some c)(hc:callB P f=true)(hn:Nat.ble ds.length fn.ntmps=true)(hpos:0<n)
  (h:dR P ⟨0,fn.ntmps,none⟩ c (RetO fn.results.toList T s n es) ⟨eF ds 0,[]⟩):TakesO P f ds T s n es :=
 ⟨hc,fun w D vs hD hargs=>by
  refine (callsIn_wide (n:=0)).1 (callsIn_of_wp_marks hf hb trivial ?_)
  have hle:ds.length<=fn.ntmps:=Nat.le_of_ble_eq_true hn
  have hvl:=hargs.1
  have hsim:cI ⟨w,D,w,#[],⟨0,fn.ntmps,none⟩,fun _=>False⟩ { tmps:=vs.toArray++Array.replicate (fn.ntmps-vs.toArray.size) undef,defers:=[] } w ⟨eF ds 0,[]⟩:=by
   refine ⟨D,fun _=>none,⟨.nil,by simp;omega,fun _ _ _ _=>rfl,fun _ _ h _ _=>h,fun t ht=>absurd ht (Nat.not_lt_zero t),.of (Below.refl _ _),fun _ _ _ h=>h,fun _ _ _ h=>.inl h,hD⟩,⟨fun k cs hk=>by simp [jY] at hk,fun k1 k2 c1 c2 h1=>by simp [jY] at h1⟩,fun k c hk=>by simp [jY] at hk,fun t=>?_⟩
   show qC w D _ _ (kA (eF ds 0) t)
   rw[sget_init]
   simp only[Nat.zero_le,if_true,Nat.sub_zero]
   cases hd:ds[t]? with
   |none=>trivial
   |some d=>
    have ht:t<vs.length:=by rw[hvl];exact (List.getElem?_eq_some_iff.1 hd).1
    refine hargs.2 t _ d ?_ hd
    rw[Array.getD_eq_getD_getElem?,Array.getElem?_append_left (by simpa using ht)]
    simp [ht]
  refine wpIn_mono (h _ _ w 0 rfl hsim) fun e a w' ⟨st,⟨D',β,hs⟩,hq⟩=>?_
  have fin:(∃ t k,fn.results.toList=[.tmp t]/\kA st.sl t=.own k T s n/\∃ cs,jY st.bs k=some cs/\es.length<=cs.length/\∀ (i:Nat) d,es[i]?=some d->cs[i]?=some (.d d))->LeavesInM Fence.wide 0 P fn a.tmps (OPost w D T s n es) a.defers .returning w':=fun ⟨t,k,h1,h2,cs,h3,h3l,h3c⟩=>by
   have ht:=hs.slots t
   rw[h2] at ht
   rcases ht with ⟨_,q,_⟩ | ⟨b,cap,vs',g1,g2,g3,g4,g5,g6⟩
   ·omega
   ·rcases hs.mem.ok k _ h3 with q | ⟨b',vs2,T2,q1,q2,q3,q4,q5⟩
    ·exact (q.at_cells g1 g3).elim
    ·obtain rfl:b=b':=by rw[g1] at q1;injection q1
     rw[g3] at q2
     injection q2 with q2
     injection q2 with q2 qT
     subst q2;subst qT
     have hr:fn.results=#[.tmp t]:=by rw[<- Array.toList_inj,h1]
     refine leaves_own (a:=a) hs.base.defers (fun w2=>?_) hs.base.below.plain hs.base.dmono (fun t g o hd=>(hs.base.dnew t g o hd).imp id (fun h=>h.elim id False.elim)) hs.base.dok ((hs.high k _ h3 b g1).elim id False.elim) q5 g2 g3 g4 g5 g6 (by omega) (fun i d hd=>q4 i (.d d) (h3c i d hd))
     rw[aN,hr]
     simp [resF]
  cases e with
  |normal=>exact fin hq
  |ret=>exact fin hq
  |exit id=>exact hq.elim
  |goto l=>exact hq.elim
  |panic ch=>exact hq.elim
  |outgrown=>exact hq.elim⟩
end
def FrB(k:Nat)(B:BS):Prop:=(B.all fun p=>(!(Nat.beq p.1 k))&&match p.2 with
  |some cs=>!(kZ k cs)
  |none=>true)=true
theorem frb_nil(k:Nat):FrB k []:=rfl
theorem frb_none{k j:Nat}{B:BS}(h:Nat.beq j k=false)(hB:FrB k B):FrB k ((j,none)::B):=by
 unfold FrB at *
 rw[List.all_cons,hB,h];rfl
theorem frb_cs{k j:Nat}{cs:List SV}{B:BS}(h:Nat.beq j k=false)(hc:kZ k cs=false)(hB:FrB k B):FrB k ((j,some cs)::B):=by
 unfold FrB at *
 rw[List.all_cons,hB,h];simp [hc]
theorem frb_map{α:Type}{k j:Nat}{f:α->jT}{l:List α}{B:BS}(h:Nat.beq j k=false)(hB:FrB k B):FrB k ((j,some (l.map (fun g=>SV.d (f g))))::B):=frb_cs h (zD k f l) hB
theorem frb_d{k j:Nat}{l:List jT}{B:BS}(h:Nat.beq j k=false)(hB:FrB k B):FrB k ((j,some (l.map SV.d))::B):=frb_cs h (zD k id l) hB
theorem clearL_map{α:Type}(news:List Nat)(f:α->jT)(l:List α):clearL news (l.map (fun g=>SV.d (f g)))=true:=by
 unfold clearL
 rw[List.all_eq_true]
 intro k _
 rw[zD];rfl
theorem freshB_of{k:Nat}{S:SL}{B:BS}(h1:(S.all fun p=>!p.2.names k)=true)(h2:FrB k B):zU k ⟨S,B⟩=true:=by
 unfold zU
 unfold FrB at h2
 rw[h1]
 exact h2
def PJoin{α:Type}(id:Nat)(St:α->PS)(I:α->Prop)(Q:Exit->PS->Prop):Exit->PS->Prop
 |.normal,s=>∃ y,qQ s (St y)/\I y
 |.exit i,s=>if i=id then ∃ y,qQ s (St y)/\I y else Q (.exit i) s
 |e,s=>Q e s
theorem pjoin_exit{α:Type}{id:Nat}{St:α->PS}{I:α->Prop}{Q:Exit->PS->Prop}{s:PS}(h:∃ y,qQ s (St y)/\I y):PJoin id St I Q (.exit id) s:=by
 show (if id=id then _ else _)
 rw[if_pos rfl];exact h
theorem pwp_seqjoin{P:Program}{n:Fr}{Q:Exit->PS->Prop}{st:PS}{α:Type}{id:Nat}{c d:Code}(St:α->PS)(I:α->Prop)(h1:dR P n c (PJoin id St I Q) st)(h2:∀ y,I y->dR P n d Q (St y)):dR P n (.seq (.block id c) d) Q st:=by
 refine jB (jG (pwp_mono h1 ?_))
 rintro e s h
 cases e with
 |normal=>
  obtain ⟨y,q1,q2⟩:=h
  exact kM q1 (h2 y q2)
 |exit i=>
  have h':if i=id then ∃ y,qQ s (St y)/\I y else Q (.exit i) s:=h
  show if i=id then _ else _
  split
  ·rename_i e;rw[if_pos e] at h'
   obtain ⟨y,q1,q2⟩:=h'
   exact kM q1 (h2 y q2)
  ·rename_i e;rw[if_neg e] at h';exact h'
 |ret=>exact h
 |goto l=>exact h
 |panic ch=>exact h
 |outgrown=>exact h
theorem e_pkfo{P:Program}{o:Oper}{S:Nat->SV}{c x y:Operand}{q:Bool}(ho:o.op=.pick c x y)(hc:ev S c=.d (.val (.bool false)))(hy:ev S y=.d (.val (.bool q))):uC P o S [] (.d (.val (.bool (false||q)))):=by
 rw[Bool.false_or];exact e_pkf ho hc hy
theorem e_pkta{P:Program}{o:Oper}{S:Nat->SV}{c x y:Operand}{q:Bool}(ho:o.op=.pick c x y)(hc:ev S c=.d (.val (.bool true)))(hx:ev S x=.d (.val (.bool q))):uC P o S [] (.d (.val (.bool (true&&q)))):=by
 rw[Bool.true_and];exact e_pkt ho hc hx
section
variable {P:Program} {o:Oper} {S:Nat->SV}
theorem e_bse{T E:TypeId}{s:Nat}(ho:o.op=.buildSlice T 0 #[])(hT:uB P T=some (E,s)):uC P o S [] .emp :=
 fun a w D β Q hop _ hD=>by
  obtain ⟨j,e1,e2,e3⟩:=gQ hT
  have hrun:(execOp a.eval o).run P w=.ok (.value (.slice (some ⟨w.heap.size,0,none⟩) 0 0)) (w.alloc (.cells #[] E)):=by
   simp only[execOp,ho,Instr.buildSlice,Sem.run_bind,run_underlying e1,Result.andThen_ok,vX e2,Nat.zero_mul,if_true,Sem.run_pure]
   rw[if_neg (by omega)]
   simp [newRow,run_newObj,Array.range_zero',Instr.fill]
  exact mF hrun ⟨_,D,rfl,⟨rfl,rfl,rfl,by simp,fun q hq=>heap_alloc_old w _ hq⟩,aF.of_same D,⟨_,rfl⟩⟩
theorem e_appe{T E t':TypeId}{x y:Operand}{s bytes:Nat}{zv:List Value}{es':List jT}(ho:o.op=.call { callee:=.builtin .append,args:=#[x,y],argTypes:=#[T,T] })
  (hT:uB P T=some (E,s)) (hz:vP P E=some zv) (hzl:zv.length=s) (hby:vJ P E=some bytes) (hx:ev S x=.emp) (hy:ev S y=.d (.sl t' s es')) (hbig:es'.length<=maxLen) (hbig':es'.length*bytes<=140737488355328) :
  uC P o S [] (.d (.sl t' s es')):=fun a w D β Q hop _ hD=>by
 have h1:=hop x (by simp [ho,Op.operands,Call.operands])
 have h2:=hop y (by simp [ho,Op.operands,Call.operands])
 rw[hx] at h1
 rw[hy] at h2
 obtain ⟨ao0,hv⟩:=h1
 obtain ⟨ao,c,us,hyv,hcc,hul,hfl',eO,hrep,had⟩:=bP h2
 obtain ⟨i,z,z1,z2,z3⟩:=eZ hz
 obtain ⟨j,f1,f2,f3⟩:=gQ hT
 have hij:i=j:=by rw[z1] at f2;injection f2
 subst hij
 have hbi:i.bytes=bytes:=by
  unfold vJ at hby
  rw[z1] at hby
  simpa using hby
 subst hbi
 have hzs:z.cells.size=s:=by rw[z3];simpa using hzl
 have hml:(maxLen:Int)<=9223372036854775807:=by decide
 have hsl:∀ e∈es',e.cells.length=s:=(fun v (h:uN w D v (.sl t' s es'))=>by
  cases h with
  |sl g off u hn hc hm hs ha hD hu h1 hr=>exact hs:∀ v,uN w D v (.sl t' s es')->∀ e∈es',e.cells.length=s) _ h2
 by_cases hm0:es'.length=0
 ·have hnil:es'=[]:=List.eq_nil_of_length_eq_zero hm0
  subst hnil
  have hrun:(Builtin.append_ #[T,T] o.type #[a.eval x,a.eval y]).run P w=.ok (a.eval x) w:=by
   rw[hyv]
   have e0:([]:List jT).length=0:=rfl
   have hu0:us=[]:=List.eq_nil_of_length_eq_zero (by simpa using hul)
   rw[hv,e0]
   cases ao0<;>cases ao with
   |none=>simp [Builtin.append_,run_underlying f1,sizeOf,typeInfo,z1,Builtin.lenOf,Builtin.firstCells,storeCells]
   |some ad=>simp [Builtin.append_,run_underlying f1,sizeOf,typeInfo,z1,Builtin.lenOf,Builtin.firstCells,loadCells,loadCellsFrom,storeCells]
  have hR:qC w D β (a.eval x) (.d (.sl t' s [])):=by
   rw[hv]
   exact uN.sl 0 0 (fun _=>undef) rfl (Nat.le_refl _) (Nat.zero_le _) (by simp) (fun h=>absurd h (Nat.lt_irrefl 0)) (by simp [kR]) (by simp [kR]) (by simp [kR]) (by simp [kR])
  unfold Oper.wp execOp
  simp only[ho,resolve,invoke,builtin,Sem.run_bind,Sem.run_pure,Result.andThen_ok,List.map_toArray,List.map_cons,List.map_nil,hrun]
  exact ⟨_,D,rfl,Below.refl _ _,aF.of_same D,hR⟩
 ·obtain ⟨ad,rfl,hcell⟩:=had (by omega)
  have key:∃ (G:Nat) (arr:List Value) (w':World),(Builtin.append_ #[T,T] o.type #[a.eval x,a.eval y]).run P w=.ok (.slice (some ⟨w.heap.size,0,none⟩) es'.length G) w'/\w'=w.drew.alloc (.cells (us++arr).toArray E)/\es'.length<=G/\G<=maxLen:=by
   cases ao0 with
   |none=>
    have hbytes:es'.length*i.bytes<=281474976710656:=by omega
    have hr:=run_append_nil (P:=P) w T o.type E i z f1 z1 z2 ad es'.length c us (by rw[hul,f3]) hcell (by omega) (by omega) hbytes
    have hge:=grownCap_ge w es'.length 0 E
    have hcm:=grownCap_le_maxLen w es'.length 0 E (by omega)
    generalize grownCap w es'.length 0 E=G at hr hge hcm
    exact ⟨G,(Builtin.zeroCells z.cells (G-es'.length)).toList,_,by rw[hv,hyv];exact hr,by congr 2;apply Array.ext';simp,hge,hcm⟩
   |some b0=>
    have hr:=run_append_grow (P:=P) w T o.type E i z f1 z1 z2 b0 0 0 [] (by simp) (by simp) ad es'.length c us (by rw[hul,f3]) hcell (by omega) (by omega) (growslice_fits (by omega) (by rw[Nat.zero_add];exact hbig'))
    rw[Nat.zero_add] at hr
    have hge:=grownCap_ge w es'.length 0 E
    have hcm:=grownCap_le_maxLen w es'.length 0 E (by omega)
    generalize grownCap w es'.length 0 E=G at hr hge hcm
    exact ⟨G,(Builtin.zeroCells z.cells (G-es'.length)).toList,_,by rw[hv,hyv];exact hr,by congr 2;apply Array.ext';simp,hge,hcm⟩
  obtain ⟨G,arr,w',hrun,hw',hge,hcm⟩:=key
  have hfl:=uQ hsl
  have gC:Below w.heap.size w w':=by subst hw';exact ⟨rfl,rfl,rfl,by simp,fun q hq=>heap_alloc_old w.drew _ hq⟩
  have hrow:w'.heap[w.heap.size]?=some (.cells (us++arr).toArray E (0,0)):=by subst hw';exact heap_alloc_new w.drew _
  have hcells:∀ q,w'.cell? ⟨w.heap.size,q,none⟩=(us++arr)[q]?:=fun q=>by rw[cell_of_row w' w.heap.size q _ E (0,0) hrow];simp
  have hsz:w'.heap.size=w.heap.size+1:=by subst hw';simp
  have hmono:∀ t g q,D t g q->(D t g q\/(t=t'/\g=w.heap.size/\q<us.length))/\w'.cell? ⟨g,q,none⟩=w.cell? ⟨g,q,none⟩:=fun t g q hd=>⟨.inl hd,nK gC (hD.lt t g q hd)⟩
  have hul2:us.length=(kR es').length:=by rw[hul,hfl]
  unfold Oper.wp execOp
  simp only[ho,resolve,invoke,builtin,Sem.run_bind,Sem.run_pure,Result.andThen_ok,List.map_toArray,List.map_cons,List.map_nil,hrun]
  refine ⟨_,fun t g q=>D t g q\/(t=t'/\g=w.heap.size/\q<us.length),rfl,gC,⟨fun t g q h=>.inl h,fun t g q h=>?_⟩,?_⟩
  ·rcases h with h | ⟨_,h,_⟩
   ·exact .inl h
   ·exact .inr ⟨by omega,by omega⟩
  ·refine uN.sl w.heap.size 0 (fun q=>(us++arr).getD q undef) rfl hge hcm hsl (fun _=>rfl) (fun q hq=>.inr ⟨rfl,rfl,by omega⟩) (fun q hq=>?_) (fun q hq=>?_) (fun q d hq=>?_)
   ·rw[Nat.zero_add,hcells,List.getElem?_append_left (by omega)]
    simp [List.getD,List.getElem?_append_left (by omega:q<us.length),List.getElem?_eq_getElem (by omega:q<us.length)]
   ·rw[List.getD,List.getElem?_append_left (by omega),List.getElem?_eq_getElem (by omega:q<us.length)]
    exact eO _ (by simp)
   ·have hq':=(List.getElem?_eq_some_iff.1 hq).1
    rw[List.getD,List.getElem?_append_left (by omega),List.getElem?_eq_getElem (by omega:q<us.length)]
    exact uN.mono hmono (hrep q _ d (List.getElem?_eq_getElem (by omega)) hq)
end
abbrev qP {α:Type} (F:α->jT) (L:List α):List SV:=(kR (L.map F)).map SV.d
theorem nR{α:Type}(F:α->jT){s:Nat}(hF:∀ g,(F g).cells.length=s)(L:List α):(kR (L.map F)).length=L.length*s:=by
 rw[uQ (s:=s) (fun e he=>by
  rw[List.mem_map] at he
  obtain ⟨g,_,rfl⟩:=he
  exact hF g),List.length_map]
theorem map_celllen{α:Type}(F:α->jT){s:Nat}(hF:∀ g,(F g).cells.length=s)(L:List α):∀ e∈L.map F,e.cells.length=s:=fun e he=>by
 rw[List.mem_map] at he
 obtain ⟨g,_,rfl⟩:=he
 exact hF g
section
variable {P:Program} {n:Fr} {ops:Array Oper} {S S':SL} {B B':BS} {l:List Oper} {o:Oper}
theorem appP_sem{α:Type}{d:Tmp}{T E t':TypeId}{x y:Operand}{k s m bytes:Nat}{zv:List Value}(F:α->jT)(L L':List α)(hF:∀ g,(F g).cells.length=s)(ho:o.op=.call { callee:=.builtin .append,args:=#[x,y],argTypes:=#[T,T] })(hdst:o.dst=some d)(hd:yH n (some d)=true)
  (hT:uB P T=some (E,s)) (hz:vP P E=some zv) (hzl:zv.length=s) (hby:vJ P E=some bytes) (hx:ev (kA S) x=.own k E s m) (hb:jY B k=some (qP F L)) (hL:L.length=m) (hy:ev (kA S) y=.d (.sl t' s (L'.map F)))
  (hbig:m+L'.length<=maxLen) (hbig':(m+L'.length)*bytes<=140737488355328) (hB:Clr k B) (C:Ctx) (a:Act) (w:World) (Q:Exit->Act->World->Prop) (hn:C.n=n) (hs:cI C a w ⟨S,B⟩):o.wp P a w (fun a' w'=>cI C a' w' ⟨(d,.d (.sl E s ((L++L').map F)))::yL k S,(k,none)::B⟩) Q:=by
 have h0:=app_sound (st:=⟨S,B⟩) (N:=n) (es:=L.map F) (es':=L'.map F) ho (by rw[hdst];exact hd) hT hz hzl hby hx hb rfl (by rw[nR F hF,hL]) hy (by simpa using hbig) (by simpa using hbig') hB C a w Q hn hs
 rw[hdst] at h0
 refine Oper.wp_mono (fun a' w' h1=>?_) h0
 have h2:=vS (st:=⟨(d,.own k E s (m+(L'.map F).length))::yL k S,(k,some ((kR (L.map F++L'.map F)).map .d))::B⟩) (t:=d) (k:=k) (s:=s) (m:=m+(L'.map F).length) (T:=E) (cs:=(kR (L.map F++L'.map F)).map .d) (es:=(L++L').map F)
  (by simp [qM]) (by simp [jI]) (map_celllen F hF _) (by simp [hL]) (by rw[<- List.map_append];rw[List.take_of_length_le];rw[List.length_map,nR F hF,List.length_append,hL,List.length_map];exact Nat.le_refl _)
 obtain ⟨D,β,h3⟩:=h2 C a' w' h1
 refine ⟨D,β,h3.base,⟨fun j c hj=>?_,fun j1 j2 c1 c2 q1 q2=>?_⟩,fun j c hj=>?_,fun t=>?_⟩
 ·rw[jI] at hj
  split at hj
  ·cases hj
  ·rename_i e;exact h3.mem.ok j c (by rw[jI,if_neg e,jI,if_neg e];exact hj)
 ·have conv:∀ {j:Nat} {c:List SV},jY ((k,none)::B) j=some c->jY ((k,none)::(k,some ((kR (L.map F++L'.map F)).map .d))::B) j=some c:=fun {j c} hj=>by
   rw[jI] at hj
   split at hj
   ·cases hj
   ·rename_i e;rw[jI,if_neg e,jI,if_neg e];exact hj
  exact h3.mem.inj j1 j2 c1 c2 (conv q1) (conv q2)
 ·rw[jI] at hj
  split at hj
  ·cases hj
  ·rename_i e;exact h3.high j c (by rw[jI,if_neg e,jI,if_neg e];exact hj)
 ·have h4:=h3.slots t
  have e1:kA ((d,SV.d (.sl E s ((L++L').map F)))::yL k S) t=kA ((d,SV.d (.sl E s ((L++L').map F)))::(d,.own k E s (m+(L'.map F).length))::yL k S) t:=by
   rw[qM,qM,qM]
   split
   ·rfl
   ·rfl
  show qC w' D β _ (kA ((d,SV.d (.sl E s ((L++L').map F)))::yL k S) t)
  rw[e1]
  exact h4
theorem bxs_one{α:Type}(F:α->jT)(hF:∀ g,(F g).cells=[F g])(L:List α):qP F L=L.map (fun g=>SV.d (F g)):=by
 unfold qP;rw[flat_one F hF,List.map_map];rfl
end
def cH(a:qB):Bool:=kL a.lo&&(kL a.hi&&decide (xZ a.lo<=xZ a.hi))
def GOk(n:Nat)(a:qB):Prop:=gD a.lo (xZ a.lo) n/\gD a.hi (xZ a.hi) n
theorem gok_get{l:List qB}{n j:Nat}{d:qB}(h:∀ a∈l,GOk n a)(hj:j<l.length):GOk n (l.getD j d):=by
 rw[List.getD,List.getElem?_eq_getElem hj]
 exact h _ (List.getElem_mem hj)
theorem qok_raw{x:kP}{n:Nat}(h:1<=n)(h1:x.num.gs.length<=n)(h2:x.den.gs.length<=n):gD x (xZ x) n:=⟨rfl,h,h1,h2⟩
theorem yO{x:kP}{q:Rat}{n:Nat}(h:gD x q n):gD x (xZ x) n:=⟨rfl,h.p,h.n1,h.n2⟩
theorem dN{p q:Rat}(h:p<=q):cH ⟨jP p,jP q⟩=true:=by
 unfold cH
 simp only[eH,mV,Bool.true_and]
 exact decide_eq_true h
theorem cmpQ_le{a b:Rat}:gW a b<=0↔a<=b:=by
 unfold gW
 by_cases h:a<b
 ·rw[if_pos h];exact ⟨fun _=>Rat.le_of_lt h,fun _=>by decide⟩
 ·rw[if_neg h]
  by_cases h2:b<a
  ·rw[if_pos h2];exact ⟨fun h3=>by omega,fun h3=>absurd h3 (Rat.not_le.2 h2)⟩
  ·rw[if_neg h2];exact ⟨fun _=>Rat.not_lt.1 h2,fun _=>by decide⟩
theorem cmpQ_lt{a b:Rat}:gW a b<0↔a<b:=by
 unfold gW
 by_cases h:a<b
 ·rw[if_pos h];exact ⟨fun _=>h,fun _=>by decide⟩
 ·rw[if_neg h]
  by_cases h2:b<a
  ·rw[if_pos h2];exact ⟨fun h3=>by omega,fun h3=>absurd h3 h⟩
  ·rw[if_neg h2];exact ⟨fun h3=>by omega,fun h3=>absurd h3 h⟩
theorem cmpQ_gt{a b:Rat}:0<gW a b↔b<a:=by
 unfold gW
 by_cases h:a<b
 ·rw[if_pos h];exact ⟨fun h3=>by omega,fun h3=>absurd (Rat.le_of_lt h3) (Rat.not_le.2 h)⟩
 ·rw[if_neg h]
  by_cases h2:b<a
  ·rw[if_pos h2];exact ⟨fun _=>h2,fun _=>by decide⟩
  ·rw[if_neg h2];exact ⟨fun h3=>by omega,fun h3=>absurd h3 h2⟩
theorem cmpQ_eq{a b:Rat}:gW a b=0↔a=b:=by
 unfold gW
 by_cases h:a<b
 ·rw[if_pos h];exact ⟨fun h3=>by omega,fun h3=>absurd h (h3▸Rat.lt_irrefl)⟩
 ·rw[if_neg h]
  by_cases h2:b<a
  ·rw[if_pos h2];exact ⟨fun h3=>by omega,fun h3=>absurd h2 (h3▸Rat.lt_irrefl)⟩
  ·rw[if_neg h2];exact ⟨fun _=>Rat.le_antisymm (Rat.not_lt.1 h2) (Rat.not_lt.1 h),fun _=>rfl⟩
theorem validG_eq(a:qB):((kL a.lo&&kL a.hi)&&decide (gW (xZ a.lo) (xZ a.hi)<=0))=cH a:=by
 unfold cH
 rw[Bool.and_assoc]
 congr 2
 rw[Bool.eq_iff_iff,decide_eq_true_eq,decide_eq_true_eq,cmpQ_le]
def fM(p:Rat)(l:List Rat):Rat:=l.foldl min p
def eP(p:Rat)(l:List Rat):Rat:=l.foldl max p
theorem take_getD{l:List Rat}{i:Nat}(h:i<l.length):l.take (i+1)=l.take i++[l.getD i 0]:=by
 rw[List.take_succ_eq_append_getElem h];simp [List.getD,List.getElem?_eq_getElem h]
theorem mnL_step{p:Rat}{l:List Rat}{i:Nat}(h:i<l.length):fM p (l.take (i+1))=min (fM p (l.take i)) (l.getD i 0):=by
 unfold fM;rw[take_getD h,List.foldl_append];rfl
theorem mxL_step{p:Rat}{l:List Rat}{i:Nat}(h:i<l.length):eP p (l.take (i+1))=max (eP p (l.take i)) (l.getD i 0):=by
 unfold eP;rw[take_getD h,List.foldl_append];rfl
theorem mnL_lt{p:Rat}{l:List Rat}{i:Nat}{x:Rat}(h:i<l.length)(hx:x=fM p (l.take i))(hc:gW (l.getD i 0) x<0):l.getD i 0=fM p (l.take (i+1)):=by
 rw[mnL_step h,<- hx,Rat.min_def,if_neg (Rat.not_le.2 (cmpQ_lt.1 hc))]
theorem mnL_ge{p:Rat}{l:List Rat}{i:Nat}{x:Rat}(h:i<l.length)(hx:x=fM p (l.take i))(hc:¬ gW (l.getD i 0) x<0):x=fM p (l.take (i+1)):=by
 rw[mnL_step h,<- hx,Rat.min_def,if_pos (Rat.not_lt.1 (fun h2=>hc (cmpQ_lt.2 h2)))]
theorem mxL_gt{p:Rat}{l:List Rat}{i:Nat}{x:Rat}(h:i<l.length)(hx:x=eP p (l.take i))(hc:0<gW (l.getD i 0) x):l.getD i 0=eP p (l.take (i+1)):=by
 rw[mxL_step h,<- hx,Rat.max_def,if_pos (Rat.le_of_lt (cmpQ_gt.1 hc))]
theorem mxL_le{p:Rat}{l:List Rat}{i:Nat}{x:Rat}(h:i<l.length)(hx:x=eP p (l.take i))(hc:¬ 0<gW (l.getD i 0) x):x=eP p (l.take (i+1)):=by
 rw[mxL_step h,<- hx,Rat.max_def]
 have h2:l.getD i 0<=x:=Rat.not_lt.1 (fun h2=>hc (cmpQ_gt.2 h2))
 split
 ·exact Rat.le_antisymm (by assumption) h2
 ·rfl
theorem dF{l:List Rat}{n:Nat}(h:∀ q∈l,QL q n)(h1:1<=n)(j:Nat):QL (l.getD j 0) n:=by
 rw[List.getD]
 cases hj:l[j]? with
 |none=>exact kS mW h1
 |some q=>exact h q (List.mem_of_getElem? hj)
theorem ql_mnL{p:Rat}{l:List Rat}{n:Nat}(hp:QL p n)(h:∀ q∈l,QL q n):QL (fM p l) n:=by
 unfold fM
 induction l generalizing p with
 |nil=>exact hp
 |cons q l ih=>exact ih (ql_min hp (h q (by simp))) (fun r hr=>h r (by simp [hr]))
theorem ql_mxL{p:Rat}{l:List Rat}{n:Nat}(hp:QL p n)(h:∀ q∈l,QL q n):QL (eP p l) n:=by
 unfold eP
 induction l generalizing p with
 |nil=>exact hp
 |cons q l ih=>exact ih (ql_max hp (h q (by simp))) (fun r hr=>h r (by simp [hr]))
theorem dX(p:Rat)(l:List Rat):fM p l<=eP p l:=by
 have h1:∀ (l:List Rat) (p:Rat),fM p l<=p:=by
  intro l
  induction l with
  |nil=>intro p;exact Rat.le_refl
  |cons q l ih=>
   intro p
   refine Rat.le_trans (ih (min p q)) ?_
   rw[Rat.min_def];split
   ·exact Rat.le_refl
   ·exact Rat.le_of_lt (Rat.not_le.1 (by assumption))
 have h2:∀ (l:List Rat) (p:Rat),p<=eP p l:=by
  intro l
  induction l with
  |nil=>intro p;exact Rat.le_refl
  |cons q l ih=>
   intro p
   refine Rat.le_trans ?_ (ih (max p q))
   rw[Rat.max_def];split
   ·assumption
   ·exact Rat.le_refl
 exact Rat.le_trans (h1 l p) (h2 l p)
def digR(x:kP):Nat:=x.num.gs.length+x.den.gs.length
theorem all_take{α:Type}{f:α->Bool}{l:List α}{i:Nat}{d:α}(h:i<l.length)(h1:(l.take i).all f=true)(h2:f (l.getD i d)=true):(l.take (i+1)).all f=true:=by
 rw[List.take_succ_eq_append_getElem h,List.all_append,h1]
 simp [List.getD,List.getElem?_eq_getElem h] at h2
 simp [h2]
theorem all_not{α:Type}{f:α->Bool}{l:List α}{i:Nat}{d:α}(h:i<l.length)(h2:f (l.getD i d)=false):l.all f=false:=by
 rw[List.all_eq_false]
 refine ⟨l[i],List.getElem_mem h,?_⟩
 simp [List.getD,List.getElem?_eq_getElem h] at h2
 simp [h2]
theorem sameR_eq(x y:kP):((kL x&&kL y)&&(gW (xZ x) (xZ y) == 0))=(kL x&&(kL y&&decide (xZ x=xZ y))):=by
 rw[Bool.and_assoc]
 congr 2
 rw[Bool.eq_iff_iff,beq_iff_eq,decide_eq_true_eq,cmpQ_eq]
def sameR(x y:kP):Bool:=kL x&&(kL y&&decide (xZ x=xZ y))
theorem sameR_of(p q:Rat):sameR (jP p) (jP q)=decide (p=q):=by
 unfold sameR;simp only[eH,mV,Bool.true_and]
def mL(p q:Rat):Bool:=decide (p<=0)&&decide (0<=q)
theorem gok_up{a:qB}{m n:Nat}(h:GOk m a)(hm:m<=n:=by decide):GOk n a:=⟨kE h.1 hm,kE h.2 hm⟩
theorem zeroG_ne{r s:Rat}(h:r<=s)(hz:mL r s=false):r≠0/\s≠0:=by
 unfold mL at hz
 rw[Bool.and_eq_false_iff,decide_eq_false_iff_not,decide_eq_false_iff_not,Rat.not_le,Rat.not_le] at hz
 constructor
 ·intro e
  subst e
  rcases hz with hz | hz
  ·exact Rat.lt_irrefl hz
  ·exact absurd h (Rat.not_le.2 hz)
 ·intro e
  subst e
  rcases hz with hz | hz
  ·exact absurd h (Rat.not_le.2 hz)
  ·exact Rat.lt_irrefl hz
def sqL(p q:Rat):Rat:=if mL p q=true then ((0:Int):Rat) else fM (p*p) [q*q]
def sqH(p q:Rat):Rat:=eP (p*p) [q*q]
theorem rat_sq(p:Rat):0<=p*p:=by
 rcases Rat.le_total (a:=0) (b:=p) with h | h
 ·exact Rat.mul_nonneg h h
 ·have h1:=Rat.mul_nonneg (a:=-p) (b:=-p) (Rat.neg_zero▸Rat.neg_le_neg h) (Rat.neg_zero▸Rat.neg_le_neg h)
  rwa [Rat.neg_mul,Rat.mul_neg,Rat.neg_neg] at h1
theorem le_mxL(l:List Rat):∀ p:Rat,p<=eP p l:=by
 induction l with
 |nil=>intro p;exact Rat.le_refl
 |cons q l ih=>
  intro p
  refine Rat.le_trans ?_ (ih (max p q))
  rw[Rat.max_def];split
  ·assumption
  ·exact Rat.le_refl
theorem sqL_le(p q:Rat):sqL p q<=sqH p q:=by
 unfold sqL sqH
 split
 ·exact Rat.le_trans (rat_sq p) (le_mxL _ _)
 ·exact dX _ _
theorem ql_sqL{p q:Rat}{n:Nat}(h1:QL (p*p) n)(h2:QL (q*q) n):QL (sqL p q) n:=by
 unfold sqL
 exact ql_ite (kS mW (ql_pos h1)) (ql_mnL h1 (fun x hx=>by rw[List.mem_singleton] at hx;subst hx;exact h2))
theorem ql_sqH{p q:Rat}{n:Nat}(h1:QL (p*p) n)(h2:QL (q*q) n):QL (sqH p q) n:=ql_mxL h1 (fun x hx=>by rw[List.mem_singleton] at hx;subst hx;exact h2)
theorem mnL_mem(l:List Rat):∀ p:Rat,fM p l=p\/fM p l∈l:=by
 induction l with
 |nil=>intro p;exact .inl rfl
 |cons q l ih=>
  intro p
  have h:fM p (q::l)=fM (min p q) l:=rfl
  rw[h]
  rcases ih (min p q) with h1 | h1
  ·rw[h1,Rat.min_def]
   split
   ·exact .inl rfl
   ·exact .inr (by simp)
  ·exact .inr (List.mem_cons_of_mem _ h1)
theorem mxL_mem(l:List Rat):∀ p:Rat,eP p l=p\/eP p l∈l:=by
 induction l with
 |nil=>intro p;exact .inl rfl
 |cons q l ih=>
  intro p
  have h:eP p (q::l)=eP (max p q) l:=rfl
  rw[h]
  rcases ih (max p q) with h1 | h1
  ·rw[h1,Rat.max_def]
   split
   ·exact .inr (by simp)
   ·exact .inl rfl
  ·exact .inr (List.mem_cons_of_mem _ h1)
def hasQ(p q x:Rat):Bool:=decide (p<=x)&&decide (x<=q)
theorem hasQ_of{p q x:Rat}(h1:p<=x)(h2:x<=q):hasQ p q x=true:=by
 unfold hasQ;rw[decide_eq_true h1,decide_eq_true h2];rfl
theorem zB{p q x:Rat}:hasQ p q x=true↔p<=x/\x<=q:=by
 unfold hasQ;rw[Bool.and_eq_true,decide_eq_true_eq,decide_eq_true_eq]
theorem dY{a b c:Rat}(h:a<=b)(hc:c<=0):b*c<=a*c:=by
 have h1:=Rat.mul_le_mul_of_nonneg_right h (c:=-c) (by rw[<- Rat.neg_zero];exact Rat.neg_le_neg hc)
 rw[Rat.mul_neg,Rat.mul_neg] at h1
 exact Rat.neg_le_neg_iff.1 h1
theorem mul_anti_l{a b c:Rat}(h:a<=b)(hc:c<=0):c*b<=c*a:=by
 rw[Rat.mul_comm c b,Rat.mul_comm c a];exact dY h hc
theorem side_r{p q x:Rat}(y:Rat)(h1:p<=x)(h2:x<=q):(p*y<=x*y/\x*y<=q*y)\/(q*y<=x*y/\x*y<=p*y):=by
 rcases Rat.le_total (a:=0) (b:=y) with h | h
 ·exact .inl ⟨Rat.mul_le_mul_of_nonneg_right h1 h,Rat.mul_le_mul_of_nonneg_right h2 h⟩
 ·exact .inr ⟨dY h2 h,dY h1 h⟩
theorem side_l{r s y:Rat}(x:Rat)(h1:r<=y)(h2:y<=s):(x*r<=x*y/\x*y<=x*s)\/(x*s<=x*y/\x*y<=x*r):=by
 rw[Rat.mul_comm x r,Rat.mul_comm x y,Rat.mul_comm x s]
 exact side_r x h1 h2
theorem mnL_low(l:List Rat):∀ p:Rat,fM p l<=p/\∀ x∈l,fM p l<=x:=by
 induction l with
 |nil=>intro p;exact ⟨Rat.le_refl,fun x h=>by cases h⟩
 |cons q l ih=>
  intro p
  have h:fM p (q::l)=fM (min p q) l:=rfl
  obtain ⟨a,b⟩:=ih (min p q)
  rw[h]
  have c1:min p q<=p:=by
   rw[Rat.min_def];split
   ·exact Rat.le_refl
   ·exact Rat.le_of_lt (Rat.not_le.1 (by assumption))
  have c2:min p q<=q:=by
   rw[Rat.min_def];split
   ·assumption
   ·exact Rat.le_refl
  refine ⟨Rat.le_trans a c1,fun x hx=>?_⟩
  rcases List.mem_cons.1 hx with e | e
  ·rw[e];exact Rat.le_trans a c2
  ·exact b x e
theorem mxL_upp(l:List Rat):∀ p:Rat,p<=eP p l/\∀ x∈l,x<=eP p l:=by
 induction l with
 |nil=>intro p;exact ⟨Rat.le_refl,fun x h=>by cases h⟩
 |cons q l ih=>
  intro p
  have h:eP p (q::l)=eP (max p q) l:=rfl
  obtain ⟨a,b⟩:=ih (max p q)
  rw[h]
  have c1:p<=max p q:=by
   rw[Rat.max_def];split
   ·assumption
   ·exact Rat.le_refl
  have c2:q<=max p q:=by
   rw[Rat.max_def];split
   ·exact Rat.le_refl
   ·exact Rat.le_of_lt (Rat.not_le.1 (by assumption))
  refine ⟨Rat.le_trans c1 a,fun x hx=>?_⟩
  rcases List.mem_cons.1 hx with e | e
  ·rw[e];exact Rat.le_trans c2 a
  ·exact b x e
theorem low4(a b c d:Rat):fM a [b,c,d]<=a/\fM a [b,c,d]<=b/\fM a [b,c,d]<=c/\fM a [b,c,d]<=d:=by
 obtain ⟨h,g⟩:=mnL_low [b,c,d] a
 exact ⟨h,g b (by simp),g c (by simp),g d (by simp)⟩
theorem upp4(a b c d:Rat):a<=eP a [b,c,d]/\b<=eP a [b,c,d]/\c<=eP a [b,c,d]/\d<=eP a [b,c,d]:=by
 obtain ⟨h,g⟩:=mxL_upp [b,c,d] a
 exact ⟨h,g b (by simp),g c (by simp),g d (by simp)⟩
theorem mul_between{p q r s x y l h:Rat}(hx1:p<=x)(hx2:x<=q)(hy1:r<=y)(hy2:y<=s)(hl:l<=p*r/\l<=p*s/\l<=q*r/\l<=q*s)(hh:p*r<=h/\p*s<=h/\q*r<=h/\q*s<=h):l<=x*y/\x*y<=h:=by
 obtain ⟨l1,l2,l3,l4⟩:=hl
 obtain ⟨k1,k2,k3,k4⟩:=hh
 have hp:l<=p*y/\p*y<=h:=by
  rcases side_l p hy1 hy2 with ⟨a,b⟩ | ⟨a,b⟩
  ·exact ⟨Rat.le_trans l1 a,Rat.le_trans b k2⟩
  ·exact ⟨Rat.le_trans l2 a,Rat.le_trans b k1⟩
 have hq:l<=q*y/\q*y<=h:=by
  rcases side_l q hy1 hy2 with ⟨a,b⟩ | ⟨a,b⟩
  ·exact ⟨Rat.le_trans l3 a,Rat.le_trans b k4⟩
  ·exact ⟨Rat.le_trans l4 a,Rat.le_trans b k3⟩
 rcases side_r y hx1 hx2 with ⟨a,b⟩ | ⟨a,b⟩
 ·exact ⟨Rat.le_trans hp.1 a,Rat.le_trans b hq.2⟩
 ·exact ⟨Rat.le_trans hq.1 a,Rat.le_trans b hp.2⟩
theorem has_mul{p q r s x y:Rat}(hx:p<=x/\x<=q)(hy:r<=y/\y<=s):hasQ (fM (p*r) [(p*s),(q*r),(q*s)]) (eP (p*r) [(p*s),(q*r),(q*s)]) (x*y)=true:=by
 obtain ⟨a,b⟩:=mul_between hx.1 hx.2 hy.1 hy.2 (low4 _ _ _ _) (upp4 _ _ _ _)
 exact hasQ_of a b
theorem has_add{p q r s x y:Rat}(hx:p<=x/\x<=q)(hy:r<=y/\y<=s):hasQ (p+r) (q+s) (x+y)=true :=
 hasQ_of (Rat.le_trans (Rat.add_le_add_right.2 hx.1) (Rat.add_le_add_left.2 hy.1)) (Rat.le_trans (Rat.add_le_add_right.2 hx.2) (Rat.add_le_add_left.2 hy.2))
theorem inv_anti{a b:Rat}(h:a<=b)(hp:0<a*b)(ha:a≠0)(hb:b≠0):b⁻¹<=a⁻¹:=by
 refine Rat.le_of_mul_le_mul_right (c:=a*b) ?_ hp
 rw[Rat.mul_comm a b,<- Rat.mul_assoc,Rat.inv_mul_cancel b hb,Rat.one_mul,Rat.mul_comm b a,<- Rat.mul_assoc,Rat.inv_mul_cancel a ha,Rat.one_mul]
 exact h
theorem neg_pos_mul{a b:Rat}(ha:a<0)(hb:b<0):0<a*b:=by
 have h:=Rat.mul_pos (a:=-a) (b:=-b) (Rat.neg_zero▸Rat.neg_lt_neg ha) (Rat.neg_zero▸Rat.neg_lt_neg hb)
 rwa [Rat.neg_mul,Rat.mul_neg,Rat.neg_neg] at h
theorem zeroG_sides{r s:Rat}(hz:mL r s=false):0<r\/s<0:=by
 unfold mL at hz
 rw[Bool.and_eq_false_iff,decide_eq_false_iff_not,decide_eq_false_iff_not,Rat.not_le,Rat.not_le] at hz
 exact hz
theorem zeroG_in{r s y:Rat}(hz:mL r s=false)(hy:r<=y/\y<=s):y≠0:=by
 intro e
 subst e
 rcases zeroG_sides hz with h | h
 ·exact absurd hy.1 (Rat.not_le.2 h)
 ·exact absurd hy.2 (Rat.not_le.2 h)
theorem inv_in{r s y:Rat}(hz:mL r s=false)(hy:r<=y/\y<=s):s⁻¹<=y⁻¹/\y⁻¹<=r⁻¹:=by
 have hy0:=zeroG_in hz hy
 obtain ⟨hr0,hs0⟩:=zeroG_ne (Rat.le_trans hy.1 hy.2) hz
 rcases zeroG_sides hz with h | h
 ·have h1:0<y:=Std.lt_of_lt_of_le h hy.1
  have h2:0<s:=Std.lt_of_lt_of_le h1 hy.2
  exact ⟨inv_anti hy.2 (Rat.mul_pos h1 h2) hy0 hs0,inv_anti hy.1 (Rat.mul_pos h h1) hr0 hy0⟩
 ·have h1:y<0:=Std.lt_of_le_of_lt hy.2 h
  have h2:r<0:=Std.lt_of_le_of_lt hy.1 h1
  exact ⟨inv_anti hy.2 (neg_pos_mul h1 h) hy0 hs0,inv_anti hy.1 (neg_pos_mul h2 h1) hr0 hy0⟩
theorem has_div{p q r s x y:Rat}(hz:mL r s=false)(hx:p<=x/\x<=q)(hy:r<=y/\y<=s):hasQ (fM (p / r) [(p / s),(q / r),(q / s)]) (eP (p / r) [(p / s),(q / r),(q / s)]) (x / y)=true:=by
 obtain ⟨i1,i2⟩:=inv_in hz hy
 obtain ⟨a1,a2,a3,a4⟩:=low4 (p / r) (p / s) (q / r) (q / s)
 obtain ⟨b1,b2,b3,b4⟩:=upp4 (p / r) (p / s) (q / r) (q / s)
 obtain ⟨a,b⟩:=mul_between (p:=p) (q:=q) (r:=s⁻¹) (s:=r⁻¹) (x:=x) (y:=y⁻¹) hx.1 hx.2 i1 i2 ⟨a2,a1,a4,a3⟩ ⟨b2,b1,b4,b3⟩
 exact hasQ_of a b
theorem has_sq{p q x:Rat}(hx:p<=x/\x<=q):hasQ (sqL p q) (sqH p q) (x*x)=true:=by
 have lo:=mnL_low [q*q] (p*p)
 have hi:=mxL_upp [q*q] (p*p)
 refine hasQ_of ?_ ?_
 ·unfold sqL
  split
  ·exact rat_sq x
  ·rename_i hz
   rcases zeroG_sides (Bool.eq_false_iff.2 hz) with h | h
   ·have h0:0<=x:=Rat.le_trans (Rat.le_of_lt h) hx.1
    refine Rat.le_trans lo.1 (Rat.le_trans (Rat.mul_le_mul_of_nonneg_right hx.1 (Rat.le_of_lt h)) (Rat.mul_le_mul_of_nonneg_left hx.1 h0))
   ·have h0:x<=0:=Rat.le_trans hx.2 (Rat.le_of_lt h)
    exact Rat.le_trans (lo.2 _ (by simp)) (Rat.le_trans (dY hx.2 (Rat.le_of_lt h)) (mul_anti_l hx.2 h0))
 ·unfold sqH
  rcases Rat.le_total (a:=0) (b:=x) with h | h
  ·exact Rat.le_trans (Rat.le_trans (Rat.mul_le_mul_of_nonneg_left hx.2 h) (Rat.mul_le_mul_of_nonneg_right hx.2 (Rat.le_trans h hx.2))) (hi.2 _ (by simp))
  ·exact Rat.le_trans (Rat.le_trans (dY hx.1 h) (mul_anti_l hx.1 (Rat.le_trans hx.1 h))) hi.1
theorem fV{p q r s:Rat}(h1:p<=q)(h2:r<=s):p+r<=q+s:=Rat.le_trans (Rat.add_le_add_right.2 h1) (Rat.add_le_add_left.2 h2)
theorem sub_valid{p q r s:Rat}(h1:p<=q)(h2:r<=s):p-s<=q-r:=by
 rw[Rat.sub_eq_add_neg,Rat.sub_eq_add_neg];exact fV h1 (Rat.neg_le_neg h2)
end Go.Fid
